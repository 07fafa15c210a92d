import Derived.Test.YtcofgnbopodahaaJMdF
import Derived.Test.YtcofgnbopodahaaJQAx31
namespace Go.Proofs.Ytcofgnbopodahaa.Pure
open Go.RowKit Go.Proofs.Ytcofgnbopodahaa.QA Go.Proofs.Ytcofgnbopodahaa.Mp
theorem ModelLists : w_ModelLists.Pure := by
  intro l a n _ _ _
  obtain ⟨K, h⟩ := Lists_core l a n
  exact ⟨K, h K (Nat.le_refl _)⟩
end Go.Proofs.Ytcofgnbopodahaa.Pure
