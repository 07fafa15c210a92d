import Derived.Test.YtcofgnbopodahaaKMdV
import Derived.Test.YtcofgnbopodahaaKQAx17
namespace Go.Proofs.Ytcofgnbopodahaa.Pure
open Go.RowKit Go.Proofs.Ytcofgnbopodahaa.QA Go.Proofs.Ytcofgnbopodahaa.Mp
theorem ModelStates : w_ModelStates.Pure := by
  intro l p0 p1 p2 _ _ _ _
  obtain ⟨K, h⟩ := States_core l p0 p1 p2
  exact ⟨K, h K (Nat.le_refl _)⟩
end Go.Proofs.Ytcofgnbopodahaa.Pure
