import Derived.Test.YtcofgnbopodahaaZMdS
import Derived.Test.YtcofgnbopodahaaZQAx21
namespace Go.Proofs.Ytcofgnbopodahaa.Pure
open Go.RowKit Go.Proofs.Ytcofgnbopodahaa.QA Go.Proofs.Ytcofgnbopodahaa.Mp
theorem ModelSums : w_ModelSums.Pure := by
  intro l a0 a1 a2 a3 a4 a5 _ _ _ _ _ _ _
  obtain ⟨K, h⟩ := Sums_core l ⟨⟨a0, a1, a2⟩, ⟨a3, a4, a5⟩⟩
  exact ⟨K, h K (Nat.le_refl _)⟩
end Go.Proofs.Ytcofgnbopodahaa.Pure
