import Derived.Test.YtcofgnbopodahaaZMdG
import Derived.Test.YtcofgnbopodahaaZQAx17
namespace Go.Proofs.Ytcofgnbopodahaa.Pure
open Go.RowKit Go.Proofs.Ytcofgnbopodahaa.QA Go.Proofs.Ytcofgnbopodahaa.Mp
theorem ModelGrows : w_ModelGrows.Pure := by
  intro l0 l1 p0 p1 p2 _ _ _ _ _
  obtain ⟨K, h⟩ := Grows_core l0 l1 p0 p1 p2
  exact ⟨K, h K (Nat.le_refl _)⟩
end Go.Proofs.Ytcofgnbopodahaa.Pure
