import Derived.Test.YtcofgnbopodahaaKMdY
import Derived.Test.YtcofgnbopodahaaKQAx25
namespace Go.Proofs.Ytcofgnbopodahaa.Pure
open Go.RowKit Go.Proofs.Ytcofgnbopodahaa.QA Go.Proofs.Ytcofgnbopodahaa.Mp
theorem ModelVolumes : w_ModelVolumes.Pure := by
  intro l a0 a1 a2 a3 a4 a5 n _ _ _ _ _ _ _ _
  obtain ⟨K, h⟩ := Volumes_core l ⟨⟨a0, a1, a2⟩, ⟨a3, a4, a5⟩⟩ n
  exact ⟨K, h K (Nat.le_refl _)⟩
end Go.Proofs.Ytcofgnbopodahaa.Pure
