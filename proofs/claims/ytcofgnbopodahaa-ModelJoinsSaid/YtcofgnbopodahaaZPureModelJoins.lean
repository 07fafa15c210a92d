import Derived.Test.YtcofgnbopodahaaZMdJ
import Derived.Test.YtcofgnbopodahaaZQAx16
namespace Go.Proofs.Ytcofgnbopodahaa.Pure
open Go.RowKit Go.Proofs.Ytcofgnbopodahaa.QA Go.Proofs.Ytcofgnbopodahaa.Mp
theorem ModelJoins : w_ModelJoins.Pure := by
  intro a b c ha hb hc
  exact ⟨9, Joins_core 0 a b c⟩
end Go.Proofs.Ytcofgnbopodahaa.Pure
