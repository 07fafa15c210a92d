import Derived.Test.YtcofgnbopodahaaJQAx0
import Derived.Test.YtcofgnbopodahaaJQAx6
import Derived.Test.YtcofgnbopodahaaJQAx7
import Derived.Test.YtcofgnbopodahaaJQAx8
import Derived.Test.YtcofgnbopodahaaJEvKit
import Derived.Test.YtcofgnbopodahaaJMapKit
import Derived.Test.YtcofgnbopodahaaJMapS
import Derived.Test.YtcofgnbopodahaaJRegInv
import Derived.Carry
import Derived.Deep.RegionHeld3
import Derived.Deep.RegionLaw
import Derived.IntWalk
import Derived.Lib.SlicesCompact
import Derived.LoopN
import Derived.RegionTactic
import Derived.StillTailTactics
import Derived.WalkSpells
namespace Go.Proofs.Ytcofgnbopodahaa.QA
open Go.RowKit Go.Proofs.YtcofgnbopodahaaW.PrintWords Go.Proofs.YtcofgnbopodahaaW.PrintLast Go.Proofs.YtcofgnbopodahaaW.PrintMore
attribute [local go_sem] max2_int min2_int max_two min_two max_three min_three max_four min_four
set_option linter.unusedVariables false
set_option linter.unusedSimpArgs false

section
open Go.Proofs.Ytcofgnbopodahaa.EvKit Go.Proofs.Ytcofgnbopodahaa.MapKit
attribute [local go_sem] max2_int min2_int max_two min_two Oper.semAt_some
set_option linter.unusedVariables false
set_option linter.unusedSimpArgs false
structure AllI (w : World) (g5 g9 : Nat) (n : Int) (s : Bool) (W : World) : Prop where
 b : Below w.heap.size w W
 n5 : W.heap[g5]? = some (.cells #[.int .i64 n] 3 (0, 0))
 n9 : W.heap[g9]? = some (.cells #[.bool s] 4 (0, 0))
theorem AllI.keep {w W W' : World} {g5 g9 : Nat} {n : Int} {s : Bool} (h : AllI w g5 g9 n s W) (hb : Below W.heap.size W W') : AllI w g5 g9 n s W' := ⟨below_step h.b hb, blk_below h.n5 hb, blk_below h.n9 hb⟩
end

end Go.Proofs.Ytcofgnbopodahaa.QA
