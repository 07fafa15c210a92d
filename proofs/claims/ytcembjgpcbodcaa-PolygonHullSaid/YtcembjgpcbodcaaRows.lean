/-
  No cell of these rows narrows 'for every input' (looked for: loops, veiled, ifaces, maps, wideKeys, modest, calm, conditions, laid).
  DERIVED. THE GIVEN ROWS OF THIS SEAT. 8 by the template 'for every input the law returns true; each argument reads behind the call as it read before'; 0 by the template 'total and deterministic' (their statements: YtcembjgpcbodcaaTotals.lean).
  GIVEN WITH THE SEED: the statements are not yours to turn. If you find one false, say at which input.
  Laid BY PROGRAM, IN A SANDBOX (cutbox-rows.mjs): the forced cells as the released guide's own fill.sh prints them over the translation 140781eac33317ea… (all of the seat's roots in one cut). By AI agents, Wed Nov 11 2026. No macro, syntax, notation, axiom, sorry.
-/
import Derived.Test.YtcembjgpcbodcaaChecked
import GoSem.Claim
import GoSem.ClaimJoined
import GoSem.ClaimMapViews
import Derived.JoinedTies
import Derived.KernelRfl
namespace Go.Proofs.Ytcembjgpcbodcaa
/- THE CELL 'sum', in the pinned program and in every row, IS THE sha256 OF THE DUMP (.gsa) THAT YtcembjgpcbodcaaProg.lean LOADS. Nothing in Lean hashes anything: it is a label: what it is worth is what the hold of that sum in a sandbox is worth. -/
noncomputable def Try.pinned : Pinned := { name := "ytcembjgpcbodcaa", sum := "140781eac33317eaa1810ca549047098c21749527e1347329514009b97fe18ee", checked := Try.checked }
namespace Rows
def none {H : Type} : Left H := { results := [], args := [] }

/-- 'gangsawlaw05.PolygonOrients': WHATEVER THE INPUT: true; the input reads as it did. -/
def polygonOrientsSpec : ChangeSpec := { name := "polygonOrients", fn := fun _ => fun
  | [d1, d2, d3] => { results := [.lit (.bool true)], args := [d1, d2, d3] }
  | _ => none }
def polygonOrientsRow : OpenClaim := { program := "ytcembjgpcbodcaa", sum := "140781eac33317eaa1810ca549047098c21749527e1347329514009b97fe18ee", func := "gangsaw/gangsawlaw05.PolygonOrients", spec := "polygonOrients", unfollowed := true, recurses := true, apart := false }
def PolygonOrientsSaid : Prop := polygonOrientsRow.holds Try.pinned (OpenSpec.ofChange polygonOrientsSpec)

/-- ITS FALSE NEIGHBOUR: 'it returns false'. Refute it at one input. -/
def polygonOrientsWrong : ChangeSpec := { name := "polygonOrients", fn := fun _ => fun
  | [d1, d2, d3] => { results := [.lit (.bool false)], args := [d1, d2, d3] }
  | _ => none }
def PolygonOrientsWrongFalsely : Prop := polygonOrientsRow.holds Try.pinned (OpenSpec.ofChange polygonOrientsWrong)

/-- 'gangsawlaw05.PolygonSides': WHATEVER THE INPUT: true; the input reads as it did. -/
def polygonSidesSpec : ChangeSpec := { name := "polygonSides", fn := fun _ => fun
  | [d1, d2] => { results := [.lit (.bool true)], args := [d1, d2] }
  | _ => none }
def polygonSidesRow : OpenClaim := { program := "ytcembjgpcbodcaa", sum := "140781eac33317eaa1810ca549047098c21749527e1347329514009b97fe18ee", func := "gangsaw/gangsawlaw05.PolygonSides", spec := "polygonSides", unfollowed := true, recurses := true, apart := false }
def PolygonSidesSaid : Prop := polygonSidesRow.holds Try.pinned (OpenSpec.ofChange polygonSidesSpec)

/-- ITS FALSE NEIGHBOUR: 'it returns false'. Refute it at one input. -/
def polygonSidesWrong : ChangeSpec := { name := "polygonSides", fn := fun _ => fun
  | [d1, d2] => { results := [.lit (.bool false)], args := [d1, d2] }
  | _ => none }
def PolygonSidesWrongFalsely : Prop := polygonSidesRow.holds Try.pinned (OpenSpec.ofChange polygonSidesWrong)

/-- 'gangsawlaw05.PolygonHulls': WHATEVER THE INPUT: true; the input reads as it did. -/
def polygonHullsSpec : ChangeSpec := { name := "polygonHulls", fn := fun _ => fun
  | [d] => { results := [.lit (.bool true)], args := [d] }
  | _ => none }
def polygonHullsRow : OpenClaim := { program := "ytcembjgpcbodcaa", sum := "140781eac33317eaa1810ca549047098c21749527e1347329514009b97fe18ee", func := "gangsaw/gangsawlaw05.PolygonHulls", spec := "polygonHulls", unfollowed := true, recurses := true, apart := false }
def PolygonHullsSaid : Prop := polygonHullsRow.holds Try.pinned (OpenSpec.ofChange polygonHullsSpec)

/-- ITS FALSE NEIGHBOUR: 'it returns false'. Refute it at one input. -/
def polygonHullsWrong : ChangeSpec := { name := "polygonHulls", fn := fun _ => fun
  | [d] => { results := [.lit (.bool false)], args := [d] }
  | _ => none }
def PolygonHullsWrongFalsely : Prop := polygonHullsRow.holds Try.pinned (OpenSpec.ofChange polygonHullsWrong)

/-- 'gangsawlaw05.PolygonHull': WHATEVER THE INPUT: true; the input reads as it did. -/
def polygonHullSpec : ChangeSpec := { name := "polygonHull", fn := fun _ => fun
  | [d] => { results := [.lit (.bool true)], args := [d] }
  | _ => none }
def polygonHullRow : OpenClaim := { program := "ytcembjgpcbodcaa", sum := "140781eac33317eaa1810ca549047098c21749527e1347329514009b97fe18ee", func := "gangsaw/gangsawlaw05.PolygonHull", spec := "polygonHull", unfollowed := true, recurses := true, apart := false }
def PolygonHullSaid : Prop := polygonHullRow.holds Try.pinned (OpenSpec.ofChange polygonHullSpec)

/-- ITS FALSE NEIGHBOUR: 'it returns false'. Refute it at one input. -/
def polygonHullWrong : ChangeSpec := { name := "polygonHull", fn := fun _ => fun
  | [d] => { results := [.lit (.bool false)], args := [d] }
  | _ => none }
def PolygonHullWrongFalsely : Prop := polygonHullRow.holds Try.pinned (OpenSpec.ofChange polygonHullWrong)

/-- 'gangsawlaw05.PolygonChecks': WHATEVER THE INPUT: true; the input reads as it did. -/
def polygonChecksSpec : ChangeSpec := { name := "polygonChecks", fn := fun _ => fun
  | [d] => { results := [.lit (.bool true)], args := [d] }
  | _ => none }
def polygonChecksRow : OpenClaim := { program := "ytcembjgpcbodcaa", sum := "140781eac33317eaa1810ca549047098c21749527e1347329514009b97fe18ee", func := "gangsaw/gangsawlaw05.PolygonChecks", spec := "polygonChecks", unfollowed := true, recurses := true, apart := false }
def PolygonChecksSaid : Prop := polygonChecksRow.holds Try.pinned (OpenSpec.ofChange polygonChecksSpec)

/-- ITS FALSE NEIGHBOUR: 'it returns false'. Refute it at one input. -/
def polygonChecksWrong : ChangeSpec := { name := "polygonChecks", fn := fun _ => fun
  | [d] => { results := [.lit (.bool false)], args := [d] }
  | _ => none }
def PolygonChecksWrongFalsely : Prop := polygonChecksRow.holds Try.pinned (OpenSpec.ofChange polygonChecksWrong)

/-- 'gangsawlaw05.PolygonPick': WHATEVER THE INPUT: true; the input reads as it did. -/
def polygonPickSpec : ChangeSpec := { name := "polygonPick", fn := fun _ => fun
  | [d] => { results := [.lit (.bool true)], args := [d] }
  | _ => none }
def polygonPickRow : OpenClaim := { program := "ytcembjgpcbodcaa", sum := "140781eac33317eaa1810ca549047098c21749527e1347329514009b97fe18ee", func := "gangsaw/gangsawlaw05.PolygonPick", spec := "polygonPick", unfollowed := true, recurses := true, apart := false }
def PolygonPickSaid : Prop := polygonPickRow.holds Try.pinned (OpenSpec.ofChange polygonPickSpec)

/-- ITS FALSE NEIGHBOUR: 'it returns false'. Refute it at one input. -/
def polygonPickWrong : ChangeSpec := { name := "polygonPick", fn := fun _ => fun
  | [d] => { results := [.lit (.bool false)], args := [d] }
  | _ => none }
def PolygonPickWrongFalsely : Prop := polygonPickRow.holds Try.pinned (OpenSpec.ofChange polygonPickWrong)

/-- 'gangsawlaw05.PolygonTurned': WHATEVER THE INPUT: true; the input reads as it did. -/
def polygonTurnedSpec : ChangeSpec := { name := "polygonTurned", fn := fun _ => fun
  | [d1, d2] => { results := [.lit (.bool true)], args := [d1, d2] }
  | _ => none }
def polygonTurnedRow : OpenClaim := { program := "ytcembjgpcbodcaa", sum := "140781eac33317eaa1810ca549047098c21749527e1347329514009b97fe18ee", func := "gangsaw/gangsawlaw05.PolygonTurned", spec := "polygonTurned", unfollowed := true, recurses := true, apart := false }
def PolygonTurnedSaid : Prop := polygonTurnedRow.holds Try.pinned (OpenSpec.ofChange polygonTurnedSpec)

/-- ITS FALSE NEIGHBOUR: 'it returns false'. Refute it at one input. -/
def polygonTurnedWrong : ChangeSpec := { name := "polygonTurned", fn := fun _ => fun
  | [d1, d2] => { results := [.lit (.bool false)], args := [d1, d2] }
  | _ => none }
def PolygonTurnedWrongFalsely : Prop := polygonTurnedRow.holds Try.pinned (OpenSpec.ofChange polygonTurnedWrong)

/-- 'gangsawlaw05.PolygonShapes': WHATEVER THE INPUT: true; the input reads as it did. -/
def polygonShapesSpec : ChangeSpec := { name := "polygonShapes", fn := fun _ => fun
  | [d] => { results := [.lit (.bool true)], args := [d] }
  | _ => none }
def polygonShapesRow : OpenClaim := { program := "ytcembjgpcbodcaa", sum := "140781eac33317eaa1810ca549047098c21749527e1347329514009b97fe18ee", func := "gangsaw/gangsawlaw05.PolygonShapes", spec := "polygonShapes", unfollowed := true, recurses := true, apart := false }
def PolygonShapesSaid : Prop := polygonShapesRow.holds Try.pinned (OpenSpec.ofChange polygonShapesSpec)

/-- ITS FALSE NEIGHBOUR: 'it returns false'. Refute it at one input. -/
def polygonShapesWrong : ChangeSpec := { name := "polygonShapes", fn := fun _ => fun
  | [d] => { results := [.lit (.bool false)], args := [d] }
  | _ => none }
def PolygonShapesWrongFalsely : Prop := polygonShapesRow.holds Try.pinned (OpenSpec.ofChange polygonShapesWrong)

/- THE SECOND FORM. 'bulk': how many values and letters a reading holds, each counted each time it is reached (what is shared counts as often as it is met; a slice's spare places count too). A statement '..UptoSaid' is the law's where the arguments, and the package variables that the reading takes, are together of bulk at most 1048576: NARROWER than '..Said'. Prove '..Said' where nothing that the law and all that it calls make is longer than what came in: it says more and counts as full. Else prove '..UptoSaid'. A law counts once. -/
mutual
def uptoBulk {H : Type} : DataW H → Nat
  | .lit (.string bytes) => bytes.length + 1
  | .lit _ => 1
  | .nil => 1
  | .ptr d => uptoBulk d + 1
  | .slice elems spare => uptoBulkAll elems + uptoBulkAll spare + 1
  | .agg parts => uptoBulkAll parts + 1
  | .iface _ d => uptoBulk d + 1
  | .map entries => uptoBulkEntries entries + 1
  | .held _ => 1
def uptoBulkAll {H : Type} : List (DataW H) → Nat
  | [] => 0
  | d :: r => uptoBulk d + uptoBulkAll r
def uptoBulkEntries {H : Type} : List (Lit × DataW H) → Nat
  | [] => 0
  | x :: r => uptoBulkEntry x + uptoBulkEntries r
def uptoBulkEntry {H : Type} : Lit × DataW H → Nat
  | (.string bytes, d) => bytes.length + uptoBulk d + 1
  | (_, d) => uptoBulk d + 1
 end
def uptoSmall : (H : Type) → List (DataW H) → Bool := fun _ ds => decide (uptoBulkAll ds ≤ 1048576)
def OpenSpec.upto (s : _root_.Go.ChangeSpec) : _root_.Go.OpenSpec := { _root_.Go.OpenSpec.ofChange s with cond := some uptoSmall }

/-- 'gangsawlaw05.PolygonOrients', WHERE WHAT IT READS IS OF BULK AT MOST 1048576: true; the input reads as it did. -/
def polygonOrientsUptoRow : OpenClaim := { program := "ytcembjgpcbodcaa", sum := "140781eac33317eaa1810ca549047098c21749527e1347329514009b97fe18ee", func := "gangsaw/gangsawlaw05.PolygonOrients", spec := "polygonOrients", unfollowed := true, recurses := true, apart := false, narrowed := true }
def PolygonOrientsUptoSaid : Prop := polygonOrientsUptoRow.holds Try.pinned (OpenSpec.upto polygonOrientsSpec)

/-- 'gangsawlaw05.PolygonSides', WHERE WHAT IT READS IS OF BULK AT MOST 1048576: true; the input reads as it did. -/
def polygonSidesUptoRow : OpenClaim := { program := "ytcembjgpcbodcaa", sum := "140781eac33317eaa1810ca549047098c21749527e1347329514009b97fe18ee", func := "gangsaw/gangsawlaw05.PolygonSides", spec := "polygonSides", unfollowed := true, recurses := true, apart := false, narrowed := true }
def PolygonSidesUptoSaid : Prop := polygonSidesUptoRow.holds Try.pinned (OpenSpec.upto polygonSidesSpec)

/-- 'gangsawlaw05.PolygonHulls', WHERE WHAT IT READS IS OF BULK AT MOST 1048576: true; the input reads as it did. -/
def polygonHullsUptoRow : OpenClaim := { program := "ytcembjgpcbodcaa", sum := "140781eac33317eaa1810ca549047098c21749527e1347329514009b97fe18ee", func := "gangsaw/gangsawlaw05.PolygonHulls", spec := "polygonHulls", unfollowed := true, recurses := true, apart := false, narrowed := true }
def PolygonHullsUptoSaid : Prop := polygonHullsUptoRow.holds Try.pinned (OpenSpec.upto polygonHullsSpec)

/-- 'gangsawlaw05.PolygonHull', WHERE WHAT IT READS IS OF BULK AT MOST 1048576: true; the input reads as it did. -/
def polygonHullUptoRow : OpenClaim := { program := "ytcembjgpcbodcaa", sum := "140781eac33317eaa1810ca549047098c21749527e1347329514009b97fe18ee", func := "gangsaw/gangsawlaw05.PolygonHull", spec := "polygonHull", unfollowed := true, recurses := true, apart := false, narrowed := true }
def PolygonHullUptoSaid : Prop := polygonHullUptoRow.holds Try.pinned (OpenSpec.upto polygonHullSpec)

/-- 'gangsawlaw05.PolygonChecks', WHERE WHAT IT READS IS OF BULK AT MOST 1048576: true; the input reads as it did. -/
def polygonChecksUptoRow : OpenClaim := { program := "ytcembjgpcbodcaa", sum := "140781eac33317eaa1810ca549047098c21749527e1347329514009b97fe18ee", func := "gangsaw/gangsawlaw05.PolygonChecks", spec := "polygonChecks", unfollowed := true, recurses := true, apart := false, narrowed := true }
def PolygonChecksUptoSaid : Prop := polygonChecksUptoRow.holds Try.pinned (OpenSpec.upto polygonChecksSpec)

/-- 'gangsawlaw05.PolygonPick', WHERE WHAT IT READS IS OF BULK AT MOST 1048576: true; the input reads as it did. -/
def polygonPickUptoRow : OpenClaim := { program := "ytcembjgpcbodcaa", sum := "140781eac33317eaa1810ca549047098c21749527e1347329514009b97fe18ee", func := "gangsaw/gangsawlaw05.PolygonPick", spec := "polygonPick", unfollowed := true, recurses := true, apart := false, narrowed := true }
def PolygonPickUptoSaid : Prop := polygonPickUptoRow.holds Try.pinned (OpenSpec.upto polygonPickSpec)

/-- 'gangsawlaw05.PolygonTurned', WHERE WHAT IT READS IS OF BULK AT MOST 1048576: true; the input reads as it did. -/
def polygonTurnedUptoRow : OpenClaim := { program := "ytcembjgpcbodcaa", sum := "140781eac33317eaa1810ca549047098c21749527e1347329514009b97fe18ee", func := "gangsaw/gangsawlaw05.PolygonTurned", spec := "polygonTurned", unfollowed := true, recurses := true, apart := false, narrowed := true }
def PolygonTurnedUptoSaid : Prop := polygonTurnedUptoRow.holds Try.pinned (OpenSpec.upto polygonTurnedSpec)

/-- 'gangsawlaw05.PolygonShapes', WHERE WHAT IT READS IS OF BULK AT MOST 1048576: true; the input reads as it did. -/
def polygonShapesUptoRow : OpenClaim := { program := "ytcembjgpcbodcaa", sum := "140781eac33317eaa1810ca549047098c21749527e1347329514009b97fe18ee", func := "gangsaw/gangsawlaw05.PolygonShapes", spec := "polygonShapes", unfollowed := true, recurses := true, apart := false, narrowed := true }
def PolygonShapesUptoSaid : Prop := polygonShapesUptoRow.holds Try.pinned (OpenSpec.upto polygonShapesSpec)

end Rows
end Go.Proofs.Ytcembjgpcbodcaa
