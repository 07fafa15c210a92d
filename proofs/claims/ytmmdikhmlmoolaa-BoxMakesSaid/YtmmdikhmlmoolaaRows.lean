/-
  No cell of these rows narrows 'for every input' (looked for: loops, veiled, ifaces, maps, wideKeys, modest, calm, conditions, laid).
  DERIVED. THE GIVEN ROWS OF THIS SEAT. 8 by the template 'for every input the law returns true; each argument reads behind the call as it read before'; 0 by the template 'total and deterministic' (their statements: YtmmdikhmlmoolaaTotals.lean).
  GIVEN WITH THE SEED: the statements are not yours to turn. If you find one false, say at which input.
  Laid BY PROGRAM, IN A SANDBOX (cutbox-rows.mjs): the forced cells as the released guide's own fill.sh prints them over the translation 15bd6164f7737c9a… (all of the seat's roots in one cut). By AI agents, Wed Nov 11 2026. No macro, syntax, notation, axiom, sorry.
-/
import Derived.Test.YtmmdikhmlmoolaaChecked
import GoSem.Claim
import GoSem.ClaimJoined
import GoSem.ClaimMapViews
import Derived.JoinedTies
import Derived.KernelRfl
namespace Go.Proofs.Ytmmdikhmlmoolaa
/- THE CELL 'sum', in the pinned program and in every row, IS THE sha256 OF THE DUMP (.gsa) THAT YtmmdikhmlmoolaaProg.lean LOADS. Nothing in Lean hashes anything: it is a label: what it is worth is what the hold of that sum in a sandbox is worth. -/
noncomputable def Try.pinned : Pinned := { name := "ytmmdikhmlmoolaa", sum := "15bd6164f7737c9a013127d4cffc8e68d0b23a6d0bf05bcc7556b52415c5988f", checked := Try.checked }
namespace Rows
def none {H : Type} : Left H := { results := [], args := [] }

/-- 'gangsawlaw06.BoxGap': WHATEVER THE INPUT: true; the input reads as it did. -/
def boxGapSpec : ChangeSpec := { name := "boxGap", fn := fun _ => fun
  | [d1, d2, d3] => { results := [.lit (.bool true)], args := [d1, d2, d3] }
  | _ => none }
def boxGapRow : OpenClaim := { program := "ytmmdikhmlmoolaa", sum := "15bd6164f7737c9a013127d4cffc8e68d0b23a6d0bf05bcc7556b52415c5988f", func := "gangsaw/gangsawlaw06.BoxGap", spec := "boxGap", unfollowed := true, recurses := true, apart := false }
def BoxGapSaid : Prop := boxGapRow.holds Try.pinned (OpenSpec.ofChange boxGapSpec)

/-- ITS FALSE NEIGHBOUR: 'it returns false'. Refute it at one input. -/
def boxGapWrong : ChangeSpec := { name := "boxGap", fn := fun _ => fun
  | [d1, d2, d3] => { results := [.lit (.bool false)], args := [d1, d2, d3] }
  | _ => none }
def BoxGapWrongFalsely : Prop := boxGapRow.holds Try.pinned (OpenSpec.ofChange boxGapWrong)

/-- 'gangsawlaw06.BoxMoves': WHATEVER THE INPUT: true; the input reads as it did. -/
def boxMovesSpec : ChangeSpec := { name := "boxMoves", fn := fun _ => fun
  | [d1, d2, d3] => { results := [.lit (.bool true)], args := [d1, d2, d3] }
  | _ => none }
def boxMovesRow : OpenClaim := { program := "ytmmdikhmlmoolaa", sum := "15bd6164f7737c9a013127d4cffc8e68d0b23a6d0bf05bcc7556b52415c5988f", func := "gangsaw/gangsawlaw06.BoxMoves", spec := "boxMoves", unfollowed := true, recurses := true, apart := false }
def BoxMovesSaid : Prop := boxMovesRow.holds Try.pinned (OpenSpec.ofChange boxMovesSpec)

/-- ITS FALSE NEIGHBOUR: 'it returns false'. Refute it at one input. -/
def boxMovesWrong : ChangeSpec := { name := "boxMoves", fn := fun _ => fun
  | [d1, d2, d3] => { results := [.lit (.bool false)], args := [d1, d2, d3] }
  | _ => none }
def BoxMovesWrongFalsely : Prop := boxMovesRow.holds Try.pinned (OpenSpec.ofChange boxMovesWrong)

/-- 'gangsawlaw06.BoxMakes': WHATEVER THE INPUT: true; the input reads as it did. -/
def boxMakesSpec : ChangeSpec := { name := "boxMakes", fn := fun _ => fun
  | [d1, d2, d3] => { results := [.lit (.bool true)], args := [d1, d2, d3] }
  | _ => none }
def boxMakesRow : OpenClaim := { program := "ytmmdikhmlmoolaa", sum := "15bd6164f7737c9a013127d4cffc8e68d0b23a6d0bf05bcc7556b52415c5988f", func := "gangsaw/gangsawlaw06.BoxMakes", spec := "boxMakes", unfollowed := true, recurses := true, apart := false }
def BoxMakesSaid : Prop := boxMakesRow.holds Try.pinned (OpenSpec.ofChange boxMakesSpec)

/-- ITS FALSE NEIGHBOUR: 'it returns false'. Refute it at one input. -/
def boxMakesWrong : ChangeSpec := { name := "boxMakes", fn := fun _ => fun
  | [d1, d2, d3] => { results := [.lit (.bool false)], args := [d1, d2, d3] }
  | _ => none }
def BoxMakesWrongFalsely : Prop := boxMakesRow.holds Try.pinned (OpenSpec.ofChange boxMakesWrong)

/-- 'gangsawlaw06.BoxRelates': WHATEVER THE INPUT: true; the input reads as it did. -/
def boxRelatesSpec : ChangeSpec := { name := "boxRelates", fn := fun _ => fun
  | [d1, d2, d3] => { results := [.lit (.bool true)], args := [d1, d2, d3] }
  | _ => none }
def boxRelatesRow : OpenClaim := { program := "ytmmdikhmlmoolaa", sum := "15bd6164f7737c9a013127d4cffc8e68d0b23a6d0bf05bcc7556b52415c5988f", func := "gangsaw/gangsawlaw06.BoxRelates", spec := "boxRelates", unfollowed := true, recurses := true, apart := false }
def BoxRelatesSaid : Prop := boxRelatesRow.holds Try.pinned (OpenSpec.ofChange boxRelatesSpec)

/-- ITS FALSE NEIGHBOUR: 'it returns false'. Refute it at one input. -/
def boxRelatesWrong : ChangeSpec := { name := "boxRelates", fn := fun _ => fun
  | [d1, d2, d3] => { results := [.lit (.bool false)], args := [d1, d2, d3] }
  | _ => none }
def BoxRelatesWrongFalsely : Prop := boxRelatesRow.holds Try.pinned (OpenSpec.ofChange boxRelatesWrong)

/-- 'gangsawlaw06.BoxSubtracts': WHATEVER THE INPUT: true; the input reads as it did. -/
def boxSubtractsSpec : ChangeSpec := { name := "boxSubtracts", fn := fun _ => fun
  | [d1, d2, d3] => { results := [.lit (.bool true)], args := [d1, d2, d3] }
  | _ => none }
def boxSubtractsRow : OpenClaim := { program := "ytmmdikhmlmoolaa", sum := "15bd6164f7737c9a013127d4cffc8e68d0b23a6d0bf05bcc7556b52415c5988f", func := "gangsaw/gangsawlaw06.BoxSubtracts", spec := "boxSubtracts", unfollowed := true, recurses := true, apart := false }
def BoxSubtractsSaid : Prop := boxSubtractsRow.holds Try.pinned (OpenSpec.ofChange boxSubtractsSpec)

/-- ITS FALSE NEIGHBOUR: 'it returns false'. Refute it at one input. -/
def boxSubtractsWrong : ChangeSpec := { name := "boxSubtracts", fn := fun _ => fun
  | [d1, d2, d3] => { results := [.lit (.bool false)], args := [d1, d2, d3] }
  | _ => none }
def BoxSubtractsWrongFalsely : Prop := boxSubtractsRow.holds Try.pinned (OpenSpec.ofChange boxSubtractsWrong)

/-- 'gangsawlaw06.BoxCounts': WHATEVER THE INPUT: true; the input reads as it did. -/
def boxCountsSpec : ChangeSpec := { name := "boxCounts", fn := fun _ => fun
  | [d1, d2] => { results := [.lit (.bool true)], args := [d1, d2] }
  | _ => none }
def boxCountsRow : OpenClaim := { program := "ytmmdikhmlmoolaa", sum := "15bd6164f7737c9a013127d4cffc8e68d0b23a6d0bf05bcc7556b52415c5988f", func := "gangsaw/gangsawlaw06.BoxCounts", spec := "boxCounts", unfollowed := true, recurses := true, apart := false }
def BoxCountsSaid : Prop := boxCountsRow.holds Try.pinned (OpenSpec.ofChange boxCountsSpec)

/-- ITS FALSE NEIGHBOUR: 'it returns false'. Refute it at one input. -/
def boxCountsWrong : ChangeSpec := { name := "boxCounts", fn := fun _ => fun
  | [d1, d2] => { results := [.lit (.bool false)], args := [d1, d2] }
  | _ => none }
def BoxCountsWrongFalsely : Prop := boxCountsRow.holds Try.pinned (OpenSpec.ofChange boxCountsWrong)

/-- 'gangsawlaw06.BoxPoints': WHATEVER THE INPUT: true; the input reads as it did. -/
def boxPointsSpec : ChangeSpec := { name := "boxPoints", fn := fun _ => fun
  | [d1, d2, d3] => { results := [.lit (.bool true)], args := [d1, d2, d3] }
  | _ => none }
def boxPointsRow : OpenClaim := { program := "ytmmdikhmlmoolaa", sum := "15bd6164f7737c9a013127d4cffc8e68d0b23a6d0bf05bcc7556b52415c5988f", func := "gangsaw/gangsawlaw06.BoxPoints", spec := "boxPoints", unfollowed := true, recurses := true, apart := false }
def BoxPointsSaid : Prop := boxPointsRow.holds Try.pinned (OpenSpec.ofChange boxPointsSpec)

/-- ITS FALSE NEIGHBOUR: 'it returns false'. Refute it at one input. -/
def boxPointsWrong : ChangeSpec := { name := "boxPoints", fn := fun _ => fun
  | [d1, d2, d3] => { results := [.lit (.bool false)], args := [d1, d2, d3] }
  | _ => none }
def BoxPointsWrongFalsely : Prop := boxPointsRow.holds Try.pinned (OpenSpec.ofChange boxPointsWrong)

/-- 'gangsawlaw06.BoxVolumes': WHATEVER THE INPUT: true; the input reads as it did. -/
def boxVolumesSpec : ChangeSpec := { name := "boxVolumes", fn := fun _ => fun
  | [d1, d2, d3] => { results := [.lit (.bool true)], args := [d1, d2, d3] }
  | _ => none }
def boxVolumesRow : OpenClaim := { program := "ytmmdikhmlmoolaa", sum := "15bd6164f7737c9a013127d4cffc8e68d0b23a6d0bf05bcc7556b52415c5988f", func := "gangsaw/gangsawlaw06.BoxVolumes", spec := "boxVolumes", unfollowed := true, recurses := true, apart := false }
def BoxVolumesSaid : Prop := boxVolumesRow.holds Try.pinned (OpenSpec.ofChange boxVolumesSpec)

/-- ITS FALSE NEIGHBOUR: 'it returns false'. Refute it at one input. -/
def boxVolumesWrong : ChangeSpec := { name := "boxVolumes", fn := fun _ => fun
  | [d1, d2, d3] => { results := [.lit (.bool false)], args := [d1, d2, d3] }
  | _ => none }
def BoxVolumesWrongFalsely : Prop := boxVolumesRow.holds Try.pinned (OpenSpec.ofChange boxVolumesWrong)

/- THE SECOND FORM. 'bulk': how many values and letters a reading holds, each counted each time it is reached (what is shared counts as often as it is met; a slice's spare places count too). A statement '..UptoSaid' is the law's where the arguments, and the package variables that the reading takes, are together of bulk at most 1048576: NARROWER than '..Said'. Prove '..Said' where nothing that the law and all that it calls make is longer than what came in: it says more and counts as full. Else prove '..UptoSaid'. A law counts once. -/
mutual
def uptoBulk {H : Type} : DataW H → Nat
  | .lit (.string bytes) => bytes.length + 1
  | .lit _ => 1
  | .nil => 1
  | .ptr d => uptoBulk d + 1
  | .slice elems spare => uptoBulkAll elems + uptoBulkAll spare + 1
  | .agg parts => uptoBulkAll parts + 1
  | .iface _ d => uptoBulk d + 1
  | .map entries => uptoBulkEntries entries + 1
  | .held _ => 1
def uptoBulkAll {H : Type} : List (DataW H) → Nat
  | [] => 0
  | d :: r => uptoBulk d + uptoBulkAll r
def uptoBulkEntries {H : Type} : List (Lit × DataW H) → Nat
  | [] => 0
  | x :: r => uptoBulkEntry x + uptoBulkEntries r
def uptoBulkEntry {H : Type} : Lit × DataW H → Nat
  | (.string bytes, d) => bytes.length + uptoBulk d + 1
  | (_, d) => uptoBulk d + 1
 end
def uptoSmall : (H : Type) → List (DataW H) → Bool := fun _ ds => decide (uptoBulkAll ds ≤ 1048576)
def OpenSpec.upto (s : _root_.Go.ChangeSpec) : _root_.Go.OpenSpec := { _root_.Go.OpenSpec.ofChange s with cond := some uptoSmall }

/-- 'gangsawlaw06.BoxGap', WHERE WHAT IT READS IS OF BULK AT MOST 1048576: true; the input reads as it did. -/
def boxGapUptoRow : OpenClaim := { program := "ytmmdikhmlmoolaa", sum := "15bd6164f7737c9a013127d4cffc8e68d0b23a6d0bf05bcc7556b52415c5988f", func := "gangsaw/gangsawlaw06.BoxGap", spec := "boxGap", unfollowed := true, recurses := true, apart := false, narrowed := true }
def BoxGapUptoSaid : Prop := boxGapUptoRow.holds Try.pinned (OpenSpec.upto boxGapSpec)

/-- 'gangsawlaw06.BoxMoves', WHERE WHAT IT READS IS OF BULK AT MOST 1048576: true; the input reads as it did. -/
def boxMovesUptoRow : OpenClaim := { program := "ytmmdikhmlmoolaa", sum := "15bd6164f7737c9a013127d4cffc8e68d0b23a6d0bf05bcc7556b52415c5988f", func := "gangsaw/gangsawlaw06.BoxMoves", spec := "boxMoves", unfollowed := true, recurses := true, apart := false, narrowed := true }
def BoxMovesUptoSaid : Prop := boxMovesUptoRow.holds Try.pinned (OpenSpec.upto boxMovesSpec)

/-- 'gangsawlaw06.BoxMakes', WHERE WHAT IT READS IS OF BULK AT MOST 1048576: true; the input reads as it did. -/
def boxMakesUptoRow : OpenClaim := { program := "ytmmdikhmlmoolaa", sum := "15bd6164f7737c9a013127d4cffc8e68d0b23a6d0bf05bcc7556b52415c5988f", func := "gangsaw/gangsawlaw06.BoxMakes", spec := "boxMakes", unfollowed := true, recurses := true, apart := false, narrowed := true }
def BoxMakesUptoSaid : Prop := boxMakesUptoRow.holds Try.pinned (OpenSpec.upto boxMakesSpec)

/-- 'gangsawlaw06.BoxRelates', WHERE WHAT IT READS IS OF BULK AT MOST 1048576: true; the input reads as it did. -/
def boxRelatesUptoRow : OpenClaim := { program := "ytmmdikhmlmoolaa", sum := "15bd6164f7737c9a013127d4cffc8e68d0b23a6d0bf05bcc7556b52415c5988f", func := "gangsaw/gangsawlaw06.BoxRelates", spec := "boxRelates", unfollowed := true, recurses := true, apart := false, narrowed := true }
def BoxRelatesUptoSaid : Prop := boxRelatesUptoRow.holds Try.pinned (OpenSpec.upto boxRelatesSpec)

/-- 'gangsawlaw06.BoxSubtracts', WHERE WHAT IT READS IS OF BULK AT MOST 1048576: true; the input reads as it did. -/
def boxSubtractsUptoRow : OpenClaim := { program := "ytmmdikhmlmoolaa", sum := "15bd6164f7737c9a013127d4cffc8e68d0b23a6d0bf05bcc7556b52415c5988f", func := "gangsaw/gangsawlaw06.BoxSubtracts", spec := "boxSubtracts", unfollowed := true, recurses := true, apart := false, narrowed := true }
def BoxSubtractsUptoSaid : Prop := boxSubtractsUptoRow.holds Try.pinned (OpenSpec.upto boxSubtractsSpec)

/-- 'gangsawlaw06.BoxCounts', WHERE WHAT IT READS IS OF BULK AT MOST 1048576: true; the input reads as it did. -/
def boxCountsUptoRow : OpenClaim := { program := "ytmmdikhmlmoolaa", sum := "15bd6164f7737c9a013127d4cffc8e68d0b23a6d0bf05bcc7556b52415c5988f", func := "gangsaw/gangsawlaw06.BoxCounts", spec := "boxCounts", unfollowed := true, recurses := true, apart := false, narrowed := true }
def BoxCountsUptoSaid : Prop := boxCountsUptoRow.holds Try.pinned (OpenSpec.upto boxCountsSpec)

/-- 'gangsawlaw06.BoxPoints', WHERE WHAT IT READS IS OF BULK AT MOST 1048576: true; the input reads as it did. -/
def boxPointsUptoRow : OpenClaim := { program := "ytmmdikhmlmoolaa", sum := "15bd6164f7737c9a013127d4cffc8e68d0b23a6d0bf05bcc7556b52415c5988f", func := "gangsaw/gangsawlaw06.BoxPoints", spec := "boxPoints", unfollowed := true, recurses := true, apart := false, narrowed := true }
def BoxPointsUptoSaid : Prop := boxPointsUptoRow.holds Try.pinned (OpenSpec.upto boxPointsSpec)

/-- 'gangsawlaw06.BoxVolumes', WHERE WHAT IT READS IS OF BULK AT MOST 1048576: true; the input reads as it did. -/
def boxVolumesUptoRow : OpenClaim := { program := "ytmmdikhmlmoolaa", sum := "15bd6164f7737c9a013127d4cffc8e68d0b23a6d0bf05bcc7556b52415c5988f", func := "gangsaw/gangsawlaw06.BoxVolumes", spec := "boxVolumes", unfollowed := true, recurses := true, apart := false, narrowed := true }
def BoxVolumesUptoSaid : Prop := boxVolumesUptoRow.holds Try.pinned (OpenSpec.upto boxVolumesSpec)

end Rows
end Go.Proofs.Ytmmdikhmlmoolaa
