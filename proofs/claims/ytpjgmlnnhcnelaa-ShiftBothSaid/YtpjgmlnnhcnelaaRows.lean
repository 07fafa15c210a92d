/-
  No cell of these rows narrows 'for every input' (looked for: loops, veiled, ifaces, maps, wideKeys, modest, calm, conditions, laid).
  DERIVED. THE GIVEN ROWS OF THIS SEAT. 8 by the template 'for every input the law returns true; each argument reads behind the call as it read before'; 0 by the template 'total and deterministic' (their statements: YtpjgmlnnhcnelaaTotals.lean).
  GIVEN WITH THE SEED: the statements are not yours to turn. If you find one false, say at which input.
  Laid BY PROGRAM, IN A SANDBOX (cutbox-rows.mjs): the forced cells as the released guide's own fill.sh prints them over the translation 0bd466cc97535006… (all of the seat's roots in one cut). By AI agents, Wed Nov 11 2026. No macro, syntax, notation, axiom, sorry.
-/
import Derived.Test.YtpjgmlnnhcnelaaChecked
import GoSem.Claim
import GoSem.ClaimJoined
import GoSem.ClaimMapViews
import Derived.JoinedTies
import Derived.KernelRfl
namespace Go.Proofs.Ytpjgmlnnhcnelaa
/- THE CELL 'sum', in the pinned program and in every row, IS THE sha256 OF THE DUMP (.gsa) THAT YtpjgmlnnhcnelaaProg.lean LOADS. Nothing in Lean hashes anything: it is a label: what it is worth is what the hold of that sum in a sandbox is worth. -/
noncomputable def Try.pinned : Pinned := { name := "ytpjgmlnnhcnelaa", sum := "0bd466cc97535006c49613684cffc983a702cd125e04aa386015ddedfad636b8", checked := Try.checked }
namespace Rows
def none {H : Type} : Left H := { results := [], args := [] }

/-- 'gangsawlaw12.ShiftWork': WHATEVER THE INPUT: true; the input reads as it did. -/
def shiftWorkSpec : ChangeSpec := { name := "shiftWork", fn := fun _ => fun
  | [d1, d2, d3] => { results := [.lit (.bool true)], args := [d1, d2, d3] }
  | _ => none }
def shiftWorkRow : OpenClaim := { program := "ytpjgmlnnhcnelaa", sum := "0bd466cc97535006c49613684cffc983a702cd125e04aa386015ddedfad636b8", func := "gangsaw/gangsawlaw12.ShiftWork", spec := "shiftWork", unfollowed := true, recurses := true, apart := false }
def ShiftWorkSaid : Prop := shiftWorkRow.holds Try.pinned (OpenSpec.ofChange shiftWorkSpec)

/-- ITS FALSE NEIGHBOUR: 'it returns false'. Refute it at one input. -/
def shiftWorkWrong : ChangeSpec := { name := "shiftWork", fn := fun _ => fun
  | [d1, d2, d3] => { results := [.lit (.bool false)], args := [d1, d2, d3] }
  | _ => none }
def ShiftWorkWrongFalsely : Prop := shiftWorkRow.holds Try.pinned (OpenSpec.ofChange shiftWorkWrong)

/-- 'gangsawlaw12.ShiftMoves': WHATEVER THE INPUT: true; the input reads as it did. -/
def shiftMovesSpec : ChangeSpec := { name := "shiftMoves", fn := fun _ => fun
  | [d1, d2, d3] => { results := [.lit (.bool true)], args := [d1, d2, d3] }
  | _ => none }
def shiftMovesRow : OpenClaim := { program := "ytpjgmlnnhcnelaa", sum := "0bd466cc97535006c49613684cffc983a702cd125e04aa386015ddedfad636b8", func := "gangsaw/gangsawlaw12.ShiftMoves", spec := "shiftMoves", unfollowed := true, recurses := true, apart := false }
def ShiftMovesSaid : Prop := shiftMovesRow.holds Try.pinned (OpenSpec.ofChange shiftMovesSpec)

/-- ITS FALSE NEIGHBOUR: 'it returns false'. Refute it at one input. -/
def shiftMovesWrong : ChangeSpec := { name := "shiftMoves", fn := fun _ => fun
  | [d1, d2, d3] => { results := [.lit (.bool false)], args := [d1, d2, d3] }
  | _ => none }
def ShiftMovesWrongFalsely : Prop := shiftMovesRow.holds Try.pinned (OpenSpec.ofChange shiftMovesWrong)

/-- 'gangsawlaw12.ShiftChecks': WHATEVER THE INPUT: true; the input reads as it did. -/
def shiftChecksSpec : ChangeSpec := { name := "shiftChecks", fn := fun _ => fun
  | [d1, d2] => { results := [.lit (.bool true)], args := [d1, d2] }
  | _ => none }
def shiftChecksRow : OpenClaim := { program := "ytpjgmlnnhcnelaa", sum := "0bd466cc97535006c49613684cffc983a702cd125e04aa386015ddedfad636b8", func := "gangsaw/gangsawlaw12.ShiftChecks", spec := "shiftChecks", unfollowed := true, recurses := true, apart := false }
def ShiftChecksSaid : Prop := shiftChecksRow.holds Try.pinned (OpenSpec.ofChange shiftChecksSpec)

/-- ITS FALSE NEIGHBOUR: 'it returns false'. Refute it at one input. -/
def shiftChecksWrong : ChangeSpec := { name := "shiftChecks", fn := fun _ => fun
  | [d1, d2] => { results := [.lit (.bool false)], args := [d1, d2] }
  | _ => none }
def ShiftChecksWrongFalsely : Prop := shiftChecksRow.holds Try.pinned (OpenSpec.ofChange shiftChecksWrong)

/-- 'gangsawlaw12.ShiftAdds': WHATEVER THE INPUT: true; the input reads as it did. -/
def shiftAddsSpec : ChangeSpec := { name := "shiftAdds", fn := fun _ => fun
  | [d1, d2, d3, d4, d5] => { results := [.lit (.bool true)], args := [d1, d2, d3, d4, d5] }
  | _ => none }
def shiftAddsRow : OpenClaim := { program := "ytpjgmlnnhcnelaa", sum := "0bd466cc97535006c49613684cffc983a702cd125e04aa386015ddedfad636b8", func := "gangsaw/gangsawlaw12.ShiftAdds", spec := "shiftAdds", unfollowed := true, recurses := true, apart := false }
def ShiftAddsSaid : Prop := shiftAddsRow.holds Try.pinned (OpenSpec.ofChange shiftAddsSpec)

/-- ITS FALSE NEIGHBOUR: 'it returns false'. Refute it at one input. -/
def shiftAddsWrong : ChangeSpec := { name := "shiftAdds", fn := fun _ => fun
  | [d1, d2, d3, d4, d5] => { results := [.lit (.bool false)], args := [d1, d2, d3, d4, d5] }
  | _ => none }
def ShiftAddsWrongFalsely : Prop := shiftAddsRow.holds Try.pinned (OpenSpec.ofChange shiftAddsWrong)

/-- 'gangsawlaw12.ShiftInverse': WHATEVER THE INPUT: true; the input reads as it did. -/
def shiftInverseSpec : ChangeSpec := { name := "shiftInverse", fn := fun _ => fun
  | [d1, d2, d3] => { results := [.lit (.bool true)], args := [d1, d2, d3] }
  | _ => none }
def shiftInverseRow : OpenClaim := { program := "ytpjgmlnnhcnelaa", sum := "0bd466cc97535006c49613684cffc983a702cd125e04aa386015ddedfad636b8", func := "gangsaw/gangsawlaw12.ShiftInverse", spec := "shiftInverse", unfollowed := true, recurses := true, apart := false }
def ShiftInverseSaid : Prop := shiftInverseRow.holds Try.pinned (OpenSpec.ofChange shiftInverseSpec)

/-- ITS FALSE NEIGHBOUR: 'it returns false'. Refute it at one input. -/
def shiftInverseWrong : ChangeSpec := { name := "shiftInverse", fn := fun _ => fun
  | [d1, d2, d3] => { results := [.lit (.bool false)], args := [d1, d2, d3] }
  | _ => none }
def ShiftInverseWrongFalsely : Prop := shiftInverseRow.holds Try.pinned (OpenSpec.ofChange shiftInverseWrong)

/-- 'gangsawlaw12.ShiftWhole': WHATEVER THE INPUT: true; the input reads as it did. -/
def shiftWholeSpec : ChangeSpec := { name := "shiftWhole", fn := fun _ => fun
  | [d1, d2, d3] => { results := [.lit (.bool true)], args := [d1, d2, d3] }
  | _ => none }
def shiftWholeRow : OpenClaim := { program := "ytpjgmlnnhcnelaa", sum := "0bd466cc97535006c49613684cffc983a702cd125e04aa386015ddedfad636b8", func := "gangsaw/gangsawlaw12.ShiftWhole", spec := "shiftWhole", unfollowed := true, recurses := true, apart := false }
def ShiftWholeSaid : Prop := shiftWholeRow.holds Try.pinned (OpenSpec.ofChange shiftWholeSpec)

/-- ITS FALSE NEIGHBOUR: 'it returns false'. Refute it at one input. -/
def shiftWholeWrong : ChangeSpec := { name := "shiftWhole", fn := fun _ => fun
  | [d1, d2, d3] => { results := [.lit (.bool false)], args := [d1, d2, d3] }
  | _ => none }
def ShiftWholeWrongFalsely : Prop := shiftWholeRow.holds Try.pinned (OpenSpec.ofChange shiftWholeWrong)

/-- 'gangsawlaw12.ShiftCommon': WHATEVER THE INPUT: true; the input reads as it did. -/
def shiftCommonSpec : ChangeSpec := { name := "shiftCommon", fn := fun _ => fun
  | [d1, d2] => { results := [.lit (.bool true)], args := [d1, d2] }
  | _ => none }
def shiftCommonRow : OpenClaim := { program := "ytpjgmlnnhcnelaa", sum := "0bd466cc97535006c49613684cffc983a702cd125e04aa386015ddedfad636b8", func := "gangsaw/gangsawlaw12.ShiftCommon", spec := "shiftCommon", unfollowed := true, recurses := true, apart := false }
def ShiftCommonSaid : Prop := shiftCommonRow.holds Try.pinned (OpenSpec.ofChange shiftCommonSpec)

/-- ITS FALSE NEIGHBOUR: 'it returns false'. Refute it at one input. -/
def shiftCommonWrong : ChangeSpec := { name := "shiftCommon", fn := fun _ => fun
  | [d1, d2] => { results := [.lit (.bool false)], args := [d1, d2] }
  | _ => none }
def ShiftCommonWrongFalsely : Prop := shiftCommonRow.holds Try.pinned (OpenSpec.ofChange shiftCommonWrong)

/-- 'gangsawlaw12.ShiftBoth': WHATEVER THE INPUT: true; the input reads as it did. -/
def shiftBothSpec : ChangeSpec := { name := "shiftBoth", fn := fun _ => fun
  | [d1, d2, d3] => { results := [.lit (.bool true)], args := [d1, d2, d3] }
  | _ => none }
def shiftBothRow : OpenClaim := { program := "ytpjgmlnnhcnelaa", sum := "0bd466cc97535006c49613684cffc983a702cd125e04aa386015ddedfad636b8", func := "gangsaw/gangsawlaw12.ShiftBoth", spec := "shiftBoth", unfollowed := true, recurses := true, apart := false }
def ShiftBothSaid : Prop := shiftBothRow.holds Try.pinned (OpenSpec.ofChange shiftBothSpec)

/-- ITS FALSE NEIGHBOUR: 'it returns false'. Refute it at one input. -/
def shiftBothWrong : ChangeSpec := { name := "shiftBoth", fn := fun _ => fun
  | [d1, d2, d3] => { results := [.lit (.bool false)], args := [d1, d2, d3] }
  | _ => none }
def ShiftBothWrongFalsely : Prop := shiftBothRow.holds Try.pinned (OpenSpec.ofChange shiftBothWrong)

/- THE SECOND FORM. 'bulk': how many values and letters a reading holds, each counted each time it is reached (what is shared counts as often as it is met; a slice's spare places count too). A statement '..UptoSaid' is the law's where the arguments, and the package variables that the reading takes, are together of bulk at most 1048576: NARROWER than '..Said'. Prove '..Said' where nothing that the law and all that it calls make is longer than what came in: it says more and counts as full. Else prove '..UptoSaid'. A law counts once. -/
mutual
def uptoBulk {H : Type} : DataW H → Nat
  | .lit (.string bytes) => bytes.length + 1
  | .lit _ => 1
  | .nil => 1
  | .ptr d => uptoBulk d + 1
  | .slice elems spare => uptoBulkAll elems + uptoBulkAll spare + 1
  | .agg parts => uptoBulkAll parts + 1
  | .iface _ d => uptoBulk d + 1
  | .map entries => uptoBulkEntries entries + 1
  | .held _ => 1
def uptoBulkAll {H : Type} : List (DataW H) → Nat
  | [] => 0
  | d :: r => uptoBulk d + uptoBulkAll r
def uptoBulkEntries {H : Type} : List (Lit × DataW H) → Nat
  | [] => 0
  | x :: r => uptoBulkEntry x + uptoBulkEntries r
def uptoBulkEntry {H : Type} : Lit × DataW H → Nat
  | (.string bytes, d) => bytes.length + uptoBulk d + 1
  | (_, d) => uptoBulk d + 1
 end
def uptoSmall : (H : Type) → List (DataW H) → Bool := fun _ ds => decide (uptoBulkAll ds ≤ 1048576)
def OpenSpec.upto (s : _root_.Go.ChangeSpec) : _root_.Go.OpenSpec := { _root_.Go.OpenSpec.ofChange s with cond := some uptoSmall }

/-- 'gangsawlaw12.ShiftWork', WHERE WHAT IT READS IS OF BULK AT MOST 1048576: true; the input reads as it did. -/
def shiftWorkUptoRow : OpenClaim := { program := "ytpjgmlnnhcnelaa", sum := "0bd466cc97535006c49613684cffc983a702cd125e04aa386015ddedfad636b8", func := "gangsaw/gangsawlaw12.ShiftWork", spec := "shiftWork", unfollowed := true, recurses := true, apart := false, narrowed := true }
def ShiftWorkUptoSaid : Prop := shiftWorkUptoRow.holds Try.pinned (OpenSpec.upto shiftWorkSpec)

/-- 'gangsawlaw12.ShiftMoves', WHERE WHAT IT READS IS OF BULK AT MOST 1048576: true; the input reads as it did. -/
def shiftMovesUptoRow : OpenClaim := { program := "ytpjgmlnnhcnelaa", sum := "0bd466cc97535006c49613684cffc983a702cd125e04aa386015ddedfad636b8", func := "gangsaw/gangsawlaw12.ShiftMoves", spec := "shiftMoves", unfollowed := true, recurses := true, apart := false, narrowed := true }
def ShiftMovesUptoSaid : Prop := shiftMovesUptoRow.holds Try.pinned (OpenSpec.upto shiftMovesSpec)

/-- 'gangsawlaw12.ShiftChecks', WHERE WHAT IT READS IS OF BULK AT MOST 1048576: true; the input reads as it did. -/
def shiftChecksUptoRow : OpenClaim := { program := "ytpjgmlnnhcnelaa", sum := "0bd466cc97535006c49613684cffc983a702cd125e04aa386015ddedfad636b8", func := "gangsaw/gangsawlaw12.ShiftChecks", spec := "shiftChecks", unfollowed := true, recurses := true, apart := false, narrowed := true }
def ShiftChecksUptoSaid : Prop := shiftChecksUptoRow.holds Try.pinned (OpenSpec.upto shiftChecksSpec)

/-- 'gangsawlaw12.ShiftAdds', WHERE WHAT IT READS IS OF BULK AT MOST 1048576: true; the input reads as it did. -/
def shiftAddsUptoRow : OpenClaim := { program := "ytpjgmlnnhcnelaa", sum := "0bd466cc97535006c49613684cffc983a702cd125e04aa386015ddedfad636b8", func := "gangsaw/gangsawlaw12.ShiftAdds", spec := "shiftAdds", unfollowed := true, recurses := true, apart := false, narrowed := true }
def ShiftAddsUptoSaid : Prop := shiftAddsUptoRow.holds Try.pinned (OpenSpec.upto shiftAddsSpec)

/-- 'gangsawlaw12.ShiftInverse', WHERE WHAT IT READS IS OF BULK AT MOST 1048576: true; the input reads as it did. -/
def shiftInverseUptoRow : OpenClaim := { program := "ytpjgmlnnhcnelaa", sum := "0bd466cc97535006c49613684cffc983a702cd125e04aa386015ddedfad636b8", func := "gangsaw/gangsawlaw12.ShiftInverse", spec := "shiftInverse", unfollowed := true, recurses := true, apart := false, narrowed := true }
def ShiftInverseUptoSaid : Prop := shiftInverseUptoRow.holds Try.pinned (OpenSpec.upto shiftInverseSpec)

/-- 'gangsawlaw12.ShiftWhole', WHERE WHAT IT READS IS OF BULK AT MOST 1048576: true; the input reads as it did. -/
def shiftWholeUptoRow : OpenClaim := { program := "ytpjgmlnnhcnelaa", sum := "0bd466cc97535006c49613684cffc983a702cd125e04aa386015ddedfad636b8", func := "gangsaw/gangsawlaw12.ShiftWhole", spec := "shiftWhole", unfollowed := true, recurses := true, apart := false, narrowed := true }
def ShiftWholeUptoSaid : Prop := shiftWholeUptoRow.holds Try.pinned (OpenSpec.upto shiftWholeSpec)

/-- 'gangsawlaw12.ShiftCommon', WHERE WHAT IT READS IS OF BULK AT MOST 1048576: true; the input reads as it did. -/
def shiftCommonUptoRow : OpenClaim := { program := "ytpjgmlnnhcnelaa", sum := "0bd466cc97535006c49613684cffc983a702cd125e04aa386015ddedfad636b8", func := "gangsaw/gangsawlaw12.ShiftCommon", spec := "shiftCommon", unfollowed := true, recurses := true, apart := false, narrowed := true }
def ShiftCommonUptoSaid : Prop := shiftCommonUptoRow.holds Try.pinned (OpenSpec.upto shiftCommonSpec)

/-- 'gangsawlaw12.ShiftBoth', WHERE WHAT IT READS IS OF BULK AT MOST 1048576: true; the input reads as it did. -/
def shiftBothUptoRow : OpenClaim := { program := "ytpjgmlnnhcnelaa", sum := "0bd466cc97535006c49613684cffc983a702cd125e04aa386015ddedfad636b8", func := "gangsaw/gangsawlaw12.ShiftBoth", spec := "shiftBoth", unfollowed := true, recurses := true, apart := false, narrowed := true }
def ShiftBothUptoSaid : Prop := shiftBothUptoRow.holds Try.pinned (OpenSpec.upto shiftBothSpec)

end Rows
end Go.Proofs.Ytpjgmlnnhcnelaa
