/-
  No cell of these rows narrows 'for every input' (looked for: loops, veiled, ifaces, maps, wideKeys, modest, calm, conditions, laid).
  DERIVED. THE GIVEN ROWS OF THIS SEAT. 7 by the template 'for every input the law returns true; each argument reads behind the call as it read before'; 0 by the template 'total and deterministic' (their statements: YtkeomlmlimkebaaTotals.lean).
  GIVEN WITH THE SEED: the statements are not yours to turn. If you find one false, say at which input.
  Laid BY PROGRAM, IN A SANDBOX (cutbox-rows.mjs): the forced cells as the released guide's own fill.sh prints them over the translation 548c26ab5595d4b4… (all of the seat's roots in one cut). By AI agents, Wed Nov 11 2026. No macro, syntax, notation, axiom, sorry.
-/
import Derived.Test.YtkeomlmlimkebaaChecked
import GoSem.Claim
import GoSem.ClaimJoined
import GoSem.ClaimMapViews
import Derived.JoinedTies
import Derived.KernelRfl
namespace Go.Proofs.Ytkeomlmlimkebaa
/- THE CELL 'sum', in the pinned program and in every row, IS THE sha256 OF THE DUMP (.gsa) THAT YtkeomlmlimkebaaProg.lean LOADS. Nothing in Lean hashes anything: it is a label: what it is worth is what the hold of that sum in a sandbox is worth. -/
noncomputable def Try.pinned : Pinned := { name := "ytkeomlmlimkebaa", sum := "548c26ab5595d4b4081221710519b66cfe6a79f541641b77df562758a3542ee7", checked := Try.checked }
namespace Rows
def none {H : Type} : Left H := { results := [], args := [] }

/-- 'gangsawlaw48.ReplaceRepairs': WHATEVER THE INPUT: true; the input reads as it did. -/
def replaceRepairsSpec : ChangeSpec := { name := "replaceRepairs", fn := fun _ => fun
  | [d1, d2] => { results := [.lit (.bool true)], args := [d1, d2] }
  | _ => none }
def replaceRepairsRow : OpenClaim := { program := "ytkeomlmlimkebaa", sum := "548c26ab5595d4b4081221710519b66cfe6a79f541641b77df562758a3542ee7", func := "gangsaw/gangsawlaw48.ReplaceRepairs", spec := "replaceRepairs", unfollowed := true, recurses := true, apart := false }
def ReplaceRepairsSaid : Prop := replaceRepairsRow.holds Try.pinned (OpenSpec.ofChange replaceRepairsSpec)

/-- ITS FALSE NEIGHBOUR: 'it returns false'. Refute it at one input. -/
def replaceRepairsWrong : ChangeSpec := { name := "replaceRepairs", fn := fun _ => fun
  | [d1, d2] => { results := [.lit (.bool false)], args := [d1, d2] }
  | _ => none }
def ReplaceRepairsWrongFalsely : Prop := replaceRepairsRow.holds Try.pinned (OpenSpec.ofChange replaceRepairsWrong)

/-- 'gangsawlaw48.ReplaceRefuses': WHATEVER THE INPUT: true; the input reads as it did. -/
def replaceRefusesSpec : ChangeSpec := { name := "replaceRefuses", fn := fun _ => fun
  | [d1, d2, d3, d4] => { results := [.lit (.bool true)], args := [d1, d2, d3, d4] }
  | _ => none }
def replaceRefusesRow : OpenClaim := { program := "ytkeomlmlimkebaa", sum := "548c26ab5595d4b4081221710519b66cfe6a79f541641b77df562758a3542ee7", func := "gangsaw/gangsawlaw48.ReplaceRefuses", spec := "replaceRefuses", unfollowed := true, recurses := true, apart := false }
def ReplaceRefusesSaid : Prop := replaceRefusesRow.holds Try.pinned (OpenSpec.ofChange replaceRefusesSpec)

/-- ITS FALSE NEIGHBOUR: 'it returns false'. Refute it at one input. -/
def replaceRefusesWrong : ChangeSpec := { name := "replaceRefuses", fn := fun _ => fun
  | [d1, d2, d3, d4] => { results := [.lit (.bool false)], args := [d1, d2, d3, d4] }
  | _ => none }
def ReplaceRefusesWrongFalsely : Prop := replaceRefusesRow.holds Try.pinned (OpenSpec.ofChange replaceRefusesWrong)

/-- 'gangsawlaw48.ReplaceBreaks': WHATEVER THE INPUT: true; the input reads as it did. -/
def replaceBreaksSpec : ChangeSpec := { name := "replaceBreaks", fn := fun _ => fun
  | [d1, d2] => { results := [.lit (.bool true)], args := [d1, d2] }
  | _ => none }
def replaceBreaksRow : OpenClaim := { program := "ytkeomlmlimkebaa", sum := "548c26ab5595d4b4081221710519b66cfe6a79f541641b77df562758a3542ee7", func := "gangsaw/gangsawlaw48.ReplaceBreaks", spec := "replaceBreaks", unfollowed := true, recurses := true, apart := false }
def ReplaceBreaksSaid : Prop := replaceBreaksRow.holds Try.pinned (OpenSpec.ofChange replaceBreaksSpec)

/-- ITS FALSE NEIGHBOUR: 'it returns false'. Refute it at one input. -/
def replaceBreaksWrong : ChangeSpec := { name := "replaceBreaks", fn := fun _ => fun
  | [d1, d2] => { results := [.lit (.bool false)], args := [d1, d2] }
  | _ => none }
def ReplaceBreaksWrongFalsely : Prop := replaceBreaksRow.holds Try.pinned (OpenSpec.ofChange replaceBreaksWrong)

/-- 'gangsawlaw48.ReplaceChecks': WHATEVER THE INPUT: true; the input reads as it did. -/
def replaceChecksSpec : ChangeSpec := { name := "replaceChecks", fn := fun _ => fun
  | [d1, d2] => { results := [.lit (.bool true)], args := [d1, d2] }
  | _ => none }
def replaceChecksRow : OpenClaim := { program := "ytkeomlmlimkebaa", sum := "548c26ab5595d4b4081221710519b66cfe6a79f541641b77df562758a3542ee7", func := "gangsaw/gangsawlaw48.ReplaceChecks", spec := "replaceChecks", unfollowed := true, recurses := true, apart := false }
def ReplaceChecksSaid : Prop := replaceChecksRow.holds Try.pinned (OpenSpec.ofChange replaceChecksSpec)

/-- ITS FALSE NEIGHBOUR: 'it returns false'. Refute it at one input. -/
def replaceChecksWrong : ChangeSpec := { name := "replaceChecks", fn := fun _ => fun
  | [d1, d2] => { results := [.lit (.bool false)], args := [d1, d2] }
  | _ => none }
def ReplaceChecksWrongFalsely : Prop := replaceChecksRow.holds Try.pinned (OpenSpec.ofChange replaceChecksWrong)

/-- 'gangsawlaw48.ReplaceApplies': WHATEVER THE INPUT: true; the input reads as it did. -/
def replaceAppliesSpec : ChangeSpec := { name := "replaceApplies", fn := fun _ => fun
  | [d1, d2] => { results := [.lit (.bool true)], args := [d1, d2] }
  | _ => none }
def replaceAppliesRow : OpenClaim := { program := "ytkeomlmlimkebaa", sum := "548c26ab5595d4b4081221710519b66cfe6a79f541641b77df562758a3542ee7", func := "gangsaw/gangsawlaw48.ReplaceApplies", spec := "replaceApplies", unfollowed := true, recurses := true, apart := false }
def ReplaceAppliesSaid : Prop := replaceAppliesRow.holds Try.pinned (OpenSpec.ofChange replaceAppliesSpec)

/-- ITS FALSE NEIGHBOUR: 'it returns false'. Refute it at one input. -/
def replaceAppliesWrong : ChangeSpec := { name := "replaceApplies", fn := fun _ => fun
  | [d1, d2] => { results := [.lit (.bool false)], args := [d1, d2] }
  | _ => none }
def ReplaceAppliesWrongFalsely : Prop := replaceAppliesRow.holds Try.pinned (OpenSpec.ofChange replaceAppliesWrong)

/-- 'gangsawlaw48.ReplaceEither': WHATEVER THE INPUT: true; the input reads as it did. -/
def replaceEitherSpec : ChangeSpec := { name := "replaceEither", fn := fun _ => fun
  | [d1, d2] => { results := [.lit (.bool true)], args := [d1, d2] }
  | _ => none }
def replaceEitherRow : OpenClaim := { program := "ytkeomlmlimkebaa", sum := "548c26ab5595d4b4081221710519b66cfe6a79f541641b77df562758a3542ee7", func := "gangsaw/gangsawlaw48.ReplaceEither", spec := "replaceEither", unfollowed := true, recurses := true, apart := false }
def ReplaceEitherSaid : Prop := replaceEitherRow.holds Try.pinned (OpenSpec.ofChange replaceEitherSpec)

/-- ITS FALSE NEIGHBOUR: 'it returns false'. Refute it at one input. -/
def replaceEitherWrong : ChangeSpec := { name := "replaceEither", fn := fun _ => fun
  | [d1, d2] => { results := [.lit (.bool false)], args := [d1, d2] }
  | _ => none }
def ReplaceEitherWrongFalsely : Prop := replaceEitherRow.holds Try.pinned (OpenSpec.ofChange replaceEitherWrong)

/-- 'gangsawlaw48.ReplaceAll': WHATEVER THE INPUT: true; the input reads as it did. -/
def replaceAllSpec : ChangeSpec := { name := "replaceAll", fn := fun _ => fun
  | [d] => { results := [.lit (.bool true)], args := [d] }
  | _ => none }
def replaceAllRow : OpenClaim := { program := "ytkeomlmlimkebaa", sum := "548c26ab5595d4b4081221710519b66cfe6a79f541641b77df562758a3542ee7", func := "gangsaw/gangsawlaw48.ReplaceAll", spec := "replaceAll", unfollowed := true, recurses := true, apart := false }
def ReplaceAllSaid : Prop := replaceAllRow.holds Try.pinned (OpenSpec.ofChange replaceAllSpec)

/-- ITS FALSE NEIGHBOUR: 'it returns false'. Refute it at one input. -/
def replaceAllWrong : ChangeSpec := { name := "replaceAll", fn := fun _ => fun
  | [d] => { results := [.lit (.bool false)], args := [d] }
  | _ => none }
def ReplaceAllWrongFalsely : Prop := replaceAllRow.holds Try.pinned (OpenSpec.ofChange replaceAllWrong)

/- THE SECOND FORM. 'bulk': how many values and letters a reading holds, each counted each time it is reached (what is shared counts as often as it is met; a slice's spare places count too). A statement '..UptoSaid' is the law's where the arguments, and the package variables that the reading takes, are together of bulk at most 1048576: NARROWER than '..Said'. Prove '..Said' where nothing that the law and all that it calls make is longer than what came in: it says more and counts as full. Else prove '..UptoSaid'. A law counts once. -/
mutual
def uptoBulk {H : Type} : DataW H → Nat
  | .lit (.string bytes) => bytes.length + 1
  | .lit _ => 1
  | .nil => 1
  | .ptr d => uptoBulk d + 1
  | .slice elems spare => uptoBulkAll elems + uptoBulkAll spare + 1
  | .agg parts => uptoBulkAll parts + 1
  | .iface _ d => uptoBulk d + 1
  | .map entries => uptoBulkEntries entries + 1
  | .held _ => 1
def uptoBulkAll {H : Type} : List (DataW H) → Nat
  | [] => 0
  | d :: r => uptoBulk d + uptoBulkAll r
def uptoBulkEntries {H : Type} : List (Lit × DataW H) → Nat
  | [] => 0
  | x :: r => uptoBulkEntry x + uptoBulkEntries r
def uptoBulkEntry {H : Type} : Lit × DataW H → Nat
  | (.string bytes, d) => bytes.length + uptoBulk d + 1
  | (_, d) => uptoBulk d + 1
 end
def uptoSmall : (H : Type) → List (DataW H) → Bool := fun _ ds => decide (uptoBulkAll ds ≤ 1048576)
def OpenSpec.upto (s : _root_.Go.ChangeSpec) : _root_.Go.OpenSpec := { _root_.Go.OpenSpec.ofChange s with cond := some uptoSmall }

/-- 'gangsawlaw48.ReplaceRepairs', WHERE WHAT IT READS IS OF BULK AT MOST 1048576: true; the input reads as it did. -/
def replaceRepairsUptoRow : OpenClaim := { program := "ytkeomlmlimkebaa", sum := "548c26ab5595d4b4081221710519b66cfe6a79f541641b77df562758a3542ee7", func := "gangsaw/gangsawlaw48.ReplaceRepairs", spec := "replaceRepairs", unfollowed := true, recurses := true, apart := false, narrowed := true }
def ReplaceRepairsUptoSaid : Prop := replaceRepairsUptoRow.holds Try.pinned (OpenSpec.upto replaceRepairsSpec)

/-- 'gangsawlaw48.ReplaceRefuses', WHERE WHAT IT READS IS OF BULK AT MOST 1048576: true; the input reads as it did. -/
def replaceRefusesUptoRow : OpenClaim := { program := "ytkeomlmlimkebaa", sum := "548c26ab5595d4b4081221710519b66cfe6a79f541641b77df562758a3542ee7", func := "gangsaw/gangsawlaw48.ReplaceRefuses", spec := "replaceRefuses", unfollowed := true, recurses := true, apart := false, narrowed := true }
def ReplaceRefusesUptoSaid : Prop := replaceRefusesUptoRow.holds Try.pinned (OpenSpec.upto replaceRefusesSpec)

/-- 'gangsawlaw48.ReplaceBreaks', WHERE WHAT IT READS IS OF BULK AT MOST 1048576: true; the input reads as it did. -/
def replaceBreaksUptoRow : OpenClaim := { program := "ytkeomlmlimkebaa", sum := "548c26ab5595d4b4081221710519b66cfe6a79f541641b77df562758a3542ee7", func := "gangsaw/gangsawlaw48.ReplaceBreaks", spec := "replaceBreaks", unfollowed := true, recurses := true, apart := false, narrowed := true }
def ReplaceBreaksUptoSaid : Prop := replaceBreaksUptoRow.holds Try.pinned (OpenSpec.upto replaceBreaksSpec)

/-- 'gangsawlaw48.ReplaceChecks', WHERE WHAT IT READS IS OF BULK AT MOST 1048576: true; the input reads as it did. -/
def replaceChecksUptoRow : OpenClaim := { program := "ytkeomlmlimkebaa", sum := "548c26ab5595d4b4081221710519b66cfe6a79f541641b77df562758a3542ee7", func := "gangsaw/gangsawlaw48.ReplaceChecks", spec := "replaceChecks", unfollowed := true, recurses := true, apart := false, narrowed := true }
def ReplaceChecksUptoSaid : Prop := replaceChecksUptoRow.holds Try.pinned (OpenSpec.upto replaceChecksSpec)

/-- 'gangsawlaw48.ReplaceApplies', WHERE WHAT IT READS IS OF BULK AT MOST 1048576: true; the input reads as it did. -/
def replaceAppliesUptoRow : OpenClaim := { program := "ytkeomlmlimkebaa", sum := "548c26ab5595d4b4081221710519b66cfe6a79f541641b77df562758a3542ee7", func := "gangsaw/gangsawlaw48.ReplaceApplies", spec := "replaceApplies", unfollowed := true, recurses := true, apart := false, narrowed := true }
def ReplaceAppliesUptoSaid : Prop := replaceAppliesUptoRow.holds Try.pinned (OpenSpec.upto replaceAppliesSpec)

/-- 'gangsawlaw48.ReplaceEither', WHERE WHAT IT READS IS OF BULK AT MOST 1048576: true; the input reads as it did. -/
def replaceEitherUptoRow : OpenClaim := { program := "ytkeomlmlimkebaa", sum := "548c26ab5595d4b4081221710519b66cfe6a79f541641b77df562758a3542ee7", func := "gangsaw/gangsawlaw48.ReplaceEither", spec := "replaceEither", unfollowed := true, recurses := true, apart := false, narrowed := true }
def ReplaceEitherUptoSaid : Prop := replaceEitherUptoRow.holds Try.pinned (OpenSpec.upto replaceEitherSpec)

/-- 'gangsawlaw48.ReplaceAll', WHERE WHAT IT READS IS OF BULK AT MOST 1048576: true; the input reads as it did. -/
def replaceAllUptoRow : OpenClaim := { program := "ytkeomlmlimkebaa", sum := "548c26ab5595d4b4081221710519b66cfe6a79f541641b77df562758a3542ee7", func := "gangsaw/gangsawlaw48.ReplaceAll", spec := "replaceAll", unfollowed := true, recurses := true, apart := false, narrowed := true }
def ReplaceAllUptoSaid : Prop := replaceAllUptoRow.holds Try.pinned (OpenSpec.upto replaceAllSpec)

end Rows
end Go.Proofs.Ytkeomlmlimkebaa
