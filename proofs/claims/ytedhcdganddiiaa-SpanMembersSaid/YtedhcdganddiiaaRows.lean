/-
  No cell of these rows narrows 'for every input' (looked for: loops, veiled, ifaces, maps, wideKeys, modest, calm, conditions, laid).
  DERIVED. THE GIVEN ROWS OF THIS SEAT. 7 by the template 'for every input the law returns true; each argument reads behind the call as it read before'; 0 by the template 'total and deterministic' (their statements: YtedhcdganddiiaaTotals.lean).
  GIVEN WITH THE SEED: the statements are not yours to turn. If you find one false, say at which input.
  Laid BY PROGRAM, IN A SANDBOX (cutbox-rows.mjs): the forced cells as the released guide's own fill.sh prints them over the translation f818a735695b54ad… (all of the seat's roots in one cut). By AI agents, Wed Nov 11 2026. No macro, syntax, notation, axiom, sorry.
-/
import Derived.Test.YtedhcdganddiiaaChecked
import GoSem.Claim
import GoSem.ClaimJoined
import GoSem.ClaimMapViews
import Derived.JoinedTies
import Derived.KernelRfl
namespace Go.Proofs.Ytedhcdganddiiaa
/- THE CELL 'sum', in the pinned program and in every row, IS THE sha256 OF THE DUMP (.gsa) THAT YtedhcdganddiiaaProg.lean LOADS. Nothing in Lean hashes anything: it is a label: what it is worth is what the hold of that sum in a sandbox is worth. -/
noncomputable def Try.pinned : Pinned := { name := "ytedhcdganddiiaa", sum := "f818a735695b54adcc12e657ab96de8c3da1992fe2bd8b330b647b1a98f9bc4e", checked := Try.checked }
namespace Rows
def none {H : Type} : Left H := { results := [], args := [] }

/-- 'gangsawlaw01.SpanChecks': WHATEVER THE INPUT: true; the input reads as it did. -/
def spanChecksSpec : ChangeSpec := { name := "spanChecks", fn := fun _ => fun
  | [d1, d2, d3] => { results := [.lit (.bool true)], args := [d1, d2, d3] }
  | _ => none }
def spanChecksRow : OpenClaim := { program := "ytedhcdganddiiaa", sum := "f818a735695b54adcc12e657ab96de8c3da1992fe2bd8b330b647b1a98f9bc4e", func := "gangsaw/gangsawlaw01.SpanChecks", spec := "spanChecks", unfollowed := true, recurses := true, apart := false }
def SpanChecksSaid : Prop := spanChecksRow.holds Try.pinned (OpenSpec.ofChange spanChecksSpec)

/-- ITS FALSE NEIGHBOUR: 'it returns false'. Refute it at one input. -/
def spanChecksWrong : ChangeSpec := { name := "spanChecks", fn := fun _ => fun
  | [d1, d2, d3] => { results := [.lit (.bool false)], args := [d1, d2, d3] }
  | _ => none }
def SpanChecksWrongFalsely : Prop := spanChecksRow.holds Try.pinned (OpenSpec.ofChange spanChecksWrong)

/-- 'gangsawlaw01.SpanSums': WHATEVER THE INPUT: true; the input reads as it did. -/
def spanSumsSpec : ChangeSpec := { name := "spanSums", fn := fun _ => fun
  | [d] => { results := [.lit (.bool true)], args := [d] }
  | _ => none }
def spanSumsRow : OpenClaim := { program := "ytedhcdganddiiaa", sum := "f818a735695b54adcc12e657ab96de8c3da1992fe2bd8b330b647b1a98f9bc4e", func := "gangsaw/gangsawlaw01.SpanSums", spec := "spanSums", unfollowed := true, recurses := true, apart := false }
def SpanSumsSaid : Prop := spanSumsRow.holds Try.pinned (OpenSpec.ofChange spanSumsSpec)

/-- ITS FALSE NEIGHBOUR: 'it returns false'. Refute it at one input. -/
def spanSumsWrong : ChangeSpec := { name := "spanSums", fn := fun _ => fun
  | [d] => { results := [.lit (.bool false)], args := [d] }
  | _ => none }
def SpanSumsWrongFalsely : Prop := spanSumsRow.holds Try.pinned (OpenSpec.ofChange spanSumsWrong)

/-- 'gangsawlaw01.SpanSound': WHATEVER THE INPUT: true; the input reads as it did. -/
def spanSoundSpec : ChangeSpec := { name := "spanSound", fn := fun _ => fun
  | [d1, d2] => { results := [.lit (.bool true)], args := [d1, d2] }
  | _ => none }
def spanSoundRow : OpenClaim := { program := "ytedhcdganddiiaa", sum := "f818a735695b54adcc12e657ab96de8c3da1992fe2bd8b330b647b1a98f9bc4e", func := "gangsaw/gangsawlaw01.SpanSound", spec := "spanSound", unfollowed := true, recurses := true, apart := false }
def SpanSoundSaid : Prop := spanSoundRow.holds Try.pinned (OpenSpec.ofChange spanSoundSpec)

/-- ITS FALSE NEIGHBOUR: 'it returns false'. Refute it at one input. -/
def spanSoundWrong : ChangeSpec := { name := "spanSound", fn := fun _ => fun
  | [d1, d2] => { results := [.lit (.bool false)], args := [d1, d2] }
  | _ => none }
def SpanSoundWrongFalsely : Prop := spanSoundRow.holds Try.pinned (OpenSpec.ofChange spanSoundWrong)

/-- 'gangsawlaw01.SpanPairs': WHATEVER THE INPUT: true; the input reads as it did. -/
def spanPairsSpec : ChangeSpec := { name := "spanPairs", fn := fun _ => fun
  | [d1, d2] => { results := [.lit (.bool true)], args := [d1, d2] }
  | _ => none }
def spanPairsRow : OpenClaim := { program := "ytedhcdganddiiaa", sum := "f818a735695b54adcc12e657ab96de8c3da1992fe2bd8b330b647b1a98f9bc4e", func := "gangsaw/gangsawlaw01.SpanPairs", spec := "spanPairs", unfollowed := true, recurses := true, apart := false }
def SpanPairsSaid : Prop := spanPairsRow.holds Try.pinned (OpenSpec.ofChange spanPairsSpec)

/-- ITS FALSE NEIGHBOUR: 'it returns false'. Refute it at one input. -/
def spanPairsWrong : ChangeSpec := { name := "spanPairs", fn := fun _ => fun
  | [d1, d2] => { results := [.lit (.bool false)], args := [d1, d2] }
  | _ => none }
def SpanPairsWrongFalsely : Prop := spanPairsRow.holds Try.pinned (OpenSpec.ofChange spanPairsWrong)

/-- 'gangsawlaw01.SpanSets': WHATEVER THE INPUT: true; the input reads as it did. -/
def spanSetsSpec : ChangeSpec := { name := "spanSets", fn := fun _ => fun
  | [d1, d2] => { results := [.lit (.bool true)], args := [d1, d2] }
  | _ => none }
def spanSetsRow : OpenClaim := { program := "ytedhcdganddiiaa", sum := "f818a735695b54adcc12e657ab96de8c3da1992fe2bd8b330b647b1a98f9bc4e", func := "gangsaw/gangsawlaw01.SpanSets", spec := "spanSets", unfollowed := true, recurses := true, apart := false }
def SpanSetsSaid : Prop := spanSetsRow.holds Try.pinned (OpenSpec.ofChange spanSetsSpec)

/-- ITS FALSE NEIGHBOUR: 'it returns false'. Refute it at one input. -/
def spanSetsWrong : ChangeSpec := { name := "spanSets", fn := fun _ => fun
  | [d1, d2] => { results := [.lit (.bool false)], args := [d1, d2] }
  | _ => none }
def SpanSetsWrongFalsely : Prop := spanSetsRow.holds Try.pinned (OpenSpec.ofChange spanSetsWrong)

/-- 'gangsawlaw01.SpanMembers': WHATEVER THE INPUT: true; the input reads as it did. -/
def spanMembersSpec : ChangeSpec := { name := "spanMembers", fn := fun _ => fun
  | [d1, d2, d3] => { results := [.lit (.bool true)], args := [d1, d2, d3] }
  | _ => none }
def spanMembersRow : OpenClaim := { program := "ytedhcdganddiiaa", sum := "f818a735695b54adcc12e657ab96de8c3da1992fe2bd8b330b647b1a98f9bc4e", func := "gangsaw/gangsawlaw01.SpanMembers", spec := "spanMembers", unfollowed := true, recurses := true, apart := false }
def SpanMembersSaid : Prop := spanMembersRow.holds Try.pinned (OpenSpec.ofChange spanMembersSpec)

/-- ITS FALSE NEIGHBOUR: 'it returns false'. Refute it at one input. -/
def spanMembersWrong : ChangeSpec := { name := "spanMembers", fn := fun _ => fun
  | [d1, d2, d3] => { results := [.lit (.bool false)], args := [d1, d2, d3] }
  | _ => none }
def SpanMembersWrongFalsely : Prop := spanMembersRow.holds Try.pinned (OpenSpec.ofChange spanMembersWrong)

/-- 'gangsawlaw01.SpanAlgebra': WHATEVER THE INPUT: true; the input reads as it did. -/
def spanAlgebraSpec : ChangeSpec := { name := "spanAlgebra", fn := fun _ => fun
  | [d1, d2] => { results := [.lit (.bool true)], args := [d1, d2] }
  | _ => none }
def spanAlgebraRow : OpenClaim := { program := "ytedhcdganddiiaa", sum := "f818a735695b54adcc12e657ab96de8c3da1992fe2bd8b330b647b1a98f9bc4e", func := "gangsaw/gangsawlaw01.SpanAlgebra", spec := "spanAlgebra", unfollowed := true, recurses := true, apart := false }
def SpanAlgebraSaid : Prop := spanAlgebraRow.holds Try.pinned (OpenSpec.ofChange spanAlgebraSpec)

/-- ITS FALSE NEIGHBOUR: 'it returns false'. Refute it at one input. -/
def spanAlgebraWrong : ChangeSpec := { name := "spanAlgebra", fn := fun _ => fun
  | [d1, d2] => { results := [.lit (.bool false)], args := [d1, d2] }
  | _ => none }
def SpanAlgebraWrongFalsely : Prop := spanAlgebraRow.holds Try.pinned (OpenSpec.ofChange spanAlgebraWrong)

/- THE SECOND FORM. 'bulk': how many values and letters a reading holds, each counted each time it is reached (what is shared counts as often as it is met; a slice's spare places count too). A statement '..UptoSaid' is the law's where the arguments, and the package variables that the reading takes, are together of bulk at most 1048576: NARROWER than '..Said'. Prove '..Said' where nothing that the law and all that it calls make is longer than what came in: it says more and counts as full. Else prove '..UptoSaid'. A law counts once. -/
mutual
def uptoBulk {H : Type} : DataW H → Nat
  | .lit (.string bytes) => bytes.length + 1
  | .lit _ => 1
  | .nil => 1
  | .ptr d => uptoBulk d + 1
  | .slice elems spare => uptoBulkAll elems + uptoBulkAll spare + 1
  | .agg parts => uptoBulkAll parts + 1
  | .iface _ d => uptoBulk d + 1
  | .map entries => uptoBulkEntries entries + 1
  | .held _ => 1
def uptoBulkAll {H : Type} : List (DataW H) → Nat
  | [] => 0
  | d :: r => uptoBulk d + uptoBulkAll r
def uptoBulkEntries {H : Type} : List (Lit × DataW H) → Nat
  | [] => 0
  | x :: r => uptoBulkEntry x + uptoBulkEntries r
def uptoBulkEntry {H : Type} : Lit × DataW H → Nat
  | (.string bytes, d) => bytes.length + uptoBulk d + 1
  | (_, d) => uptoBulk d + 1
 end
def uptoSmall : (H : Type) → List (DataW H) → Bool := fun _ ds => decide (uptoBulkAll ds ≤ 1048576)
def OpenSpec.upto (s : _root_.Go.ChangeSpec) : _root_.Go.OpenSpec := { _root_.Go.OpenSpec.ofChange s with cond := some uptoSmall }

/-- 'gangsawlaw01.SpanChecks', WHERE WHAT IT READS IS OF BULK AT MOST 1048576: true; the input reads as it did. -/
def spanChecksUptoRow : OpenClaim := { program := "ytedhcdganddiiaa", sum := "f818a735695b54adcc12e657ab96de8c3da1992fe2bd8b330b647b1a98f9bc4e", func := "gangsaw/gangsawlaw01.SpanChecks", spec := "spanChecks", unfollowed := true, recurses := true, apart := false, narrowed := true }
def SpanChecksUptoSaid : Prop := spanChecksUptoRow.holds Try.pinned (OpenSpec.upto spanChecksSpec)

/-- 'gangsawlaw01.SpanSums', WHERE WHAT IT READS IS OF BULK AT MOST 1048576: true; the input reads as it did. -/
def spanSumsUptoRow : OpenClaim := { program := "ytedhcdganddiiaa", sum := "f818a735695b54adcc12e657ab96de8c3da1992fe2bd8b330b647b1a98f9bc4e", func := "gangsaw/gangsawlaw01.SpanSums", spec := "spanSums", unfollowed := true, recurses := true, apart := false, narrowed := true }
def SpanSumsUptoSaid : Prop := spanSumsUptoRow.holds Try.pinned (OpenSpec.upto spanSumsSpec)

/-- 'gangsawlaw01.SpanSound', WHERE WHAT IT READS IS OF BULK AT MOST 1048576: true; the input reads as it did. -/
def spanSoundUptoRow : OpenClaim := { program := "ytedhcdganddiiaa", sum := "f818a735695b54adcc12e657ab96de8c3da1992fe2bd8b330b647b1a98f9bc4e", func := "gangsaw/gangsawlaw01.SpanSound", spec := "spanSound", unfollowed := true, recurses := true, apart := false, narrowed := true }
def SpanSoundUptoSaid : Prop := spanSoundUptoRow.holds Try.pinned (OpenSpec.upto spanSoundSpec)

/-- 'gangsawlaw01.SpanPairs', WHERE WHAT IT READS IS OF BULK AT MOST 1048576: true; the input reads as it did. -/
def spanPairsUptoRow : OpenClaim := { program := "ytedhcdganddiiaa", sum := "f818a735695b54adcc12e657ab96de8c3da1992fe2bd8b330b647b1a98f9bc4e", func := "gangsaw/gangsawlaw01.SpanPairs", spec := "spanPairs", unfollowed := true, recurses := true, apart := false, narrowed := true }
def SpanPairsUptoSaid : Prop := spanPairsUptoRow.holds Try.pinned (OpenSpec.upto spanPairsSpec)

/-- 'gangsawlaw01.SpanSets', WHERE WHAT IT READS IS OF BULK AT MOST 1048576: true; the input reads as it did. -/
def spanSetsUptoRow : OpenClaim := { program := "ytedhcdganddiiaa", sum := "f818a735695b54adcc12e657ab96de8c3da1992fe2bd8b330b647b1a98f9bc4e", func := "gangsaw/gangsawlaw01.SpanSets", spec := "spanSets", unfollowed := true, recurses := true, apart := false, narrowed := true }
def SpanSetsUptoSaid : Prop := spanSetsUptoRow.holds Try.pinned (OpenSpec.upto spanSetsSpec)

/-- 'gangsawlaw01.SpanMembers', WHERE WHAT IT READS IS OF BULK AT MOST 1048576: true; the input reads as it did. -/
def spanMembersUptoRow : OpenClaim := { program := "ytedhcdganddiiaa", sum := "f818a735695b54adcc12e657ab96de8c3da1992fe2bd8b330b647b1a98f9bc4e", func := "gangsaw/gangsawlaw01.SpanMembers", spec := "spanMembers", unfollowed := true, recurses := true, apart := false, narrowed := true }
def SpanMembersUptoSaid : Prop := spanMembersUptoRow.holds Try.pinned (OpenSpec.upto spanMembersSpec)

/-- 'gangsawlaw01.SpanAlgebra', WHERE WHAT IT READS IS OF BULK AT MOST 1048576: true; the input reads as it did. -/
def spanAlgebraUptoRow : OpenClaim := { program := "ytedhcdganddiiaa", sum := "f818a735695b54adcc12e657ab96de8c3da1992fe2bd8b330b647b1a98f9bc4e", func := "gangsaw/gangsawlaw01.SpanAlgebra", spec := "spanAlgebra", unfollowed := true, recurses := true, apart := false, narrowed := true }
def SpanAlgebraUptoSaid : Prop := spanAlgebraUptoRow.holds Try.pinned (OpenSpec.upto spanAlgebraSpec)

end Rows
end Go.Proofs.Ytedhcdganddiiaa
