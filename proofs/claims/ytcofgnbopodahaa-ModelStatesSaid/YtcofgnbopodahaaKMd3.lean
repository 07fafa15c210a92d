import Derived.Test.YtcofgnbopodahaaKMd2
namespace Md
set_option linter.unusedVariables false
set_option linter.unusedSimpArgs false
def ins (l : List Int) (n lo hi : Int) : List Int := if n ≤ lo ∨ n ≥ hi ∨ n ∈ l then l else l.takeWhile (· < n) ++ n :: l.dropWhile (· < n)
structure In (lo hi : Int) (l : List Int) : Prop where
  p : l.Pairwise (· < ·)
  b : ∀ e ∈ l, lo < e ∧ e < hi
end Md
