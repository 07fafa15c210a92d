import Derived.Test.YtcofgnbopodahaaKMd2
namespace Md
set_option linter.unusedVariables false
set_option linter.unusedSimpArgs false
theorem head_of {l : List Int} {lo : Int} (hp : l.Pairwise (· < ·)) (hm : lo ∈ l) (hb : ∀ e ∈ l, lo ≤ e) : l.head? = some lo := by
  match l, hm with
  | a :: l, hm =>
    rcases List.mem_cons.1 hm with rfl | hm
    · rfl
    · have := (List.pairwise_cons.1 hp).1 lo hm
      have := hb a List.mem_cons_self
      omega
theorem last_of {l : List Int} {hi : Int} (hp : l.Pairwise (· < ·)) (hm : hi ∈ l) (hb : ∀ e ∈ l, e ≤ hi) : l.getLast? = some hi := by
  obtain ⟨a, b, rfl⟩ := List.append_of_mem hm
  match b with
  | [] => simp
  | c :: b =>
    have h1 := (List.pairwise_cons.1 (List.pairwise_append.1 hp).2.1).1 c List.mem_cons_self
    have h2 := hb c (by simp)
    omega
theorem Cut.mk' {lo hi : Int} {E l : List Int} (hp : l.Pairwise (· < ·)) (hlo : lo ∈ l) (hhi : hi ∈ l) (hb : ∀ e ∈ l, lo ≤ e ∧ e ≤ hi) (hE : ∀ e ∈ E, lo < e → e < hi → e ∈ l) : Cut lo hi E l :=
  ⟨hp, head_of hp hlo fun e he => (hb e he).1, last_of hp hhi fun e he => (hb e he).2, hE⟩
def ins (l : List Int) (n lo hi : Int) : List Int := if n ≤ lo ∨ n ≥ hi ∨ n ∈ l then l else l.takeWhile (· < n) ++ n :: l.dropWhile (· < n)
structure In (lo hi : Int) (l : List Int) : Prop where
  p : l.Pairwise (· < ·)
  b : ∀ e ∈ l, lo < e ∧ e < hi
end Md
