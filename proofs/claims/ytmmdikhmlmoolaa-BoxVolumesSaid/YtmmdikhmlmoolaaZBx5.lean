/-
  Chapter 06: Rest of the program.
-/
import Derived.Test.YtmmdikhmlmoolaaZBx4
import Derived.Test.YtmmdikhmlmoolaaZQAx13
namespace Go.Proofs.Ytmmdikhmlmoolaa.Bx
open Go.RowKit Go.Proofs.Ytmmdikhmlmoolaa.QA Go.Proofs.YtmmdikhmlmoolaaW.PrintWords Go.Proofs.YtmmdikhmlmoolaaW.PrintLast Go.Proofs.YtmmdikhmlmoolaaW.PrintMore Go.Proofs.Ytmmdikhmlmoolaa.EvKit
set_option linter.unusedVariables false
set_option linter.unusedSimpArgs false
/-- What is left of boxes without those of a list: at most 4096, or an error. -/
def restL : List S25 → List S25 → List S25 × Int
  | [], out => (out, 0)
  | x :: l, out => if (out.flatMap (fun z => sub z x)).length > 4096 then ([], 7) else restL l (out.flatMap (fun z => sub z x))
theorem flat_len (l : List S25) (x : S25) : (l.flatMap (fun z => sub z x)).length ≤ 6 * l.length := by
  induction l with
  | nil => simp
  | cons a l ih => rw [List.flatMap_cons, List.length_append, List.length_cons]; have := sub_len a x; omega
theorem rest_l1 (list out F : List S25) (x : S25) (i : Nat) (R : List S25 × Int) (ho : out.length ≤ 4096) (hi : i < list.length) (hl : list.length ≤ 1000000)
    (hR : F.length ≤ 4096 → Ev (fun k => box_Rest.l0 k F list (list.length : Int) ((i + 1 : Nat) : Int)) R) :
    ∀ m j next, out.length = j + m → next.length ≤ 6 * j → F = next ++ (out.drop j).flatMap (fun z => sub z x) →
    Ev (fun k => box_Rest.l1 k next list (list.length : Int) (i : Int) out (out.length : Int) (j : Int) x.f0.f0 x.f0.f1 x.f0.f2 x.f1.f0 x.f1.f1 x.f1.f2) (if F.length > 4096 then ([], 7) else R) := by
  intro m
  induction m with
  | zero =>
    intro j next hj hn hF
    refine Ev.succ ?_
    simp only [box_Rest.l1]
    rw [List.drop_of_length_le (by omega), List.flatMap_nil, List.append_nil] at hF
    subst hF
    refine Ev.neg (by omega) ?_
    by_cases h : F.length > 4096
    · rw [if_pos h]; exact Ev.pos (by omega) (Ev.now _)
    · rw [if_neg h, stp (by omega)]; exact Ev.neg (by omega) (hR (by omega))
  | succ m ih =>
    intro j next hj hn hF
    refine Ev.succ ?_
    simp only [box_Rest.l1]
    rw [rdN, stp (by omega), subtract_is]
    rw [drop_cons out j z25 (by omega), List.flatMap_cons] at hF
    have hs := sub_len (out.getD j z25) x
    refine Ev.pos (by omega) (Ev.pos (by omega) (Ev.pos (by omega) (Ev.cbind rfl (Ev.pos (by omega) ?_))))
    exact ih (j + 1) (next ++ sub (out.getD j z25) x) (by omega) (by rw [List.length_append]; omega) (by rw [hF, List.append_assoc])
theorem rest_l0 (list : List S25) (hl : list.length ≤ 1000000) : ∀ m i out, list.length = i + m → out.length ≤ 4096 → Ev (fun k => box_Rest.l0 k out list (list.length : Int) (i : Int)) (restL (list.drop i) out) := by
  intro m
  induction m with
  | zero =>
    intro i out hi ho
    refine Ev.succ ?_
    simp only [box_Rest.l0]
    rw [List.drop_of_length_le (by omega)]
    exact Ev.neg (by omega) (Ev.now _)
  | succ m ih =>
    intro i out hi ho
    refine Ev.succ ?_
    simp only [box_Rest.l0]
    rw [drop_cons list i z25 (by omega), rdN, restL]
    refine Ev.pos (by omega) (Ev.pos (by omega) (Ev.pos (by omega) ?_))
    exact rest_l1 list out _ (list.getD i z25) i _ ho (by omega) hl (fun h => ih (i + 1) _ (by omega) h) out.length 0 [] (by omega) (by simp) (by simp)
/-- Rest, as the program tells it. -/
def restS (b : S25) (l : List S25) : List S25 × Int := if manyS b l = 0 then restL l [b] else ([], manyS b l)
theorem rest_ev (b : S25) (l : List S25) (hl : l.length ≤ 1000000) : Ev (fun k => box_Rest.f k b.f0.f0 b.f0.f1 b.f0.f2 b.f1.f0 b.f1.f1 b.f1.f2 l) (restS b l) := by
  unfold box_Rest.f restS
  exact Ev.bind (many_ev b l hl) (ifs (fun h => rest_l0 l hl l.length 0 [b] (by omega) (by simp)) (fun h => Ev.now _))
theorem flat_V (l : List S25) (x : S25) (hx : V x) (h : ∀ z ∈ l, V z) : ∀ z ∈ l.flatMap (fun z => sub z x), V z := by
  intro z hz
  obtain ⟨y, hy, hz⟩ := List.mem_flatMap.1 hz
  exact sub_V y x (h y hy) hx z hz
theorem getD_mem {l : List S25} {i : Nat} (h : i < l.length) : l.getD i z25 ∈ l := by
  rw [List.getD_eq_getElem?_getD, List.getElem?_eq_getElem h]; simp
theorem restL_len : ∀ (l out : List S25), out.length ≤ 4096 → (restL l out).1.length ≤ 4096
  | [], out, h => h
  | x :: l, out, h => by
    rw [restL]
    split
    · simp
    · exact restL_len l _ (by omega)
end Go.Proofs.Ytmmdikhmlmoolaa.Bx
