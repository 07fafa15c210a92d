/-
  Chapter 15: the law ModelGrows.
-/
import Derived.Test.YtcofgnbopodahaaZMdW
import Derived.Test.YtcofgnbopodahaaZQAx11
import Derived.Test.YtcofgnbopodahaaZQAx16
import Derived.Test.YtcofgnbopodahaaZQAx17
namespace Go.Proofs.Ytcofgnbopodahaa.Mp
open Go.RowKit Go.Proofs.Ytcofgnbopodahaa.QA Go.Proofs.YtcofgnbopodahaaW.PrintWords Go.Proofs.YtcofgnbopodahaaW.PrintLast Go.Proofs.YtcofgnbopodahaaW.PrintMore Go.Proofs.Ytcofgnbopodahaa.EvKit
set_option linter.unusedVariables false
set_option linter.unusedSimpArgs false
theorem above_ev (a b : Int) (h : a = b ∨ b = 0 ∨ a = 3) : Ev (fun k => w_above.f k a b) true := by
  have e : ∀ c, Ev (fun k => w_above.j0 k c) c := fun c => by
    refine Ev.succ ?_
    simp only [w_above.j0]
    exact Ev.now _
  unfold w_above.f
  by_cases h1 : a = b
  · exact Ev.pos h1 (e true)
  · refine Ev.neg h1 ?_
    by_cases h2 : b = 0
    · exact Ev.pos h2 (e true)
    · refine Ev.neg h2 (Ev.eq (e _) ?_)
      have : a = 3 := (h.resolve_left h1).resolve_left h2
      simp [this]
theorem Grows_core (l0 l1 : List S68) (p0 p1 p2 : Int) : Ev (fun k => w_ModelGrows.f k l0 l1 p0 p1 p2) true := by
  obtain ⟨s0, hs0, hp0⟩ := small_ev l0 16 (by decide)
  obtain ⟨s1, hs1, hp1⟩ := small_ev l1 16 (by decide)
  unfold w_ModelGrows.f
  refine Ev.bind awake_ev (Ev.pos rfl (Ev.bind hs0 ?_))
  have skip : Ev (fun k => w_ModelGrows.j0 k l0 l1 true p0 p1 p2) true := by
    refine Ev.succ ?_
    simp only [w_ModelGrows.j0]
    exact Ev.pos trivial (Ev.now _)
  cases s0 with
  | false => exact Ev.neg (by simp) skip
  | true =>
  refine Ev.pos rfl (Ev.bind hs1 ?_)
  cases s1 with
  | false => exact skip
  | true =>
  have a0 : l0.length ≤ 16 := by have := (hp0 rfl).1; omega
  have a1 : l1.length ≤ 16 := by have := (hp1 rfl).1; omega
  refine Ev.succ ?_
  simp only [w_ModelGrows.j0]
  refine Ev.neg (by simp) (Ev.bind (State_ev l0 p0 p1 p2 (by omega)) (Ev.cbind rfl (Ev.pos (by simp only [List.length_nil]; omega) (Ev.cbind rfl (Ev.pos (by simp only [List.length_append, List.length_nil]; omega) ?_)))))
  refine Ev.bind (State_ev _ p0 p1 p2 (by simp only [List.length_append, List.length_nil]; omega)) (Ev.cbind rfl (Ev.pos (by simp only [List.length_nil]; omega) (Ev.cbind rfl (Ev.pos (by simp only [List.length_append, List.length_nil]; omega) ?_))))
  refine Ev.bind (State_ev _ p0 p1 p2 (by simp only [List.length_append, List.length_nil]; omega)) (Ev.cbind rfl (Ev.pos (by simp only [List.length_nil]; omega) (Ev.cbind rfl (Ev.pos (by simp only [List.length_append, List.length_nil]; omega) (Ev.cbind rfl (Ev.pos (by simp only [List.length_append, List.length_nil]; omega) ?_))))))
  refine Ev.bind (State_ev _ p0 p1 p2 (by simp only [List.length_append, List.length_nil]; omega)) ?_
  simp only [List.nil_append]
  have z0 := stateP_two l0 p0 p1 p2
  have z1 := stateP_two (l0 ++ l1) p0 p1 p2
  by_cases e0 : (stateP l0 p0 p1 p2).2 = 0
  · refine Ev.pos e0 ?_
    by_cases e1 : (stateP (l0 ++ l1) p0 p1 p2).2 = 0
    · refine Ev.pos e1 ?_
      obtain ⟨c0, cc, v0⟩ := z0.1 e0
      obtain ⟨c1, -, v1⟩ := z1.1 e1
      have o1 := (chkE0 _).1 c1
      have ok0 : ∀ x ∈ l0, Ok x := fun x hx => o1.2 x (List.mem_append.2 (.inl hx))
      have ok1 : ∀ x ∈ l1, Ok x := fun x hx => o1.2 x (List.mem_append.2 (.inr hx))
      have c2 : chkE (l1 ++ l0) = 0 := (chkE0 _).2 ⟨by simp only [List.length_append]; omega, fun x hx => (List.mem_append.1 hx).elim (ok1 x) (ok0 x)⟩
      have c3 : chkE (l1 ++ l0 ++ l1) = 0 := (chkE0 _).2 ⟨by simp only [List.length_append]; omega, fun x hx => (List.mem_append.1 hx).elim (fun h => (List.mem_append.1 h).elim (ok1 x) (ok0 x)) (ok1 x)⟩
      have v2 : stateP (l1 ++ l0) p0 p1 p2 = (stL (l1 ++ l0) p0 p1 p2, 0) := by unfold stateP; rw [if_pos c2, if_pos cc]
      have v3 : stateP (l1 ++ l0 ++ l1) p0 p1 p2 = (stL (l1 ++ l0 ++ l1) p0 p1 p2, 0) := by unfold stateP; rw [if_pos c3, if_pos cc]
      have q1 : stL (l1 ++ l0) p0 p1 p2 = stL (l0 ++ l1) p0 p1 p2 := Md.st_congr (ok_ev ((chkE0 _).1 c2).2) (ok_ev o1.2) fun e _ => by simp only [List.map_append, List.mem_append]; exact Or.comm
      have q2 : stL (l1 ++ l0 ++ l1) p0 p1 p2 = stL (l0 ++ l1) p0 p1 p2 := Md.st_congr (ok_ev ((chkE0 _).1 c3).2) (ok_ev o1.2) fun e _ => by
        simp only [List.map_append, List.mem_append]
        exact ⟨fun h => h.elim (fun h => h.elim .inr .inl) .inr, fun h => h.elim (fun h => .inl (.inr h)) .inr⟩
      have ab : stL (l0 ++ l1) p0 p1 p2 = stL l0 p0 p1 p2 ∨ stL l0 p0 p1 p2 = 0 ∨ stL (l0 ++ l1) p0 p1 p2 = 3 := by
        unfold stL
        rw [Md.st_val (ok_ev ok0), Md.st_val (ok_ev o1.2), List.map_append, Md.hit_app, Md.hit_app]
        cases Md.hit (l0.map ev) 1 p0 p1 p2 <;> cases Md.hit (l0.map ev) 2 p0 p1 p2 <;> cases Md.hit (l1.map ev) 1 p0 p1 p2 <;> cases Md.hit (l1.map ev) 2 p0 p1 p2 <;> simp [Md.val]
      rw [v0, v1, v2, v3]
      refine Ev.pos rfl (Ev.pos rfl (Ev.bind (above_ev _ _ ab) (Ev.pos rfl (Ev.pos q1.symm (Ev.succ ?_)))))
      simp only [w_ModelGrows.j1]
      rw [q2]
      exact Ev.eq (Ev.now _) (by simp)
    · refine Ev.neg e1 (Ev.ite (fun _ => Ev.now _) fun _ => Ev.eq (Ev.now _) (by simpa using e1))
  · refine Ev.neg e0 (Ev.pos (z0.2 e0) (Ev.now _))
end Go.Proofs.Ytcofgnbopodahaa.Mp
