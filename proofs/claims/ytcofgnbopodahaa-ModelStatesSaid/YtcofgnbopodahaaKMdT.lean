import Derived.Test.YtcofgnbopodahaaKMdA
import Derived.Test.YtcofgnbopodahaaKMdR
import Derived.Test.YtcofgnbopodahaaKQAx10
namespace Go.Proofs.Ytcofgnbopodahaa.Mp
open Go.RowKit Go.Proofs.Ytcofgnbopodahaa.QA Go.Proofs.YtcofgnbopodahaaW.PrintWords Go.Proofs.YtcofgnbopodahaaW.PrintLast Go.Proofs.YtcofgnbopodahaaW.PrintMore Go.Proofs.Ytcofgnbopodahaa.EvKit
set_option linter.unusedVariables false
set_option linter.unusedSimpArgs false
def srcM (p0 p1 p2 : Int) (l : List S68) : List (List UInt8) := (l.filter fun x => Md.hasB (bx x.f1) p0 p1 p2).map fun x => ofB x.f0
def srcQ (p0 p1 p2 : Int) : List S68 → List ByteArray → List ByteArray
  | [], out => out
  | x :: l, out => srcQ p0 p1 p2 l (if Md.hasB (bx x.f1) p0 p1 p2 = true then (if ofB x.f0 ∈ out.map ofB then out else out ++ [x.f0]) else out)
theorem srcL_ev (p0 p1 p2 : Int) : ∀ (l : List S68) (out : List ByteArray), Ev (fun k => srcL k p0 p1 p2 l out) (srcQ p0 p1 p2 l out)
  | [], out => Ev.now _
  | x :: l, out => by
    simp only [srcL]
    exact Ev.bind (has_ev x.f1 p0 p1 p2) (srcL_ev p0 p1 p2 l _)
theorem srcQ_spec (p0 p1 p2 : Int) : ∀ (l : List S68) (out : List ByteArray), (out.map ofB).Nodup → ((srcQ p0 p1 p2 l out).map ofB).Nodup ∧ ∀ e, e ∈ (srcQ p0 p1 p2 l out).map ofB ↔ e ∈ out.map ofB ∨ e ∈ srcM p0 p1 p2 l
  | [], out, h => ⟨h, fun e => by simp [srcQ, srcM]⟩
  | x :: l, out, h => by
    unfold srcQ
    by_cases hb : Md.hasB (bx x.f1) p0 p1 p2 = true
    · have hm : ∀ e, e ∈ srcM p0 p1 p2 (x :: l) ↔ e = ofB x.f0 ∨ e ∈ srcM p0 p1 p2 l := fun e => by simp [srcM, hb]
      rw [if_pos hb]
      by_cases hi : ofB x.f0 ∈ out.map ofB
      · rw [if_pos hi]
        obtain ⟨h1, h2⟩ := srcQ_spec p0 p1 p2 l out h
        refine ⟨h1, fun e => ?_⟩
        rw [h2, hm]
        constructor
        · rintro (h | h)
          · exact .inl h
          · exact .inr (.inr h)
        · rintro (h | rfl | h)
          · exact .inl h
          · exact .inl hi
          · exact .inr h
      · rw [if_neg hi]
        have hn : ((out ++ [x.f0]).map ofB).Nodup := by
          rw [List.map_append, List.map_cons, List.map_nil]
          exact List.nodup_append.2 ⟨h, by simp, fun a ha b hb2 => by
            rw [List.mem_singleton] at hb2
            rintro rfl
            exact hi (hb2 ▸ ha)⟩
        obtain ⟨h1, h2⟩ := srcQ_spec p0 p1 p2 l _ hn
        refine ⟨h1, fun e => ?_⟩
        rw [h2, hm, List.map_append, List.mem_append, List.map_cons, List.map_nil, List.mem_singleton, or_assoc]
    · have hm : srcM p0 p1 p2 (x :: l) = srcM p0 p1 p2 l := by simp [srcM, hb]
      rw [if_neg hb, hm]
      exact srcQ_spec p0 p1 p2 l out h
theorem lab_size {s : ByteArray} (h : labB s = true) : s.size ≤ 40 := by
  unfold labB at h
  by_cases h1 : (s.size : Int) < 1
  · rw [if_pos h1] at h; cases h
  · rw [if_neg h1] at h
    by_cases h2 : (s.size : Int) > 40
    · rw [if_pos h2] at h; cases h
    · omega
def srcF (p0 p1 p2 : Int) (l : List S68) : List ByteArray := (Mr.refF (srcM p0 p1 p2 l) []).map toB
theorem sort_src (p0 p1 p2 : Int) (l : List S68) : sortB (srcQ p0 p1 p2 l []) = srcF p0 p1 p2 l := by
  obtain ⟨h1, h2⟩ := srcQ_spec p0 p1 p2 l [] (by simp)
  obtain ⟨h3, h4⟩ := Mr.refF_spec (srcM p0 p1 p2 l) [] List.Pairwise.nil
  unfold sortB srcF
  congr 1
  refine Mr.sorted_eq (insSL_sorted _) ((insSL_perm _).nodup_iff.2 h1) h3 fun e => ?_
  rw [(insSL_perm _).mem_iff, h2, h4]
  simp
def sourcesP (l : List S68) (p0 p1 p2 : Int) : List ByteArray × Int := if chkE l = 0 then (if cellB p0 p1 p2 = true then (srcF p0 p1 p2 l, 0) else ([], 6)) else ([], chkE l)
theorem Sources_ev (l : List S68) (p0 p1 p2 : Int) : Ev (fun k => model_Sources.f k l p0 p1 p2) (sourcesP l p0 p1 p2) := by
  unfold model_Sources.f
  refine Ev.bind (Check_ev l) ?_
  by_cases h : chkE l = 0
  · refine Ev.pos h (Ev.cbind (show model_cell.f p0 p1 p2 = some (cellB p0 p1 p2) from rfl) ?_)
    by_cases hc : cellB p0 p1 p2 = true
    · obtain ⟨hn, ho⟩ := (chkE0 l).1 h
      refine Ev.pos hc (Ev.pos ⟨by omega, List.all_eq_true.2 fun x hx => decide_eq_true (by have := lab_size (ho x hx).l; omega)⟩ (Ev.bind (srcL_ev p0 p1 p2 l []) (Ev.eq (Ev.now _) ?_)))
      unfold sourcesP
      rw [if_pos h, if_pos hc, sort_src]
    · refine Ev.neg hc (Ev.eq (Ev.now _) ?_)
      unfold sourcesP; rw [if_pos h, if_neg hc]
  · refine Ev.neg h (Ev.eq (Ev.now _) ?_)
    unfold sourcesP; rw [if_neg h]
end Go.Proofs.Ytcofgnbopodahaa.Mp
