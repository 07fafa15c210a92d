import Derived.Test.YtpjgmlnnhcnelaaDYSh2
import Derived.Test.YtpjgmlnnhcnelaaDYQAx8
import Derived.Test.YtpjgmlnnhcnelaaDYQAx5
namespace Go.Proofs.Ytpjgmlnnhcnelaa.Sh
open Go.RowKit Go.Proofs.Ytpjgmlnnhcnelaa.QA Go.Proofs.YtpjgmlnnhcnelaaW.PrintWords Go.Proofs.YtpjgmlnnhcnelaaW.PrintLast Go.Proofs.YtpjgmlnnhcnelaaW.PrintMore Go.Proofs.Ytpjgmlnnhcnelaa.EvKit
set_option linter.unusedVariables false
set_option linter.unusedSimpArgs false
def mn2 (sh : List S54) (fr l : List Int) : Int := if ck sh fr = 0 then (if l.any offMin = true then 6 else 0) else ck sh fr
theorem mn2_one {sh : List S54} {fr : List Int} {a : Int} (h : mn2 sh fr [a] = 0) : Val sh fr ∧ 0 ≤ a ∧ a ≤ 14400000 := by
  unfold mn2 at h
  split at h
  case isTrue hc =>
    refine ⟨Val.of hc, (offMin_is' a).1 ?_⟩
    cases ha : offMin a with
    | false => rfl
    | true => simp [ha] at h
  case isFalse hc => exact (hc h).elim
theorem mn2_in1 {sh : List S54} {fr : List Int} {a : Int} (h : ck sh fr = 0) (ha : 0 ≤ a ∧ a ≤ 14400000) : mn2 sh fr [a] = 0 := by
  unfold mn2
  rw [if_pos h]
  simp [(offMin_is' a).2 ha]
theorem mn2_off {sh : List S54} {fr l : List Int} (h : ck sh fr = 0) (ha : l.any offMin = true) : mn2 sh fr l = 6 := by
  unfold mn2
  rw [if_pos h, if_pos ha]
def openP (sh : List S54) (fr : List Int) (m : Int) : Bool × Int := if mn2 sh fr [m] = 0 then (openR (ofL sh fr (m / 1440)) m, 0) else (false, mn2 sh fr [m])
theorem open_ev (sh : List S54) (fr : List Int) (a : Int) : Ev (fun k => shift_Open.f k sh fr a) (openP sh fr a) := by
  unfold shift_Open.f openP
  refine Ev.bind (minutes_ev sh fr [a]) ?_
  show Ev (fun _ => if mn2 sh fr [a] = 0 then _ else some (false, mn2 sh fr [a])) _
  refine Ev.ite (fun h => ?_) (fun h => ?_)
  · obtain ⟨hV, ha⟩ := mn2_one h
    rw [if_pos h]
    exact Ev.pos ⟨hV.okB, ha⟩ (Ev.now _)
  · rw [if_neg h]; exact Ev.now _
def sumS : List S54 → Int
  | [] => 0
  | x :: l => (x.f2 - x.f1) + sumS l
theorem week_l0 (sh : List S54) (hl : sh.length ≤ 64) (hv : ∀ x ∈ sh, 0 ≤ x.f1 ∧ x.f1 ≤ 1440 ∧ 0 ≤ x.f2 ∧ x.f2 ≤ 1440) : ∀ n j, sh.length = j + n → ∀ s : Int, -1440 * j ≤ s → s ≤ 1440 * j → Ev (fun k => shift_Week.l0 k s sh (sh.length : Int) (j : Int)) (s + sumS (sh.drop j), 0) := by
  intro n
  induction n with
  | zero =>
    intro j h s _ _
    refine Ev.succ ?_
    simp only [shift_Week.l0]
    refine Ev.neg (by omega) (Ev.eq (Ev.now _) ?_)
    rw [List.drop_of_length_le (show sh.length ≤ j by omega)]; simp [sumS]
  | succ n ih =>
    intro j h s h1 h2
    refine Ev.succ ?_
    simp only [shift_Week.l0]
    refine Ev.pos (by omega) (Ev.pos (by omega) (Ev.pos (by omega) ?_))
    rw [rdT sh j (by omega)]
    have hx := hv _ (List.getElem_mem (show j < sh.length by omega))
    rw [w64 (n := sh[j].f2 - sh[j].f1) (by omega) (by omega), w64 (by omega) (by omega), show wrap64 ((j : Int) + 1) = ((j + 1 : Nat) : Int) from by rw [w64 (by omega) (by omega)]; omega]
    refine Ev.eq (ih (j + 1) (by omega) _ (by omega) (by omega)) ?_
    rw [List.drop_eq_getElem_cons (show j < sh.length by omega), sumS, Int.add_assoc]
def wk (sh : List S54) (fr : List Int) : Int × Int := if ck sh fr = 0 then (sumS sh, 0) else (0, ck sh fr)
theorem week_ev (sh : List S54) (fr : List Int) : Ev (fun k => shift_Week.f k sh fr) (wk sh fr) := by
  unfold shift_Week.f wk
  refine Ev.bind (check_ev sh fr) ?_
  refine Ev.ite (fun h => ?_) (fun h => ?_)
  · rw [if_pos h]
    have hV := Val.of h
    exact Ev.eq (week_l0 sh hV.l1 (fun x hx => by have := hV.s x hx; omega) sh.length 0 (by omega) 0 (by omega) (by omega)) (by simp)
  · rw [if_neg h]; exact Ev.now _
theorem rng_from (sh : List S54) (fr : List Int) (t : Int) (k : Nat) (h : k ≤ (10000 - t / 1440).toNat) : ∃ rest, rngL sh fr t = rngK sh fr t (t / 1440) k ++ rest := by
  obtain ⟨r, hr⟩ := rngK_prefix sh fr t (t / 1440) h
  exact ⟨r, hr.symm⟩
def exS : List S54 := [⟨1, 480, 720⟩, ⟨1, 780, 960⟩, ⟨2, 480, 600⟩]
theorem ex_ck : ck exS [7] = 0 := by decide
theorem ex_ok : okB exS [7] = true := (Val.of ex_ck).okB
theorem ex_min (l : List Int) (h : l.any offMin = false) : Ev (fun k => shift_minutes.f k exS [7] l) 0 := Ev.eq (minutes_ev exS [7] l) (by rw [if_pos ex_ck, h]; rfl)
theorem ex_work : Ev (fun k => shift_Work.f k exS [7] 0 10080) (540, 0) := by
  unfold shift_Work.f
  refine Ev.bind (ex_min _ (by decide)) (Ev.pos rfl (Ev.neg (by decide) (Ev.pos ⟨ex_ok, by decide, by decide⟩ (Ev.eq (Ev.now _) ?_))))
  obtain ⟨r, hr⟩ := rng_from exS [7] 0 9 (by decide)
  rw [hr, show rngK exS [7] 0 (0 / 1440) 9 = [(480, 720), (780, 960), (1920, 2040), (12000, 12120)] by decide]
  simp [workF, nextR, afterF, backF, wholeF, mn, mx, w64]
theorem ex_next : Ev (fun k => shift_Next.f k exS [7] 960) (1920, 0) := by
  unfold shift_Next.f
  refine Ev.bind (ex_min _ (by decide)) (Ev.pos rfl (Ev.pos ⟨ex_ok, by decide, by decide⟩ (Ev.eq (Ev.now _) ?_)))
  obtain ⟨r, hr⟩ := rng_from exS [7] 960 2 (by decide)
  rw [hr, show rngK exS [7] 960 (960 / 1440) 2 = [(1920, 2040)] by decide]
  simp [workF, nextR, afterF, backF, wholeF, mn, mx, w64]
theorem ex_after : Ev (fun k => shift_After.f k exS [7] 700 30) (790, 0) := by
  unfold shift_After.f
  refine Ev.bind (ex_min _ (by decide)) (Ev.pos rfl (Ev.neg (by decide) (Ev.pos ⟨ex_ok, by decide, by decide⟩ (Ev.eq (Ev.now _) ?_))))
  obtain ⟨r, hr⟩ := rng_from exS [7] 700 1 (by decide)
  rw [hr, show rngK exS [7] 700 (700 / 1440) 1 = [(700, 720), (780, 960)] by decide]
  simp [workF, nextR, afterF, backF, wholeF, mn, mx, w64]
theorem ex_before : Ev (fun k => shift_Before.f k exS [7] 790 30) (700, 0) := by
  unfold shift_Before.f
  refine Ev.bind (ex_min _ (by decide)) (Ev.pos rfl (Ev.neg (by decide) (Ev.pos ⟨ex_ok, by decide, by decide⟩ (Ev.eq (Ev.now _) ?_))))
  rw [show allB exS [7] 790 (790 / 1440) (790 / 1440 + 1 : Int).toNat = [(780, 790), (480, 720)] by decide]
  simp [workF, nextR, afterF, backF, wholeF, mn, mx, w64]
theorem ex_whole : Ev (fun k => shift_Whole.f k exS [7] 800 200) (20640, 0) := by
  unfold shift_Whole.f
  refine Ev.bind (ex_min _ (by decide)) (Ev.pos rfl (Ev.pos ⟨ex_ok, by decide, by decide⟩ (Ev.eq (Ev.now _) ?_)))
  obtain ⟨r, hr⟩ := rng_from exS [7] 800 15 (by decide)
  rw [hr, show rngK exS [7] 800 (800 / 1440) 15 = [(800, 960), (1920, 2040), (12000, 12120), (20640, 20880), (20940, 21120)] by decide]
  simp [workF, nextR, afterF, backF, wholeF, mn, mx, w64]
theorem ex_week : Ev (fun k => shift_Week.f k exS [7]) (540, 0) := Ev.eq (week_ev exS [7]) (by unfold wk; rw [if_pos ex_ck]; rfl)
theorem awake_ev : Ev (fun k => w_awake.f k) true := by
  unfold w_awake.f
  refine Ev.cbind (a := exS) rfl (Ev.cbind (a := [7]) rfl ?_)
  refine Ev.bind ex_work (Ev.bind ex_next (Ev.bind ex_after (Ev.bind ex_before (Ev.bind ex_whole (Ev.bind ex_week ?_)))))
  refine Ev.pos rfl (Ev.pos rfl (Ev.pos rfl (Ev.pos rfl (Ev.pos rfl (Ev.pos rfl (Ev.pos rfl (Ev.pos rfl (Ev.pos rfl (Ev.pos rfl (Ev.pos rfl ?_))))))))))
  exact Ev.step (f := fun _ => some _) (fun _ => rfl) (Ev.now _)
end Go.Proofs.Ytpjgmlnnhcnelaa.Sh
