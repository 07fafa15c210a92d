import Derived.Test.YtpjgmlnnhcnelaaDXQAx0
namespace Go.Proofs.Ytpjgmlnnhcnelaa.QA
open Go.RowKit Go.Proofs.YtpjgmlnnhcnelaaW.PrintWords Go.Proofs.YtpjgmlnnhcnelaaW.PrintLast Go.Proofs.YtpjgmlnnhcnelaaW.PrintMore
open Aside0 renaming mk → am
attribute [local go_sem] max2_int min2_int max_two min_two max_three min_three max_four min_four
set_option linter.unusedVariables false
set_option linter.unusedSimpArgs false

def r_Calendar_free.l0 : Nat → Int → Int → List (S54) → List Int → Option (Bool)
 | 0, _, _, _, _ => none
 | k + 1, x1, x5, x165000, x165001 => if x5 < (x165001.length : Int) then (if 0 ≤ x5 then (if (rd x165001 x5) = x1 then (some true) else (r_Calendar_free.l0 k x1 (wrap64 (x5 + 1)) x165000 x165001)) else (none)) else (some false)
def r_Calendar_free.f (k : Nat) (l0_0 : List (S54)) (l0_1 : List Int) (a1 : Int) : Option (Bool) := r_Calendar_free.l0 k a1 0 l0_0 l0_1
set_option maxHeartbeats 8000000 in
set_option maxRecDepth 100000 in
theorem r_Calendar_free.calls (k : Nat) (A0_0 : Option Addr) (c0_0 : Nat) (l0_0 : List (S54)) (A0_1 : Option Addr) (c0_1 : Nat) (l0_1 : List Int) (a1 : Int) (r : Bool) (w : World) (hr0_0 : Kd.C k54 w A0_0 l0_0.length l0_0) (hc0_0 : l0_0.length ≤ c0_0) (hr0_1 : Kd.C (Kd.int .i64) w A0_1 l0_1.length l0_1) (hc0_1 : l0_1.length ≤ c0_1) (h : r_Calendar_free.f k l0_0 l0_1 a1 = some r) :
  Calls Try.prog 37 #[.agg #[.slice A0_0 l0_0.length c0_0, .slice A0_1 l0_1.length c0_1], .int .i64 a1] w fun e w' => e = .returned (.bool r) ∧ Below w.heap.size w w' := by
 have hu25 := Try.underlying25
 have HR0_0 := am hr0_0
 have HC0_0 := am hc0_0
 clear hr0_0 hc0_0
 have HR0_1 := am hr0_1
 have HC0_1 := am hc0_1
 clear hr0_1 hc0_1
 have HB := am (Below.refl w.heap.size w)
 have H : (r_Calendar_free.l0 k a1 0 l0_0 l0_1) = some r := h
 clear h
 have H' := am H
 clear H
 go_enter Try.func37, Try.ntmps37
 go_wp2_with (first | ((with_reducible refine gate_dst (N := 2) rfl ?_); refine box_event ?hg (N := 2) ?hd (cs := #[.slice A0_0 l0_0.length c0_0, .slice A0_1 l0_1.length c0_1]) (t := 25) ?hr ?_; (case hd | hg => rfl); (case hr => first | (go_simp; done) | (go_simp; rfl)); intro gb164 hg w3 hbox hb; have BK164 := am hbox; have GW164 := sG HB hg; have GE164 := sG HB hg; replace HB := bS HB hb; clear hb hbox hg))
 go_loopg [5] k (fun kq v5 w' => ∃ (x5_1 : Int), v5 = .int .i64 x5_1 ∧ Aside0 (r_Calendar_free.l0 kq a1 x5_1 l0_0 l0_1 = some r) ∧ Aside0 (kq ≤ k) ∧ Aside0 (w'.heap[gb164]? = some (.cells #[(.slice A0_0 l0_0.length c0_0), (.slice A0_1 l0_1.length c0_1)] 25 (0, 0))) ∧ Aside0 (Below w.heap.size w w'))
 case atStart => exact ⟨(0), sqD, H', ⟨Nat.le_refl _⟩, ⟨fb BK164.out⟩, ⟨fW HB.out⟩⟩
 case round =>
  clear H'
  try clear p2;try clear c3
  obtain ⟨x5_1, rfl, HA, HK1, BK164, HB⟩ := hrel
  cases gk with
  | zero => exact absurd HA.out (by simp [r_Calendar_free.l0])
  | succ k1 =>
   have H := HA.out
   clear HA
   simp only [r_Calendar_free.l0] at H
   by_cases c4 : x5_1 < (l0_1.length : Int)
   ·rw [if_pos c4] at H
    have c4b0 : decide (x5_1 < (l0_1.length : Int)) = true := decide_eq_true c4
    clear c4
    by_cases c5 : 0 ≤ x5_1
    rotate_left
    ·rw [if_neg c5] at H
     exact absurd H (by simp)
    rw [if_pos c5] at H
    have c5b0 : decide (0 ≤ x5_1) = true := decide_eq_true c5
    clear c5
    by_cases c6 : (rd l0_1 x5_1) = a1
    ·rw [if_pos c6] at H
     have c6b0 : ((rd l0_1 x5_1) == a1) = true := beq_iff_eq.mpr c6
     have c6b1 : ((rd l0_1 x5_1) != a1) = false := bne_eq_false_iff_eq.mpr c6
     clear c6
     obtain rfl := Option.some.inj H
     have := yC1 BK164
     have := kC1 BK164
     have := blk_frozen BK164.out 0
     have := blk_frozen BK164.out 1
     have p165 : 0 ≤ (x5_1 : Int) := of_decide_eq_true (by assumption)
     have q165 : x5_1 < (l0_1.length : Int) := of_decide_eq_true (by assumption)
     obtain ⟨ad165, e165, hx165_0⟩ := Kd.at_int HR0_1.out x5_1 p165 q165
     cases e165
     replace hx165_0 := cl HB hx165_0
     replace p165 := eq_true p165
     replace q165 := eq_true q165
     go_wp2
     go_ret
     exact ⟨sqE, fW HB.out⟩
    rw [if_neg c6] at H
    have c6b0 : ((rd l0_1 x5_1) == a1) = false := beq_eq_false_iff_ne.mpr c6
    have c6b1 : ((rd l0_1 x5_1) != a1) = true := bne_iff_ne.mpr c6
    have H' := am H
    clear H
    have := yC1 BK164
    have := kC1 BK164
    have := blk_frozen BK164.out 0
    have := blk_frozen BK164.out 1
    have p165 : 0 ≤ (x5_1 : Int) := of_decide_eq_true (by assumption)
    have q165 : x5_1 < (l0_1.length : Int) := of_decide_eq_true (by assumption)
    obtain ⟨ad165, e165, hx165_0⟩ := Kd.at_int HR0_1.out x5_1 p165 q165
    cases e165
    replace hx165_0 := cl HB hx165_0
    replace p165 := eq_true p165
    replace q165 := eq_true q165
    go_wp2
    go_roundg k1
    case measure => have := HK1.out; omega
    case rel => exact ⟨(wrap64 (x5_1 + 1)), sqD, H', ⟨by have := HK1.out; omega⟩, ⟨fb BK164.out⟩, ⟨fW HB.out⟩⟩
   ·rw [if_neg c4] at H
    have c4b0 : decide (x5_1 < (l0_1.length : Int)) = false := decide_eq_false c4
    clear c4
    obtain rfl := Option.some.inj H
    have := yC1 BK164
    have := kC1 BK164
    have := blk_frozen BK164.out 0
    have := blk_frozen BK164.out 1
    go_wp2
    go_ret
    exact ⟨sqE, fW HB.out⟩

end Go.Proofs.Ytpjgmlnnhcnelaa.QA
