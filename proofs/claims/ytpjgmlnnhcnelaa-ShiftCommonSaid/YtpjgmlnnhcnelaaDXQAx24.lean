import Derived.Test.YtpjgmlnnhcnelaaDXQAx0
import Derived.Test.YtpjgmlnnhcnelaaDXQAx1
namespace Go.Proofs.Ytpjgmlnnhcnelaa.QA
open Go.RowKit Go.Proofs.YtpjgmlnnhcnelaaW.PrintWords Go.Proofs.YtpjgmlnnhcnelaaW.PrintLast Go.Proofs.YtpjgmlnnhcnelaaW.PrintMore
open Go.Proofs.YtpjgmlnnhcnelaaW.PrintWords renaming blk_frozen → bf
open Aside0 renaming mk → am
attribute [local go_sem] max2_int min2_int max_two min_two max_three min_three max_four min_four
set_option linter.unusedVariables false
set_option linter.unusedSimpArgs false

attribute [local go_sem high] eqA54
mutual
def r_Same.j0 : Nat → Bool → List (S54) → List Int → List (S54) → List Int → Option (Bool)
 | 0, _, _, _, _, _ => none
 | k + 1, x22, x470000, x470001, x471000, x471001 => if x22 = true then (some false) else (r_Same.l0 k 0 x470000 x470001 x471000 x471001)
def r_Same.l0 : Nat → Int → List (S54) → List Int → List (S54) → List Int → Option (Bool)
 | 0, _, _, _, _, _ => none
 | k + 1, x5, x470000, x470001, x471000, x471001 => if x5 < (x470000.length : Int) then (if 0 ≤ x5 then (if x5 < (x471000.length : Int) then (if (!(((rd_T54 x470000 x5).f0) == ((rd_T54 x471000 x5).f0)) || (!(((rd_T54 x470000 x5).f1) == ((rd_T54 x471000 x5).f1)) || (!(((rd_T54 x470000 x5).f2) == ((rd_T54 x471000 x5).f2))))) = true then (some false) else (r_Same.l0 k (wrap64 (x5 + 1)) x470000 x470001 x471000 x471001)) else (none)) else (none)) else (r_Same.l1 k 0 x470000 x470001 x471000 x471001)
def r_Same.l1 : Nat → Int → List (S54) → List Int → List (S54) → List Int → Option (Bool)
 | 0, _, _, _, _, _ => none
 | k + 1, x6, x470000, x470001, x471000, x471001 => if x6 < (x470001.length : Int) then (if 0 ≤ x6 then (if x6 < (x471001.length : Int) then (if (rd x470001 x6) = (rd x471001 x6) then (r_Same.l1 k (wrap64 (x6 + 1)) x470000 x470001 x471000 x471001) else (some false)) else (none)) else (none)) else (some true)
end
def r_Same.f (k : Nat) (l0_0 : List (S54)) (l0_1 : List Int) (l1_0 : List (S54)) (l1_1 : List Int) : Option (Bool) := if (l0_0.length : Int) = (l1_0.length : Int) then (r_Same.j0 k ((l0_1.length : Int) != (l1_1.length : Int)) l0_0 l0_1 l1_0 l1_1) else (r_Same.j0 k true l0_0 l0_1 l1_0 l1_1)
set_option maxHeartbeats 8000000 in
set_option maxRecDepth 100000 in
theorem r_Same.calls (k : Nat) (A0_0 : Option Addr) (c0_0 : Nat) (l0_0 : List (S54)) (A0_1 : Option Addr) (c0_1 : Nat) (l0_1 : List Int) (A1_0 : Option Addr) (c1_0 : Nat) (l1_0 : List (S54)) (A1_1 : Option Addr) (c1_1 : Nat) (l1_1 : List Int) (r : Bool) (w : World) (hr0_0 : Kd.C k54 w A0_0 l0_0.length l0_0) (hc0_0 : l0_0.length ≤ c0_0) (hr0_1 : Kd.C (Kd.int .i64) w A0_1 l0_1.length l0_1) (hc0_1 : l0_1.length ≤ c0_1) (hr1_0 : Kd.C k54 w A1_0 l1_0.length l1_0) (hc1_0 : l1_0.length ≤ c1_0) (hr1_1 : Kd.C (Kd.int .i64) w A1_1 l1_1.length l1_1) (hc1_1 : l1_1.length ≤ c1_1) (h : r_Same.f k l0_0 l0_1 l1_0 l1_1 = some r) :
  Calls Try.prog 33 #[.agg #[.slice A0_0 l0_0.length c0_0, .slice A0_1 l0_1.length c0_1], .agg #[.slice A1_0 l1_0.length c1_0, .slice A1_1 l1_1.length c1_1]] w fun e w' => e = .returned (.bool r) ∧ Below w.heap.size w w' := by
 have hu25 := Try.underlying25
 have hu54 := Try.underlying54
 have HR0_0 := am hr0_0
 have HC0_0 := am hc0_0
 clear hr0_0 hc0_0
 have HR0_1 := am hr0_1
 have HC0_1 := am hc0_1
 clear hr0_1 hc0_1
 have HR1_0 := am hr1_0
 have HC1_0 := am hc1_0
 clear hr1_0 hc1_0
 have HR1_1 := am hr1_1
 have HC1_1 := am hc1_1
 clear hr1_1 hc1_1
 have HB := am (Below.refl w.heap.size w)
 have H : (if (l0_0.length : Int) = (l1_0.length : Int) then (r_Same.j0 k ((l0_1.length : Int) != (l1_1.length : Int)) l0_0 l0_1 l1_0 l1_1) else (r_Same.j0 k true l0_0 l0_1 l1_0 l1_1)) = some r := h
 clear h
 have HC3 := am H
 clear H
 go_enter Try.func33, Try.ntmps33
 go_upto_region 1 with (first | ((with_reducible refine gate_dst (N := 2) rfl ?_); (try (refine gate_guard (by rfl) ?_; dsimp only)); refine box_event ?hg (N := 2) ?hd (cs := #[.slice A0_0 l0_0.length c0_0, .slice A0_1 l0_1.length c0_1]) (t := 25) ?hr ?_; (case hd | hg => rfl); (case hr => first | (go_simp; done) | (go_simp; rfl)); intro gb469 hg w4 hbox hb; have BK469 := am hbox; have GW469 := sG HB hg; have GE469 := sG HB hg; replace HB := bS HB hb; clear hb hbox hg) | ((with_reducible refine gate_dst (N := 3) rfl ?_); (try (refine gate_guard (by rfl) ?_; dsimp only)); refine box_event ?hg (N := 3) ?hd (cs := #[.slice A1_0 l1_0.length c1_0, .slice A1_1 l1_1.length c1_1]) (t := 25) ?hr ?_; (case hd | hg => rfl); (case hr => first | (go_simp; done) | (go_simp; rfl)); intro gb470 hg w5 hbox hb; have BK470 := am hbox; have GW470 := sG HB hg; have GE470 := sG HB hg; replace HB := bS HB hb; have NB469_470 := nL BK469 hg; have NB470_469 := nG BK469 hg; replace BK469 := bB BK469 hb; clear hb hbox hg))
 repeat (go_quiet (first | ((with_reducible refine gate_dst (N := 2) rfl ?_); (try (refine gate_guard (by rfl) ?_; dsimp only)); refine box_event ?hg (N := 2) ?hd (cs := #[.slice A0_0 l0_0.length c0_0, .slice A0_1 l0_1.length c0_1]) (t := 25) ?hr ?_; (case hd | hg => rfl); (case hr => first | (go_simp; done) | (go_simp; rfl)); intro gb469 hg w4 hbox hb; have BK469 := am hbox; have GW469 := sG HB hg; have GE469 := sG HB hg; replace HB := bS HB hb; clear hb hbox hg) | ((with_reducible refine gate_dst (N := 3) rfl ?_); (try (refine gate_guard (by rfl) ?_; dsimp only)); refine box_event ?hg (N := 3) ?hd (cs := #[.slice A1_0 l1_0.length c1_0, .slice A1_1 l1_1.length c1_1]) (t := 25) ?hr ?_; (case hd | hg => rfl); (case hr => first | (go_simp; done) | (go_simp; rfl)); intro gb470 hg w5 hbox hb; have BK470 := am hbox; have GW470 := sG HB hg; have GE470 := sG HB hg; replace HB := bS HB hb; have NB469_470 := nL BK469 hg; have NB470_469 := nG BK469 hg; replace BK469 := bB BK469 hb; clear hb hbox hg)); go_upto_region 1 with (first | ((with_reducible refine gate_dst (N := 2) rfl ?_); (try (refine gate_guard (by rfl) ?_; dsimp only)); refine box_event ?hg (N := 2) ?hd (cs := #[.slice A0_0 l0_0.length c0_0, .slice A0_1 l0_1.length c0_1]) (t := 25) ?hr ?_; (case hd | hg => rfl); (case hr => first | (go_simp; done) | (go_simp; rfl)); intro gb469 hg w4 hbox hb; have BK469 := am hbox; have GW469 := sG HB hg; have GE469 := sG HB hg; replace HB := bS HB hb; clear hb hbox hg) | ((with_reducible refine gate_dst (N := 3) rfl ?_); (try (refine gate_guard (by rfl) ?_; dsimp only)); refine box_event ?hg (N := 3) ?hd (cs := #[.slice A1_0 l1_0.length c1_0, .slice A1_1 l1_1.length c1_1]) (t := 25) ?hr ?_; (case hd | hg => rfl); (case hr => first | (go_simp; done) | (go_simp; rfl)); intro gb470 hg w5 hbox hb; have BK470 := am hbox; have GW470 := sG HB hg; have GE470 := sG HB hg; replace HB := bS HB hb; have NB469_470 := nL BK469 hg; have NB470_469 := nG BK469 hg; replace BK469 := bB BK469 hb; clear hb hbox hg)))
 (try simp only [Act.put, psl])
 go_cut [22] (fun v22 wc => ∃ (kq : Nat) (x22_2 : Bool), v22 = .bool x22_2 ∧ Aside0 (r_Same.j0 kq x22_2 l0_0 l0_1 l1_0 l1_1 = some r) ∧ Aside0 (kq ≤ k) ∧ Aside0 (wc.heap[gb469]? = some (.cells #[(.slice A0_0 l0_0.length c0_0), (.slice A0_1 l0_1.length c0_1)] 25 (0, 0))) ∧ Aside0 (wc.heap[gb470]? = some (.cells #[(.slice A1_0 l1_0.length c1_0), (.slice A1_1 l1_1.length c1_1)] 25 (0, 0))) ∧ Aside0 (Below w.heap.size w wc))
 case first =>
  have H := HC3.out
  clear HC3
  by_cases c6 : (l0_0.length : Int) = (l1_0.length : Int)
  ·rw [if_pos c6] at H
   have c6b0 : ((l0_0.length : Int) == (l1_0.length : Int)) = true := beq_iff_eq.mpr c6
   have c6b1 : ((l0_0.length : Int) != (l1_0.length : Int)) = false := bne_eq_false_iff_eq.mpr c6
   have c6b2 : (l0_0.length == l1_0.length) = true := by first | simpa using c6 | (simp at c6 ⊢; omega)
   clear c6
   (first | rw [c6b0] | (simp only [i64_w, i32_w]; rw [c6b0]) | skip)
   have H' := am H
   clear H
   have hnb7 := NB469_470.out
   have hnc7 := NB470_469.out
   have := yC1 BK469
   have := kC1 BK469
   have := bf BK469.out 0
   have := bf BK469.out 1
   have := yC1 BK470
   have := kC1 BK470
   have := bf BK470.out 0
   have := bf BK470.out 1
   go_wp2
   repeat (go_quiet (fail); try go_wp2)
   go_meet
   case rel => exact ⟨_, (((l0_1.length : Int) != (l1_1.length : Int))), sqD, H', ⟨by first | omega | exact Nat.le_refl _⟩, ⟨fb BK469.out⟩, ⟨fb BK470.out⟩, ⟨fW HB.out⟩⟩
  rw [if_neg c6] at H
  have c6b0 : ((l0_0.length : Int) == (l1_0.length : Int)) = false := beq_eq_false_iff_ne.mpr c6
  have c6b1 : ((l0_0.length : Int) != (l1_0.length : Int)) = true := bne_iff_ne.mpr c6
  have c6b2 : (l0_0.length == l1_0.length) = false := by first | simpa using c6 | (simp at c6 ⊢; omega)
  (first | rw [c6b0] | (simp only [i64_w, i32_w]; rw [c6b0]) | skip)
  have H' := am H
  clear H
  have hnb10 := NB469_470.out
  have hnc10 := NB470_469.out
  have := yC1 BK469
  have := kC1 BK469
  have := bf BK469.out 0
  have := bf BK469.out 1
  have := yC1 BK470
  have := kC1 BK470
  have := bf BK470.out 0
  have := bf BK470.out 1
  go_wp2
  repeat (go_quiet (fail); try go_wp2)
  go_meet
  case rel => exact ⟨_, (true), sqD, H', ⟨by first | omega | exact Nat.le_refl _⟩, ⟨fb BK469.out⟩, ⟨fb BK470.out⟩, ⟨fW HB.out⟩⟩
 case rest =>
  clear HC3
  try clear c1;try clear p2;try clear c3;try clear c6;try clear c6b0;try clear c6b1;try clear c6b2;try clear c7;try clear c10
  obtain ⟨kq, x22_2, rfl, HA, HJ2, BK469, BK470, HB⟩ := hcut
  cases kq with
  | zero => exact absurd HA.out (by simp [r_Same.j0])
  | succ kj2 =>
   have H := HA.out
   clear HA
   simp only [r_Same.j0] at H
   by_cases c13 : x22_2 = true
   ·subst c13
    have H1 : (some false) = some r := by rw [if_pos rfl] at H; exact H
    clear H
    have H := H1
    clear H1
    obtain rfl := Option.some.inj H
    go_wp2
    repeat (go_quiet (fail); try go_wp2)
    go_ret
    exact ⟨sqE, fW HB.out⟩
   ·replace c13 := Bool.eq_false_iff.mpr c13
    subst c13
    have H1 : (r_Same.l0 kj2 0 l0_0 l0_1 l1_0 l1_1) = some r := by rw [if_neg (show ¬ (false = true) by decide)] at H; exact H
    clear H
    have H := H1
    clear H1
    have H' := am H
    clear H
    go_wp2
    repeat (go_quiet (fail); try go_wp2)
    go_loopg [5] kj2 (fun kq v5 w' => ∃ (x5_2 : Int), v5 = .int .i64 x5_2 ∧ Aside0 (r_Same.l0 kq x5_2 l0_0 l0_1 l1_0 l1_1 = some r) ∧ Aside0 (kq ≤ kj2) ∧ Aside0 (w'.heap[gb469]? = some (.cells #[(.slice A0_0 l0_0.length c0_0), (.slice A0_1 l0_1.length c0_1)] 25 (0, 0))) ∧ Aside0 (w'.heap[gb470]? = some (.cells #[(.slice A1_0 l1_0.length c1_0), (.slice A1_1 l1_1.length c1_1)] 25 (0, 0))) ∧ Aside0 (Below w.heap.size w w'))
    case atStart => exact ⟨(0), sqD, H', ⟨Nat.le_refl _⟩, ⟨fb BK469.out⟩, ⟨fb BK470.out⟩, ⟨fW HB.out⟩⟩
    case round =>
     clear H'
     try clear c1;try clear p2;try clear c3;try clear c6;try clear c6b0;try clear c6b1;try clear c6b2;try clear c7;try clear c10;try clear c13;try clear p2
     obtain ⟨x5_2, rfl, HA, HK2, BK469, BK470, HB⟩ := hrel
     cases gk with
     | zero => exact absurd HA.out (by simp [r_Same.l0])
     | succ k2 =>
      have H := HA.out
      clear HA
      simp only [r_Same.l0] at H
      by_cases c14 : x5_2 < (l0_0.length : Int)
      ·rw [if_pos c14] at H
       have c14b0 : decide (x5_2 < (l0_0.length : Int)) = true := decide_eq_true c14
       clear c14
       by_cases c15 : 0 ≤ x5_2
       rotate_left
       ·rw [if_neg c15] at H
        exact absurd H (by simp)
       rw [if_pos c15] at H
       have c15b0 : decide (0 ≤ x5_2) = true := decide_eq_true c15
       clear c15
       by_cases c16 : x5_2 < (l1_0.length : Int)
       rotate_left
       ·rw [if_neg c16] at H
        exact absurd H (by simp)
       rw [if_pos c16] at H
       have c16b0 : decide (x5_2 < (l1_0.length : Int)) = true := decide_eq_true c16
       clear c16
       by_cases c17 : (!(((rd_T54 l0_0 x5_2).f0) == ((rd_T54 l1_0 x5_2).f0)) || (!(((rd_T54 l0_0 x5_2).f1) == ((rd_T54 l1_0 x5_2).f1)) || (!(((rd_T54 l0_0 x5_2).f2) == ((rd_T54 l1_0 x5_2).f2))))) = true
       ·rw [if_pos c17] at H
        have c17b0 : (!(((rd_T54 l0_0 x5_2).f0) == ((rd_T54 l1_0 x5_2).f0)) || (!(((rd_T54 l0_0 x5_2).f1) == ((rd_T54 l1_0 x5_2).f1)) || (!(((rd_T54 l0_0 x5_2).f2) == ((rd_T54 l1_0 x5_2).f2))))) = true := c17
        clear c17
        obtain rfl := Option.some.inj H
        have hnb18 := NB469_470.out
        have hnc18 := NB470_469.out
        have := yC1 BK469
        have := kC1 BK469
        have := bf BK469.out 0
        have := bf BK469.out 1
        have p471 : 0 ≤ (x5_2 : Int) := of_decide_eq_true (by assumption)
        have q471 : x5_2 < (l0_0.length : Int) := of_decide_eq_true (by assumption)
        obtain ⟨ad471, e471, hx471_0, hx471_1, hx471_2⟩ := at_T54 HR0_0.out x5_2 p471 q471
        cases e471
        replace hx471_0 := cl HB hx471_0
        replace hx471_1 := cl HB hx471_1
        replace hx471_2 := cl HB hx471_2
        replace p471 := eq_true p471
        replace q471 := eq_true q471
        have := yC1 BK470
        have := kC1 BK470
        have := bf BK470.out 0
        have := bf BK470.out 1
        have p472 : 0 ≤ (x5_2 : Int) := of_decide_eq_true (by assumption)
        have q472 : x5_2 < (l1_0.length : Int) := of_decide_eq_true (by assumption)
        obtain ⟨ad472, e472, hx472_0, hx472_1, hx472_2⟩ := at_T54 HR1_0.out x5_2 p472 q472
        cases e472
        replace hx472_0 := cl HB hx472_0
        replace hx472_1 := cl HB hx472_1
        replace hx472_2 := cl HB hx472_2
        replace p472 := eq_true p472
        replace q472 := eq_true q472
        go_wp2
        repeat (go_quiet (fail); try go_wp2)
        go_ret
        exact ⟨sqE, fW HB.out⟩
       rw [if_neg c17] at H
       have c17b0 : (!(((rd_T54 l0_0 x5_2).f0) == ((rd_T54 l1_0 x5_2).f0)) || (!(((rd_T54 l0_0 x5_2).f1) == ((rd_T54 l1_0 x5_2).f1)) || (!(((rd_T54 l0_0 x5_2).f2) == ((rd_T54 l1_0 x5_2).f2))))) = false := by simpa using c17
       clear c17
       have H' := am H
       clear H
       have hnb21 := NB469_470.out
       have hnc21 := NB470_469.out
       have := yC1 BK469
       have := kC1 BK469
       have := bf BK469.out 0
       have := bf BK469.out 1
       have p471 : 0 ≤ (x5_2 : Int) := of_decide_eq_true (by assumption)
       have q471 : x5_2 < (l0_0.length : Int) := of_decide_eq_true (by assumption)
       obtain ⟨ad471, e471, hx471_0, hx471_1, hx471_2⟩ := at_T54 HR0_0.out x5_2 p471 q471
       cases e471
       replace hx471_0 := cl HB hx471_0
       replace hx471_1 := cl HB hx471_1
       replace hx471_2 := cl HB hx471_2
       replace p471 := eq_true p471
       replace q471 := eq_true q471
       have := yC1 BK470
       have := kC1 BK470
       have := bf BK470.out 0
       have := bf BK470.out 1
       have p472 : 0 ≤ (x5_2 : Int) := of_decide_eq_true (by assumption)
       have q472 : x5_2 < (l1_0.length : Int) := of_decide_eq_true (by assumption)
       obtain ⟨ad472, e472, hx472_0, hx472_1, hx472_2⟩ := at_T54 HR1_0.out x5_2 p472 q472
       cases e472
       replace hx472_0 := cl HB hx472_0
       replace hx472_1 := cl HB hx472_1
       replace hx472_2 := cl HB hx472_2
       replace p472 := eq_true p472
       replace q472 := eq_true q472
       go_wp2
       repeat (go_quiet (fail); try go_wp2)
       go_roundg k2
       case measure => have := HJ2.out; have := HK2.out; omega
       case rel => exact ⟨(wrap64 (x5_2 + 1)), sqD, H', ⟨by have := HJ2.out; have := HK2.out; omega⟩, ⟨fb BK469.out⟩, ⟨fb BK470.out⟩, ⟨fW HB.out⟩⟩
      ·rw [if_neg c14] at H
       have c14b0 : decide (x5_2 < (l0_0.length : Int)) = false := decide_eq_false c14
       clear c14
       have H' := am H
       clear H
       have hnb24 := NB469_470.out
       have hnc24 := NB470_469.out
       have := yC1 BK469
       have := kC1 BK469
       have := bf BK469.out 0
       have := bf BK469.out 1
       go_wp2
       repeat (go_quiet (fail); try go_wp2)
       go_loopg [6] k2 (fun kq v6 w' => ∃ (x6_3 : Int), v6 = .int .i64 x6_3 ∧ Aside0 (r_Same.l1 kq x6_3 l0_0 l0_1 l1_0 l1_1 = some r) ∧ Aside0 (kq ≤ k2) ∧ Aside0 (w'.heap[gb469]? = some (.cells #[(.slice A0_0 l0_0.length c0_0), (.slice A0_1 l0_1.length c0_1)] 25 (0, 0))) ∧ Aside0 (w'.heap[gb470]? = some (.cells #[(.slice A1_0 l1_0.length c1_0), (.slice A1_1 l1_1.length c1_1)] 25 (0, 0))) ∧ Aside0 (Below w.heap.size w w'))
       case atStart => exact ⟨(0), sqD, H', ⟨Nat.le_refl _⟩, ⟨fb BK469.out⟩, ⟨fb BK470.out⟩, ⟨fW HB.out⟩⟩
       case round =>
        clear H'
        try clear c1;try clear c2;try clear p2;try clear c3;try clear p4;try clear q4;try clear hx4;try clear c6;try clear c6b0;try clear c6b1;try clear c6b2;try clear p6;try clear c7;try clear c10;try clear c13;try clear c14;try clear c14b0;try clear c15;try clear c15b0;try clear c16;try clear c16b0;try clear c17;try clear c17b0;try clear c18;try clear c21;try clear c24;try clear hx471_0;try clear hx471_1;try clear hx471_2;try clear hx472_0;try clear hx472_1;try clear hx472_2;try clear p2;try clear p471;try clear p472;try clear q471;try clear q472
        obtain ⟨x6_3, rfl, HA, HK3, BK469, BK470, HB⟩ := hrel
        cases gk with
        | zero => exact absurd HA.out (by simp [r_Same.l1])
        | succ k3 =>
         have H := HA.out
         clear HA
         simp only [r_Same.l1] at H
         by_cases c26 : x6_3 < (l0_1.length : Int)
         ·rw [if_pos c26] at H
          have c26b0 : decide (x6_3 < (l0_1.length : Int)) = true := decide_eq_true c26
          clear c26
          by_cases c27 : 0 ≤ x6_3
          rotate_left
          ·rw [if_neg c27] at H
           exact absurd H (by simp)
          rw [if_pos c27] at H
          have c27b0 : decide (0 ≤ x6_3) = true := decide_eq_true c27
          clear c27
          by_cases c28 : x6_3 < (l1_1.length : Int)
          rotate_left
          ·rw [if_neg c28] at H
           exact absurd H (by simp)
          rw [if_pos c28] at H
          have c28b0 : decide (x6_3 < (l1_1.length : Int)) = true := decide_eq_true c28
          clear c28
          by_cases c29 : (rd l0_1 x6_3) = (rd l1_1 x6_3)
          ·rw [if_pos c29] at H
           have c29b0 : ((rd l0_1 x6_3) == (rd l1_1 x6_3)) = true := beq_iff_eq.mpr c29
           have c29b1 : ((rd l0_1 x6_3) != (rd l1_1 x6_3)) = false := bne_eq_false_iff_eq.mpr c29
           clear c29
           have H' := am H
           clear H
           have hnb30 := NB469_470.out
           have hnc30 := NB470_469.out
           have := yC1 BK469
           have := kC1 BK469
           have := bf BK469.out 0
           have := bf BK469.out 1
           have p473 : 0 ≤ (x6_3 : Int) := of_decide_eq_true (by assumption)
           have q473 : x6_3 < (l0_1.length : Int) := of_decide_eq_true (by assumption)
           obtain ⟨ad473, e473, hx473_0⟩ := Kd.at_int HR0_1.out x6_3 p473 q473
           cases e473
           replace hx473_0 := cl HB hx473_0
           replace p473 := eq_true p473
           replace q473 := eq_true q473
           have := yC1 BK470
           have := kC1 BK470
           have := bf BK470.out 0
           have := bf BK470.out 1
           have p474 : 0 ≤ (x6_3 : Int) := of_decide_eq_true (by assumption)
           have q474 : x6_3 < (l1_1.length : Int) := of_decide_eq_true (by assumption)
           obtain ⟨ad474, e474, hx474_0⟩ := Kd.at_int HR1_1.out x6_3 p474 q474
           cases e474
           replace hx474_0 := cl HB hx474_0
           replace p474 := eq_true p474
           replace q474 := eq_true q474
           go_wp2
           repeat (go_quiet (fail); try go_wp2)
           go_roundg k3
           case measure => have := HJ2.out; have := HK2.out; have := HK3.out; omega
           case rel => exact ⟨(wrap64 (x6_3 + 1)), sqD, H', ⟨by have := HJ2.out; have := HK2.out; have := HK3.out; omega⟩, ⟨fb BK469.out⟩, ⟨fb BK470.out⟩, ⟨fW HB.out⟩⟩
          rw [if_neg c29] at H
          have c29b0 : ((rd l0_1 x6_3) == (rd l1_1 x6_3)) = false := beq_eq_false_iff_ne.mpr c29
          have c29b1 : ((rd l0_1 x6_3) != (rd l1_1 x6_3)) = true := bne_iff_ne.mpr c29
          obtain rfl := Option.some.inj H
          have hnb33 := NB469_470.out
          have hnc33 := NB470_469.out
          have := yC1 BK469
          have := kC1 BK469
          have := bf BK469.out 0
          have := bf BK469.out 1
          have p473 : 0 ≤ (x6_3 : Int) := of_decide_eq_true (by assumption)
          have q473 : x6_3 < (l0_1.length : Int) := of_decide_eq_true (by assumption)
          obtain ⟨ad473, e473, hx473_0⟩ := Kd.at_int HR0_1.out x6_3 p473 q473
          cases e473
          replace hx473_0 := cl HB hx473_0
          replace p473 := eq_true p473
          replace q473 := eq_true q473
          have := yC1 BK470
          have := kC1 BK470
          have := bf BK470.out 0
          have := bf BK470.out 1
          have p474 : 0 ≤ (x6_3 : Int) := of_decide_eq_true (by assumption)
          have q474 : x6_3 < (l1_1.length : Int) := of_decide_eq_true (by assumption)
          obtain ⟨ad474, e474, hx474_0⟩ := Kd.at_int HR1_1.out x6_3 p474 q474
          cases e474
          replace hx474_0 := cl HB hx474_0
          replace p474 := eq_true p474
          replace q474 := eq_true q474
          go_wp2
          repeat (go_quiet (fail); try go_wp2)
          go_ret
          exact ⟨sqE, fW HB.out⟩
         ·rw [if_neg c26] at H
          have c26b0 : decide (x6_3 < (l0_1.length : Int)) = false := decide_eq_false c26
          clear c26
          obtain rfl := Option.some.inj H
          have hnb36 := NB469_470.out
          have hnc36 := NB470_469.out
          have := yC1 BK469
          have := kC1 BK469
          have := bf BK469.out 0
          have := bf BK469.out 1
          go_wp2
          repeat (go_quiet (fail); try go_wp2)
          go_ret
          exact ⟨sqE, fW HB.out⟩

end Go.Proofs.Ytpjgmlnnhcnelaa.QA
