import Derived.Test.YtpjgmlnnhcnelaaDXQAx0
import Derived.Test.YtpjgmlnnhcnelaaDXQAx10
namespace Go.Proofs.Ytpjgmlnnhcnelaa.QA
open Go.RowKit Go.Proofs.YtpjgmlnnhcnelaaW.PrintWords Go.Proofs.YtpjgmlnnhcnelaaW.PrintLast Go.Proofs.YtpjgmlnnhcnelaaW.PrintMore
open Go.Proofs.YtpjgmlnnhcnelaaW.PrintWords renaming blk_drewN → bN, blk_drew → bd, blk_alloc → ba, blk_frozen → bf, blk_cell → bc, cell_far → cf, blk_far → bF, blk_put → bp, gate_guard → gG
open Aside0 renaming mk → am
open World renaming block_lt_of_cell? → bq
attribute [local go_sem] max2_int min2_int max_two min_two max_three min_three max_four min_four
set_option linter.unusedVariables false
set_option linter.unusedSimpArgs false

mutual
def r_Common.l0 : Nat → Int → List (S54) → List Int → List (S54) → List Int → List (S54) → Option ((List (S54)) × List Int × Int)
 | 0, _, _, _, _, _, _ => none
 | k + 1, x7, x476000, x476001, x477000, x477001, x479000 => if x7 < (x476000.length : Int) then (r_Common.l1 k x7 0 x476000 x476001 x477000 x477001 x479000) else (r_Common.l2 k 0 x476000 x476001 x477000 x477001 x479000 ([] : List Int))
def r_Common.l1 : Nat → Int → Int → List (S54) → List Int → List (S54) → List Int → List (S54) → Option ((List (S54)) × List Int × Int)
 | 0, _, _, _, _, _, _, _ => none
 | k + 1, x7, x8, x476000, x476001, x477000, x477001, x479000 => if x8 < (x477000.length : Int) then (if 0 ≤ x7 then (if x7 < (x476000.length : Int) then (if 0 ≤ x8 then (if ((rd_T54 x476000 x7).f0) = ((rd_T54 x477000 x8).f0) then (r_Common.j2 k x7 x8 (decide ((mx ((rd_T54 x476000 x7).f1) ((rd_T54 x477000 x8).f1)) ≥ (mn ((rd_T54 x476000 x7).f2) ((rd_T54 x477000 x8).f2)))) x476000 x476001 x477000 x477001 x479000 ((rd_T54 x476000 x7).f0) (mx ((rd_T54 x476000 x7).f1) ((rd_T54 x477000 x8).f1)) (mn ((rd_T54 x476000 x7).f2) ((rd_T54 x477000 x8).f2))) else (r_Common.j2 k x7 x8 true x476000 x476001 x477000 x477001 x479000 ((rd_T54 x476000 x7).f0) (mx ((rd_T54 x476000 x7).f1) ((rd_T54 x477000 x8).f1)) (mn ((rd_T54 x476000 x7).f2) ((rd_T54 x477000 x8).f2)))) else (none)) else (none)) else (none)) else (r_Common.l0 k (wrap64 (x7 + 1)) x476000 x476001 x477000 x477001 x479000)
def r_Common.j2 : Nat → Int → Int → Bool → List (S54) → List Int → List (S54) → List Int → List (S54) → Int → Int → Int → Option ((List (S54)) × List Int × Int)
 | 0, _, _, _, _, _, _, _, _, _, _, _ => none
 | k + 1, x7, x8, x63, x476000, x476001, x477000, x477001, x479000, x484000, x484001, x484002 => if x63 = true then (r_Common.l1 k x7 (wrap64 (x8 + 1)) x476000 x476001 x477000 x477001 x479000) else (if (x479000.length : Int) > 0 then (if 0 ≤ (wrap64 ((x479000.length : Int) - 1)) then (if (wrap64 ((x479000.length : Int) - 1)) < (x479000.length : Int) then (if ((rd_T54 x479000 (wrap64 ((x479000.length : Int) - 1))).f0) = x484000 then (if ((rd_T54 x479000 (wrap64 ((x479000.length : Int) - 1))).f2) = x484001 then (r_Common.l1 k x7 (wrap64 (x8 + 1)) x476000 x476001 x477000 x477001 (x479000.set ((wrap64 ((x479000.length : Int) - 1)) : Int).toNat (⟨(rd_T54 x479000 (wrap64 ((x479000.length : Int) - 1))).f0, (rd_T54 x479000 (wrap64 ((x479000.length : Int) - 1))).f1, x484002⟩ : S54))) else (if x479000.length < 5864062014805 then (r_Common.l1 k x7 (wrap64 (x8 + 1)) x476000 x476001 x477000 x477001 (x479000 ++ [(⟨x484000, x484001, x484002⟩ : S54)])) else (none))) else (if x479000.length < 5864062014805 then (r_Common.l1 k x7 (wrap64 (x8 + 1)) x476000 x476001 x477000 x477001 (x479000 ++ [(⟨x484000, x484001, x484002⟩ : S54)])) else (none))) else (none)) else (none)) else (if x479000.length < 5864062014805 then (r_Common.l1 k x7 (wrap64 (x8 + 1)) x476000 x476001 x477000 x477001 (x479000 ++ [(⟨x484000, x484001, x484002⟩ : S54)])) else (none)))
def r_Common.l2 : Nat → Int → List (S54) → List Int → List (S54) → List Int → List (S54) → List Int → Option ((List (S54)) × List Int × Int)
 | 0, _, _, _, _, _, _, _ => none
 | k + 1, x13, x476000, x476001, x477000, x477001, x479000, x479001 => if x13 < 10000 then ((r_Calendar_free.f k x476000 x476001 x13).bind fun t496 => (if t496 = true then (if x479001.length < 17592186044416 then (r_Common.l2 k (wrap64 (x13 + 1)) x476000 x476001 x477000 x477001 x479000 (x479001 ++ [x13])) else (none)) else ((r_Calendar_free.f k x477000 x477001 x13).bind fun t500 => (if t500 = true then (if x479001.length < 17592186044416 then (r_Common.l2 k (wrap64 (x13 + 1)) x476000 x476001 x477000 x477001 x479000 (x479001 ++ [x13])) else (none)) else (r_Common.l2 k (wrap64 (x13 + 1)) x476000 x476001 x477000 x477001 x479000 x479001))))) else (if (x479000.length : Int) > 64 then (some (([] : List (S54)), ([] : List Int), 7)) else (if (x479001.length : Int) > 64 then (some (([] : List (S54)), ([] : List Int), 7)) else (some (x479000, x479001, 0))))
end
def r_Common.f (k : Nat) (l0_0 : List (S54)) (l0_1 : List Int) (l1_0 : List (S54)) (l1_1 : List Int) : Option ((List (S54)) × List Int × Int) := r_Common.l0 k 0 l0_0 l0_1 l1_0 l1_1 ([] : List (S54))
def r_Common.T8 : Bool × List (List Nat × List Nat) := (true, [([], []), ([0], [0]), ([], []), ([1, 2], [1, 2]), ([3], [3]), ([], []), ([5], [5]), ([], []), ([6, 7], [6, 7]), ([8], [8]), ([], []), ([], []), ([10, 4, 0, 1, 2, 3, 4, 10, 11], [4, 10]), ([11, 9, 12, 0, 1, 2, 3, 4, 5, 6, 7, 8, 9, 10, 11, 12], [9, 11])])
def r_Common.B8 : List Nat := [0, 1, 0, 7, 15, 0, 32, 0, 224, 480, 0, 0, 3103, 8191]
theorem r_Common.tab8 : rtab .any (opsOf Try.f34 8) = r_Common.T8 := by kernel_rfl
theorem r_Common.bits8 : waitsOk r_Common.T8.2 r_Common.B8 = true := by kernel_rfl
def r_Common.T12 : Bool × List (List Nat × List Nat) := (true, [([], []), ([0], [0]), ([1], [1]), ([2], [2]), ([3, 2], [2, 3]), ([2], [2]), ([5, 2], [2, 5]), ([4, 6, 2], [2, 4, 6]), ([7, 2], [2, 7]), ([8, 2], [2, 8]), ([2], [2]), ([10, 2], [2, 10]), ([9, 11, 2], [2, 9, 11]), ([2, 12], [2, 12]), ([13, 2], [13]), ([14], [14]), ([15, 14], [14, 15]), ([14], [14]), ([17, 14], [14, 17]), ([16, 18, 14], [14, 16, 18]), ([19, 14], [14, 19]), ([20, 14], [14, 20]), ([14], [14]), ([22, 14], [14, 22]), ([21, 23, 14], [14, 21, 23]), ([14, 24], [14, 24])])
def r_Common.B12 : List Nat := [0, 1, 3, 7, 15, 7, 39, 127, 255, 511, 7, 1031, 4095, 8191, 16383, 32767, 65535, 32767, 163839, 524287, 1048575, 2097151, 32767, 4227071, 16777215, 33554431]
theorem r_Common.tab12 : rtab .any (opsOf Try.f34 12) = r_Common.T12 := by kernel_rfl
theorem r_Common.bits12 : waitsOk r_Common.T12.2 r_Common.B12 = true := by kernel_rfl
set_option maxHeartbeats 8000000 in
set_option maxRecDepth 100000 in
theorem r_Common.calls (k : Nat) (A0_0 : Option Addr) (c0_0 : Nat) (l0_0 : List (S54)) (A0_1 : Option Addr) (c0_1 : Nat) (l0_1 : List Int) (A1_0 : Option Addr) (c1_0 : Nat) (l1_0 : List (S54)) (A1_1 : Option Addr) (c1_1 : Nat) (l1_1 : List Int) (r1 : List (S54)) (r2 : List Int) (r3 : Int) (w : World) (hr0_0 : Kd.C k54 w A0_0 l0_0.length l0_0) (hc0_0 : l0_0.length ≤ c0_0) (hr0_1 : Kd.C (Kd.int .i64) w A0_1 l0_1.length l0_1) (hc0_1 : l0_1.length ≤ c0_1) (hr1_0 : Kd.C k54 w A1_0 l1_0.length l1_0) (hc1_0 : l1_0.length ≤ c1_0) (hr1_1 : Kd.C (Kd.int .i64) w A1_1 l1_1.length l1_1) (hc1_1 : l1_1.length ≤ c1_1) (h : r_Common.f k l0_0 l0_1 l1_0 l1_1 = some (r1, r2, r3)) :
  Calls Try.prog 34 #[.agg #[.slice A0_0 l0_0.length c0_0, .slice A0_1 l0_1.length c0_1], .agg #[.slice A1_0 l1_0.length c1_0, .slice A1_1 l1_1.length c1_1]] w fun e w' => ∃ v0_ v1_ : Value, e = .returned (.tuple #[.agg #[v0_, v1_], .int .i64 r3]) ∧ Kd.R k54 54 w' w.heap.size (fun _ => True) v0_ r1 ∧ Kd.R (Kd.int .i64) 3 w' w.heap.size (fun _ => True) v1_ r2 ∧ Below w.heap.size w w' := by
 have hu25 := Try.underlying25
 have hu54 := Try.underlying54
 have HR0_0 := am hr0_0
 have HC0_0 := am hc0_0
 clear hr0_0 hc0_0
 have HR0_1 := am hr0_1
 have HC0_1 := am hc0_1
 clear hr0_1 hc0_1
 have HR1_0 := am hr1_0
 have HC1_0 := am hc1_0
 clear hr1_0 hc1_0
 have HR1_1 := am hr1_1
 have HC1_1 := am hc1_1
 clear hr1_1 hc1_1
 have HB := am (Below.refl w.heap.size w)
 have H : (r_Common.l0 k 0 l0_0 l0_1 l1_0 l1_1 ([] : List (S54))) = some (r1, r2, r3) := h
 clear h
 have H' := am H
 clear H
 go_enter Try.func34, Try.ntmps34
 go_wp2_with (first | ((with_reducible refine gate_dst (N := 2) rfl ?_); (try (refine gG (by rfl) ?_; dsimp only)); refine box_event ?hg (N := 2) ?hd (cs := #[.slice A0_0 l0_0.length c0_0, .slice A0_1 l0_1.length c0_1]) (t := 25) ?hr ?_; (case hd | hg => rfl); (case hr => first | (go_simp; done) | (go_simp; rfl)); intro gb475 hg w3 hbox hb; have BK475 := am hbox; have GW475 := sG HB hg; have GE475 := sG HB hg; replace HB := bS HB hb; clear hb hbox hg) | ((with_reducible refine gate_dst (N := 3) rfl ?_); (try (refine gG (by rfl) ?_; dsimp only)); refine box_event ?hg (N := 3) ?hd (cs := #[.slice A1_0 l1_0.length c1_0, .slice A1_1 l1_1.length c1_1]) (t := 25) ?hr ?_; (case hd | hg => rfl); (case hr => first | (go_simp; done) | (go_simp; rfl)); intro gb476 hg w4 hbox hb; have BK476 := am hbox; have GW476 := sG HB hg; have GE476 := sG HB hg; replace HB := bS HB hb; have NB475_476 := nL BK475 hg; have NB476_475 := nG BK475 hg; replace BK475 := bB BK475 hb; clear hb hbox hg) | ((with_reducible refine gate_dst (N := 4) rfl ?_); (try (refine gG (by rfl) ?_; dsimp only)); refine box_event ?hg (N := 4) ?hd (cs := #[.slice none 0 0, .slice none 0 0]) (t := 25) ?hr ?_; (case hd | hg => rfl); (case hr => first | (go_simp; done) | (go_simp; rfl)); intro gb477 hg w5 hbox hb; have BK477 := am hbox; have GW477 := sG HB hg; have GE477 := sG HB hg; replace HB := bS HB hb; have NB475_477 := nL BK475 hg; have NB477_475 := nG BK475 hg; replace BK475 := bB BK475 hb; have NB476_477 := nL BK476 hg; have NB477_476 := nG BK476 hg; replace BK476 := bB BK476 hb; clear hb hbox hg) | ((with_reducible refine gate_dst (N := 6) rfl ?_); (try (refine gG (by rfl) ?_; dsimp only)); refine box_event ?hg (N := 6) ?hd (cs := #[.slice none 0 0, .slice none 0 0]) (t := 25) ?hr ?_; (case hd | hg => rfl); (case hr => first | (go_simp; done) | (go_simp; rfl)); intro gb478 hg w6 hbox hb; have BK478 := am hbox; have GW478 := sG HB hg; have GE478 := sG HB hg; replace HB := bS HB hb; have NB475_478 := nL BK475 hg; have NB478_475 := nG BK475 hg; replace BK475 := bB BK475 hb; have NB476_478 := nL BK476 hg; have NB478_476 := nG BK476 hg; replace BK476 := bB BK476 hb; have NB477_478 := nL BK477 hg; have NB478_477 := nG BK477 hg; replace BK477 := bB BK477 hb; clear hb hbox hg; have hnb7 := NB478_475.out; have hnc7 := NB475_478.out; have hnb8 := NB478_476.out; have hnc8 := NB476_478.out; have hnb9 := NB478_477.out; have hnc9 := NB477_478.out; obtain ⟨_, _, _, _⟩ := zC2 BK478))
 go_loopg [7] k (fun kq v7 w' => ∃ (x7_1 : Int) (x479000_1 : List (S54)) (u479000 : Value), v7 = .int .i64 x7_1 ∧ Aside0 (r_Common.l0 kq x7_1 l0_0 l0_1 l1_0 l1_1 x479000_1 = some (r1, r2, r3)) ∧ Aside0 (kq ≤ k) ∧ Aside0 (Kd.R k54 54 w' w.heap.size (fun _ => True) u479000 x479000_1) ∧ Aside0 (w'.heap[gb475]? = some (.cells #[(.slice A0_0 l0_0.length c0_0), (.slice A0_1 l0_1.length c0_1)] 25 (0, 0))) ∧ Aside0 (w'.heap[gb476]? = some (.cells #[(.slice A1_0 l1_0.length c1_0), (.slice A1_1 l1_1.length c1_1)] 25 (0, 0))) ∧ Aside0 (w'.heap[gb477]? = some (.cells #[(.slice none 0 0), (.slice none 0 0)] 25 (0, 0))) ∧ Aside0 (w'.heap[gb478]? = some (.cells #[u479000, (.slice none 0 0)] 25 (0, 0))) ∧ Aside0 (Below w.heap.size w w'))
 case atStart => exact ⟨(0), (([] : List (S54))), (.slice none 0 0), sqD, H', ⟨Nat.le_refl _⟩, ⟨by first | exact Kd.R_nil _ _ _ _ _ | exact Kd.N_nil _ _ _ _ _ | exact Kd.V_nil _ _ _ _ _ | exact Kd.Q_nil _ _ _ _ _ | exact Kd.S_nil _ _ _ _ _⟩, ⟨by (with_reducible repeat first | apply bN | apply bd | apply ba); refine bF ?_ NB475_478.out _; (with_reducible repeat first | apply bN | apply bd | apply ba); refine bF ?_ NB475_478.out _; (with_reducible repeat first | apply bN | apply bd | apply ba); exact BK475.out⟩, ⟨by (with_reducible repeat first | apply bN | apply bd | apply ba); refine bF ?_ NB476_478.out _; (with_reducible repeat first | apply bN | apply bd | apply ba); refine bF ?_ NB476_478.out _; (with_reducible repeat first | apply bN | apply bd | apply ba); exact BK476.out⟩, ⟨by (with_reducible repeat first | apply bN | apply bd | apply ba); refine bF ?_ NB477_478.out _; (with_reducible repeat first | apply bN | apply bd | apply ba); refine bF ?_ NB477_478.out _; (with_reducible repeat first | apply bN | apply bd | apply ba); exact BK477.out⟩, ⟨by (with_reducible repeat first | apply bN | apply bd | apply ba); refine bp (cs := #[.slice none 0 0, .slice none 0 0]) ?_ 1 _ rfl; (with_reducible repeat first | apply bN | apply bd | apply ba); refine bp (cs := #[.slice none 0 0, .slice none 0 0]) ?_ 0 _ rfl; (with_reducible repeat first | apply bN | apply bd | apply ba); exact BK478.out⟩, ⟨fW HB.out⟩⟩
 case round =>
  clear H'
  try clear c1;try clear p2;try clear c3;try clear c7;try clear c8;try clear c9
  obtain ⟨x7_1, x479000_1, u479000, rfl, HA, HK1, HO_479000, BK475, BK476, BK477, BK478, HB⟩ := hrel
  cases gk with
  | zero => exact absurd HA.out (by simp [r_Common.l0])
  | succ k1 =>
   have H := HA.out
   clear HA
   simp only [r_Common.l0] at H
   by_cases c11 : x7_1 < (l0_0.length : Int)
   ·rw [if_pos c11] at H
    have c11b0 : decide (x7_1 < (l0_0.length : Int)) = true := decide_eq_true c11
    clear c11
    have H' := am H
    clear H
    have hnb12 := NB475_476.out
    have hnc12 := NB476_475.out
    have hnb13 := NB475_477.out
    have hnc13 := NB477_475.out
    have hnb14 := NB475_478.out
    have hnc14 := NB478_475.out
    have := yC1 BK475
    have := kC1 BK475
    have := bf BK475.out 0
    have := bf BK475.out 1
    go_wp2
    go_loopg [8] k1 (fun kq v8 w' => ∃ (x8_2 : Int) (x479000_2 : List (S54)) (u479000 : Value), v8 = .int .i64 x8_2 ∧ Aside0 (r_Common.l1 kq x7_1 x8_2 l0_0 l0_1 l1_0 l1_1 x479000_2 = some (r1, r2, r3)) ∧ Aside0 (kq ≤ k1) ∧ Aside0 (Kd.R k54 54 w' w.heap.size (fun _ => True) u479000 x479000_2) ∧ Aside0 (w'.heap[gb475]? = some (.cells #[(.slice A0_0 l0_0.length c0_0), (.slice A0_1 l0_1.length c0_1)] 25 (0, 0))) ∧ Aside0 (w'.heap[gb476]? = some (.cells #[(.slice A1_0 l1_0.length c1_0), (.slice A1_1 l1_1.length c1_1)] 25 (0, 0))) ∧ Aside0 (w'.heap[gb477]? = some (.cells #[(.slice none 0 0), (.slice none 0 0)] 25 (0, 0))) ∧ Aside0 (w'.heap[gb478]? = some (.cells #[u479000, (.slice none 0 0)] 25 (0, 0))) ∧ Aside0 (Below w.heap.size w w'))
    case atStart => exact ⟨(0), (x479000_1), (u479000), sqD, H', ⟨Nat.le_refl _⟩, ⟨fR HO_479000.out⟩, ⟨fb BK475.out⟩, ⟨fb BK476.out⟩, ⟨fb BK477.out⟩, ⟨fb BK478.out⟩, ⟨fW HB.out⟩⟩
    case round =>
     clear H'
     try clear c1;try clear p2;try clear c3;try clear c7;try clear c8;try clear c9;try clear c11;try clear c11b0;try clear c12;try clear c13;try clear c14;try clear p2
     obtain ⟨x8_2, x479000_2, u479000, rfl, HA, HK2, HO_479000, BK475, BK476, BK477, BK478, HB⟩ := hrel
     cases gk with
     | zero => exact absurd HA.out (by simp [r_Common.l1])
     | succ k2 =>
      have H := HA.out
      clear HA
      simp only [r_Common.l1] at H
      by_cases c16 : x8_2 < (l1_0.length : Int)
      rotate_left
      ·rw [if_neg c16] at H
       have c16b0 : decide (x8_2 < (l1_0.length : Int)) = false := decide_eq_false c16
       clear c16
       have H' := am H
       clear H
       have hnb174 := NB476_475.out
       have hnc174 := NB475_476.out
       have hnb175 := NB476_477.out
       have hnc175 := NB477_476.out
       have hnb176 := NB476_478.out
       have hnc176 := NB478_476.out
       have := yC1 BK476
       have := kC1 BK476
       have := bf BK476.out 0
       have := bf BK476.out 1
       go_wp2
       go_roundg k2
       case measure => have := HK1.out; have := HK2.out; omega
       case rel => exact ⟨(wrap64 (x7_1 + 1)), (x479000_2), (u479000), sqD, H', ⟨by have := HK1.out; have := HK2.out; omega⟩, ⟨fR HO_479000.out⟩, ⟨fb BK475.out⟩, ⟨fb BK476.out⟩, ⟨fb BK477.out⟩, ⟨fb BK478.out⟩, ⟨fW HB.out⟩⟩
      rw [if_pos c16] at H
      have c16b0 : decide (x8_2 < (l1_0.length : Int)) = true := decide_eq_true c16
      clear c16
      by_cases c17 : 0 ≤ x7_1
      rotate_left
      ·rw [if_neg c17] at H
       exact absurd H (by simp)
      rw [if_pos c17] at H
      have c17b0 : decide (0 ≤ x7_1) = true := decide_eq_true c17
      clear c17
      by_cases c18 : x7_1 < (l0_0.length : Int)
      rotate_left
      ·rw [if_neg c18] at H
       exact absurd H (by simp)
      rw [if_pos c18] at H
      have c18b0 : decide (x7_1 < (l0_0.length : Int)) = true := decide_eq_true c18
      clear c18
      by_cases c19 : 0 ≤ x8_2
      rotate_left
      ·rw [if_neg c19] at H
       exact absurd H (by simp)
      rw [if_pos c19] at H
      have c19b0 : decide (0 ≤ x8_2) = true := decide_eq_true c19
      clear c19
      obtain ⟨ji20, hji20⟩ : ∃ j_ : Int, (mx ((rd_T54 l0_0 x7_1).f1) ((rd_T54 l1_0 x8_2).f1)) = j_ := ⟨_, rfl⟩
      replace H : (if ((rd_T54 l0_0 x7_1).f0) = ((rd_T54 l1_0 x8_2).f0) then (r_Common.j2 k2 x7_1 x8_2 (decide ((ji20) ≥ (mn ((rd_T54 l0_0 x7_1).f2) ((rd_T54 l1_0 x8_2).f2)))) l0_0 l0_1 l1_0 l1_1 x479000_2 ((rd_T54 l0_0 x7_1).f0) ji20 (mn ((rd_T54 l0_0 x7_1).f2) ((rd_T54 l1_0 x8_2).f2))) else (r_Common.j2 k2 x7_1 x8_2 true l0_0 l0_1 l1_0 l1_1 x479000_2 ((rd_T54 l0_0 x7_1).f0) ji20 (mn ((rd_T54 l0_0 x7_1).f2) ((rd_T54 l1_0 x8_2).f2)))) = some (r1, r2, r3) := by first | (rw [hji20] at H; exact H) | (simp only [hji20] at H ⊢; exact H)
      have hji20_ : (if ((rd_T54 l0_0 x7_1).f1) < ((rd_T54 l1_0 x8_2).f1) then ((rd_T54 l1_0 x8_2).f1) else ((rd_T54 l0_0 x7_1).f1)) = ji20 := hji20
      obtain ⟨ji21, hji21⟩ : ∃ j_ : Int, (mn ((rd_T54 l0_0 x7_1).f2) ((rd_T54 l1_0 x8_2).f2)) = j_ := ⟨_, rfl⟩
      replace H : (if ((rd_T54 l0_0 x7_1).f0) = ((rd_T54 l1_0 x8_2).f0) then (r_Common.j2 k2 x7_1 x8_2 (decide ((ji20) ≥ (ji21))) l0_0 l0_1 l1_0 l1_1 x479000_2 ((rd_T54 l0_0 x7_1).f0) ji20 ji21) else (r_Common.j2 k2 x7_1 x8_2 true l0_0 l0_1 l1_0 l1_1 x479000_2 ((rd_T54 l0_0 x7_1).f0) ji20 ji21)) = some (r1, r2, r3) := by first | (rw [hji21] at H; exact H) | (simp only [hji21] at H ⊢; exact H)
      have hji21_ : (if ((rd_T54 l1_0 x8_2).f2) < ((rd_T54 l0_0 x7_1).f2) then ((rd_T54 l1_0 x8_2).f2) else ((rd_T54 l0_0 x7_1).f2)) = ji21 := hji21
      have HC22 := am H
      clear H
      have hnb23 := NB476_475.out
      have hnc23 := NB475_476.out
      have hnb24 := NB476_477.out
      have hnc24 := NB477_476.out
      have hnb25 := NB476_478.out
      have hnc25 := NB478_476.out
      have := yC1 BK476
      have := kC1 BK476
      have := bf BK476.out 0
      have := bf BK476.out 1
      try go_wp2
      have n0_ := am (Kd.R_drew HO_479000.out)
      have n1_ := am (bd BK475.out)
      have n2_ := am (bd BK476.out)
      have n3_ := am (bd BK477.out)
      have n4_ := am (bd BK478.out)
      have n5_ := am (below_drew1 HB.out)
      clear HO_479000 BK475 BK476 BK477 BK478 HB
      have HO_479000 := n0_
      have BK475 := n1_
      have BK476 := n2_
      have BK477 := n3_
      have BK478 := n4_
      have HB := n5_
      clear n0_ n1_ n2_ n3_ n4_ n5_
      have p479 : 0 ≤ (x7_1 : Int) := of_decide_eq_true (by assumption)
      have q479 : x7_1 < (l0_0.length : Int) := of_decide_eq_true (by assumption)
      obtain ⟨ad479, e479, hx479_0, hx479_1, hx479_2⟩ := at_T54 HR0_0.out x7_1 p479 q479
      have hw479_2 := hx479_2
      have hw479_1 := hx479_1
      have hw479_0 := hx479_0
      cases e479
      replace hx479_0 := cl HB hx479_0
      replace hx479_1 := cl HB hx479_1
      replace hx479_2 := cl HB hx479_2
      replace p479 := eq_true p479
      replace q479 := eq_true q479
      have p480 : 0 ≤ (x8_2 : Int) := of_decide_eq_true (by assumption)
      have q480 : x8_2 < (l1_0.length : Int) := of_decide_eq_true (by assumption)
      obtain ⟨ad480, e480, hx480_0, hx480_1, hx480_2⟩ := at_T54 HR1_0.out x8_2 p480 q480
      have hw480_2 := hx480_2
      have hw480_1 := hx480_1
      have hw480_0 := hx480_0
      cases e480
      replace hx480_0 := cl HB hx480_0
      replace hx480_1 := cl HB hx480_1
      replace hx480_2 := cl HB hx480_2
      replace p480 := eq_true p480
      replace q480 := eq_true q480
      refine start_ (n := 14) (S := fun w' => w'.cell? ⟨gb475, 0, none⟩ = some (.slice (some ad479) l0_0.length c0_0) ∧ w'.cell? ⟨gb475, 1, none⟩ = some (.slice A0_1 l0_1.length c0_1) ∧ w'.cell? ⟨gb476, 0, none⟩ = some (.slice (some ad480) l1_0.length c1_0) ∧ w'.cell? ⟨gb476, 1, none⟩ = some (.slice A1_1 l1_1.length c1_1) ∧ w'.cell? (ad479.add ((x7_1).toNat * 3)) = some (.int .i64 ((rd_T54 l0_0 x7_1).f0)) ∧ w'.cell? ⟨(ad479.add ((x7_1).toNat * 3)).block, (ad479.add ((x7_1).toNat * 3)).off + 1, none⟩ = some (.int .i64 ((rd_T54 l0_0 x7_1).f1)) ∧ w'.cell? ⟨(ad479.add ((x7_1).toNat * 3)).block, (ad479.add ((x7_1).toNat * 3)).off + 2, none⟩ = some (.int .i64 ((rd_T54 l0_0 x7_1).f2)) ∧ w'.cell? (ad480.add ((x8_2).toNat * 3)) = some (.int .i64 ((rd_T54 l1_0 x8_2).f0)) ∧ w'.cell? ⟨(ad480.add ((x8_2).toNat * 3)).block, (ad480.add ((x8_2).toNat * 3)).off + 1, none⟩ = some (.int .i64 ((rd_T54 l1_0 x8_2).f1)) ∧ w'.cell? ⟨(ad480.add ((x8_2).toNat * 3)).block, (ad480.add ((x8_2).toNat * 3)).off + 2, none⟩ = some (.int .i64 ((rd_T54 l1_0 x8_2).f2))) (ds := []) #[F,F,F,F,F,F,F,F,F,F,F,F,F,F] (by kernel_rfl) rfl rfl ⟨(bc BK475.out 0).trans rfl, (bc BK475.out 1).trans rfl, (bc BK476.out 0).trans rfl, (bc BK476.out 1).trans rfl, ((HB.out.cell (bq w _ hw479_0)).trans hw479_0), ((HB.out.cell (bq w _ hw479_1)).trans hw479_1), ((HB.out.cell (bq w _ hw479_2)).trans hw479_2), ((HB.out.cell (bq w _ hw480_0)).trans hw480_0), ((HB.out.cell (bq w _ hw480_1)).trans hw480_1), ((HB.out.cell (bq w _ hw480_2)).trans hw480_2)⟩ (fun hHeld => ?_); refine with_tabW r_Common.tab8 r_Common.bits8 (fun HT_ HW_ => ?_)
      generalize wr.drew = w27 at HO_479000 BK475 BK476 BK477 BK478 HB hx479_0 hx479_1 hx479_2 hx480_0 hx480_1 hx480_2 hHeld ⊢
      refine pu (i := 0) (N := some 29) (fl 14 1 []) HT_ ?_
      refine pu (i := 2) (N := some 31) (fl 14 1 [2]) HT_ ?_
      refine pu (i := 5) (N := some 34) (fl 14 1 [2, 5]) HT_ ?_
      refine pu (i := 7) (N := some 36) (fl 14 1 [2, 5, 7]) HT_ ?_
      refine tk (i := 1) (N := some 30) (fl 14 3 [5, 7]) HT_ HW_ hHeld ?_
      refine pu (i := 3) (N := some 32) (fl 14 4 [5, 7]) HT_ ?_
      refine tk (i := 4) (N := some 33) (fl 14 6 [7]) HT_ HW_ hHeld ?_
      refine tk (i := 6) (N := some 35) (fl 14 8 []) HT_ HW_ hHeld ?_
      refine pu (i := 8) (N := some 37) (fl 14 9 []) HT_ ?_
      refine tk (i := 9) (N := some 38) (fl 14 10 []) HT_ HW_ hHeld ?_
      refine join_ (σ := Nat × Nat) 2 #[T,T,T,T,T,T,T,T,T,T,T,T,F,F] (fun s_ => [(9, .pointer (some ⟨s_.1, 0, none⟩)), (10, .pointer (some ⟨s_.2, 0, none⟩))]) (fun s_ w' => (w'.cell? ⟨gb475, 0, none⟩ = some (.slice (some ad479) l0_0.length c0_0) ∧ w'.cell? ⟨gb475, 1, none⟩ = some (.slice A0_1 l0_1.length c0_1) ∧ w'.cell? ⟨gb476, 0, none⟩ = some (.slice (some ad480) l1_0.length c1_0) ∧ w'.cell? ⟨gb476, 1, none⟩ = some (.slice A1_1 l1_1.length c1_1) ∧ w'.cell? (ad479.add ((x7_1).toNat * 3)) = some (.int .i64 ((rd_T54 l0_0 x7_1).f0)) ∧ w'.cell? ⟨(ad479.add ((x7_1).toNat * 3)).block, (ad479.add ((x7_1).toNat * 3)).off + 1, none⟩ = some (.int .i64 ((rd_T54 l0_0 x7_1).f1)) ∧ w'.cell? ⟨(ad479.add ((x7_1).toNat * 3)).block, (ad479.add ((x7_1).toNat * 3)).off + 2, none⟩ = some (.int .i64 ((rd_T54 l0_0 x7_1).f2)) ∧ w'.cell? (ad480.add ((x8_2).toNat * 3)) = some (.int .i64 ((rd_T54 l1_0 x8_2).f0)) ∧ w'.cell? ⟨(ad480.add ((x8_2).toNat * 3)).block, (ad480.add ((x8_2).toNat * 3)).off + 1, none⟩ = some (.int .i64 ((rd_T54 l1_0 x8_2).f1)) ∧ w'.cell? ⟨(ad480.add ((x8_2).toNat * 3)).block, (ad480.add ((x8_2).toNat * 3)).off + 2, none⟩ = some (.int .i64 ((rd_T54 l1_0 x8_2).f2))) ∧ (Kd.R k54 54 w' w.heap.size (fun k_ => k_ ≠ s_.1 ∧ k_ ≠ s_.2) u479000 x479000_2) ∧ (w'.heap[gb475]? = some (.cells #[.slice (some ad479) l0_0.length c0_0, .slice A0_1 l0_1.length c0_1] 25 (0, 0))) ∧ (w'.heap[gb476]? = some (.cells #[.slice (some ad480) l1_0.length c1_0, .slice A1_1 l1_1.length c1_1] 25 (0, 0))) ∧ (w'.heap[gb477]? = some (.cells #[.slice none 0 0, .slice none 0 0] 25 (0, 0))) ∧ (w'.heap[gb478]? = some (.cells #[u479000, .slice none 0 0] 25 (0, 0))) ∧ (w'.heap[s_.1]? = some (.cells #[.int .i64 0, .int .i64 0, .int .i64 0] 54 (0, 0))) ∧ (w'.heap[s_.2]? = some (.cells #[.int .i64 0, .int .i64 0, .int .i64 0] 54 (0, 0))) ∧ (w.heap.size ≤ s_.1) ∧ (w.heap.size ≤ s_.1) ∧ (gb475 ≠ s_.1) ∧ (s_.1 ≠ gb475) ∧ (gb476 ≠ s_.1) ∧ (s_.1 ≠ gb476) ∧ (gb477 ≠ s_.1) ∧ (s_.1 ≠ gb477) ∧ (gb478 ≠ s_.1) ∧ (s_.1 ≠ gb478) ∧ (s_.2 ≠ s_.1) ∧ (s_.1 ≠ s_.2) ∧ (w.heap.size ≤ s_.2) ∧ (w.heap.size ≤ s_.2) ∧ (gb475 ≠ s_.2) ∧ (s_.2 ≠ gb475) ∧ (gb476 ≠ s_.2) ∧ (s_.2 ≠ gb476) ∧ (gb477 ≠ s_.2) ∧ (s_.2 ≠ gb477) ∧ (gb478 ≠ s_.2) ∧ (s_.2 ≠ gb478) ∧ (Below w.heap.size w w')) ?_ ?_
      rotate_left
      ·intro hCont
       refine two_ (i := 10) (j := 11) (Ni := some 9) (Nj := some 10) #[T,T,T,T,T,T,T,T,T,T,T,F,F,F] (fl 14 10 [11]) rfl rfl rfl rfl (two_of HT_.out (by kernel_rfl)) (by decide) (by decide) (fun K hK => ?_) (fun K hK => ?_)
       ·skip
        refine box_step ?hg (N := 9) ?hd (cs := #[.int .i64 0, .int .i64 0, .int .i64 0]) (t := 54) ?hr ?_; (case hd | hg => rfl); (case hr => first | (go_simp; done) | (go_simp; rfl))
        intro gb481 hg w28 hbox hb
        have n0_ := eR HO_479000 hg hb
        have n1_ := bB BK475 hb
        have n2_ := bB BK476 hb
        have n3_ := bB BK477 hb
        have n4_ := bB BK478 hb
        have n5_ := bS HB hb
        have n6_ := am hbox
        have n7_ := sG HB hg
        have n8_ := sG HB hg
        have n9_ := nL BK475 hg
        have n10_ := nG BK475 hg
        have n11_ := nL BK476 hg
        have n12_ := nG BK476 hg
        have n13_ := nL BK477 hg
        have n14_ := nG BK477 hg
        have n15_ := nL BK478 hg
        have n16_ := nG BK478 hg
        clear HO_479000 BK475 BK476 BK477 BK478 HB
        have HO_479000 := n0_
        have BK475 := n1_
        have BK476 := n2_
        have BK477 := n3_
        have BK478 := n4_
        have HB := n5_
        have BK481 := n6_
        have GW481 := n7_
        have GE481 := n8_
        have NB475_481 := n9_
        have NB481_475 := n10_
        have NB476_481 := n11_
        have NB481_476 := n12_
        have NB477_481 := n13_
        have NB481_477 := n14_
        have NB478_481 := n15_
        have NB481_478 := n16_
        clear n0_ n1_ n2_ n3_ n4_ n5_ n6_ n7_ n8_ n9_ n10_ n11_ n12_ n13_ n14_ n15_ n16_ hb hbox hg
        refine hK.out _ _ ⟨(bc BK475.out 0).trans rfl, (bc BK475.out 1).trans rfl, (bc BK476.out 0).trans rfl, (bc BK476.out 1).trans rfl, ((HB.out.cell (bq w _ hw479_0)).trans hw479_0), ((HB.out.cell (bq w _ hw479_1)).trans hw479_1), ((HB.out.cell (bq w _ hw479_2)).trans hw479_2), ((HB.out.cell (bq w _ hw480_0)).trans hw480_0), ((HB.out.cell (bq w _ hw480_1)).trans hw480_1), ((HB.out.cell (bq w _ hw480_2)).trans hw480_2)⟩ (fun hHeld => ?_)
        clear hK K
        refine norm_ (a' := ?_) ?_ ?_
        rotate_left
        ·show Act.put _ (some 9) _ = _
         simp only [Act.put, psl, i64_w, i32_w]
         rfl
        refine one_ (i := 11) (N := some 10) (fl 14 12 []) rfl rfl (one_of HT_.out (by kernel_rfl)) (by decide) (fun K hK => ?_)
        refine box_step ?hg (N := 10) ?hd (cs := #[.int .i64 0, .int .i64 0, .int .i64 0]) (t := 54) ?hr ?_; (case hd | hg => rfl); (case hr => first | (go_simp; done) | (go_simp; rfl))
        intro gb482 hg w29 hbox hb
        have n0_ := eR HO_479000 hg hb
        have n1_ := bB BK475 hb
        have n2_ := bB BK476 hb
        have n3_ := bB BK477 hb
        have n4_ := bB BK478 hb
        have n5_ := bB BK481 hb
        have n6_ := bS HB hb
        have n7_ := am hbox
        have n8_ := sG HB hg
        have n9_ := sG HB hg
        have n10_ := nL BK475 hg
        have n11_ := nG BK475 hg
        have n12_ := nL BK476 hg
        have n13_ := nG BK476 hg
        have n14_ := nL BK477 hg
        have n15_ := nG BK477 hg
        have n16_ := nL BK478 hg
        have n17_ := nG BK478 hg
        have n18_ := nL BK481 hg
        have n19_ := nG BK481 hg
        clear HO_479000 BK475 BK476 BK477 BK478 BK481 HB
        have HO_479000 := n0_
        have BK475 := n1_
        have BK476 := n2_
        have BK477 := n3_
        have BK478 := n4_
        have BK481 := n5_
        have HB := n6_
        have BK482 := n7_
        have GW482 := n8_
        have GE482 := n9_
        have NB475_482 := n10_
        have NB482_475 := n11_
        have NB476_482 := n12_
        have NB482_476 := n13_
        have NB477_482 := n14_
        have NB482_477 := n15_
        have NB478_482 := n16_
        have NB482_478 := n17_
        have NB481_482 := n18_
        have NB482_481 := n19_
        clear n0_ n1_ n2_ n3_ n4_ n5_ n6_ n7_ n8_ n9_ n10_ n11_ n12_ n13_ n14_ n15_ n16_ n17_ n18_ n19_ hb hbox hg
        refine hK.out _ _ ⟨(bc BK475.out 0).trans rfl, (bc BK475.out 1).trans rfl, (bc BK476.out 0).trans rfl, (bc BK476.out 1).trans rfl, ((HB.out.cell (bq w _ hw479_0)).trans hw479_0), ((HB.out.cell (bq w _ hw479_1)).trans hw479_1), ((HB.out.cell (bq w _ hw479_2)).trans hw479_2), ((HB.out.cell (bq w _ hw480_0)).trans hw480_0), ((HB.out.cell (bq w _ hw480_1)).trans hw480_1), ((HB.out.cell (bq w _ hw480_2)).trans hw480_2)⟩ (fun hHeld => ?_)
        clear hK K
        refine norm_ (a' := ?_) ?_ ?_
        rotate_left
        ·show Act.put _ (some 10) _ = _
         simp only [Act.put, psl, i64_w, i32_w]
         rfl
        exact norm_ (by simp only [putAll, Act.put, psl]) (hCont (gb481, gb482) _ ⟨hHeld, (by (with_reducible repeat (first | apply Kd.R_alloc | apply Kd.R_drewN | apply Kd.R_drew)); exact Kd.R_mono HO_479000.out (fun _ hk => ⟨hk.1.2, hk.2⟩)), (fb BK475.out), (fb BK476.out), (fb BK477.out), (fb BK478.out), (fb BK481.out), (fb BK482.out), GW481.out, GE481.out, NB475_481.out, NB481_475.out, NB476_481.out, NB481_476.out, NB477_481.out, NB481_477.out, NB478_481.out, NB481_478.out, NB482_481.out, NB481_482.out, GW482.out, GE482.out, NB475_482.out, NB482_475.out, NB476_482.out, NB482_476.out, NB477_482.out, NB482_477.out, NB478_482.out, NB482_478.out, (fW HB.out)⟩)
       skip
       refine box_step ?hg (N := 10) ?hd (cs := #[.int .i64 0, .int .i64 0, .int .i64 0]) (t := 54) ?hr ?_; (case hd | hg => rfl); (case hr => first | (go_simp; done) | (go_simp; rfl))
       intro gb482 hg w28 hbox hb
       have n0_ := eR HO_479000 hg hb
       have n1_ := bB BK475 hb
       have n2_ := bB BK476 hb
       have n3_ := bB BK477 hb
       have n4_ := bB BK478 hb
       have n5_ := bS HB hb
       have n6_ := am hbox
       have n7_ := sG HB hg
       have n8_ := sG HB hg
       have n9_ := nL BK475 hg
       have n10_ := nG BK475 hg
       have n11_ := nL BK476 hg
       have n12_ := nG BK476 hg
       have n13_ := nL BK477 hg
       have n14_ := nG BK477 hg
       have n15_ := nL BK478 hg
       have n16_ := nG BK478 hg
       clear HO_479000 BK475 BK476 BK477 BK478 HB
       have HO_479000 := n0_
       have BK475 := n1_
       have BK476 := n2_
       have BK477 := n3_
       have BK478 := n4_
       have HB := n5_
       have BK482 := n6_
       have GW482 := n7_
       have GE482 := n8_
       have NB475_482 := n9_
       have NB482_475 := n10_
       have NB476_482 := n11_
       have NB482_476 := n12_
       have NB477_482 := n13_
       have NB482_477 := n14_
       have NB478_482 := n15_
       have NB482_478 := n16_
       clear n0_ n1_ n2_ n3_ n4_ n5_ n6_ n7_ n8_ n9_ n10_ n11_ n12_ n13_ n14_ n15_ n16_ hb hbox hg
       refine hK.out _ _ ⟨(bc BK475.out 0).trans rfl, (bc BK475.out 1).trans rfl, (bc BK476.out 0).trans rfl, (bc BK476.out 1).trans rfl, ((HB.out.cell (bq w _ hw479_0)).trans hw479_0), ((HB.out.cell (bq w _ hw479_1)).trans hw479_1), ((HB.out.cell (bq w _ hw479_2)).trans hw479_2), ((HB.out.cell (bq w _ hw480_0)).trans hw480_0), ((HB.out.cell (bq w _ hw480_1)).trans hw480_1), ((HB.out.cell (bq w _ hw480_2)).trans hw480_2)⟩ (fun hHeld => ?_)
       clear hK K
       refine norm_ (a' := ?_) ?_ ?_
       rotate_left
       ·show Act.put _ (some 10) _ = _
        simp only [Act.put, psl, i64_w, i32_w]
        rfl
       refine one_ (i := 10) (N := some 9) (fl 14 12 []) rfl rfl (one_of HT_.out (by kernel_rfl)) (by decide) (fun K hK => ?_)
       refine box_step ?hg (N := 9) ?hd (cs := #[.int .i64 0, .int .i64 0, .int .i64 0]) (t := 54) ?hr ?_; (case hd | hg => rfl); (case hr => first | (go_simp; done) | (go_simp; rfl))
       intro gb481 hg w29 hbox hb
       have n0_ := eR HO_479000 hg hb
       have n1_ := bB BK475 hb
       have n2_ := bB BK476 hb
       have n3_ := bB BK477 hb
       have n4_ := bB BK478 hb
       have n5_ := bB BK482 hb
       have n6_ := bS HB hb
       have n7_ := am hbox
       have n8_ := sG HB hg
       have n9_ := sG HB hg
       have n10_ := nL BK475 hg
       have n11_ := nG BK475 hg
       have n12_ := nL BK476 hg
       have n13_ := nG BK476 hg
       have n14_ := nL BK477 hg
       have n15_ := nG BK477 hg
       have n16_ := nL BK478 hg
       have n17_ := nG BK478 hg
       have n18_ := nL BK482 hg
       have n19_ := nG BK482 hg
       clear HO_479000 BK475 BK476 BK477 BK478 BK482 HB
       have HO_479000 := n0_
       have BK475 := n1_
       have BK476 := n2_
       have BK477 := n3_
       have BK478 := n4_
       have BK482 := n5_
       have HB := n6_
       have BK481 := n7_
       have GW481 := n8_
       have GE481 := n9_
       have NB475_481 := n10_
       have NB481_475 := n11_
       have NB476_481 := n12_
       have NB481_476 := n13_
       have NB477_481 := n14_
       have NB481_477 := n15_
       have NB478_481 := n16_
       have NB481_478 := n17_
       have NB482_481 := n18_
       have NB481_482 := n19_
       clear n0_ n1_ n2_ n3_ n4_ n5_ n6_ n7_ n8_ n9_ n10_ n11_ n12_ n13_ n14_ n15_ n16_ n17_ n18_ n19_ hb hbox hg
       refine hK.out _ _ ⟨(bc BK475.out 0).trans rfl, (bc BK475.out 1).trans rfl, (bc BK476.out 0).trans rfl, (bc BK476.out 1).trans rfl, ((HB.out.cell (bq w _ hw479_0)).trans hw479_0), ((HB.out.cell (bq w _ hw479_1)).trans hw479_1), ((HB.out.cell (bq w _ hw479_2)).trans hw479_2), ((HB.out.cell (bq w _ hw480_0)).trans hw480_0), ((HB.out.cell (bq w _ hw480_1)).trans hw480_1), ((HB.out.cell (bq w _ hw480_2)).trans hw480_2)⟩ (fun hHeld => ?_)
       clear hK K
       refine norm_ (a' := ?_) ?_ ?_
       rotate_left
       ·show Act.put _ (some 9) _ = _
        simp only [Act.put, psl, i64_w, i32_w]
        rfl
       exact norm_ (by simp only [putAll, Act.put, psl]) (hCont (gb481, gb482) _ ⟨hHeld, (by (with_reducible repeat (first | apply Kd.R_alloc | apply Kd.R_drewN | apply Kd.R_drew)); exact Kd.R_mono HO_479000.out (fun _ hk => ⟨hk.2, hk.1.2⟩)), (fb BK475.out), (fb BK476.out), (fb BK477.out), (fb BK478.out), (fb BK481.out), (fb BK482.out), GW481.out, GE481.out, NB475_481.out, NB481_475.out, NB476_481.out, NB481_476.out, NB477_481.out, NB481_477.out, NB478_481.out, NB481_478.out, NB482_481.out, NB481_482.out, GW482.out, GE482.out, NB475_482.out, NB482_475.out, NB476_482.out, NB482_476.out, NB477_482.out, NB482_477.out, NB478_482.out, NB482_478.out, (fW HB.out)⟩)
      rintro ⟨gb481, gb482⟩ w30 ⟨hS_, h0_, h1_, h2_, h3_, h4_, h5_, h6_, h7_, h8_, h9_, h10_, h11_, h12_, h13_, h14_, h15_, h16_, h17_, h18_, h19_, h20_, h21_, h22_, h23_, h24_, h25_, h26_, h27_, h28_, h29_⟩
      have n0_ : Aside0 (Kd.R k54 54 w30 w.heap.size (fun k_ => k_ ≠ gb481 ∧ k_ ≠ gb482) u479000 x479000_2) := ⟨h0_⟩
      have n1_ : Aside0 (w30.heap[gb475]? = some (.cells #[.slice (some ad479) l0_0.length c0_0, .slice A0_1 l0_1.length c0_1] 25 (0, 0))) := ⟨h1_⟩
      have n2_ : Aside0 (w30.heap[gb476]? = some (.cells #[.slice (some ad480) l1_0.length c1_0, .slice A1_1 l1_1.length c1_1] 25 (0, 0))) := ⟨h2_⟩
      have n3_ : Aside0 (w30.heap[gb477]? = some (.cells #[.slice none 0 0, .slice none 0 0] 25 (0, 0))) := ⟨h3_⟩
      have n4_ : Aside0 (w30.heap[gb478]? = some (.cells #[u479000, .slice none 0 0] 25 (0, 0))) := ⟨h4_⟩
      have n5_ : Aside0 (w30.heap[gb481]? = some (.cells #[.int .i64 0, .int .i64 0, .int .i64 0] 54 (0, 0))) := ⟨h5_⟩
      have n6_ : Aside0 (w30.heap[gb482]? = some (.cells #[.int .i64 0, .int .i64 0, .int .i64 0] 54 (0, 0))) := ⟨h6_⟩
      have n7_ : Aside0 (w.heap.size ≤ gb481) := ⟨h7_⟩
      have n8_ : Aside0 (w.heap.size ≤ gb481) := ⟨h8_⟩
      have n9_ : Aside0 (gb475 ≠ gb481) := ⟨h9_⟩
      have n10_ : Aside0 (gb481 ≠ gb475) := ⟨h10_⟩
      have n11_ : Aside0 (gb476 ≠ gb481) := ⟨h11_⟩
      have n12_ : Aside0 (gb481 ≠ gb476) := ⟨h12_⟩
      have n13_ : Aside0 (gb477 ≠ gb481) := ⟨h13_⟩
      have n14_ : Aside0 (gb481 ≠ gb477) := ⟨h14_⟩
      have n15_ : Aside0 (gb478 ≠ gb481) := ⟨h15_⟩
      have n16_ : Aside0 (gb481 ≠ gb478) := ⟨h16_⟩
      have n17_ : Aside0 (gb482 ≠ gb481) := ⟨h17_⟩
      have n18_ : Aside0 (gb481 ≠ gb482) := ⟨h18_⟩
      have n19_ : Aside0 (w.heap.size ≤ gb482) := ⟨h19_⟩
      have n20_ : Aside0 (w.heap.size ≤ gb482) := ⟨h20_⟩
      have n21_ : Aside0 (gb475 ≠ gb482) := ⟨h21_⟩
      have n22_ : Aside0 (gb482 ≠ gb475) := ⟨h22_⟩
      have n23_ : Aside0 (gb476 ≠ gb482) := ⟨h23_⟩
      have n24_ : Aside0 (gb482 ≠ gb476) := ⟨h24_⟩
      have n25_ : Aside0 (gb477 ≠ gb482) := ⟨h25_⟩
      have n26_ : Aside0 (gb482 ≠ gb477) := ⟨h26_⟩
      have n27_ : Aside0 (gb478 ≠ gb482) := ⟨h27_⟩
      have n28_ : Aside0 (gb482 ≠ gb478) := ⟨h28_⟩
      have n29_ : Aside0 (Below w.heap.size w w30) := ⟨h29_⟩
      clear HO_479000 BK475 BK476 BK477 BK478 HB h0_ h1_ h2_ h3_ h4_ h5_ h6_ h7_ h8_ h9_ h10_ h11_ h12_ h13_ h14_ h15_ h16_ h17_ h18_ h19_ h20_ h21_ h22_ h23_ h24_ h25_ h26_ h27_ h28_ h29_
      have HO_479000 := n0_
      have BK475 := n1_
      have BK476 := n2_
      have BK477 := n3_
      have BK478 := n4_
      have BK481 := n5_
      have BK482 := n6_
      have GW481 := n7_
      have GE481 := n8_
      have NB475_481 := n9_
      have NB481_475 := n10_
      have NB476_481 := n11_
      have NB481_476 := n12_
      have NB477_481 := n13_
      have NB481_477 := n14_
      have NB478_481 := n15_
      have NB481_478 := n16_
      have NB482_481 := n17_
      have NB481_482 := n18_
      have GW482 := n19_
      have GE482 := n20_
      have NB475_482 := n21_
      have NB482_475 := n22_
      have NB476_482 := n23_
      have NB482_476 := n24_
      have NB477_482 := n25_
      have NB482_477 := n26_
      have NB478_482 := n27_
      have NB482_478 := n28_
      have HB := n29_
      clear n0_ n1_ n2_ n3_ n4_ n5_ n6_ n7_ n8_ n9_ n10_ n11_ n12_ n13_ n14_ n15_ n16_ n17_ n18_ n19_ n20_ n21_ n22_ n23_ n24_ n25_ n26_ n27_ n28_ n29_
      have hHeld : w30.cell? ⟨gb475, 0, none⟩ = some (.slice (some ad479) l0_0.length c0_0) ∧ w30.cell? ⟨gb475, 1, none⟩ = some (.slice A0_1 l0_1.length c0_1) ∧ w30.cell? ⟨gb476, 0, none⟩ = some (.slice (some ad480) l1_0.length c1_0) ∧ w30.cell? ⟨gb476, 1, none⟩ = some (.slice A1_1 l1_1.length c1_1) ∧ w30.cell? (ad479.add ((x7_1).toNat * 3)) = some (.int .i64 ((rd_T54 l0_0 x7_1).f0)) ∧ w30.cell? ⟨(ad479.add ((x7_1).toNat * 3)).block, (ad479.add ((x7_1).toNat * 3)).off + 1, none⟩ = some (.int .i64 ((rd_T54 l0_0 x7_1).f1)) ∧ w30.cell? ⟨(ad479.add ((x7_1).toNat * 3)).block, (ad479.add ((x7_1).toNat * 3)).off + 2, none⟩ = some (.int .i64 ((rd_T54 l0_0 x7_1).f2)) ∧ w30.cell? (ad480.add ((x8_2).toNat * 3)) = some (.int .i64 ((rd_T54 l1_0 x8_2).f0)) ∧ w30.cell? ⟨(ad480.add ((x8_2).toNat * 3)).block, (ad480.add ((x8_2).toNat * 3)).off + 1, none⟩ = some (.int .i64 ((rd_T54 l1_0 x8_2).f1)) ∧ w30.cell? ⟨(ad480.add ((x8_2).toNat * 3)).block, (ad480.add ((x8_2).toNat * 3)).off + 2, none⟩ = some (.int .i64 ((rd_T54 l1_0 x8_2).f2)) := hS_
      refine norm_ (a' := ?_) ?_ ?_
      rotate_left
      ·simp only [putAll, Act.put, psl]
       rfl
      refine one_ (i := 12) (N := none) (fl 14 13 []) rfl rfl (one_of HT_.out (by kernel_rfl)) (by decide) (fun K hK => ?_)
      have hs31 : w30.cell? ⟨gb481, 0, none⟩ = some (.int .i64 0) := (bc BK481.out 0).trans rfl
      have hfs31 := bf BK481.out 0
      have hns31_0 := NB475_481.out
      have hns31_1 := NB476_481.out
      have hns31_2 := NB477_481.out
      have hns31_3 := NB478_481.out
      have hns31_5 := NB482_481.out
      have hms31_0 := NB481_475.out
      have hms31_1 := NB481_476.out
      have hms31_2 := NB481_477.out
      have hms31_3 := NB481_478.out
      have hms31_5 := NB481_482.out
      have hs32 : w30.cell? ⟨gb481, 1, none⟩ = some (.int .i64 0) := (bc BK481.out 1).trans rfl
      have hfs32 := bf BK481.out 1
      have hns32_0 := NB475_481.out
      have hns32_1 := NB476_481.out
      have hns32_2 := NB477_481.out
      have hns32_3 := NB478_481.out
      have hns32_5 := NB482_481.out
      have hms32_0 := NB481_475.out
      have hms32_1 := NB481_476.out
      have hms32_2 := NB481_477.out
      have hms32_3 := NB481_478.out
      have hms32_5 := NB481_482.out
      have hs33 : w30.cell? ⟨gb481, 2, none⟩ = some (.int .i64 0) := (bc BK481.out 2).trans rfl
      have hfs33 := bf BK481.out 2
      have hns33_0 := NB475_481.out
      have hns33_1 := NB476_481.out
      have hns33_2 := NB477_481.out
      have hns33_3 := NB478_481.out
      have hns33_5 := NB482_481.out
      have hms33_0 := NB481_475.out
      have hms33_1 := NB481_476.out
      have hms33_2 := NB481_477.out
      have hms33_3 := NB481_478.out
      have hms33_5 := NB481_482.out
      refine skip_ (w1 := ?_) (by rfl) rfl ?_ ?_
      rotate_left
      ·go_simp
       rfl
      refine hK.out _ _ ⟨((cf (p := ⟨gb481, _, none⟩) NB475_481.out _).trans (((cf (p := ⟨gb481, _, none⟩) NB475_481.out _).trans (((cf (p := ⟨gb481, _, none⟩) NB475_481.out _).trans (hHeld.1)))))), ((cf (p := ⟨gb481, _, none⟩) NB475_481.out _).trans (((cf (p := ⟨gb481, _, none⟩) NB475_481.out _).trans (((cf (p := ⟨gb481, _, none⟩) NB475_481.out _).trans (hHeld.2.1)))))), ((cf (p := ⟨gb481, _, none⟩) NB476_481.out _).trans (((cf (p := ⟨gb481, _, none⟩) NB476_481.out _).trans (((cf (p := ⟨gb481, _, none⟩) NB476_481.out _).trans (hHeld.2.2.1)))))), ((cf (p := ⟨gb481, _, none⟩) NB476_481.out _).trans (((cf (p := ⟨gb481, _, none⟩) NB476_481.out _).trans (((cf (p := ⟨gb481, _, none⟩) NB476_481.out _).trans (hHeld.2.2.2.1)))))), ((cf (p := ⟨gb481, _, none⟩) (by first | exact Nat.ne_of_lt (Nat.lt_of_lt_of_le (by have := bq _ _ hw479_0; first | rwa [add_block] at this | exact this) GW481.out) | (rw [add_block]; exact Nat.ne_of_lt (Nat.lt_of_lt_of_le (by have := bq _ _ hw479_0; first | rwa [add_block] at this | exact this) GW481.out)) | (show (Addr.add _ _).block ≠ _; rw [add_block]; exact Nat.ne_of_lt (Nat.lt_of_lt_of_le (by have := bq _ _ hw479_0; first | rwa [add_block] at this | exact this) GW481.out)) | (dsimp only; exact Nat.ne_of_lt (Nat.lt_of_lt_of_le (by have := bq _ _ hw479_0; first | rwa [add_block] at this | exact this) GW481.out))) _).trans (((cf (p := ⟨gb481, _, none⟩) (by first | exact Nat.ne_of_lt (Nat.lt_of_lt_of_le (by have := bq _ _ hw479_0; first | rwa [add_block] at this | exact this) GW481.out) | (rw [add_block]; exact Nat.ne_of_lt (Nat.lt_of_lt_of_le (by have := bq _ _ hw479_0; first | rwa [add_block] at this | exact this) GW481.out)) | (show (Addr.add _ _).block ≠ _; rw [add_block]; exact Nat.ne_of_lt (Nat.lt_of_lt_of_le (by have := bq _ _ hw479_0; first | rwa [add_block] at this | exact this) GW481.out)) | (dsimp only; exact Nat.ne_of_lt (Nat.lt_of_lt_of_le (by have := bq _ _ hw479_0; first | rwa [add_block] at this | exact this) GW481.out))) _).trans (((cf (p := ⟨gb481, _, none⟩) (by first | exact Nat.ne_of_lt (Nat.lt_of_lt_of_le (by have := bq _ _ hw479_0; first | rwa [add_block] at this | exact this) GW481.out) | (rw [add_block]; exact Nat.ne_of_lt (Nat.lt_of_lt_of_le (by have := bq _ _ hw479_0; first | rwa [add_block] at this | exact this) GW481.out)) | (show (Addr.add _ _).block ≠ _; rw [add_block]; exact Nat.ne_of_lt (Nat.lt_of_lt_of_le (by have := bq _ _ hw479_0; first | rwa [add_block] at this | exact this) GW481.out)) | (dsimp only; exact Nat.ne_of_lt (Nat.lt_of_lt_of_le (by have := bq _ _ hw479_0; first | rwa [add_block] at this | exact this) GW481.out))) _).trans (hHeld.2.2.2.2.1)))))), ((cf (p := ⟨gb481, _, none⟩) (by first | exact Nat.ne_of_lt (Nat.lt_of_lt_of_le (by have := bq _ _ hw479_1; first | rwa [add_block] at this | exact this) GW481.out) | (rw [add_block]; exact Nat.ne_of_lt (Nat.lt_of_lt_of_le (by have := bq _ _ hw479_1; first | rwa [add_block] at this | exact this) GW481.out)) | (show (Addr.add _ _).block ≠ _; rw [add_block]; exact Nat.ne_of_lt (Nat.lt_of_lt_of_le (by have := bq _ _ hw479_1; first | rwa [add_block] at this | exact this) GW481.out)) | (dsimp only; exact Nat.ne_of_lt (Nat.lt_of_lt_of_le (by have := bq _ _ hw479_1; first | rwa [add_block] at this | exact this) GW481.out))) _).trans (((cf (p := ⟨gb481, _, none⟩) (by first | exact Nat.ne_of_lt (Nat.lt_of_lt_of_le (by have := bq _ _ hw479_1; first | rwa [add_block] at this | exact this) GW481.out) | (rw [add_block]; exact Nat.ne_of_lt (Nat.lt_of_lt_of_le (by have := bq _ _ hw479_1; first | rwa [add_block] at this | exact this) GW481.out)) | (show (Addr.add _ _).block ≠ _; rw [add_block]; exact Nat.ne_of_lt (Nat.lt_of_lt_of_le (by have := bq _ _ hw479_1; first | rwa [add_block] at this | exact this) GW481.out)) | (dsimp only; exact Nat.ne_of_lt (Nat.lt_of_lt_of_le (by have := bq _ _ hw479_1; first | rwa [add_block] at this | exact this) GW481.out))) _).trans (((cf (p := ⟨gb481, _, none⟩) (by first | exact Nat.ne_of_lt (Nat.lt_of_lt_of_le (by have := bq _ _ hw479_1; first | rwa [add_block] at this | exact this) GW481.out) | (rw [add_block]; exact Nat.ne_of_lt (Nat.lt_of_lt_of_le (by have := bq _ _ hw479_1; first | rwa [add_block] at this | exact this) GW481.out)) | (show (Addr.add _ _).block ≠ _; rw [add_block]; exact Nat.ne_of_lt (Nat.lt_of_lt_of_le (by have := bq _ _ hw479_1; first | rwa [add_block] at this | exact this) GW481.out)) | (dsimp only; exact Nat.ne_of_lt (Nat.lt_of_lt_of_le (by have := bq _ _ hw479_1; first | rwa [add_block] at this | exact this) GW481.out))) _).trans (hHeld.2.2.2.2.2.1)))))), ((cf (p := ⟨gb481, _, none⟩) (by first | exact Nat.ne_of_lt (Nat.lt_of_lt_of_le (by have := bq _ _ hw479_2; first | rwa [add_block] at this | exact this) GW481.out) | (rw [add_block]; exact Nat.ne_of_lt (Nat.lt_of_lt_of_le (by have := bq _ _ hw479_2; first | rwa [add_block] at this | exact this) GW481.out)) | (show (Addr.add _ _).block ≠ _; rw [add_block]; exact Nat.ne_of_lt (Nat.lt_of_lt_of_le (by have := bq _ _ hw479_2; first | rwa [add_block] at this | exact this) GW481.out)) | (dsimp only; exact Nat.ne_of_lt (Nat.lt_of_lt_of_le (by have := bq _ _ hw479_2; first | rwa [add_block] at this | exact this) GW481.out))) _).trans (((cf (p := ⟨gb481, _, none⟩) (by first | exact Nat.ne_of_lt (Nat.lt_of_lt_of_le (by have := bq _ _ hw479_2; first | rwa [add_block] at this | exact this) GW481.out) | (rw [add_block]; exact Nat.ne_of_lt (Nat.lt_of_lt_of_le (by have := bq _ _ hw479_2; first | rwa [add_block] at this | exact this) GW481.out)) | (show (Addr.add _ _).block ≠ _; rw [add_block]; exact Nat.ne_of_lt (Nat.lt_of_lt_of_le (by have := bq _ _ hw479_2; first | rwa [add_block] at this | exact this) GW481.out)) | (dsimp only; exact Nat.ne_of_lt (Nat.lt_of_lt_of_le (by have := bq _ _ hw479_2; first | rwa [add_block] at this | exact this) GW481.out))) _).trans (((cf (p := ⟨gb481, _, none⟩) (by first | exact Nat.ne_of_lt (Nat.lt_of_lt_of_le (by have := bq _ _ hw479_2; first | rwa [add_block] at this | exact this) GW481.out) | (rw [add_block]; exact Nat.ne_of_lt (Nat.lt_of_lt_of_le (by have := bq _ _ hw479_2; first | rwa [add_block] at this | exact this) GW481.out)) | (show (Addr.add _ _).block ≠ _; rw [add_block]; exact Nat.ne_of_lt (Nat.lt_of_lt_of_le (by have := bq _ _ hw479_2; first | rwa [add_block] at this | exact this) GW481.out)) | (dsimp only; exact Nat.ne_of_lt (Nat.lt_of_lt_of_le (by have := bq _ _ hw479_2; first | rwa [add_block] at this | exact this) GW481.out))) _).trans (hHeld.2.2.2.2.2.2.1)))))), ((cf (p := ⟨gb481, _, none⟩) (by first | exact Nat.ne_of_lt (Nat.lt_of_lt_of_le (by have := bq _ _ hw480_0; first | rwa [add_block] at this | exact this) GW481.out) | (rw [add_block]; exact Nat.ne_of_lt (Nat.lt_of_lt_of_le (by have := bq _ _ hw480_0; first | rwa [add_block] at this | exact this) GW481.out)) | (show (Addr.add _ _).block ≠ _; rw [add_block]; exact Nat.ne_of_lt (Nat.lt_of_lt_of_le (by have := bq _ _ hw480_0; first | rwa [add_block] at this | exact this) GW481.out)) | (dsimp only; exact Nat.ne_of_lt (Nat.lt_of_lt_of_le (by have := bq _ _ hw480_0; first | rwa [add_block] at this | exact this) GW481.out))) _).trans (((cf (p := ⟨gb481, _, none⟩) (by first | exact Nat.ne_of_lt (Nat.lt_of_lt_of_le (by have := bq _ _ hw480_0; first | rwa [add_block] at this | exact this) GW481.out) | (rw [add_block]; exact Nat.ne_of_lt (Nat.lt_of_lt_of_le (by have := bq _ _ hw480_0; first | rwa [add_block] at this | exact this) GW481.out)) | (show (Addr.add _ _).block ≠ _; rw [add_block]; exact Nat.ne_of_lt (Nat.lt_of_lt_of_le (by have := bq _ _ hw480_0; first | rwa [add_block] at this | exact this) GW481.out)) | (dsimp only; exact Nat.ne_of_lt (Nat.lt_of_lt_of_le (by have := bq _ _ hw480_0; first | rwa [add_block] at this | exact this) GW481.out))) _).trans (((cf (p := ⟨gb481, _, none⟩) (by first | exact Nat.ne_of_lt (Nat.lt_of_lt_of_le (by have := bq _ _ hw480_0; first | rwa [add_block] at this | exact this) GW481.out) | (rw [add_block]; exact Nat.ne_of_lt (Nat.lt_of_lt_of_le (by have := bq _ _ hw480_0; first | rwa [add_block] at this | exact this) GW481.out)) | (show (Addr.add _ _).block ≠ _; rw [add_block]; exact Nat.ne_of_lt (Nat.lt_of_lt_of_le (by have := bq _ _ hw480_0; first | rwa [add_block] at this | exact this) GW481.out)) | (dsimp only; exact Nat.ne_of_lt (Nat.lt_of_lt_of_le (by have := bq _ _ hw480_0; first | rwa [add_block] at this | exact this) GW481.out))) _).trans (hHeld.2.2.2.2.2.2.2.1)))))), ((cf (p := ⟨gb481, _, none⟩) (by first | exact Nat.ne_of_lt (Nat.lt_of_lt_of_le (by have := bq _ _ hw480_1; first | rwa [add_block] at this | exact this) GW481.out) | (rw [add_block]; exact Nat.ne_of_lt (Nat.lt_of_lt_of_le (by have := bq _ _ hw480_1; first | rwa [add_block] at this | exact this) GW481.out)) | (show (Addr.add _ _).block ≠ _; rw [add_block]; exact Nat.ne_of_lt (Nat.lt_of_lt_of_le (by have := bq _ _ hw480_1; first | rwa [add_block] at this | exact this) GW481.out)) | (dsimp only; exact Nat.ne_of_lt (Nat.lt_of_lt_of_le (by have := bq _ _ hw480_1; first | rwa [add_block] at this | exact this) GW481.out))) _).trans (((cf (p := ⟨gb481, _, none⟩) (by first | exact Nat.ne_of_lt (Nat.lt_of_lt_of_le (by have := bq _ _ hw480_1; first | rwa [add_block] at this | exact this) GW481.out) | (rw [add_block]; exact Nat.ne_of_lt (Nat.lt_of_lt_of_le (by have := bq _ _ hw480_1; first | rwa [add_block] at this | exact this) GW481.out)) | (show (Addr.add _ _).block ≠ _; rw [add_block]; exact Nat.ne_of_lt (Nat.lt_of_lt_of_le (by have := bq _ _ hw480_1; first | rwa [add_block] at this | exact this) GW481.out)) | (dsimp only; exact Nat.ne_of_lt (Nat.lt_of_lt_of_le (by have := bq _ _ hw480_1; first | rwa [add_block] at this | exact this) GW481.out))) _).trans (((cf (p := ⟨gb481, _, none⟩) (by first | exact Nat.ne_of_lt (Nat.lt_of_lt_of_le (by have := bq _ _ hw480_1; first | rwa [add_block] at this | exact this) GW481.out) | (rw [add_block]; exact Nat.ne_of_lt (Nat.lt_of_lt_of_le (by have := bq _ _ hw480_1; first | rwa [add_block] at this | exact this) GW481.out)) | (show (Addr.add _ _).block ≠ _; rw [add_block]; exact Nat.ne_of_lt (Nat.lt_of_lt_of_le (by have := bq _ _ hw480_1; first | rwa [add_block] at this | exact this) GW481.out)) | (dsimp only; exact Nat.ne_of_lt (Nat.lt_of_lt_of_le (by have := bq _ _ hw480_1; first | rwa [add_block] at this | exact this) GW481.out))) _).trans (hHeld.2.2.2.2.2.2.2.2.1)))))), ((cf (p := ⟨gb481, _, none⟩) (by first | exact Nat.ne_of_lt (Nat.lt_of_lt_of_le (by have := bq _ _ hw480_2; first | rwa [add_block] at this | exact this) GW481.out) | (rw [add_block]; exact Nat.ne_of_lt (Nat.lt_of_lt_of_le (by have := bq _ _ hw480_2; first | rwa [add_block] at this | exact this) GW481.out)) | (show (Addr.add _ _).block ≠ _; rw [add_block]; exact Nat.ne_of_lt (Nat.lt_of_lt_of_le (by have := bq _ _ hw480_2; first | rwa [add_block] at this | exact this) GW481.out)) | (dsimp only; exact Nat.ne_of_lt (Nat.lt_of_lt_of_le (by have := bq _ _ hw480_2; first | rwa [add_block] at this | exact this) GW481.out))) _).trans (((cf (p := ⟨gb481, _, none⟩) (by first | exact Nat.ne_of_lt (Nat.lt_of_lt_of_le (by have := bq _ _ hw480_2; first | rwa [add_block] at this | exact this) GW481.out) | (rw [add_block]; exact Nat.ne_of_lt (Nat.lt_of_lt_of_le (by have := bq _ _ hw480_2; first | rwa [add_block] at this | exact this) GW481.out)) | (show (Addr.add _ _).block ≠ _; rw [add_block]; exact Nat.ne_of_lt (Nat.lt_of_lt_of_le (by have := bq _ _ hw480_2; first | rwa [add_block] at this | exact this) GW481.out)) | (dsimp only; exact Nat.ne_of_lt (Nat.lt_of_lt_of_le (by have := bq _ _ hw480_2; first | rwa [add_block] at this | exact this) GW481.out))) _).trans (((cf (p := ⟨gb481, _, none⟩) (by first | exact Nat.ne_of_lt (Nat.lt_of_lt_of_le (by have := bq _ _ hw480_2; first | rwa [add_block] at this | exact this) GW481.out) | (rw [add_block]; exact Nat.ne_of_lt (Nat.lt_of_lt_of_le (by have := bq _ _ hw480_2; first | rwa [add_block] at this | exact this) GW481.out)) | (show (Addr.add _ _).block ≠ _; rw [add_block]; exact Nat.ne_of_lt (Nat.lt_of_lt_of_le (by have := bq _ _ hw480_2; first | rwa [add_block] at this | exact this) GW481.out)) | (dsimp only; exact Nat.ne_of_lt (Nat.lt_of_lt_of_le (by have := bq _ _ hw480_2; first | rwa [add_block] at this | exact this) GW481.out))) _).trans (hHeld.2.2.2.2.2.2.2.2.2))))))⟩ (fun hHeld => ?_)
      clear hK K
      refine one_ (i := 13) (N := none) (fl 14 14 []) rfl rfl (one_of HT_.out (by kernel_rfl)) (by decide) (fun K hK => ?_)
      have hs34 : w30.cell? ⟨gb482, 0, none⟩ = some (.int .i64 0) := (bc BK482.out 0).trans rfl
      have hfs34 := bf BK482.out 0
      have hns34_0 := NB475_482.out
      have hns34_1 := NB476_482.out
      have hns34_2 := NB477_482.out
      have hns34_3 := NB478_482.out
      have hns34_4 := NB481_482.out
      have hms34_0 := NB482_475.out
      have hms34_1 := NB482_476.out
      have hms34_2 := NB482_477.out
      have hms34_3 := NB482_478.out
      have hms34_4 := NB482_481.out
      have hs35 : w30.cell? ⟨gb482, 1, none⟩ = some (.int .i64 0) := (bc BK482.out 1).trans rfl
      have hfs35 := bf BK482.out 1
      have hns35_0 := NB475_482.out
      have hns35_1 := NB476_482.out
      have hns35_2 := NB477_482.out
      have hns35_3 := NB478_482.out
      have hns35_4 := NB481_482.out
      have hms35_0 := NB482_475.out
      have hms35_1 := NB482_476.out
      have hms35_2 := NB482_477.out
      have hms35_3 := NB482_478.out
      have hms35_4 := NB482_481.out
      have hs36 : w30.cell? ⟨gb482, 2, none⟩ = some (.int .i64 0) := (bc BK482.out 2).trans rfl
      have hfs36 := bf BK482.out 2
      have hns36_0 := NB475_482.out
      have hns36_1 := NB476_482.out
      have hns36_2 := NB477_482.out
      have hns36_3 := NB478_482.out
      have hns36_4 := NB481_482.out
      have hms36_0 := NB482_475.out
      have hms36_1 := NB482_476.out
      have hms36_2 := NB482_477.out
      have hms36_3 := NB482_478.out
      have hms36_4 := NB482_481.out
      refine skip_ (w1 := ?_) (by rfl) rfl ?_ ?_
      rotate_left
      ·go_simp
       rfl
      refine hK.out _ _ ⟨((cf (p := ⟨gb482, _, none⟩) NB475_482.out _).trans (((cf (p := ⟨gb482, _, none⟩) NB475_482.out _).trans (((cf (p := ⟨gb482, _, none⟩) NB475_482.out _).trans (hHeld.1)))))), ((cf (p := ⟨gb482, _, none⟩) NB475_482.out _).trans (((cf (p := ⟨gb482, _, none⟩) NB475_482.out _).trans (((cf (p := ⟨gb482, _, none⟩) NB475_482.out _).trans (hHeld.2.1)))))), ((cf (p := ⟨gb482, _, none⟩) NB476_482.out _).trans (((cf (p := ⟨gb482, _, none⟩) NB476_482.out _).trans (((cf (p := ⟨gb482, _, none⟩) NB476_482.out _).trans (hHeld.2.2.1)))))), ((cf (p := ⟨gb482, _, none⟩) NB476_482.out _).trans (((cf (p := ⟨gb482, _, none⟩) NB476_482.out _).trans (((cf (p := ⟨gb482, _, none⟩) NB476_482.out _).trans (hHeld.2.2.2.1)))))), ((cf (p := ⟨gb482, _, none⟩) (by first | exact Nat.ne_of_lt (Nat.lt_of_lt_of_le (by have := bq _ _ hw479_0; first | rwa [add_block] at this | exact this) GW482.out) | (rw [add_block]; exact Nat.ne_of_lt (Nat.lt_of_lt_of_le (by have := bq _ _ hw479_0; first | rwa [add_block] at this | exact this) GW482.out)) | (show (Addr.add _ _).block ≠ _; rw [add_block]; exact Nat.ne_of_lt (Nat.lt_of_lt_of_le (by have := bq _ _ hw479_0; first | rwa [add_block] at this | exact this) GW482.out)) | (dsimp only; exact Nat.ne_of_lt (Nat.lt_of_lt_of_le (by have := bq _ _ hw479_0; first | rwa [add_block] at this | exact this) GW482.out))) _).trans (((cf (p := ⟨gb482, _, none⟩) (by first | exact Nat.ne_of_lt (Nat.lt_of_lt_of_le (by have := bq _ _ hw479_0; first | rwa [add_block] at this | exact this) GW482.out) | (rw [add_block]; exact Nat.ne_of_lt (Nat.lt_of_lt_of_le (by have := bq _ _ hw479_0; first | rwa [add_block] at this | exact this) GW482.out)) | (show (Addr.add _ _).block ≠ _; rw [add_block]; exact Nat.ne_of_lt (Nat.lt_of_lt_of_le (by have := bq _ _ hw479_0; first | rwa [add_block] at this | exact this) GW482.out)) | (dsimp only; exact Nat.ne_of_lt (Nat.lt_of_lt_of_le (by have := bq _ _ hw479_0; first | rwa [add_block] at this | exact this) GW482.out))) _).trans (((cf (p := ⟨gb482, _, none⟩) (by first | exact Nat.ne_of_lt (Nat.lt_of_lt_of_le (by have := bq _ _ hw479_0; first | rwa [add_block] at this | exact this) GW482.out) | (rw [add_block]; exact Nat.ne_of_lt (Nat.lt_of_lt_of_le (by have := bq _ _ hw479_0; first | rwa [add_block] at this | exact this) GW482.out)) | (show (Addr.add _ _).block ≠ _; rw [add_block]; exact Nat.ne_of_lt (Nat.lt_of_lt_of_le (by have := bq _ _ hw479_0; first | rwa [add_block] at this | exact this) GW482.out)) | (dsimp only; exact Nat.ne_of_lt (Nat.lt_of_lt_of_le (by have := bq _ _ hw479_0; first | rwa [add_block] at this | exact this) GW482.out))) _).trans (hHeld.2.2.2.2.1)))))), ((cf (p := ⟨gb482, _, none⟩) (by first | exact Nat.ne_of_lt (Nat.lt_of_lt_of_le (by have := bq _ _ hw479_1; first | rwa [add_block] at this | exact this) GW482.out) | (rw [add_block]; exact Nat.ne_of_lt (Nat.lt_of_lt_of_le (by have := bq _ _ hw479_1; first | rwa [add_block] at this | exact this) GW482.out)) | (show (Addr.add _ _).block ≠ _; rw [add_block]; exact Nat.ne_of_lt (Nat.lt_of_lt_of_le (by have := bq _ _ hw479_1; first | rwa [add_block] at this | exact this) GW482.out)) | (dsimp only; exact Nat.ne_of_lt (Nat.lt_of_lt_of_le (by have := bq _ _ hw479_1; first | rwa [add_block] at this | exact this) GW482.out))) _).trans (((cf (p := ⟨gb482, _, none⟩) (by first | exact Nat.ne_of_lt (Nat.lt_of_lt_of_le (by have := bq _ _ hw479_1; first | rwa [add_block] at this | exact this) GW482.out) | (rw [add_block]; exact Nat.ne_of_lt (Nat.lt_of_lt_of_le (by have := bq _ _ hw479_1; first | rwa [add_block] at this | exact this) GW482.out)) | (show (Addr.add _ _).block ≠ _; rw [add_block]; exact Nat.ne_of_lt (Nat.lt_of_lt_of_le (by have := bq _ _ hw479_1; first | rwa [add_block] at this | exact this) GW482.out)) | (dsimp only; exact Nat.ne_of_lt (Nat.lt_of_lt_of_le (by have := bq _ _ hw479_1; first | rwa [add_block] at this | exact this) GW482.out))) _).trans (((cf (p := ⟨gb482, _, none⟩) (by first | exact Nat.ne_of_lt (Nat.lt_of_lt_of_le (by have := bq _ _ hw479_1; first | rwa [add_block] at this | exact this) GW482.out) | (rw [add_block]; exact Nat.ne_of_lt (Nat.lt_of_lt_of_le (by have := bq _ _ hw479_1; first | rwa [add_block] at this | exact this) GW482.out)) | (show (Addr.add _ _).block ≠ _; rw [add_block]; exact Nat.ne_of_lt (Nat.lt_of_lt_of_le (by have := bq _ _ hw479_1; first | rwa [add_block] at this | exact this) GW482.out)) | (dsimp only; exact Nat.ne_of_lt (Nat.lt_of_lt_of_le (by have := bq _ _ hw479_1; first | rwa [add_block] at this | exact this) GW482.out))) _).trans (hHeld.2.2.2.2.2.1)))))), ((cf (p := ⟨gb482, _, none⟩) (by first | exact Nat.ne_of_lt (Nat.lt_of_lt_of_le (by have := bq _ _ hw479_2; first | rwa [add_block] at this | exact this) GW482.out) | (rw [add_block]; exact Nat.ne_of_lt (Nat.lt_of_lt_of_le (by have := bq _ _ hw479_2; first | rwa [add_block] at this | exact this) GW482.out)) | (show (Addr.add _ _).block ≠ _; rw [add_block]; exact Nat.ne_of_lt (Nat.lt_of_lt_of_le (by have := bq _ _ hw479_2; first | rwa [add_block] at this | exact this) GW482.out)) | (dsimp only; exact Nat.ne_of_lt (Nat.lt_of_lt_of_le (by have := bq _ _ hw479_2; first | rwa [add_block] at this | exact this) GW482.out))) _).trans (((cf (p := ⟨gb482, _, none⟩) (by first | exact Nat.ne_of_lt (Nat.lt_of_lt_of_le (by have := bq _ _ hw479_2; first | rwa [add_block] at this | exact this) GW482.out) | (rw [add_block]; exact Nat.ne_of_lt (Nat.lt_of_lt_of_le (by have := bq _ _ hw479_2; first | rwa [add_block] at this | exact this) GW482.out)) | (show (Addr.add _ _).block ≠ _; rw [add_block]; exact Nat.ne_of_lt (Nat.lt_of_lt_of_le (by have := bq _ _ hw479_2; first | rwa [add_block] at this | exact this) GW482.out)) | (dsimp only; exact Nat.ne_of_lt (Nat.lt_of_lt_of_le (by have := bq _ _ hw479_2; first | rwa [add_block] at this | exact this) GW482.out))) _).trans (((cf (p := ⟨gb482, _, none⟩) (by first | exact Nat.ne_of_lt (Nat.lt_of_lt_of_le (by have := bq _ _ hw479_2; first | rwa [add_block] at this | exact this) GW482.out) | (rw [add_block]; exact Nat.ne_of_lt (Nat.lt_of_lt_of_le (by have := bq _ _ hw479_2; first | rwa [add_block] at this | exact this) GW482.out)) | (show (Addr.add _ _).block ≠ _; rw [add_block]; exact Nat.ne_of_lt (Nat.lt_of_lt_of_le (by have := bq _ _ hw479_2; first | rwa [add_block] at this | exact this) GW482.out)) | (dsimp only; exact Nat.ne_of_lt (Nat.lt_of_lt_of_le (by have := bq _ _ hw479_2; first | rwa [add_block] at this | exact this) GW482.out))) _).trans (hHeld.2.2.2.2.2.2.1)))))), ((cf (p := ⟨gb482, _, none⟩) (by first | exact Nat.ne_of_lt (Nat.lt_of_lt_of_le (by have := bq _ _ hw480_0; first | rwa [add_block] at this | exact this) GW482.out) | (rw [add_block]; exact Nat.ne_of_lt (Nat.lt_of_lt_of_le (by have := bq _ _ hw480_0; first | rwa [add_block] at this | exact this) GW482.out)) | (show (Addr.add _ _).block ≠ _; rw [add_block]; exact Nat.ne_of_lt (Nat.lt_of_lt_of_le (by have := bq _ _ hw480_0; first | rwa [add_block] at this | exact this) GW482.out)) | (dsimp only; exact Nat.ne_of_lt (Nat.lt_of_lt_of_le (by have := bq _ _ hw480_0; first | rwa [add_block] at this | exact this) GW482.out))) _).trans (((cf (p := ⟨gb482, _, none⟩) (by first | exact Nat.ne_of_lt (Nat.lt_of_lt_of_le (by have := bq _ _ hw480_0; first | rwa [add_block] at this | exact this) GW482.out) | (rw [add_block]; exact Nat.ne_of_lt (Nat.lt_of_lt_of_le (by have := bq _ _ hw480_0; first | rwa [add_block] at this | exact this) GW482.out)) | (show (Addr.add _ _).block ≠ _; rw [add_block]; exact Nat.ne_of_lt (Nat.lt_of_lt_of_le (by have := bq _ _ hw480_0; first | rwa [add_block] at this | exact this) GW482.out)) | (dsimp only; exact Nat.ne_of_lt (Nat.lt_of_lt_of_le (by have := bq _ _ hw480_0; first | rwa [add_block] at this | exact this) GW482.out))) _).trans (((cf (p := ⟨gb482, _, none⟩) (by first | exact Nat.ne_of_lt (Nat.lt_of_lt_of_le (by have := bq _ _ hw480_0; first | rwa [add_block] at this | exact this) GW482.out) | (rw [add_block]; exact Nat.ne_of_lt (Nat.lt_of_lt_of_le (by have := bq _ _ hw480_0; first | rwa [add_block] at this | exact this) GW482.out)) | (show (Addr.add _ _).block ≠ _; rw [add_block]; exact Nat.ne_of_lt (Nat.lt_of_lt_of_le (by have := bq _ _ hw480_0; first | rwa [add_block] at this | exact this) GW482.out)) | (dsimp only; exact Nat.ne_of_lt (Nat.lt_of_lt_of_le (by have := bq _ _ hw480_0; first | rwa [add_block] at this | exact this) GW482.out))) _).trans (hHeld.2.2.2.2.2.2.2.1)))))), ((cf (p := ⟨gb482, _, none⟩) (by first | exact Nat.ne_of_lt (Nat.lt_of_lt_of_le (by have := bq _ _ hw480_1; first | rwa [add_block] at this | exact this) GW482.out) | (rw [add_block]; exact Nat.ne_of_lt (Nat.lt_of_lt_of_le (by have := bq _ _ hw480_1; first | rwa [add_block] at this | exact this) GW482.out)) | (show (Addr.add _ _).block ≠ _; rw [add_block]; exact Nat.ne_of_lt (Nat.lt_of_lt_of_le (by have := bq _ _ hw480_1; first | rwa [add_block] at this | exact this) GW482.out)) | (dsimp only; exact Nat.ne_of_lt (Nat.lt_of_lt_of_le (by have := bq _ _ hw480_1; first | rwa [add_block] at this | exact this) GW482.out))) _).trans (((cf (p := ⟨gb482, _, none⟩) (by first | exact Nat.ne_of_lt (Nat.lt_of_lt_of_le (by have := bq _ _ hw480_1; first | rwa [add_block] at this | exact this) GW482.out) | (rw [add_block]; exact Nat.ne_of_lt (Nat.lt_of_lt_of_le (by have := bq _ _ hw480_1; first | rwa [add_block] at this | exact this) GW482.out)) | (show (Addr.add _ _).block ≠ _; rw [add_block]; exact Nat.ne_of_lt (Nat.lt_of_lt_of_le (by have := bq _ _ hw480_1; first | rwa [add_block] at this | exact this) GW482.out)) | (dsimp only; exact Nat.ne_of_lt (Nat.lt_of_lt_of_le (by have := bq _ _ hw480_1; first | rwa [add_block] at this | exact this) GW482.out))) _).trans (((cf (p := ⟨gb482, _, none⟩) (by first | exact Nat.ne_of_lt (Nat.lt_of_lt_of_le (by have := bq _ _ hw480_1; first | rwa [add_block] at this | exact this) GW482.out) | (rw [add_block]; exact Nat.ne_of_lt (Nat.lt_of_lt_of_le (by have := bq _ _ hw480_1; first | rwa [add_block] at this | exact this) GW482.out)) | (show (Addr.add _ _).block ≠ _; rw [add_block]; exact Nat.ne_of_lt (Nat.lt_of_lt_of_le (by have := bq _ _ hw480_1; first | rwa [add_block] at this | exact this) GW482.out)) | (dsimp only; exact Nat.ne_of_lt (Nat.lt_of_lt_of_le (by have := bq _ _ hw480_1; first | rwa [add_block] at this | exact this) GW482.out))) _).trans (hHeld.2.2.2.2.2.2.2.2.1)))))), ((cf (p := ⟨gb482, _, none⟩) (by first | exact Nat.ne_of_lt (Nat.lt_of_lt_of_le (by have := bq _ _ hw480_2; first | rwa [add_block] at this | exact this) GW482.out) | (rw [add_block]; exact Nat.ne_of_lt (Nat.lt_of_lt_of_le (by have := bq _ _ hw480_2; first | rwa [add_block] at this | exact this) GW482.out)) | (show (Addr.add _ _).block ≠ _; rw [add_block]; exact Nat.ne_of_lt (Nat.lt_of_lt_of_le (by have := bq _ _ hw480_2; first | rwa [add_block] at this | exact this) GW482.out)) | (dsimp only; exact Nat.ne_of_lt (Nat.lt_of_lt_of_le (by have := bq _ _ hw480_2; first | rwa [add_block] at this | exact this) GW482.out))) _).trans (((cf (p := ⟨gb482, _, none⟩) (by first | exact Nat.ne_of_lt (Nat.lt_of_lt_of_le (by have := bq _ _ hw480_2; first | rwa [add_block] at this | exact this) GW482.out) | (rw [add_block]; exact Nat.ne_of_lt (Nat.lt_of_lt_of_le (by have := bq _ _ hw480_2; first | rwa [add_block] at this | exact this) GW482.out)) | (show (Addr.add _ _).block ≠ _; rw [add_block]; exact Nat.ne_of_lt (Nat.lt_of_lt_of_le (by have := bq _ _ hw480_2; first | rwa [add_block] at this | exact this) GW482.out)) | (dsimp only; exact Nat.ne_of_lt (Nat.lt_of_lt_of_le (by have := bq _ _ hw480_2; first | rwa [add_block] at this | exact this) GW482.out))) _).trans (((cf (p := ⟨gb482, _, none⟩) (by first | exact Nat.ne_of_lt (Nat.lt_of_lt_of_le (by have := bq _ _ hw480_2; first | rwa [add_block] at this | exact this) GW482.out) | (rw [add_block]; exact Nat.ne_of_lt (Nat.lt_of_lt_of_le (by have := bq _ _ hw480_2; first | rwa [add_block] at this | exact this) GW482.out)) | (show (Addr.add _ _).block ≠ _; rw [add_block]; exact Nat.ne_of_lt (Nat.lt_of_lt_of_le (by have := bq _ _ hw480_2; first | rwa [add_block] at this | exact this) GW482.out)) | (dsimp only; exact Nat.ne_of_lt (Nat.lt_of_lt_of_le (by have := bq _ _ hw480_2; first | rwa [add_block] at this | exact this) GW482.out))) _).trans (hHeld.2.2.2.2.2.2.2.2.2))))))⟩ (fun hHeld => ?_)
      clear hK K
      refine done_ (done_of HT_.out (by kernel_rfl)) ?_
      have hnb37 := NB481_475.out
      have hnc37 := NB475_481.out
      have hnb38 := NB481_476.out
      have hnc38 := NB476_481.out
      have hnb39 := NB481_477.out
      have hnc39 := NB477_481.out
      have hnb40 := NB481_478.out
      have hnc40 := NB478_481.out
      have hnb41 := NB481_482.out
      have hnc41 := NB482_481.out
      have := yC1 BK481
      have := kC1 BK481
      have := kC2 BK481
      have := bf BK481.out 0
      have := bf BK481.out 1
      have := bf BK481.out 2
      have hnb43 := NB482_475.out
      have hnc43 := NB475_482.out
      have hnb44 := NB482_476.out
      have hnc44 := NB476_482.out
      have hnb45 := NB482_477.out
      have hnc45 := NB477_482.out
      have hnb46 := NB482_478.out
      have hnc46 := NB478_482.out
      have := yC1 BK482
      have := kC1 BK482
      have := kC2 BK482
      have := bf BK482.out 0
      have := bf BK482.out 1
      have := bf BK482.out 2
      go_upto_region 10 with (first | ((with_reducible refine gate_dst (N := 11) rfl ?_); (try (refine gG (by rfl) ?_; dsimp only)); refine box_event ?hg (N := 11) ?hd (cs := #[.int .i64 0, .int .i64 0, .int .i64 0]) (t := 54) ?hr ?_; (case hd | hg => rfl); (case hr => first | (go_simp; done) | (go_simp; rfl)); intro gb483 hg w48 hbox hb; replace HO_479000 := am (Kd.R_below (Kd.R_elderB (by (with_reducible repeat (first | apply Kd.R_alloc | apply Kd.R_drewN | apply Kd.R_drew)); exact (Kd.R_mono (Kd.R_mono (Kd.R_far (p := ⟨gb482, 2, none⟩) (Kd.R_far (p := ⟨gb482, 1, none⟩) (Kd.R_far (p := ⟨gb482, 0, none⟩) (Kd.R_far (p := ⟨gb481, 2, none⟩) (Kd.R_far (p := ⟨gb481, 1, none⟩) (Kd.R_far (p := ⟨gb481, 0, none⟩) (Kd.R_mono (Kd.R_mono HO_479000.out (fun k_ hk => (⟨hk, hk.1⟩ : _ ∧ k_ ≠ gb481))) (fun k_ hk => (⟨hk, hk.1.2⟩ : _ ∧ k_ ≠ gb482))) (fun _ hk => hk.1.2) (.int .i64 ((rd_T54 l0_0 x7_1).f0))) (fun _ hk => hk.1.2) (.int .i64 ((rd_T54 l0_0 x7_1).f1))) (fun _ hk => hk.1.2) (.int .i64 ((rd_T54 l0_0 x7_1).f2))) (fun _ hk => hk.2) (.int .i64 ((rd_T54 l1_0 x8_2).f0))) (fun _ hk => hk.2) (.int .i64 ((rd_T54 l1_0 x8_2).f1))) (fun _ hk => hk.2) (.int .i64 ((rd_T54 l1_0 x8_2).f2))) (fun _ h_ => h_.1)) (fun _ h_ => h_.1))) gb483 (Nat.le_of_eq hg.symm)) hb); have BK483 := am hbox; have GW483 := sG HB hg; have GE483 := sG HB hg; replace HB := bS HB hb; replace BK475 := xC3 (kfC BK475.out) hg hb; obtain ⟨NB475_483, NB483_475, BK475⟩ := BK475; replace BK476 := xC3 (kfC BK476.out) hg hb; obtain ⟨NB476_483, NB483_476, BK476⟩ := BK476; replace BK477 := xC3 (kfC BK477.out) hg hb; obtain ⟨NB477_483, NB483_477, BK477⟩ := BK477; replace BK478 := xC3 (kfC BK478.out) hg hb; obtain ⟨NB478_483, NB483_478, BK478⟩ := BK478; replace BK481 := xC3 (o := .cells #[.int .i64 ((rd_T54 l0_0 x7_1).f0), .int .i64 ((rd_T54 l0_0 x7_1).f1), .int .i64 ((rd_T54 l0_0 x7_1).f2)] 54 (0, 0)) (kkC BK481.out) hg hb; obtain ⟨NB481_483, NB483_481, BK481⟩ := BK481; replace BK482 := xC3 (o := .cells #[.int .i64 ((rd_T54 l1_0 x8_2).f0), .int .i64 ((rd_T54 l1_0 x8_2).f1), .int .i64 ((rd_T54 l1_0 x8_2).f2)] 54 (0, 0)) (kkC BK482.out) hg hb; obtain ⟨NB482_483, NB483_482, BK482⟩ := BK482; clear hb hbox hg; have hnb49 := NB483_475.out; have hnc49 := NB475_483.out; have hnb50 := NB483_476.out; have hnc50 := NB476_483.out; have hnb51 := NB483_477.out; have hnc51 := NB477_483.out; have hnb52 := NB483_478.out; have hnc52 := NB478_483.out; have hnb53 := NB483_481.out; have hnc53 := NB481_483.out; have hnb54 := NB483_482.out; have hnc54 := NB482_483.out; obtain ⟨_, _, _, _, _, _⟩ := zC3 BK483))
      (try simp only [Act.put, psl])
      go_cut [63] (fun v63 wc => ∃ (kq : Nat) (x63_21 : Bool), v63 = .bool x63_21 ∧ Aside0 (r_Common.j2 kq x7_1 x8_2 x63_21 l0_0 l0_1 l1_0 l1_1 x479000_2 ((rd_T54 l0_0 x7_1).f0) ji20 ji21 = some (r1, r2, r3)) ∧ Aside0 (kq ≤ k2) ∧ Aside0 (Kd.R k54 54 wc w.heap.size (fun k_ => k_ ≠ gb481 ∧ k_ ≠ gb482 ∧ k_ ≠ gb483) u479000 x479000_2) ∧ Aside0 (wc.heap[gb475]? = some (.cells #[(.slice (some ad479) l0_0.length c0_0), (.slice A0_1 l0_1.length c0_1)] 25 (0, 0))) ∧ Aside0 (wc.heap[gb476]? = some (.cells #[(.slice (some ad480) l1_0.length c1_0), (.slice A1_1 l1_1.length c1_1)] 25 (0, 0))) ∧ Aside0 (wc.heap[gb477]? = some (.cells #[(.slice none 0 0), (.slice none 0 0)] 25 (0, 0))) ∧ Aside0 (wc.heap[gb478]? = some (.cells #[u479000, (.slice none 0 0)] 25 (0, 0))) ∧ Aside0 (wc.heap[gb481]? = some (.cells #[.int .i64 ((rd_T54 l0_0 x7_1).f0), .int .i64 ((rd_T54 l0_0 x7_1).f1), .int .i64 ((rd_T54 l0_0 x7_1).f2)] 54 (0, 0))) ∧ Aside0 (wc.heap[gb482]? = some (.cells #[.int .i64 ((rd_T54 l1_0 x8_2).f0), .int .i64 ((rd_T54 l1_0 x8_2).f1), .int .i64 ((rd_T54 l1_0 x8_2).f2)] 54 (0, 0))) ∧ Aside0 (wc.heap[gb483]? = some (.cells #[.int .i64 ((rd_T54 l0_0 x7_1).f0), .int .i64 ji20, .int .i64 ji21] 54 (0, 0))) ∧ Aside0 (Below w.heap.size w wc))
      case first =>
       have H := HC22.out
       clear HC22
       by_cases c56 : ((rd_T54 l0_0 x7_1).f0) = ((rd_T54 l1_0 x8_2).f0)
       rotate_left
       ·rw [if_neg c56] at H
        have c56b0 : (((rd_T54 l0_0 x7_1).f0) == ((rd_T54 l1_0 x8_2).f0)) = false := beq_eq_false_iff_ne.mpr c56
        have c56b1 : (((rd_T54 l0_0 x7_1).f0) != ((rd_T54 l1_0 x8_2).f0)) = true := bne_iff_ne.mpr c56
        (first | rw [c56b0] | (simp only [i64_w, i32_w]; rw [c56b0]) | skip)
        have H' := am H
        clear H
        have hnb75 := NB481_475.out
        have hnc75 := NB475_481.out
        have hnb76 := NB481_476.out
        have hnc76 := NB476_481.out
        have hnb77 := NB481_477.out
        have hnc77 := NB477_481.out
        have hnb78 := NB481_478.out
        have hnc78 := NB478_481.out
        have hnb79 := NB481_482.out
        have hnc79 := NB482_481.out
        have hnb80 := NB481_483.out
        have hnc80 := NB483_481.out
        have := yC1 BK481
        have := kC1 BK481
        have := kC2 BK481
        have := bf BK481.out 0
        have := bf BK481.out 1
        have := bf BK481.out 2
        have hnb82 := NB482_475.out
        have hnc82 := NB475_482.out
        have hnb83 := NB482_476.out
        have hnc83 := NB476_482.out
        have hnb84 := NB482_477.out
        have hnc84 := NB477_482.out
        have hnb85 := NB482_478.out
        have hnc85 := NB478_482.out
        have hnb86 := NB482_483.out
        have hnc86 := NB483_482.out
        have := yC1 BK482
        have := kC1 BK482
        have := kC2 BK482
        have := bf BK482.out 0
        have := bf BK482.out 1
        have := bf BK482.out 2
        go_wp2
        go_meet
        case rel => exact ⟨_, (true), sqD, H', ⟨by have := HK1.out; have := HK2.out; first | omega | exact Nat.le_refl _⟩, ⟨by (with_reducible repeat (first | apply Kd.R_alloc | apply Kd.R_drewN | apply Kd.R_drew)); exact Kd.R_mono (Kd.R_far (p := ⟨gb483, 2, none⟩) (Kd.R_far (p := ⟨gb483, 1, none⟩) (Kd.R_far (p := ⟨gb483, 0, none⟩) (Kd.R_mono HO_479000.out (fun k_ hk => (⟨hk, hk.2⟩ : _ ∧ k_ ≠ gb483))) (fun _ hk => hk.2) (.int .i64 ((rd_T54 l0_0 x7_1).f0))) (fun _ hk => hk.2) (.int .i64 ji20)) (fun _ hk => hk.2) (.int .i64 ji21)) (fun _ hk => ⟨hk.1.1.1, ⟨hk.1.1.2, hk.1.2⟩⟩)⟩, ⟨by (with_reducible repeat first | apply bN | apply bd | apply ba); refine bF ?_ NB475_483.out _; (with_reducible repeat first | apply bN | apply bd | apply ba); refine bF ?_ NB475_483.out _; (with_reducible repeat first | apply bN | apply bd | apply ba); refine bF ?_ NB475_483.out _; (with_reducible repeat first | apply bN | apply bd | apply ba); exact BK475.out⟩, ⟨by (with_reducible repeat first | apply bN | apply bd | apply ba); refine bF ?_ NB476_483.out _; (with_reducible repeat first | apply bN | apply bd | apply ba); refine bF ?_ NB476_483.out _; (with_reducible repeat first | apply bN | apply bd | apply ba); refine bF ?_ NB476_483.out _; (with_reducible repeat first | apply bN | apply bd | apply ba); exact BK476.out⟩, ⟨by (with_reducible repeat first | apply bN | apply bd | apply ba); refine bF ?_ NB477_483.out _; (with_reducible repeat first | apply bN | apply bd | apply ba); refine bF ?_ NB477_483.out _; (with_reducible repeat first | apply bN | apply bd | apply ba); refine bF ?_ NB477_483.out _; (with_reducible repeat first | apply bN | apply bd | apply ba); exact BK477.out⟩, ⟨by (with_reducible repeat first | apply bN | apply bd | apply ba); refine bF ?_ NB478_483.out _; (with_reducible repeat first | apply bN | apply bd | apply ba); refine bF ?_ NB478_483.out _; (with_reducible repeat first | apply bN | apply bd | apply ba); refine bF ?_ NB478_483.out _; (with_reducible repeat first | apply bN | apply bd | apply ba); exact BK478.out⟩, ⟨by (with_reducible repeat first | apply bN | apply bd | apply ba); refine bF ?_ NB481_483.out _; (with_reducible repeat first | apply bN | apply bd | apply ba); refine bF ?_ NB481_483.out _; (with_reducible repeat first | apply bN | apply bd | apply ba); refine bF ?_ NB481_483.out _; (with_reducible repeat first | apply bN | apply bd | apply ba); exact BK481.out⟩, ⟨by (with_reducible repeat first | apply bN | apply bd | apply ba); refine bF ?_ NB482_483.out _; (with_reducible repeat first | apply bN | apply bd | apply ba); refine bF ?_ NB482_483.out _; (with_reducible repeat first | apply bN | apply bd | apply ba); refine bF ?_ NB482_483.out _; (with_reducible repeat first | apply bN | apply bd | apply ba); exact BK482.out⟩, ⟨by (with_reducible repeat first | apply bN | apply bd | apply ba); refine bp (cs := #[.int .i64 ((rd_T54 l0_0 x7_1).f0), .int .i64 ji20, .int .i64 0]) ?_ 2 _ rfl; (with_reducible repeat first | apply bN | apply bd | apply ba); refine bp (cs := #[.int .i64 ((rd_T54 l0_0 x7_1).f0), .int .i64 0, .int .i64 0]) ?_ 1 _ rfl; (with_reducible repeat first | apply bN | apply bd | apply ba); refine bp (cs := #[.int .i64 0, .int .i64 0, .int .i64 0]) ?_ 0 _ rfl; (with_reducible repeat first | apply bN | apply bd | apply ba); exact BK483.out⟩, ⟨fW HB.out⟩⟩
       rw [if_pos c56] at H
       have c56b0 : (((rd_T54 l0_0 x7_1).f0) == ((rd_T54 l1_0 x8_2).f0)) = true := beq_iff_eq.mpr c56
       have c56b1 : (((rd_T54 l0_0 x7_1).f0) != ((rd_T54 l1_0 x8_2).f0)) = false := bne_eq_false_iff_eq.mpr c56
       clear c56
       (first | rw [c56b0] | (simp only [i64_w, i32_w]; rw [c56b0]) | skip)
       have H' := am H
       clear H
       have hnb57 := NB481_475.out
       have hnc57 := NB475_481.out
       have hnb58 := NB481_476.out
       have hnc58 := NB476_481.out
       have hnb59 := NB481_477.out
       have hnc59 := NB477_481.out
       have hnb60 := NB481_478.out
       have hnc60 := NB478_481.out
       have hnb61 := NB481_482.out
       have hnc61 := NB482_481.out
       have hnb62 := NB481_483.out
       have hnc62 := NB483_481.out
       have := yC1 BK481
       have := kC1 BK481
       have := kC2 BK481
       have := bf BK481.out 0
       have := bf BK481.out 1
       have := bf BK481.out 2
       have hnb64 := NB482_475.out
       have hnc64 := NB475_482.out
       have hnb65 := NB482_476.out
       have hnc65 := NB476_482.out
       have hnb66 := NB482_477.out
       have hnc66 := NB477_482.out
       have hnb67 := NB482_478.out
       have hnc67 := NB478_482.out
       have hnb68 := NB482_483.out
       have hnc68 := NB483_482.out
       have := yC1 BK482
       have := kC1 BK482
       have := kC2 BK482
       have := bf BK482.out 0
       have := bf BK482.out 1
       have := bf BK482.out 2
       have hnb70 := NB483_475.out
       have hnc70 := NB475_483.out
       have hnb71 := NB483_476.out
       have hnc71 := NB476_483.out
       have hnb72 := NB483_477.out
       have hnc72 := NB477_483.out
       have hnb73 := NB483_478.out
       have hnc73 := NB478_483.out
       have := yC1 BK483
       have := kC1 BK483
       have := kC2 BK483
       have := bf BK483.out 0
       have := bf BK483.out 1
       have := bf BK483.out 2
       go_wp2
       go_meet
       case rel => exact ⟨_, (decide ((ji20) ≥ (ji21))), (by first | rfl | (simp; done) | (simp only [← hji20, ← hji21] <;> (first | rfl | simp)) | (simp [*]; done)), H', ⟨by have := HK1.out; have := HK2.out; first | omega | exact Nat.le_refl _⟩, ⟨by (with_reducible repeat (first | apply Kd.R_alloc | apply Kd.R_drewN | apply Kd.R_drew)); exact Kd.R_mono (Kd.R_far (p := ⟨gb483, 2, none⟩) (Kd.R_far (p := ⟨gb483, 1, none⟩) (Kd.R_far (p := ⟨gb483, 0, none⟩) (Kd.R_mono HO_479000.out (fun k_ hk => (⟨hk, hk.2⟩ : _ ∧ k_ ≠ gb483))) (fun _ hk => hk.2) (.int .i64 ((rd_T54 l0_0 x7_1).f0))) (fun _ hk => hk.2) (.int .i64 ji20)) (fun _ hk => hk.2) (.int .i64 ji21)) (fun _ hk => ⟨hk.1.1.1, ⟨hk.1.1.2, hk.1.2⟩⟩)⟩, ⟨by (with_reducible repeat first | apply bN | apply bd | apply ba); refine bF ?_ NB475_483.out _; (with_reducible repeat first | apply bN | apply bd | apply ba); refine bF ?_ NB475_483.out _; (with_reducible repeat first | apply bN | apply bd | apply ba); refine bF ?_ NB475_483.out _; (with_reducible repeat first | apply bN | apply bd | apply ba); exact BK475.out⟩, ⟨by (with_reducible repeat first | apply bN | apply bd | apply ba); refine bF ?_ NB476_483.out _; (with_reducible repeat first | apply bN | apply bd | apply ba); refine bF ?_ NB476_483.out _; (with_reducible repeat first | apply bN | apply bd | apply ba); refine bF ?_ NB476_483.out _; (with_reducible repeat first | apply bN | apply bd | apply ba); exact BK476.out⟩, ⟨by (with_reducible repeat first | apply bN | apply bd | apply ba); refine bF ?_ NB477_483.out _; (with_reducible repeat first | apply bN | apply bd | apply ba); refine bF ?_ NB477_483.out _; (with_reducible repeat first | apply bN | apply bd | apply ba); refine bF ?_ NB477_483.out _; (with_reducible repeat first | apply bN | apply bd | apply ba); exact BK477.out⟩, ⟨by (with_reducible repeat first | apply bN | apply bd | apply ba); refine bF ?_ NB478_483.out _; (with_reducible repeat first | apply bN | apply bd | apply ba); refine bF ?_ NB478_483.out _; (with_reducible repeat first | apply bN | apply bd | apply ba); refine bF ?_ NB478_483.out _; (with_reducible repeat first | apply bN | apply bd | apply ba); exact BK478.out⟩, ⟨by (with_reducible repeat first | apply bN | apply bd | apply ba); refine bF ?_ NB481_483.out _; (with_reducible repeat first | apply bN | apply bd | apply ba); refine bF ?_ NB481_483.out _; (with_reducible repeat first | apply bN | apply bd | apply ba); refine bF ?_ NB481_483.out _; (with_reducible repeat first | apply bN | apply bd | apply ba); exact BK481.out⟩, ⟨by (with_reducible repeat first | apply bN | apply bd | apply ba); refine bF ?_ NB482_483.out _; (with_reducible repeat first | apply bN | apply bd | apply ba); refine bF ?_ NB482_483.out _; (with_reducible repeat first | apply bN | apply bd | apply ba); refine bF ?_ NB482_483.out _; (with_reducible repeat first | apply bN | apply bd | apply ba); exact BK482.out⟩, ⟨by (with_reducible repeat first | apply bN | apply bd | apply ba); refine bp (cs := #[.int .i64 ((rd_T54 l0_0 x7_1).f0), .int .i64 ji20, .int .i64 0]) ?_ 2 _ rfl; (with_reducible repeat first | apply bN | apply bd | apply ba); refine bp (cs := #[.int .i64 ((rd_T54 l0_0 x7_1).f0), .int .i64 0, .int .i64 0]) ?_ 1 _ rfl; (with_reducible repeat first | apply bN | apply bd | apply ba); refine bp (cs := #[.int .i64 0, .int .i64 0, .int .i64 0]) ?_ 0 _ rfl; (with_reducible repeat first | apply bN | apply bd | apply ba); exact BK483.out⟩, ⟨fW HB.out⟩⟩
      case rest =>
       clear HC22
       try clear c1;try clear p2;try clear c3;try clear c4;try clear c5;try clear c6;try clear c7;try clear c8;try clear c37;try clear c38;try clear c39;try clear c40;try clear c41;try clear c43;try clear c44;try clear c45;try clear c46;try clear c49;try clear c50;try clear c51;try clear c52;try clear c53;try clear c54;try clear c56;try clear c56b0;try clear c56b1;try clear c57;try clear c58;try clear c59;try clear c60;try clear c61;try clear c62;try clear c64;try clear c65;try clear c66;try clear c67;try clear c68;try clear c70;try clear c71;try clear c72;try clear c73;try clear c75;try clear c76;try clear c77;try clear c78;try clear c79;try clear c80;try clear c82;try clear c83;try clear c84;try clear c85;try clear c86
       obtain ⟨kq, x63_21, rfl, HA, HJ21, HO_479000, BK475, BK476, BK477, BK478, BK481, BK482, BK483, HB⟩ := hcut
       cases kq with
       | zero => exact absurd HA.out (by simp [r_Common.j2])
       | succ kj21 =>
        have H := HA.out
        clear HA
        simp only [r_Common.j2] at H
        by_cases c88 : x63_21 = true
        ·subst c88
         have H1 : (r_Common.l1 kj21 x7_1 (wrap64 (x8_2 + 1)) l0_0 l0_1 l1_0 l1_1 x479000_2) = some (r1, r2, r3) := by rw [if_pos rfl] at H; exact H
         clear H
         have H := H1
         clear H1
         have H' := am H
         clear H
         go_wp2
         go_roundg kj21
         case measure => have := HK1.out; have := HK2.out; have := HJ21.out; omega
         case rel => exact ⟨(wrap64 (x8_2 + 1)), (x479000_2), (u479000), sqD, H', ⟨by have := HK1.out; have := HK2.out; have := HJ21.out; omega⟩, ⟨by (with_reducible repeat (first | apply Kd.R_alloc | apply Kd.R_drewN | apply Kd.R_drew)); exact Kd.R_mono HO_479000.out (fun _ hk => trivial)⟩, ⟨fb BK475.out⟩, ⟨fb BK476.out⟩, ⟨fb BK477.out⟩, ⟨fb BK478.out⟩, ⟨fW HB.out⟩⟩
        replace c88 := Bool.eq_false_iff.mpr c88
        subst c88
        have H1 : (if (x479000_2.length : Int) > 0 then (if 0 ≤ (wrap64 ((x479000_2.length : Int) - 1)) then (if (wrap64 ((x479000_2.length : Int) - 1)) < (x479000_2.length : Int) then (if ((rd_T54 x479000_2 (wrap64 ((x479000_2.length : Int) - 1))).f0) = ((rd_T54 l0_0 x7_1).f0) then (if ((rd_T54 x479000_2 (wrap64 ((x479000_2.length : Int) - 1))).f2) = ji20 then (r_Common.l1 kj21 x7_1 (wrap64 (x8_2 + 1)) l0_0 l0_1 l1_0 l1_1 (x479000_2.set ((wrap64 ((x479000_2.length : Int) - 1)) : Int).toNat (⟨(rd_T54 x479000_2 (wrap64 ((x479000_2.length : Int) - 1))).f0, (rd_T54 x479000_2 (wrap64 ((x479000_2.length : Int) - 1))).f1, ji21⟩ : S54))) else (if x479000_2.length < 5864062014805 then (r_Common.l1 kj21 x7_1 (wrap64 (x8_2 + 1)) l0_0 l0_1 l1_0 l1_1 (x479000_2 ++ [(⟨((rd_T54 l0_0 x7_1).f0), ji20, ji21⟩ : S54)])) else (none))) else (if x479000_2.length < 5864062014805 then (r_Common.l1 kj21 x7_1 (wrap64 (x8_2 + 1)) l0_0 l0_1 l1_0 l1_1 (x479000_2 ++ [(⟨((rd_T54 l0_0 x7_1).f0), ji20, ji21⟩ : S54)])) else (none))) else (none)) else (none)) else (if x479000_2.length < 5864062014805 then (r_Common.l1 kj21 x7_1 (wrap64 (x8_2 + 1)) l0_0 l0_1 l1_0 l1_1 (x479000_2 ++ [(⟨((rd_T54 l0_0 x7_1).f0), ji20, ji21⟩ : S54)])) else (none))) = some (r1, r2, r3) := by rw [if_neg (show ¬ (false = true) by decide)] at H; exact H
        clear H
        have H := H1
        clear H1
        by_cases c89 : (x479000_2.length : Int) > 0
        rotate_left
        ·rw [if_neg c89] at H
         have c89b0 : decide (0 < (x479000_2.length : Int)) = false := decide_eq_false c89
         have c89b1 : decide (0 < x479000_2.length) = false := decide_eq_false (by omega)
         clear c89
         by_cases c154 : x479000_2.length < 5864062014805
         rotate_left
         ·rw [if_neg c154] at H
          exact absurd H (by simp)
         rw [if_pos c154] at H
         have LMc154 := am c154
         clear c154
         obtain ⟨y493, hy493⟩ : ∃ y_ : List (S54), y_ = (x479000_2 ++ [(⟨((rd_T54 l0_0 x7_1).f0), ji20, ji21⟩ : S54)]) := ⟨_, rfl⟩
         replace H : (r_Common.l1 kj21 x7_1 (wrap64 (x8_2 + 1)) l0_0 l0_1 l1_0 l1_1 y493) = some (r1, r2, r3) := by first | (rw [hy493]; with_reducible exact H) | (have H2_ := (Option.bind_some _ _).symm.trans H; rw [hy493]; with_reducible exact H2_) | (have H2_ := (Option.bind_some _ _).symm.trans H; with_reducible exact H2_) | with_reducible exact H | (rw [hy493]; exact H) | exact H
         have Ny493 := am hy493
         clear hy493
         have H' := am H
         clear H
         have hnb155 := NB478_475.out
         have hnc155 := NB475_478.out
         have hnb156 := NB478_476.out
         have hnc156 := NB476_478.out
         have hnb157 := NB478_477.out
         have hnc157 := NB477_478.out
         have hnb158 := NB478_481.out
         have hnc158 := NB481_478.out
         have hnb159 := NB478_482.out
         have hnc159 := NB482_478.out
         have hnb160 := NB478_483.out
         have hnc160 := NB483_478.out
         have := yC1 BK478
         have := kC1 BK478
         have := bf BK478.out 0
         have := bf BK478.out 1
         obtain ⟨Ao162, co162, eo162⟩ := Kd.R_slice HO_479000.out
         subst eo162
         try go_wp2
         have n0_ := am (Kd.R_drew HO_479000.out)
         have n1_ := am (bd BK475.out)
         have n2_ := am (bd BK476.out)
         have n3_ := am (bd BK477.out)
         have n4_ := am (bd BK478.out)
         have n5_ := am (bd BK481.out)
         have n6_ := am (bd BK482.out)
         have n7_ := am (bd BK483.out)
         have n8_ := am (below_drew1 HB.out)
         clear HO_479000 BK475 BK476 BK477 BK478 BK481 BK482 BK483 HB
         have HO_479000 := n0_
         have BK475 := n1_
         have BK476 := n2_
         have BK477 := n3_
         have BK478 := n4_
         have BK481 := n5_
         have BK482 := n6_
         have BK483 := n7_
         have HB := n8_
         clear n0_ n1_ n2_ n3_ n4_ n5_ n6_ n7_ n8_
         refine start_ (n := 26) (S := fun w' => True) (ds := []) #[F,F,F,F,F,F,F,F,F,F,F,F,F,F,F,F,F,F,F,F,F,F,F,F,F,F] (by kernel_rfl) rfl rfl trivial (fun hHeld => ?_); refine with_tabW r_Common.tab12 r_Common.bits12 (fun HT_ HW_ => ?_)
         generalize wc.drew = w163 at HO_479000 BK475 BK476 BK477 BK478 BK481 BK482 BK483 HB hHeld ⊢
         refine pu (i := 0) (N := some 67) (fl 26 1 []) HT_ ?_
         refine pu (i := 1) (N := some 68) (fl 26 2 []) HT_ ?_
         refine pu (i := 2) (N := some 69) (fl 26 3 []) HT_ ?_
         refine pure_ (i := 3) (N := some 70) (v := undef) (a' := ?_) #[T,T,T,T,F,F,F,F,F,F,F,F,F,F,F,F,F,F,F,F,F,F,F,F,F,F] rfl rfl (any_of HT_.out (by kernel_rfl)) (fun _ _ _ h => h) (Or.inr ⟨by rfl, rfl⟩) ?_ ?_
         rotate_left
         ·simp only [Act.put, psl, i64_w, i32_w]
          rfl
         refine pure_ (i := 4) (N := some 71) (v := undef) (a' := ?_) #[T,T,T,T,T,F,F,F,F,F,F,F,F,F,F,F,F,F,F,F,F,F,F,F,F,F] rfl rfl (any_of HT_.out (by kernel_rfl)) (fun _ _ _ h => h) (Or.inr ⟨by rfl, rfl⟩) ?_ ?_
         rotate_left
         ·simp only [Act.put, psl, i64_w, i32_w]
          rfl
         refine pure_ (i := 5) (N := some 72) (v := undef) (a' := ?_) #[T,T,T,T,T,T,F,F,F,F,F,F,F,F,F,F,F,F,F,F,F,F,F,F,F,F] rfl rfl (any_of HT_.out (by kernel_rfl)) (fun _ _ _ h => h) (Or.inr ⟨by rfl, rfl⟩) ?_ ?_
         rotate_left
         ·simp only [Act.put, psl, i64_w, i32_w]
          rfl
         refine pure_ (i := 6) (N := some 73) (v := undef) (a' := ?_) #[T,T,T,T,T,T,T,F,F,F,F,F,F,F,F,F,F,F,F,F,F,F,F,F,F,F] rfl rfl (any_of HT_.out (by kernel_rfl)) (fun _ _ _ h => h) (Or.inr ⟨by rfl, rfl⟩) ?_ ?_
         rotate_left
         ·simp only [Act.put, psl, i64_w, i32_w]
          rfl
         refine pure_ (i := 7) (N := some 74) (v := undef) (a' := ?_) #[T,T,T,T,T,T,T,T,F,F,F,F,F,F,F,F,F,F,F,F,F,F,F,F,F,F] rfl rfl (any_of HT_.out (by kernel_rfl)) (fun _ _ _ h => h) (Or.inr ⟨by rfl, rfl⟩) ?_ ?_
         rotate_left
         ·simp only [Act.put, psl, i64_w, i32_w]
          rfl
         refine pure_ (i := 8) (N := some 75) (v := undef) (a' := ?_) #[T,T,T,T,T,T,T,T,T,F,F,F,F,F,F,F,F,F,F,F,F,F,F,F,F,F] rfl rfl (any_of HT_.out (by kernel_rfl)) (fun _ _ _ h => h) (Or.inr ⟨by rfl, rfl⟩) ?_ ?_
         rotate_left
         ·simp only [Act.put, psl, i64_w, i32_w]
          rfl
         refine pure_ (i := 9) (N := some 76) (v := undef) (a' := ?_) #[T,T,T,T,T,T,T,T,T,T,F,F,F,F,F,F,F,F,F,F,F,F,F,F,F,F] rfl rfl (any_of HT_.out (by kernel_rfl)) (fun _ _ _ h => h) (Or.inr ⟨by rfl, rfl⟩) ?_ ?_
         rotate_left
         ·simp only [Act.put, psl, i64_w, i32_w]
          rfl
         refine pure_ (i := 10) (N := some 77) (v := undef) (a' := ?_) #[T,T,T,T,T,T,T,T,T,T,T,F,F,F,F,F,F,F,F,F,F,F,F,F,F,F] rfl rfl (any_of HT_.out (by kernel_rfl)) (fun _ _ _ h => h) (Or.inr ⟨by rfl, rfl⟩) ?_ ?_
         rotate_left
         ·simp only [Act.put, psl, i64_w, i32_w]
          rfl
         refine pure_ (i := 11) (N := some 78) (v := undef) (a' := ?_) #[T,T,T,T,T,T,T,T,T,T,T,T,F,F,F,F,F,F,F,F,F,F,F,F,F,F] rfl rfl (any_of HT_.out (by kernel_rfl)) (fun _ _ _ h => h) (Or.inr ⟨by rfl, rfl⟩) ?_ ?_
         rotate_left
         ·simp only [Act.put, psl, i64_w, i32_w]
          rfl
         refine pure_ (i := 12) (N := some 79) (v := undef) (a' := ?_) #[T,T,T,T,T,T,T,T,T,T,T,T,T,F,F,F,F,F,F,F,F,F,F,F,F,F] rfl rfl (any_of HT_.out (by kernel_rfl)) (fun _ _ _ h => h) (Or.inr ⟨by rfl, rfl⟩) ?_ ?_
         rotate_left
         ·simp only [Act.put, psl, i64_w, i32_w]
          rfl
         refine pu (i := 13) (N := some 80) (fl 26 14 []) HT_ ?_
         refine pu (i := 14) (N := some 81) (fl 26 15 []) HT_ ?_
         refine pure_ (i := 15) (N := some 82) (v := undef) (a' := ?_) #[T,T,T,T,T,T,T,T,T,T,T,T,T,T,T,T,F,F,F,F,F,F,F,F,F,F] rfl rfl (any_of HT_.out (by kernel_rfl)) (fun _ _ _ h => h) (Or.inr ⟨by rfl, rfl⟩) ?_ ?_
         rotate_left
         ·simp only [Act.put, psl, i64_w, i32_w]
          rfl
         refine pure_ (i := 16) (N := some 83) (v := undef) (a' := ?_) #[T,T,T,T,T,T,T,T,T,T,T,T,T,T,T,T,T,F,F,F,F,F,F,F,F,F] rfl rfl (any_of HT_.out (by kernel_rfl)) (fun _ _ _ h => h) (Or.inr ⟨by rfl, rfl⟩) ?_ ?_
         rotate_left
         ·simp only [Act.put, psl, i64_w, i32_w]
          rfl
         refine pure_ (i := 17) (N := some 84) (v := undef) (a' := ?_) #[T,T,T,T,T,T,T,T,T,T,T,T,T,T,T,T,T,T,F,F,F,F,F,F,F,F] rfl rfl (any_of HT_.out (by kernel_rfl)) (fun _ _ _ h => h) (Or.inr ⟨by rfl, rfl⟩) ?_ ?_
         rotate_left
         ·simp only [Act.put, psl, i64_w, i32_w]
          rfl
         refine pure_ (i := 18) (N := some 85) (v := undef) (a' := ?_) #[T,T,T,T,T,T,T,T,T,T,T,T,T,T,T,T,T,T,T,F,F,F,F,F,F,F] rfl rfl (any_of HT_.out (by kernel_rfl)) (fun _ _ _ h => h) (Or.inr ⟨by rfl, rfl⟩) ?_ ?_
         rotate_left
         ·simp only [Act.put, psl, i64_w, i32_w]
          rfl
         refine pure_ (i := 19) (N := some 86) (v := undef) (a' := ?_) #[T,T,T,T,T,T,T,T,T,T,T,T,T,T,T,T,T,T,T,T,F,F,F,F,F,F] rfl rfl (any_of HT_.out (by kernel_rfl)) (fun _ _ _ h => h) (Or.inr ⟨by rfl, rfl⟩) ?_ ?_
         rotate_left
         ·simp only [Act.put, psl, i64_w, i32_w]
          rfl
         refine pure_ (i := 20) (N := some 87) (v := undef) (a' := ?_) #[T,T,T,T,T,T,T,T,T,T,T,T,T,T,T,T,T,T,T,T,T,F,F,F,F,F] rfl rfl (any_of HT_.out (by kernel_rfl)) (fun _ _ _ h => h) (Or.inr ⟨by rfl, rfl⟩) ?_ ?_
         rotate_left
         ·simp only [Act.put, psl, i64_w, i32_w]
          rfl
         refine pure_ (i := 21) (N := some 88) (v := undef) (a' := ?_) #[T,T,T,T,T,T,T,T,T,T,T,T,T,T,T,T,T,T,T,T,T,T,F,F,F,F] rfl rfl (any_of HT_.out (by kernel_rfl)) (fun _ _ _ h => h) (Or.inr ⟨by rfl, rfl⟩) ?_ ?_
         rotate_left
         ·simp only [Act.put, psl, i64_w, i32_w]
          rfl
         refine pure_ (i := 22) (N := some 89) (v := undef) (a' := ?_) #[T,T,T,T,T,T,T,T,T,T,T,T,T,T,T,T,T,T,T,T,T,T,T,F,F,F] rfl rfl (any_of HT_.out (by kernel_rfl)) (fun _ _ _ h => h) (Or.inr ⟨by rfl, rfl⟩) ?_ ?_
         rotate_left
         ·simp only [Act.put, psl, i64_w, i32_w]
          rfl
         refine pure_ (i := 23) (N := some 90) (v := undef) (a' := ?_) #[T,T,T,T,T,T,T,T,T,T,T,T,T,T,T,T,T,T,T,T,T,T,T,T,F,F] rfl rfl (any_of HT_.out (by kernel_rfl)) (fun _ _ _ h => h) (Or.inr ⟨by rfl, rfl⟩) ?_ ?_
         rotate_left
         ·simp only [Act.put, psl, i64_w, i32_w]
          rfl
         refine pure_ (i := 24) (N := some 91) (v := undef) (a' := ?_) #[T,T,T,T,T,T,T,T,T,T,T,T,T,T,T,T,T,T,T,T,T,T,T,T,T,F] rfl rfl (any_of HT_.out (by kernel_rfl)) (fun _ _ _ h => h) (Or.inr ⟨by rfl, rfl⟩) ?_ ?_
         rotate_left
         ·simp only [Act.put, psl, i64_w, i32_w]
          rfl
         refine pu (i := 25) (N := some 92) (fl 26 26 []) HT_ ?_
         refine done_ (done_of HT_.out (by kernel_rfl)) ?_
         have := yC1 BK478
         have := kC1 BK478
         have := bf BK478.out 0
         have := bf BK478.out 1
         have hnb165 := NB483_475.out
         have hnc165 := NB475_483.out
         have hnb166 := NB483_476.out
         have hnc166 := NB476_483.out
         have hnb167 := NB483_477.out
         have hnc167 := NB477_483.out
         have hnb168 := NB483_481.out
         have hnc168 := NB481_483.out
         have hnb169 := NB483_482.out
         have hnc169 := NB482_483.out
         have := yC1 BK483
         have := kC1 BK483
         have := kC2 BK483
         have := bf BK483.out 0
         have := bf BK483.out 1
         have := bf BK483.out 2
         try go_wp2_with (first | ((with_reducible refine gate_builtin (b := .append) (xs := #[.tmp 102, .tmp 104]) rfl ?_); (try (refine gG (by rfl) ?_; dsimp only)); at_builtin; refine Kd.R_append k54 (w0 := w) w.heap.size rfl (.tmp 102) (.tmp 104) 22 54 (.agg #[(.int .i64 0), (.int .i64 0), (.int .i64 0)]) 24 rfl Try.underlying22 info54 rfl (by decide) (by omega) (.slice Ao162 x479000_2.length co162) x479000_2 (⟨((rd_T54 l0_0 x7_1).f0), ji20, ji21⟩ : S54) [.int .i64 ((rd_T54 l0_0 x7_1).f0), .int .i64 ji20, .int .i64 ji21] (fun k_ => k_ ≠ gb481 ∧ k_ ≠ gb482 ∧ k_ ≠ gb483) (fun _ => False) rfl rfl ?aP (fun _ hk => hk.elim) ?aF ?aO ?aB ?aS ?aL ?_; (case aP => exact k54_mkM _ _ _ (⟨((rd_T54 l0_0 x7_1).f0), ji20, ji21⟩ : S54)); (case aB => exact (fW HB.out)); (case aF => exact (fun k_ hk => ⟨Kd.freshB (g := gb481) (o := .cells #[.int .i64 ((rd_T54 l0_0 x7_1).f0), .int .i64 ((rd_T54 l0_0 x7_1).f1), .int .i64 ((rd_T54 l0_0 x7_1).f2)] 54 (0, 0)) (fb BK481.out) k_ hk, Kd.freshB (g := gb482) (o := .cells #[.int .i64 ((rd_T54 l1_0 x8_2).f0), .int .i64 ((rd_T54 l1_0 x8_2).f1), .int .i64 ((rd_T54 l1_0 x8_2).f2)] 54 (0, 0)) (fb BK482.out) k_ hk, Kd.freshB (g := gb483) (o := .cells #[.int .i64 ((rd_T54 l0_0 x7_1).f0), .int .i64 ji20, .int .i64 ji21] 54 (0, 0)) (fb BK483.out) k_ hk⟩)); (case aO => exact (fR HO_479000.out)); (case aS => exact (below_size (fW HB.out))); (case aL => have := LMc154.out; omega); intro v494 w171 ho hb hg hat; rw [← Ny493.out] at ho; replace BK475 := am (blk_grown (g := gb475) (o := .cells #[.slice (some ad479) l0_0.length c0_0, .slice A0_1 l0_1.length c0_1] 25 (0, 0)) (fb BK475.out) hg (Kd.R_ne HO_479000.out BK475.out (by decide))); replace BK476 := am (blk_grown (g := gb476) (o := .cells #[.slice (some ad480) l1_0.length c1_0, .slice A1_1 l1_1.length c1_1] 25 (0, 0)) (fb BK476.out) hg (Kd.R_ne HO_479000.out BK476.out (by decide))); replace BK477 := am (blk_grown (g := gb477) (o := .cells #[.slice none 0 0, .slice none 0 0] 25 (0, 0)) (fb BK477.out) hg (Kd.R_ne HO_479000.out BK477.out (by decide))); replace BK478 := am (blk_grown (g := gb478) (o := .cells #[.slice Ao162 x479000_2.length co162, .slice none 0 0] 25 (0, 0)) (fb BK478.out) hg (Kd.R_ne HO_479000.out BK478.out (by decide))); replace BK481 := am (blk_grown (g := gb481) (o := .cells #[.int .i64 ((rd_T54 l0_0 x7_1).f0), .int .i64 ((rd_T54 l0_0 x7_1).f1), .int .i64 ((rd_T54 l0_0 x7_1).f2)] 54 (0, 0)) (fb BK481.out) hg (Kd.R_away HO_479000.out (fun _ hk => hk.1))); replace BK482 := am (blk_grown (g := gb482) (o := .cells #[.int .i64 ((rd_T54 l1_0 x8_2).f0), .int .i64 ((rd_T54 l1_0 x8_2).f1), .int .i64 ((rd_T54 l1_0 x8_2).f2)] 54 (0, 0)) (fb BK482.out) hg (Kd.R_away HO_479000.out (fun _ hk => hk.2.1))); replace BK483 := am (blk_grown (g := gb483) (o := .cells #[.int .i64 ((rd_T54 l0_0 x7_1).f0), .int .i64 ji20, .int .i64 ji21] 54 (0, 0)) (fb BK483.out) hg (Kd.R_away HO_479000.out (fun _ hk => hk.2.2))); replace HB := am (hb); have HO495 := am (ho); clear HO_479000 ho hb hg hat; obtain ⟨Ao172, co172, eo172⟩ := Kd.R_slice HO495.out; subst eo172; obtain ⟨_, _, _, _⟩ := zC2 BK478))
         go_roundg kj21
         case measure => have := HK1.out; have := HK2.out; have := HJ21.out; omega
         case rel => exact ⟨(wrap64 (x8_2 + 1)), (y493), (.slice Ao172 y493.length co172), sqD, H', ⟨by have := HK1.out; have := HK2.out; have := HJ21.out; omega⟩, ⟨by (with_reducible repeat (first | apply Kd.R_alloc | apply Kd.R_drewN | apply Kd.R_drew)); exact Kd.R_mono (Kd.R_far (p := ⟨gb478, 0, none⟩) (Kd.R_types HO495.out BK478.out (by decide)) (fun _ hk => hk.2) (.slice Ao172 y493.length co172)) (fun _ hk => trivial)⟩, ⟨by (with_reducible repeat first | apply bN | apply bd | apply ba); refine bF ?_ NB475_478.out _; (with_reducible repeat first | apply bN | apply bd | apply ba); exact BK475.out⟩, ⟨by (with_reducible repeat first | apply bN | apply bd | apply ba); refine bF ?_ NB476_478.out _; (with_reducible repeat first | apply bN | apply bd | apply ba); exact BK476.out⟩, ⟨by (with_reducible repeat first | apply bN | apply bd | apply ba); refine bF ?_ NB477_478.out _; (with_reducible repeat first | apply bN | apply bd | apply ba); exact BK477.out⟩, ⟨by (with_reducible repeat first | apply bN | apply bd | apply ba); refine bp (cs := #[.slice Ao162 x479000_2.length co162, .slice none 0 0]) ?_ 0 _ rfl; (with_reducible repeat first | apply bN | apply bd | apply ba); exact BK478.out⟩, ⟨fW HB.out⟩⟩
        rw [if_pos c89] at H
        have c89b0 : decide (0 < (x479000_2.length : Int)) = true := decide_eq_true c89
        have c89b1 : decide (0 < x479000_2.length) = true := decide_eq_true (by omega)
        clear c89
        obtain ⟨ji90, hji90⟩ : ∃ j_ : Int, (wrap64 ((x479000_2.length : Int) - 1)) = j_ := ⟨_, rfl⟩
        replace H : (if 0 ≤ (ji90) then (if (ji90) < (x479000_2.length : Int) then (if ((rd_T54 x479000_2 (ji90)).f0) = ((rd_T54 l0_0 x7_1).f0) then (if ((rd_T54 x479000_2 (ji90)).f2) = ji20 then (r_Common.l1 kj21 x7_1 (wrap64 (x8_2 + 1)) l0_0 l0_1 l1_0 l1_1 (x479000_2.set ((ji90) : Int).toNat (⟨(rd_T54 x479000_2 (ji90)).f0, (rd_T54 x479000_2 (ji90)).f1, ji21⟩ : S54))) else (if x479000_2.length < 5864062014805 then (r_Common.l1 kj21 x7_1 (wrap64 (x8_2 + 1)) l0_0 l0_1 l1_0 l1_1 (x479000_2 ++ [(⟨((rd_T54 l0_0 x7_1).f0), ji20, ji21⟩ : S54)])) else (none))) else (if x479000_2.length < 5864062014805 then (r_Common.l1 kj21 x7_1 (wrap64 (x8_2 + 1)) l0_0 l0_1 l1_0 l1_1 (x479000_2 ++ [(⟨((rd_T54 l0_0 x7_1).f0), ji20, ji21⟩ : S54)])) else (none))) else (none)) else (none)) = some (r1, r2, r3) := by first | (rw [hji90] at H; exact H) | (simp only [hji90] at H ⊢; exact H)
        have hji90w : (IntKind.i64.wrap ((x479000_2.length : Int) - 1)) = ji90 := (i64_w _).trans hji90
        by_cases c91 : 0 ≤ (ji90)
        rotate_left
        ·rw [if_neg c91] at H
         exact absurd H (by simp)
        rw [if_pos c91] at H
        have c91b0 : decide (0 ≤ (ji90)) = true := decide_eq_true c91
        clear c91
        by_cases c92 : (ji90) < (x479000_2.length : Int)
        rotate_left
        ·rw [if_neg c92] at H
         exact absurd H (by simp)
        rw [if_pos c92] at H
        have c92b0 : decide ((ji90) < (x479000_2.length : Int)) = true := decide_eq_true c92
        clear c92
        by_cases c93 : ((rd_T54 x479000_2 (ji90)).f0) = ((rd_T54 l0_0 x7_1).f0)
        rotate_left
        ·rw [if_neg c93] at H
         have c93b0 : (((rd_T54 x479000_2 (ji90)).f0) == ((rd_T54 l0_0 x7_1).f0)) = false := beq_eq_false_iff_ne.mpr c93
         have c93b1 : (((rd_T54 x479000_2 (ji90)).f0) != ((rd_T54 l0_0 x7_1).f0)) = true := bne_iff_ne.mpr c93
         by_cases c134 : x479000_2.length < 5864062014805
         rotate_left
         ·rw [if_neg c134] at H
          exact absurd H (by simp)
         rw [if_pos c134] at H
         have LMc134 := am c134
         clear c134
         obtain ⟨y490, hy490⟩ : ∃ y_ : List (S54), y_ = (x479000_2 ++ [(⟨((rd_T54 l0_0 x7_1).f0), ji20, ji21⟩ : S54)]) := ⟨_, rfl⟩
         replace H : (r_Common.l1 kj21 x7_1 (wrap64 (x8_2 + 1)) l0_0 l0_1 l1_0 l1_1 y490) = some (r1, r2, r3) := by first | (rw [hy490]; with_reducible exact H) | (have H2_ := (Option.bind_some _ _).symm.trans H; rw [hy490]; with_reducible exact H2_) | (have H2_ := (Option.bind_some _ _).symm.trans H; with_reducible exact H2_) | with_reducible exact H | (rw [hy490]; exact H) | exact H
         have Ny490 := am hy490
         clear hy490
         have H' := am H
         clear H
         have hnb135 := NB478_475.out
         have hnc135 := NB475_478.out
         have hnb136 := NB478_476.out
         have hnc136 := NB476_478.out
         have hnb137 := NB478_477.out
         have hnc137 := NB477_478.out
         have hnb138 := NB478_481.out
         have hnc138 := NB481_478.out
         have hnb139 := NB478_482.out
         have hnc139 := NB482_478.out
         have hnb140 := NB478_483.out
         have hnc140 := NB483_478.out
         have := yC1 BK478
         have := kC1 BK478
         have := bf BK478.out 0
         have := bf BK478.out 1
         obtain ⟨Ao142, co142, eo142⟩ := Kd.R_slice HO_479000.out
         subst eo142
         try go_wp2
         have n0_ := am (Kd.R_drew HO_479000.out)
         have n1_ := am (bd BK475.out)
         have n2_ := am (bd BK476.out)
         have n3_ := am (bd BK477.out)
         have n4_ := am (bd BK478.out)
         have n5_ := am (bd BK481.out)
         have n6_ := am (bd BK482.out)
         have n7_ := am (bd BK483.out)
         have n8_ := am (below_drew1 HB.out)
         clear HO_479000 BK475 BK476 BK477 BK478 BK481 BK482 BK483 HB
         have HO_479000 := n0_
         have BK475 := n1_
         have BK476 := n2_
         have BK477 := n3_
         have BK478 := n4_
         have BK481 := n5_
         have BK482 := n6_
         have BK483 := n7_
         have HB := n8_
         clear n0_ n1_ n2_ n3_ n4_ n5_ n6_ n7_ n8_
         have p484 : 0 ≤ ((ji90) : Int) := of_decide_eq_true (by assumption)
         have q484 : (ji90) < (x479000_2.length : Int) := of_decide_eq_true (by assumption)
         obtain ⟨ad484, e484, hx484_0, hx484_1, hx484_2⟩ := at_T54 (Kd.R_reads' HO_479000.out).2.2 (ji90) p484 q484
         cases e484
         replace p484 := eq_true p484
         replace q484 := eq_true q484
         refine start_ (n := 26) (S := fun w' => w'.cell? ⟨gb478, 0, none⟩ = some (.slice (some ad484) x479000_2.length co142) ∧ w'.cell? ⟨gb478, 1, none⟩ = some (.slice none 0 0) ∧ w'.cell? ⟨gb483, 0, none⟩ = some (.int .i64 ((rd_T54 l0_0 x7_1).f0)) ∧ w'.cell? ⟨gb483, 1, none⟩ = some (.int .i64 ji20) ∧ w'.cell? ⟨gb483, 2, none⟩ = some (.int .i64 ji21) ∧ w'.cell? (ad484.add (((ji90)).toNat * 3)) = some (.int .i64 ((rd_T54 x479000_2 (ji90)).f0)) ∧ w'.cell? ⟨(ad484.add (((ji90)).toNat * 3)).block, (ad484.add (((ji90)).toNat * 3)).off + 1, none⟩ = some (.int .i64 ((rd_T54 x479000_2 (ji90)).f1)) ∧ w'.cell? ⟨(ad484.add (((ji90)).toNat * 3)).block, (ad484.add (((ji90)).toNat * 3)).off + 2, none⟩ = some (.int .i64 ((rd_T54 x479000_2 (ji90)).f2))) (ds := []) #[F,F,F,F,F,F,F,F,F,F,F,F,F,F,F,F,F,F,F,F,F,F,F,F,F,F] (by kernel_rfl) rfl rfl ⟨(bc BK478.out 0).trans rfl, (bc BK478.out 1).trans rfl, (bc BK483.out 0).trans rfl, (bc BK483.out 1).trans rfl, (bc BK483.out 2).trans rfl, hx484_0, hx484_1, hx484_2⟩ (fun hHeld => ?_); refine with_tabW r_Common.tab12 r_Common.bits12 (fun HT_ HW_ => ?_)
         generalize wc.drew = w143 at HO_479000 BK475 BK476 BK477 BK478 BK481 BK482 BK483 HB hx484_0 hx484_1 hx484_2 hHeld ⊢
         refine pu (i := 0) (N := some 67) (fl 26 1 []) HT_ ?_
         refine pu (i := 1) (N := some 68) (fl 26 2 []) HT_ ?_
         refine pu (i := 2) (N := some 69) (fl 26 3 []) HT_ ?_
         refine pu (i := 3) (N := some 70) (fl 26 4 []) HT_ ?_
         refine pu (i := 5) (N := some 72) (fl 26 4 [5]) HT_ ?_
         refine pu (i := 6) (N := some 73) (fl 26 4 [5, 6]) HT_ ?_
         refine pu (i := 10) (N := some 77) (fl 26 4 [5, 6, 10]) HT_ ?_
         refine tk (i := 4) (N := some 71) (fl 26 7 [10]) HT_ HW_ hHeld ?_
         refine pu (i := 7) (N := some 74) (fl 26 8 [10]) HT_ ?_
         refine pu (i := 8) (N := some 75) (fl 26 9 [10]) HT_ ?_
         refine tk (i := 9) (N := some 76) (fl 26 11 []) HT_ HW_ hHeld ?_
         refine tk (i := 11) (N := some 78) (fl 26 12 []) HT_ HW_ hHeld ?_
         refine pu (i := 12) (N := some 79) (fl 26 13 []) HT_ ?_
         refine pu (i := 13) (N := some 80) (fl 26 14 []) HT_ ?_
         refine pu (i := 14) (N := some 81) (fl 26 15 []) HT_ ?_
         refine pure_ (i := 15) (N := some 82) (v := undef) (a' := ?_) #[T,T,T,T,T,T,T,T,T,T,T,T,T,T,T,T,F,F,F,F,F,F,F,F,F,F] rfl rfl (any_of HT_.out (by kernel_rfl)) (fun _ _ _ h => h) (Or.inr ⟨by rfl, rfl⟩) ?_ ?_
         rotate_left
         ·simp only [Act.put, psl, i64_w, i32_w]
          rfl
         refine pure_ (i := 16) (N := some 83) (v := undef) (a' := ?_) #[T,T,T,T,T,T,T,T,T,T,T,T,T,T,T,T,T,F,F,F,F,F,F,F,F,F] rfl rfl (any_of HT_.out (by kernel_rfl)) (fun _ _ _ h => h) (Or.inr ⟨by rfl, rfl⟩) ?_ ?_
         rotate_left
         ·simp only [Act.put, psl, i64_w, i32_w]
          rfl
         refine pure_ (i := 17) (N := some 84) (v := undef) (a' := ?_) #[T,T,T,T,T,T,T,T,T,T,T,T,T,T,T,T,T,T,F,F,F,F,F,F,F,F] rfl rfl (any_of HT_.out (by kernel_rfl)) (fun _ _ _ h => h) (Or.inr ⟨by rfl, rfl⟩) ?_ ?_
         rotate_left
         ·simp only [Act.put, psl, i64_w, i32_w]
          rfl
         refine pure_ (i := 18) (N := some 85) (v := undef) (a' := ?_) #[T,T,T,T,T,T,T,T,T,T,T,T,T,T,T,T,T,T,T,F,F,F,F,F,F,F] rfl rfl (any_of HT_.out (by kernel_rfl)) (fun _ _ _ h => h) (Or.inr ⟨by rfl, rfl⟩) ?_ ?_
         rotate_left
         ·simp only [Act.put, psl, i64_w, i32_w]
          rfl
         refine pure_ (i := 19) (N := some 86) (v := undef) (a' := ?_) #[T,T,T,T,T,T,T,T,T,T,T,T,T,T,T,T,T,T,T,T,F,F,F,F,F,F] rfl rfl (any_of HT_.out (by kernel_rfl)) (fun _ _ _ h => h) (Or.inr ⟨by rfl, rfl⟩) ?_ ?_
         rotate_left
         ·simp only [Act.put, psl, i64_w, i32_w]
          rfl
         refine pure_ (i := 20) (N := some 87) (v := undef) (a' := ?_) #[T,T,T,T,T,T,T,T,T,T,T,T,T,T,T,T,T,T,T,T,T,F,F,F,F,F] rfl rfl (any_of HT_.out (by kernel_rfl)) (fun _ _ _ h => h) (Or.inr ⟨by rfl, rfl⟩) ?_ ?_
         rotate_left
         ·simp only [Act.put, psl, i64_w, i32_w]
          rfl
         refine pure_ (i := 21) (N := some 88) (v := undef) (a' := ?_) #[T,T,T,T,T,T,T,T,T,T,T,T,T,T,T,T,T,T,T,T,T,T,F,F,F,F] rfl rfl (any_of HT_.out (by kernel_rfl)) (fun _ _ _ h => h) (Or.inr ⟨by rfl, rfl⟩) ?_ ?_
         rotate_left
         ·simp only [Act.put, psl, i64_w, i32_w]
          rfl
         refine pure_ (i := 22) (N := some 89) (v := undef) (a' := ?_) #[T,T,T,T,T,T,T,T,T,T,T,T,T,T,T,T,T,T,T,T,T,T,T,F,F,F] rfl rfl (any_of HT_.out (by kernel_rfl)) (fun _ _ _ h => h) (Or.inr ⟨by rfl, rfl⟩) ?_ ?_
         rotate_left
         ·simp only [Act.put, psl, i64_w, i32_w]
          rfl
         refine pure_ (i := 23) (N := some 90) (v := undef) (a' := ?_) #[T,T,T,T,T,T,T,T,T,T,T,T,T,T,T,T,T,T,T,T,T,T,T,T,F,F] rfl rfl (any_of HT_.out (by kernel_rfl)) (fun _ _ _ h => h) (Or.inr ⟨by rfl, rfl⟩) ?_ ?_
         rotate_left
         ·simp only [Act.put, psl, i64_w, i32_w]
          rfl
         refine pure_ (i := 24) (N := some 91) (v := undef) (a' := ?_) #[T,T,T,T,T,T,T,T,T,T,T,T,T,T,T,T,T,T,T,T,T,T,T,T,T,F] rfl rfl (any_of HT_.out (by kernel_rfl)) (fun _ _ _ h => h) (Or.inr ⟨by rfl, rfl⟩) ?_ ?_
         rotate_left
         ·simp only [Act.put, psl, i64_w, i32_w]
          rfl
         refine pu (i := 25) (N := some 92) (fl 26 26 []) HT_ ?_
         refine done_ (done_of HT_.out (by kernel_rfl)) ?_
         have := yC1 BK478
         have := kC1 BK478
         have := bf BK478.out 0
         have := bf BK478.out 1
         have hnb145 := NB483_475.out
         have hnc145 := NB475_483.out
         have hnb146 := NB483_476.out
         have hnc146 := NB476_483.out
         have hnb147 := NB483_477.out
         have hnc147 := NB477_483.out
         have hnb148 := NB483_481.out
         have hnc148 := NB481_483.out
         have hnb149 := NB483_482.out
         have hnc149 := NB482_483.out
         have := yC1 BK483
         have := kC1 BK483
         have := kC2 BK483
         have := bf BK483.out 0
         have := bf BK483.out 1
         have := bf BK483.out 2
         try go_wp2_with (first | ((with_reducible refine gate_builtin (b := .append) (xs := #[.tmp 102, .tmp 104]) rfl ?_); (try (refine gG (by rfl) ?_; dsimp only)); at_builtin; refine Kd.R_append k54 (w0 := w) w.heap.size rfl (.tmp 102) (.tmp 104) 22 54 (.agg #[(.int .i64 0), (.int .i64 0), (.int .i64 0)]) 24 rfl Try.underlying22 info54 rfl (by decide) (by omega) (.slice (some ad484) x479000_2.length co142) x479000_2 (⟨((rd_T54 l0_0 x7_1).f0), ji20, ji21⟩ : S54) [.int .i64 ((rd_T54 l0_0 x7_1).f0), .int .i64 ji20, .int .i64 ji21] (fun k_ => k_ ≠ gb481 ∧ k_ ≠ gb482 ∧ k_ ≠ gb483) (fun _ => False) rfl rfl ?aP (fun _ hk => hk.elim) ?aF ?aO ?aB ?aS ?aL ?_; (case aP => exact k54_mkM _ _ _ (⟨((rd_T54 l0_0 x7_1).f0), ji20, ji21⟩ : S54)); (case aB => exact (fW HB.out)); (case aF => exact (fun k_ hk => ⟨Kd.freshB (g := gb481) (o := .cells #[.int .i64 ((rd_T54 l0_0 x7_1).f0), .int .i64 ((rd_T54 l0_0 x7_1).f1), .int .i64 ((rd_T54 l0_0 x7_1).f2)] 54 (0, 0)) (fb BK481.out) k_ hk, Kd.freshB (g := gb482) (o := .cells #[.int .i64 ((rd_T54 l1_0 x8_2).f0), .int .i64 ((rd_T54 l1_0 x8_2).f1), .int .i64 ((rd_T54 l1_0 x8_2).f2)] 54 (0, 0)) (fb BK482.out) k_ hk, Kd.freshB (g := gb483) (o := .cells #[.int .i64 ((rd_T54 l0_0 x7_1).f0), .int .i64 ji20, .int .i64 ji21] 54 (0, 0)) (fb BK483.out) k_ hk⟩)); (case aO => exact (fR HO_479000.out)); (case aS => exact (below_size (fW HB.out))); (case aL => have := LMc134.out; omega); intro v491 w151 ho hb hg hat; rw [← Ny490.out] at ho; replace BK475 := am (blk_grown (g := gb475) (o := .cells #[.slice (some ad479) l0_0.length c0_0, .slice A0_1 l0_1.length c0_1] 25 (0, 0)) (fb BK475.out) hg (Kd.R_ne HO_479000.out BK475.out (by decide))); replace BK476 := am (blk_grown (g := gb476) (o := .cells #[.slice (some ad480) l1_0.length c1_0, .slice A1_1 l1_1.length c1_1] 25 (0, 0)) (fb BK476.out) hg (Kd.R_ne HO_479000.out BK476.out (by decide))); replace BK477 := am (blk_grown (g := gb477) (o := .cells #[.slice none 0 0, .slice none 0 0] 25 (0, 0)) (fb BK477.out) hg (Kd.R_ne HO_479000.out BK477.out (by decide))); replace BK478 := am (blk_grown (g := gb478) (o := .cells #[.slice (some ad484) x479000_2.length co142, .slice none 0 0] 25 (0, 0)) (fb BK478.out) hg (Kd.R_ne HO_479000.out BK478.out (by decide))); replace BK481 := am (blk_grown (g := gb481) (o := .cells #[.int .i64 ((rd_T54 l0_0 x7_1).f0), .int .i64 ((rd_T54 l0_0 x7_1).f1), .int .i64 ((rd_T54 l0_0 x7_1).f2)] 54 (0, 0)) (fb BK481.out) hg (Kd.R_away HO_479000.out (fun _ hk => hk.1))); replace BK482 := am (blk_grown (g := gb482) (o := .cells #[.int .i64 ((rd_T54 l1_0 x8_2).f0), .int .i64 ((rd_T54 l1_0 x8_2).f1), .int .i64 ((rd_T54 l1_0 x8_2).f2)] 54 (0, 0)) (fb BK482.out) hg (Kd.R_away HO_479000.out (fun _ hk => hk.2.1))); replace BK483 := am (blk_grown (g := gb483) (o := .cells #[.int .i64 ((rd_T54 l0_0 x7_1).f0), .int .i64 ji20, .int .i64 ji21] 54 (0, 0)) (fb BK483.out) hg (Kd.R_away HO_479000.out (fun _ hk => hk.2.2))); replace HB := am (hb); have HO492 := am (ho); clear HO_479000 ho hb hg hat; obtain ⟨Ao152, co152, eo152⟩ := Kd.R_slice HO492.out; subst eo152; obtain ⟨_, _, _, _⟩ := zC2 BK478))
         go_roundg kj21
         case measure => have := HK1.out; have := HK2.out; have := HJ21.out; omega
         case rel => exact ⟨(wrap64 (x8_2 + 1)), (y490), (.slice Ao152 y490.length co152), sqD, H', ⟨by have := HK1.out; have := HK2.out; have := HJ21.out; omega⟩, ⟨by (with_reducible repeat (first | apply Kd.R_alloc | apply Kd.R_drewN | apply Kd.R_drew)); exact Kd.R_mono (Kd.R_far (p := ⟨gb478, 0, none⟩) (Kd.R_types HO492.out BK478.out (by decide)) (fun _ hk => hk.2) (.slice Ao152 y490.length co152)) (fun _ hk => trivial)⟩, ⟨by (with_reducible repeat first | apply bN | apply bd | apply ba); refine bF ?_ NB475_478.out _; (with_reducible repeat first | apply bN | apply bd | apply ba); exact BK475.out⟩, ⟨by (with_reducible repeat first | apply bN | apply bd | apply ba); refine bF ?_ NB476_478.out _; (with_reducible repeat first | apply bN | apply bd | apply ba); exact BK476.out⟩, ⟨by (with_reducible repeat first | apply bN | apply bd | apply ba); refine bF ?_ NB477_478.out _; (with_reducible repeat first | apply bN | apply bd | apply ba); exact BK477.out⟩, ⟨by (with_reducible repeat first | apply bN | apply bd | apply ba); refine bp (cs := #[.slice (some ad484) x479000_2.length co142, .slice none 0 0]) ?_ 0 _ rfl; (with_reducible repeat first | apply bN | apply bd | apply ba); exact BK478.out⟩, ⟨fW HB.out⟩⟩
        rw [if_pos c93] at H
        have c93b0 : (((rd_T54 x479000_2 (ji90)).f0) == ((rd_T54 l0_0 x7_1).f0)) = true := beq_iff_eq.mpr c93
        have c93b1 : (((rd_T54 x479000_2 (ji90)).f0) != ((rd_T54 l0_0 x7_1).f0)) = false := bne_eq_false_iff_eq.mpr c93
        clear c93
        by_cases c94 : ((rd_T54 x479000_2 (ji90)).f2) = ji20
        rotate_left
        ·rw [if_neg c94] at H
         have c94b0 : (((rd_T54 x479000_2 (ji90)).f2) == ji20) = false := beq_eq_false_iff_ne.mpr c94
         have c94b1 : (((rd_T54 x479000_2 (ji90)).f2) != ji20) = true := bne_iff_ne.mpr c94
         by_cases c114 : x479000_2.length < 5864062014805
         rotate_left
         ·rw [if_neg c114] at H
          exact absurd H (by simp)
         rw [if_pos c114] at H
         have LMc114 := am c114
         clear c114
         obtain ⟨y487, hy487⟩ : ∃ y_ : List (S54), y_ = (x479000_2 ++ [(⟨((rd_T54 l0_0 x7_1).f0), ji20, ji21⟩ : S54)]) := ⟨_, rfl⟩
         replace H : (r_Common.l1 kj21 x7_1 (wrap64 (x8_2 + 1)) l0_0 l0_1 l1_0 l1_1 y487) = some (r1, r2, r3) := by first | (rw [hy487]; with_reducible exact H) | (have H2_ := (Option.bind_some _ _).symm.trans H; rw [hy487]; with_reducible exact H2_) | (have H2_ := (Option.bind_some _ _).symm.trans H; with_reducible exact H2_) | with_reducible exact H | (rw [hy487]; exact H) | exact H
         have Ny487 := am hy487
         clear hy487
         have H' := am H
         clear H
         have hnb115 := NB478_475.out
         have hnc115 := NB475_478.out
         have hnb116 := NB478_476.out
         have hnc116 := NB476_478.out
         have hnb117 := NB478_477.out
         have hnc117 := NB477_478.out
         have hnb118 := NB478_481.out
         have hnc118 := NB481_478.out
         have hnb119 := NB478_482.out
         have hnc119 := NB482_478.out
         have hnb120 := NB478_483.out
         have hnc120 := NB483_478.out
         have := yC1 BK478
         have := kC1 BK478
         have := bf BK478.out 0
         have := bf BK478.out 1
         obtain ⟨Ao122, co122, eo122⟩ := Kd.R_slice HO_479000.out
         subst eo122
         try go_wp2
         have n0_ := am (Kd.R_drew HO_479000.out)
         have n1_ := am (bd BK475.out)
         have n2_ := am (bd BK476.out)
         have n3_ := am (bd BK477.out)
         have n4_ := am (bd BK478.out)
         have n5_ := am (bd BK481.out)
         have n6_ := am (bd BK482.out)
         have n7_ := am (bd BK483.out)
         have n8_ := am (below_drew1 HB.out)
         clear HO_479000 BK475 BK476 BK477 BK478 BK481 BK482 BK483 HB
         have HO_479000 := n0_
         have BK475 := n1_
         have BK476 := n2_
         have BK477 := n3_
         have BK478 := n4_
         have BK481 := n5_
         have BK482 := n6_
         have BK483 := n7_
         have HB := n8_
         clear n0_ n1_ n2_ n3_ n4_ n5_ n6_ n7_ n8_
         have p484 : 0 ≤ ((ji90) : Int) := of_decide_eq_true (by assumption)
         have q484 : (ji90) < (x479000_2.length : Int) := of_decide_eq_true (by assumption)
         obtain ⟨ad484, e484, hx484_0, hx484_1, hx484_2⟩ := at_T54 (Kd.R_reads' HO_479000.out).2.2 (ji90) p484 q484
         cases e484
         replace p484 := eq_true p484
         replace q484 := eq_true q484
         have p485 : 0 ≤ ((ji90) : Int) := of_decide_eq_true (by assumption)
         have q485 : (ji90) < (x479000_2.length : Int) := of_decide_eq_true (by assumption)
         obtain ⟨ad485, e485, hx485_0, hx485_1, hx485_2⟩ := at_T54 (Kd.R_reads' HO_479000.out).2.2 (ji90) p485 q485
         obtain rfl : ad484 = ad485 := (by injection e485)
         replace p485 := eq_true p485
         replace q485 := eq_true q485
         refine start_ (n := 26) (S := fun w' => w'.cell? ⟨gb478, 0, none⟩ = some (.slice (some ad484) x479000_2.length co122) ∧ w'.cell? ⟨gb478, 1, none⟩ = some (.slice none 0 0) ∧ w'.cell? ⟨gb483, 0, none⟩ = some (.int .i64 ((rd_T54 l0_0 x7_1).f0)) ∧ w'.cell? ⟨gb483, 1, none⟩ = some (.int .i64 ji20) ∧ w'.cell? ⟨gb483, 2, none⟩ = some (.int .i64 ji21) ∧ w'.cell? (ad484.add (((ji90)).toNat * 3)) = some (.int .i64 ((rd_T54 x479000_2 (ji90)).f0)) ∧ w'.cell? ⟨(ad484.add (((ji90)).toNat * 3)).block, (ad484.add (((ji90)).toNat * 3)).off + 1, none⟩ = some (.int .i64 ((rd_T54 x479000_2 (ji90)).f1)) ∧ w'.cell? ⟨(ad484.add (((ji90)).toNat * 3)).block, (ad484.add (((ji90)).toNat * 3)).off + 2, none⟩ = some (.int .i64 ((rd_T54 x479000_2 (ji90)).f2)) ∧ w'.cell? (ad484.add (((ji90)).toNat * 3)) = some (.int .i64 ((rd_T54 x479000_2 (ji90)).f0)) ∧ w'.cell? ⟨(ad484.add (((ji90)).toNat * 3)).block, (ad484.add (((ji90)).toNat * 3)).off + 1, none⟩ = some (.int .i64 ((rd_T54 x479000_2 (ji90)).f1)) ∧ w'.cell? ⟨(ad484.add (((ji90)).toNat * 3)).block, (ad484.add (((ji90)).toNat * 3)).off + 2, none⟩ = some (.int .i64 ((rd_T54 x479000_2 (ji90)).f2))) (ds := []) #[F,F,F,F,F,F,F,F,F,F,F,F,F,F,F,F,F,F,F,F,F,F,F,F,F,F] (by kernel_rfl) rfl rfl ⟨(bc BK478.out 0).trans rfl, (bc BK478.out 1).trans rfl, (bc BK483.out 0).trans rfl, (bc BK483.out 1).trans rfl, (bc BK483.out 2).trans rfl, hx484_0, hx484_1, hx484_2, hx485_0, hx485_1, hx485_2⟩ (fun hHeld => ?_); refine with_tabW r_Common.tab12 r_Common.bits12 (fun HT_ HW_ => ?_)
         generalize wc.drew = w123 at HO_479000 BK475 BK476 BK477 BK478 BK481 BK482 BK483 HB hx484_0 hx484_1 hx484_2 hx485_0 hx485_1 hx485_2 hHeld ⊢
         refine pu (i := 0) (N := some 67) (fl 26 1 []) HT_ ?_
         refine pu (i := 1) (N := some 68) (fl 26 2 []) HT_ ?_
         refine pu (i := 2) (N := some 69) (fl 26 3 []) HT_ ?_
         refine pu (i := 3) (N := some 70) (fl 26 4 []) HT_ ?_
         refine pu (i := 5) (N := some 72) (fl 26 4 [5]) HT_ ?_
         refine pu (i := 6) (N := some 73) (fl 26 4 [5, 6]) HT_ ?_
         refine pu (i := 10) (N := some 77) (fl 26 4 [5, 6, 10]) HT_ ?_
         refine tk (i := 4) (N := some 71) (fl 26 7 [10]) HT_ HW_ hHeld ?_
         refine pu (i := 7) (N := some 74) (fl 26 8 [10]) HT_ ?_
         refine pu (i := 8) (N := some 75) (fl 26 9 [10]) HT_ ?_
         refine tk (i := 9) (N := some 76) (fl 26 11 []) HT_ HW_ hHeld ?_
         refine tk (i := 11) (N := some 78) (fl 26 12 []) HT_ HW_ hHeld ?_
         refine pu (i := 12) (N := some 79) (fl 26 13 []) HT_ ?_
         refine pu (i := 13) (N := some 80) (fl 26 14 []) HT_ ?_
         refine pu (i := 14) (N := some 81) (fl 26 15 []) HT_ ?_
         refine pu (i := 15) (N := some 82) (fl 26 16 []) HT_ ?_
         refine pu (i := 17) (N := some 84) (fl 26 16 [17]) HT_ ?_
         refine pu (i := 18) (N := some 85) (fl 26 16 [17, 18]) HT_ ?_
         refine pu (i := 22) (N := some 89) (fl 26 16 [17, 18, 22]) HT_ ?_
         refine tk (i := 16) (N := some 83) (fl 26 19 [22]) HT_ HW_ hHeld ?_
         refine pu (i := 19) (N := some 86) (fl 26 20 [22]) HT_ ?_
         refine pu (i := 20) (N := some 87) (fl 26 21 [22]) HT_ ?_
         refine tk (i := 21) (N := some 88) (fl 26 23 []) HT_ HW_ hHeld ?_
         refine tk (i := 23) (N := some 90) (fl 26 24 []) HT_ HW_ hHeld ?_
         refine pu (i := 24) (N := some 91) (fl 26 25 []) HT_ ?_
         refine pu (i := 25) (N := some 92) (fl 26 26 []) HT_ ?_
         refine done_ (done_of HT_.out (by kernel_rfl)) ?_
         have := yC1 BK478
         have := kC1 BK478
         have := bf BK478.out 0
         have := bf BK478.out 1
         have hnb125 := NB483_475.out
         have hnc125 := NB475_483.out
         have hnb126 := NB483_476.out
         have hnc126 := NB476_483.out
         have hnb127 := NB483_477.out
         have hnc127 := NB477_483.out
         have hnb128 := NB483_481.out
         have hnc128 := NB481_483.out
         have hnb129 := NB483_482.out
         have hnc129 := NB482_483.out
         have := yC1 BK483
         have := kC1 BK483
         have := kC2 BK483
         have := bf BK483.out 0
         have := bf BK483.out 1
         have := bf BK483.out 2
         try go_wp2_with (first | ((with_reducible refine gate_builtin (b := .append) (xs := #[.tmp 102, .tmp 104]) rfl ?_); (try (refine gG (by rfl) ?_; dsimp only)); at_builtin; refine Kd.R_append k54 (w0 := w) w.heap.size rfl (.tmp 102) (.tmp 104) 22 54 (.agg #[(.int .i64 0), (.int .i64 0), (.int .i64 0)]) 24 rfl Try.underlying22 info54 rfl (by decide) (by omega) (.slice (some ad484) x479000_2.length co122) x479000_2 (⟨((rd_T54 l0_0 x7_1).f0), ji20, ji21⟩ : S54) [.int .i64 ((rd_T54 l0_0 x7_1).f0), .int .i64 ji20, .int .i64 ji21] (fun k_ => k_ ≠ gb481 ∧ k_ ≠ gb482 ∧ k_ ≠ gb483) (fun _ => False) rfl rfl ?aP (fun _ hk => hk.elim) ?aF ?aO ?aB ?aS ?aL ?_; (case aP => exact k54_mkM _ _ _ (⟨((rd_T54 l0_0 x7_1).f0), ji20, ji21⟩ : S54)); (case aB => exact (fW HB.out)); (case aF => exact (fun k_ hk => ⟨Kd.freshB (g := gb481) (o := .cells #[.int .i64 ((rd_T54 l0_0 x7_1).f0), .int .i64 ((rd_T54 l0_0 x7_1).f1), .int .i64 ((rd_T54 l0_0 x7_1).f2)] 54 (0, 0)) (fb BK481.out) k_ hk, Kd.freshB (g := gb482) (o := .cells #[.int .i64 ((rd_T54 l1_0 x8_2).f0), .int .i64 ((rd_T54 l1_0 x8_2).f1), .int .i64 ((rd_T54 l1_0 x8_2).f2)] 54 (0, 0)) (fb BK482.out) k_ hk, Kd.freshB (g := gb483) (o := .cells #[.int .i64 ((rd_T54 l0_0 x7_1).f0), .int .i64 ji20, .int .i64 ji21] 54 (0, 0)) (fb BK483.out) k_ hk⟩)); (case aO => exact (fR HO_479000.out)); (case aS => exact (below_size (fW HB.out))); (case aL => have := LMc114.out; omega); intro v488 w131 ho hb hg hat; rw [← Ny487.out] at ho; replace BK475 := am (blk_grown (g := gb475) (o := .cells #[.slice (some ad479) l0_0.length c0_0, .slice A0_1 l0_1.length c0_1] 25 (0, 0)) (fb BK475.out) hg (Kd.R_ne HO_479000.out BK475.out (by decide))); replace BK476 := am (blk_grown (g := gb476) (o := .cells #[.slice (some ad480) l1_0.length c1_0, .slice A1_1 l1_1.length c1_1] 25 (0, 0)) (fb BK476.out) hg (Kd.R_ne HO_479000.out BK476.out (by decide))); replace BK477 := am (blk_grown (g := gb477) (o := .cells #[.slice none 0 0, .slice none 0 0] 25 (0, 0)) (fb BK477.out) hg (Kd.R_ne HO_479000.out BK477.out (by decide))); replace BK478 := am (blk_grown (g := gb478) (o := .cells #[.slice (some ad484) x479000_2.length co122, .slice none 0 0] 25 (0, 0)) (fb BK478.out) hg (Kd.R_ne HO_479000.out BK478.out (by decide))); replace BK481 := am (blk_grown (g := gb481) (o := .cells #[.int .i64 ((rd_T54 l0_0 x7_1).f0), .int .i64 ((rd_T54 l0_0 x7_1).f1), .int .i64 ((rd_T54 l0_0 x7_1).f2)] 54 (0, 0)) (fb BK481.out) hg (Kd.R_away HO_479000.out (fun _ hk => hk.1))); replace BK482 := am (blk_grown (g := gb482) (o := .cells #[.int .i64 ((rd_T54 l1_0 x8_2).f0), .int .i64 ((rd_T54 l1_0 x8_2).f1), .int .i64 ((rd_T54 l1_0 x8_2).f2)] 54 (0, 0)) (fb BK482.out) hg (Kd.R_away HO_479000.out (fun _ hk => hk.2.1))); replace BK483 := am (blk_grown (g := gb483) (o := .cells #[.int .i64 ((rd_T54 l0_0 x7_1).f0), .int .i64 ji20, .int .i64 ji21] 54 (0, 0)) (fb BK483.out) hg (Kd.R_away HO_479000.out (fun _ hk => hk.2.2))); replace HB := am (hb); have HO489 := am (ho); clear HO_479000 ho hb hg hat; obtain ⟨Ao132, co132, eo132⟩ := Kd.R_slice HO489.out; subst eo132; obtain ⟨_, _, _, _⟩ := zC2 BK478))
         go_roundg kj21
         case measure => have := HK1.out; have := HK2.out; have := HJ21.out; omega
         case rel => exact ⟨(wrap64 (x8_2 + 1)), (y487), (.slice Ao132 y487.length co132), sqD, H', ⟨by have := HK1.out; have := HK2.out; have := HJ21.out; omega⟩, ⟨by (with_reducible repeat (first | apply Kd.R_alloc | apply Kd.R_drewN | apply Kd.R_drew)); exact Kd.R_mono (Kd.R_far (p := ⟨gb478, 0, none⟩) (Kd.R_types HO489.out BK478.out (by decide)) (fun _ hk => hk.2) (.slice Ao132 y487.length co132)) (fun _ hk => trivial)⟩, ⟨by (with_reducible repeat first | apply bN | apply bd | apply ba); refine bF ?_ NB475_478.out _; (with_reducible repeat first | apply bN | apply bd | apply ba); exact BK475.out⟩, ⟨by (with_reducible repeat first | apply bN | apply bd | apply ba); refine bF ?_ NB476_478.out _; (with_reducible repeat first | apply bN | apply bd | apply ba); exact BK476.out⟩, ⟨by (with_reducible repeat first | apply bN | apply bd | apply ba); refine bF ?_ NB477_478.out _; (with_reducible repeat first | apply bN | apply bd | apply ba); exact BK477.out⟩, ⟨by (with_reducible repeat first | apply bN | apply bd | apply ba); refine bp (cs := #[.slice (some ad484) x479000_2.length co122, .slice none 0 0]) ?_ 0 _ rfl; (with_reducible repeat first | apply bN | apply bd | apply ba); exact BK478.out⟩, ⟨fW HB.out⟩⟩
        rw [if_pos c94] at H
        have c94b0 : (((rd_T54 x479000_2 (ji90)).f2) == ji20) = true := beq_iff_eq.mpr c94
        have c94b1 : (((rd_T54 x479000_2 (ji90)).f2) != ji20) = false := bne_eq_false_iff_eq.mpr c94
        clear c94
        obtain ⟨y486, hy486⟩ : ∃ y_ : List (S54), y_ = (x479000_2.set ((ji90) : Int).toNat (⟨(rd_T54 x479000_2 (ji90)).f0, (rd_T54 x479000_2 (ji90)).f1, ji21⟩ : S54)) := ⟨_, rfl⟩
        replace H : (r_Common.l1 kj21 x7_1 (wrap64 (x8_2 + 1)) l0_0 l0_1 l1_0 l1_1 y486) = some (r1, r2, r3) := by first | (rw [hy486]; with_reducible exact H) | (have H2_ := (Option.bind_some _ _).symm.trans H; rw [hy486]; with_reducible exact H2_) | (have H2_ := (Option.bind_some _ _).symm.trans H; with_reducible exact H2_) | with_reducible exact H | (rw [hy486]; exact H) | exact H
        have Ny486 := am hy486
        clear hy486
        have H' := am H
        clear H
        have hnb96 := NB478_475.out
        have hnc96 := NB475_478.out
        have hnb97 := NB478_476.out
        have hnc97 := NB476_478.out
        have hnb98 := NB478_477.out
        have hnc98 := NB477_478.out
        have hnb99 := NB478_481.out
        have hnc99 := NB481_478.out
        have hnb100 := NB478_482.out
        have hnc100 := NB482_478.out
        have hnb101 := NB478_483.out
        have hnc101 := NB483_478.out
        have := yC1 BK478
        have := kC1 BK478
        have := bf BK478.out 0
        have := bf BK478.out 1
        obtain ⟨Ao103, co103, eo103⟩ := Kd.R_slice HO_479000.out
        subst eo103
        try go_wp2
        have n0_ := am (Kd.R_drew HO_479000.out)
        have n1_ := am (bd BK475.out)
        have n2_ := am (bd BK476.out)
        have n3_ := am (bd BK477.out)
        have n4_ := am (bd BK478.out)
        have n5_ := am (bd BK481.out)
        have n6_ := am (bd BK482.out)
        have n7_ := am (bd BK483.out)
        have n8_ := am (below_drew1 HB.out)
        clear HO_479000 BK475 BK476 BK477 BK478 BK481 BK482 BK483 HB
        have HO_479000 := n0_
        have BK475 := n1_
        have BK476 := n2_
        have BK477 := n3_
        have BK478 := n4_
        have BK481 := n5_
        have BK482 := n6_
        have BK483 := n7_
        have HB := n8_
        clear n0_ n1_ n2_ n3_ n4_ n5_ n6_ n7_ n8_
        have p484 : 0 ≤ ((ji90) : Int) := of_decide_eq_true (by assumption)
        have q484 : (ji90) < (x479000_2.length : Int) := of_decide_eq_true (by assumption)
        obtain ⟨ad484, e484, hx484_0, hx484_1, hx484_2⟩ := at_T54 (Kd.R_reads' HO_479000.out).2.2 (ji90) p484 q484
        cases e484
        replace p484 := eq_true p484
        replace q484 := eq_true q484
        have p485 : 0 ≤ ((ji90) : Int) := of_decide_eq_true (by assumption)
        have q485 : (ji90) < (x479000_2.length : Int) := of_decide_eq_true (by assumption)
        obtain ⟨ad485, e485, hx485_0, hx485_1, hx485_2⟩ := at_T54 (Kd.R_reads' HO_479000.out).2.2 (ji90) p485 q485
        obtain rfl : ad484 = ad485 := (by injection e485)
        replace p485 := eq_true p485
        replace q485 := eq_true q485
        refine start_ (n := 26) (S := fun w' => w'.cell? ⟨gb478, 0, none⟩ = some (.slice (some ad484) x479000_2.length co103) ∧ w'.cell? ⟨gb478, 1, none⟩ = some (.slice none 0 0) ∧ w'.cell? ⟨gb483, 0, none⟩ = some (.int .i64 ((rd_T54 l0_0 x7_1).f0)) ∧ w'.cell? ⟨gb483, 1, none⟩ = some (.int .i64 ji20) ∧ w'.cell? ⟨gb483, 2, none⟩ = some (.int .i64 ji21) ∧ w'.cell? (ad484.add (((ji90)).toNat * 3)) = some (.int .i64 ((rd_T54 x479000_2 (ji90)).f0)) ∧ w'.cell? ⟨(ad484.add (((ji90)).toNat * 3)).block, (ad484.add (((ji90)).toNat * 3)).off + 1, none⟩ = some (.int .i64 ((rd_T54 x479000_2 (ji90)).f1)) ∧ w'.cell? ⟨(ad484.add (((ji90)).toNat * 3)).block, (ad484.add (((ji90)).toNat * 3)).off + 2, none⟩ = some (.int .i64 ((rd_T54 x479000_2 (ji90)).f2)) ∧ w'.cell? (ad484.add (((ji90)).toNat * 3)) = some (.int .i64 ((rd_T54 x479000_2 (ji90)).f0)) ∧ w'.cell? ⟨(ad484.add (((ji90)).toNat * 3)).block, (ad484.add (((ji90)).toNat * 3)).off + 1, none⟩ = some (.int .i64 ((rd_T54 x479000_2 (ji90)).f1)) ∧ w'.cell? ⟨(ad484.add (((ji90)).toNat * 3)).block, (ad484.add (((ji90)).toNat * 3)).off + 2, none⟩ = some (.int .i64 ((rd_T54 x479000_2 (ji90)).f2))) (ds := []) #[F,F,F,F,F,F,F,F,F,F,F,F,F,F,F,F,F,F,F,F,F,F,F,F,F,F] (by kernel_rfl) rfl rfl ⟨(bc BK478.out 0).trans rfl, (bc BK478.out 1).trans rfl, (bc BK483.out 0).trans rfl, (bc BK483.out 1).trans rfl, (bc BK483.out 2).trans rfl, hx484_0, hx484_1, hx484_2, hx485_0, hx485_1, hx485_2⟩ (fun hHeld => ?_); refine with_tabW r_Common.tab12 r_Common.bits12 (fun HT_ HW_ => ?_)
        generalize wc.drew = w104 at HO_479000 BK475 BK476 BK477 BK478 BK481 BK482 BK483 HB hx484_0 hx484_1 hx484_2 hx485_0 hx485_1 hx485_2 hHeld ⊢
        refine pu (i := 0) (N := some 67) (fl 26 1 []) HT_ ?_
        refine pu (i := 1) (N := some 68) (fl 26 2 []) HT_ ?_
        refine pu (i := 2) (N := some 69) (fl 26 3 []) HT_ ?_
        refine pu (i := 3) (N := some 70) (fl 26 4 []) HT_ ?_
        refine pu (i := 5) (N := some 72) (fl 26 4 [5]) HT_ ?_
        refine pu (i := 6) (N := some 73) (fl 26 4 [5, 6]) HT_ ?_
        refine pu (i := 10) (N := some 77) (fl 26 4 [5, 6, 10]) HT_ ?_
        refine tk (i := 4) (N := some 71) (fl 26 7 [10]) HT_ HW_ hHeld ?_
        refine pu (i := 7) (N := some 74) (fl 26 8 [10]) HT_ ?_
        refine pu (i := 8) (N := some 75) (fl 26 9 [10]) HT_ ?_
        refine tk (i := 9) (N := some 76) (fl 26 11 []) HT_ HW_ hHeld ?_
        refine tk (i := 11) (N := some 78) (fl 26 12 []) HT_ HW_ hHeld ?_
        refine pu (i := 12) (N := some 79) (fl 26 13 []) HT_ ?_
        refine pu (i := 13) (N := some 80) (fl 26 14 []) HT_ ?_
        refine pu (i := 14) (N := some 81) (fl 26 15 []) HT_ ?_
        refine pu (i := 15) (N := some 82) (fl 26 16 []) HT_ ?_
        refine pu (i := 17) (N := some 84) (fl 26 16 [17]) HT_ ?_
        refine pu (i := 18) (N := some 85) (fl 26 16 [17, 18]) HT_ ?_
        refine pu (i := 22) (N := some 89) (fl 26 16 [17, 18, 22]) HT_ ?_
        refine tk (i := 16) (N := some 83) (fl 26 19 [22]) HT_ HW_ hHeld ?_
        refine pu (i := 19) (N := some 86) (fl 26 20 [22]) HT_ ?_
        refine pu (i := 20) (N := some 87) (fl 26 21 [22]) HT_ ?_
        refine tk (i := 21) (N := some 88) (fl 26 23 []) HT_ HW_ hHeld ?_
        refine tk (i := 23) (N := some 90) (fl 26 24 []) HT_ HW_ hHeld ?_
        refine pu (i := 24) (N := some 91) (fl 26 25 []) HT_ ?_
        refine pu (i := 25) (N := some 92) (fl 26 26 []) HT_ ?_
        refine done_ (done_of HT_.out (by kernel_rfl)) ?_
        have := yC1 BK478
        have := kC1 BK478
        have := bf BK478.out 0
        have := bf BK478.out 1
        have hnb106 := NB483_475.out
        have hnc106 := NB475_483.out
        have hnb107 := NB483_476.out
        have hnc107 := NB476_483.out
        have hnb108 := NB483_477.out
        have hnc108 := NB477_483.out
        have hnb109 := NB483_481.out
        have hnc109 := NB481_483.out
        have hnb110 := NB483_482.out
        have hnc110 := NB482_483.out
        have := yC1 BK483
        have := kC1 BK483
        have := kC2 BK483
        have := bf BK483.out 0
        have := bf BK483.out 1
        have := bf BK483.out 2
        have p95 : 0 ≤ ((ji90) : Int) := of_decide_eq_true (by assumption)
        have q95 : ((ji90) : Int) < ((x479000_2.length : Int) : Int) := of_decide_eq_true (by assumption)
        obtain ⟨go95, co95, eo95, gb95, gl95, cl95, HG95⟩ := Kd.R_form HO_479000.out (by omega)
        (first | cases eo95 | (injection eo95 with ea_ en_ ec_; (first | subst ea_ | (injection ea_ with ea_; subst ea_)); subst ec_; clear en_))
        have GB95 := am gb95
        have GG95 := am HG95
        clear gb95 gl95 HG95
        (first | simp only [add_plain] at hx484_0 | skip)
        (first | simp only [add_plain] at hx484_1 | skip)
        (first | simp only [add_plain] at hx484_2 | skip)
        (first | simp only [add_plain] at hx485_0 | skip)
        (first | simp only [add_plain] at hx485_1 | skip)
        (first | simp only [add_plain] at hx485_2 | skip)
        obtain ⟨ce95, hcl95, hM95, hcc95, hfr95⟩ := Kd.R_elem HO_479000.out z54 ((ji90) : Int) p95 q95
        obtain rfl := k54_openM hM95
        have hx95_0 : w104.cell? ⟨go95, ((ji90) : Int).toNat * 3, none⟩ = some (.int .i64 ((rd_T54 x479000_2 (ji90)).f0)) := hcc95 0 _ rfl
        have hx95_1 : w104.cell? ⟨go95, ((ji90) : Int).toNat * 3 + 1, none⟩ = some (.int .i64 ((rd_T54 x479000_2 (ji90)).f1)) := hcc95 1 _ rfl
        have hx95_2 : w104.cell? ⟨go95, ((ji90) : Int).toNat * 3 + 2, none⟩ = some (.int .i64 ((rd_T54 x479000_2 (ji90)).f2)) := hcc95 2 _ rfl
        have hf95_0 : w104.frozen? ⟨go95, ((ji90) : Int).toNat * 3, none⟩ = false := hfr95 0
        have hf95_1 : w104.frozen? ⟨go95, ((ji90) : Int).toNat * 3 + 1, none⟩ = false := hfr95 1
        have hf95_2 : w104.frozen? ⟨go95, ((ji90) : Int).toNat * 3 + 2, none⟩ = false := hfr95 2
        clear hcl95 hcc95 hfr95 hM95
        replace p95 := eq_true p95
        replace q95 := eq_true q95
        have HX112 := am (show Kd.R k54 54 w104 w.heap.size (fun k_ => k_ ≠ gb481 ∧ k_ ≠ gb482 ∧ k_ ≠ gb483) (.slice (some ⟨go95, 0, none⟩) x479000_2.length co103) x479000_2 from (fR HO_479000.out))
        obtain ⟨ce112, hcl112, hM112, hcc112, hfr112⟩ := Kd.R_elem HX112.out z54 ((ji90) : Int) (of_decide_eq_true (by assumption)) (by have h_ : ((ji90) : Int) < ((x479000_2.length : Int) : Int) := of_decide_eq_true (by assumption); first | exact h_ | (have e_ := (Kd.R_reads' HO_479000.out).1; omega) | simpa using h_)
        obtain rfl := k54_openM hM112
        have HP112 := Kd.R_seg HX112.out ((ji90) : Int) (of_decide_eq_true (by assumption)) (by have h_ : ((ji90) : Int) < ((x479000_2.length : Int) : Int) := of_decide_eq_true (by assumption); first | exact h_ | (have e_ := (Kd.R_reads' HO_479000.out).1; omega) | simpa using h_) (seg := [.int .i64 ji21]) (j := 2) hcl112 hcc112 (show 3 ≤ 3 from by decide) (x' := (⟨(rd_T54 x479000_2 (ji90)).f0, (rd_T54 x479000_2 (ji90)).f1, ji21⟩ : S54)) (k54_mkM _ _ _ (⟨(rd_T54 x479000_2 (ji90)).f0, (rd_T54 x479000_2 (ji90)).f1, ji21⟩ : S54) ) (fun _ hk => hk)
        have hx112_2 := hcc112 2 _ rfl
        (try simp only [show (k54).sz = 3 from rfl, Nat.mul_one, Nat.add_zero] at hx112_2)
        have hf112_2 := hfr112 2
        (try simp only [show (k54).sz = 3 from rfl, Nat.mul_one, Nat.add_zero] at hf112_2)
        clear hcl112 hcc112 hfr112 hM112
        try go_wp2_with (first | ((with_reducible refine gate_store (t := 3) (p := 100) rfl ?_); refine store_event (t := 3) (p := 100) (v := ?vo_w113) (w1 := (w104.setCell ⟨go95, ((ji90) : Int).toNat * 3 + 2, none⟩ (.int .i64 ji21))) ?hg ?ho ?hn ?hr ?_; (case ho => rfl); (case hg => rfl); (case hn => rfl); (case hr => first | (go_simp; done) | (go_simp; rfl)); intro w113 hw; have hg : w104.grownBy w113 (some go95) := (by rw [hw]; exact HP112.2); have hp_ : Kd.R k54 54 w113 w.heap.size (fun k_ => k_ ≠ gb481 ∧ k_ ≠ gb482 ∧ k_ ≠ gb483) (.slice (some ⟨go95, 0, none⟩) x479000_2.length co103) y486 := (by rw [hw, Ny486.out]; exact HP112.1); clear HP112; replace BK475 := am (blk_grown (g := gb475) (o := .cells #[.slice (some ad479) l0_0.length c0_0, .slice A0_1 l0_1.length c0_1] 25 (0, 0)) (fb BK475.out) hg (Kd.R_ne HO_479000.out BK475.out (by decide))); replace BK476 := am (blk_grown (g := gb476) (o := .cells #[.slice (some ad480) l1_0.length c1_0, .slice A1_1 l1_1.length c1_1] 25 (0, 0)) (fb BK476.out) hg (Kd.R_ne HO_479000.out BK476.out (by decide))); replace BK477 := am (blk_grown (g := gb477) (o := .cells #[.slice none 0 0, .slice none 0 0] 25 (0, 0)) (fb BK477.out) hg (Kd.R_ne HO_479000.out BK477.out (by decide))); replace BK478 := am (blk_grown (g := gb478) (o := .cells #[.slice (some ⟨go95, 0, none⟩) x479000_2.length co103, .slice none 0 0] 25 (0, 0)) (fb BK478.out) hg (Kd.R_ne HO_479000.out BK478.out (by decide))); replace BK481 := am (blk_grown (g := gb481) (o := .cells #[.int .i64 ((rd_T54 l0_0 x7_1).f0), .int .i64 ((rd_T54 l0_0 x7_1).f1), .int .i64 ((rd_T54 l0_0 x7_1).f2)] 54 (0, 0)) (fb BK481.out) hg (Kd.R_away HO_479000.out (fun _ hk => hk.1))); replace BK482 := am (blk_grown (g := gb482) (o := .cells #[.int .i64 ((rd_T54 l1_0 x8_2).f0), .int .i64 ((rd_T54 l1_0 x8_2).f1), .int .i64 ((rd_T54 l1_0 x8_2).f2)] 54 (0, 0)) (fb BK482.out) hg (Kd.R_away HO_479000.out (fun _ hk => hk.2.1))); replace BK483 := am (blk_grown (g := gb483) (o := .cells #[.int .i64 ((rd_T54 l0_0 x7_1).f0), .int .i64 ji20, .int .i64 ji21] 54 (0, 0)) (fb BK483.out) hg (Kd.R_away HO_479000.out (fun _ hk => hk.2.2))); replace HO_479000 := am (hp_); replace HB := am ((by rw [hw]; exact below_set (HB.out) GB95.out : Below w.heap.size w w113)); clear hg hw hp_))
        go_roundg kj21
        case measure => have := HK1.out; have := HK2.out; have := HJ21.out; omega
        case rel => exact ⟨(wrap64 (x8_2 + 1)), (y486), (.slice (some ⟨go95, 0, none⟩) x479000_2.length co103), sqD, H', ⟨by have := HK1.out; have := HK2.out; have := HJ21.out; omega⟩, ⟨by (with_reducible repeat (first | apply Kd.R_alloc | apply Kd.R_drewN | apply Kd.R_drew)); exact Kd.R_mono HO_479000.out (fun _ hk => trivial)⟩, ⟨fb BK475.out⟩, ⟨fb BK476.out⟩, ⟨fb BK477.out⟩, ⟨fb BK478.out⟩, ⟨fW HB.out⟩⟩
   ·rw [if_neg c11] at H
    have c11b0 : decide (x7_1 < (l0_0.length : Int)) = false := decide_eq_false c11
    clear c11
    have H' := am H
    clear H
    have hnb178 := NB475_476.out
    have hnc178 := NB476_475.out
    have hnb179 := NB475_477.out
    have hnc179 := NB477_475.out
    have hnb180 := NB475_478.out
    have hnc180 := NB478_475.out
    have := yC1 BK475
    have := kC1 BK475
    have := bf BK475.out 0
    have := bf BK475.out 1
    go_wp2
    go_loopg [13] k1 (fun kq v13 w' => ∃ (x13_2 : Int) (x479001_2 : List Int) (u479001 : Value), v13 = .int .i64 x13_2 ∧ Aside0 (r_Common.l2 kq x13_2 l0_0 l0_1 l1_0 l1_1 x479000_1 x479001_2 = some (r1, r2, r3)) ∧ Aside0 (kq ≤ k1) ∧ Aside0 (Kd.R k54 54 w' w.heap.size (fun _ => True) u479000 x479000_1) ∧ Aside0 (Kd.R (Kd.int .i64) 3 w' w.heap.size (fun _ => True) u479001 x479001_2) ∧ Aside0 (w'.heap[gb475]? = some (.cells #[(.slice A0_0 l0_0.length c0_0), (.slice A0_1 l0_1.length c0_1)] 25 (0, 0))) ∧ Aside0 (w'.heap[gb476]? = some (.cells #[(.slice A1_0 l1_0.length c1_0), (.slice A1_1 l1_1.length c1_1)] 25 (0, 0))) ∧ Aside0 (w'.heap[gb477]? = some (.cells #[(.slice none 0 0), (.slice none 0 0)] 25 (0, 0))) ∧ Aside0 (w'.heap[gb478]? = some (.cells #[u479000, u479001] 25 (0, 0))) ∧ Aside0 (Below w.heap.size w w'))
    case atStart => exact ⟨(0), (([] : List Int)), (.slice none 0 0), sqD, H', ⟨Nat.le_refl _⟩, ⟨fR HO_479000.out⟩, ⟨by first | exact Kd.R_nil _ _ _ _ _ | exact Kd.N_nil _ _ _ _ _ | exact Kd.V_nil _ _ _ _ _ | exact Kd.Q_nil _ _ _ _ _ | exact Kd.S_nil _ _ _ _ _⟩, ⟨fb BK475.out⟩, ⟨fb BK476.out⟩, ⟨fb BK477.out⟩, ⟨fb BK478.out⟩, ⟨fW HB.out⟩⟩
    case round =>
     clear H'
     try clear c1;try clear p2;try clear p4;try clear q4;try clear hx4;try clear p6;try clear c8;try clear c9;try clear c11;try clear c11b0;try clear c12;try clear c13;try clear c14;try clear c15;try clear c16;try clear c16b0;try clear c17;try clear c18;try clear c19;try clear p48;try clear q48;try clear hx48;try clear p64;try clear c89;try clear c89b0;try clear c89b1;try clear c91;try clear c92;try clear c93;try clear c93b0;try clear c93b1;try clear c114;try clear c125;try clear c126;try clear c127;try clear c128;try clear c129;try clear c134;try clear c135;try clear c136;try clear c137;try clear c138;try clear c139;try clear c140;try clear c145;try clear c146;try clear c147;try clear c148;try clear c149;try clear c154;try clear c155;try clear c156;try clear c157;try clear c158;try clear c159;try clear c160;try clear c165;try clear c166;try clear c167;try clear c168;try clear c169;try clear c174;try clear c175;try clear c176;try clear c178;try clear c179;try clear c180;try clear hx484_0;try clear hx484_1;try clear hx484_2;try clear p484;try clear q484
     obtain ⟨x13_2, x479001_2, u479001, rfl, HA, HK2, HO_479000, HO_479001, BK475, BK476, BK477, BK478, HB⟩ := hrel
     cases gk with
     | zero => exact absurd HA.out (by simp [r_Common.l2])
     | succ k2 =>
      have H := HA.out
      clear HA
      simp only [r_Common.l2] at H
      by_cases c182 : x13_2 < 10000
      ·rw [if_pos c182] at H
       have c182b0 : decide (x13_2 < 10000) = true := decide_eq_true c182
       clear c182
       replace H := Option.bind_eq_some_iff.mp H
       obtain ⟨t496, A1830, H⟩ := H
       replace H : (if t496 = true then (if x479001_2.length < 17592186044416 then (r_Common.l2 k2 (wrap64 (x13_2 + 1)) l0_0 l0_1 l1_0 l1_1 x479000_1 (x479001_2 ++ [x13_2])) else (none)) else ((r_Calendar_free.f k2 l1_0 l1_1 x13_2).bind fun t500 => (if t500 = true then (if x479001_2.length < 17592186044416 then (r_Common.l2 k2 (wrap64 (x13_2 + 1)) l0_0 l0_1 l1_0 l1_1 x479000_1 (x479001_2 ++ [x13_2])) else (none)) else (r_Common.l2 k2 (wrap64 (x13_2 + 1)) l0_0 l0_1 l1_0 l1_1 x479000_1 x479001_2)))) = some (r1, r2, r3) := H
       have A183 := am A1830
       clear A1830
       by_cases c184 : t496 = true
       ·subst c184
        have H1 : (if x479001_2.length < 17592186044416 then (r_Common.l2 k2 (wrap64 (x13_2 + 1)) l0_0 l0_1 l1_0 l1_1 x479000_1 (x479001_2 ++ [x13_2])) else (none)) = some (r1, r2, r3) := by rw [if_pos rfl] at H; exact H
        clear H
        have H := H1
        clear H1
        by_cases c185 : x479001_2.length < 17592186044416
        rotate_left
        ·rw [if_neg c185] at H
         exact absurd H (by simp)
        rw [if_pos c185] at H
        have LMc185 := am c185
        clear c185
        obtain ⟨y497, hy497⟩ : ∃ y_ : List Int, y_ = (x479001_2 ++ [x13_2]) := ⟨_, rfl⟩
        replace H : (r_Common.l2 k2 (wrap64 (x13_2 + 1)) l0_0 l0_1 l1_0 l1_1 x479000_1 y497) = some (r1, r2, r3) := by first | (rw [hy497]; with_reducible exact H) | (have H2_ := (Option.bind_some _ _).symm.trans H; rw [hy497]; with_reducible exact H2_) | (have H2_ := (Option.bind_some _ _).symm.trans H; with_reducible exact H2_) | with_reducible exact H | (rw [hy497]; exact H) | exact H
        have Ny497 := am hy497
        clear hy497
        have H' := am H
        clear H
        have hnb186 := NB475_476.out
        have hnc186 := NB476_475.out
        have hnb187 := NB475_477.out
        have hnc187 := NB477_475.out
        have hnb188 := NB475_478.out
        have hnc188 := NB478_475.out
        have := yC1 BK475
        have := kC1 BK475
        have := bf BK475.out 0
        have := bf BK475.out 1
        go_wp2_with (first | ((with_reducible refine gate_callee (f := 37) rfl ?_); refine goesL_ (some 113) rfl rfl Try.func37 (by kernel_rfl) rfl #[.agg #[.slice A0_0 l0_0.length c0_0, .slice A0_1 l0_1.length c0_1], .int .i64 x13_2] rfl (by (try simp only [pml]); first | done | rfl | (simp only [pdt]; rfl)) ?_; (with_reducible refine (r_Calendar_free.calls k2 _ _ l0_0 _ _ l0_1 x13_2 true _ ?side1 ?side2 ?side3 ?side4 A183.out).mono ?_); (case side1 => repeat (first | exact (Kd.C_below HR0_0.out HB.out) | (with_reducible refine Kd.C_alloc ?_ _) | (with_reducible refine Kd.C_drewN ?_ _) | (with_reducible refine Kd.C_drew ?_))); (case side2 => exact HC0_0.out); (case side3 => repeat (first | exact (Kd.C_below HR0_1.out HB.out) | (with_reducible refine Kd.C_alloc ?_ _) | (with_reducible refine Kd.C_drewN ?_ _) | (with_reducible refine Kd.C_drew ?_))); (case side4 => exact HC0_1.out); rintro e w190 ⟨rfl, hb⟩; refine ⟨_, rfl, ?_⟩; replace HO_479000 := dR HO_479000 hb; replace HO_479001 := dR HO_479001 hb; replace BK475 := bB BK475 hb; replace BK476 := bB BK476 hb; replace BK477 := bB BK477 hb; replace BK478 := bB BK478 hb; replace HB := bS HB hb; (try clear hb); (try clear hb2); (try clear hk); (try clear hi); have hnb191 := NB478_476.out; have hnc191 := NB476_478.out; have hnb192 := NB478_477.out; have hnc192 := NB477_478.out; obtain ⟨_, _, _, _⟩ := zC2 BK478) | ((with_reducible refine gate_builtin (b := .append) (xs := #[.tmp 120, .tmp 122]) rfl ?_); (try (refine gG (by rfl) ?_; dsimp only)); at_builtin; refine Kd.R_append (Kd.int .i64) (w0 := w) w.heap.size rfl (.tmp 120) (.tmp 122) 23 3 (.int .i64 0) 8 rfl Try.underlying23 info3 rfl (by decide) (by omega) u479001 x479001_2 x13_2 [.int .i64 x13_2] (fun _ => True) (fun _ => False) rfl rfl ?aP (fun _ hk => hk.elim) ?aF ?aO ?aB ?aS ?aL ?_; (case aP => exact rfl); (case aB => exact (fW HB.out)); (case aF => exact (fun _ _ => trivial)); (case aO => exact (fR HO_479001.out)); (case aS => exact (below_size (fW HB.out))); (case aL => have := LMc185.out; omega); intro v498 w194 ho hb hg hat; rw [← Ny497.out] at ho; replace HO_479000 := am (Kd.R_over' (fR HO_479000.out) (Kd.R_typed (fR HO_479001.out)) (by decide) hg); replace BK475 := am (blk_grown (g := gb475) (o := .cells #[.slice A0_0 l0_0.length c0_0, .slice A0_1 l0_1.length c0_1] 25 (0, 0)) (fb BK475.out) hg (Kd.R_ne HO_479001.out BK475.out (by decide))); replace BK476 := am (blk_grown (g := gb476) (o := .cells #[.slice A1_0 l1_0.length c1_0, .slice A1_1 l1_1.length c1_1] 25 (0, 0)) (fb BK476.out) hg (Kd.R_ne HO_479001.out BK476.out (by decide))); replace BK477 := am (blk_grown (g := gb477) (o := .cells #[.slice none 0 0, .slice none 0 0] 25 (0, 0)) (fb BK477.out) hg (Kd.R_ne HO_479001.out BK477.out (by decide))); replace BK478 := am (blk_grown (g := gb478) (o := .cells #[u479000, u479001] 25 (0, 0)) (fb BK478.out) hg (Kd.R_ne HO_479001.out BK478.out (by decide))); replace HB := am (hb); have HO499 := am (ho); clear HO_479001 ho hb hg hat; obtain ⟨Ao195, co195, eo195⟩ := Kd.R_slice HO499.out; subst eo195; obtain ⟨_, _, _, _⟩ := zC2 BK478))
        go_roundg k2
        case measure => have := HK1.out; have := HK2.out; omega
        case rel => exact ⟨(wrap64 (x13_2 + 1)), (y497), (.slice Ao195 y497.length co195), sqD, H', ⟨by have := HK1.out; have := HK2.out; omega⟩, ⟨by (with_reducible repeat (first | apply Kd.R_alloc | apply Kd.R_drewN | apply Kd.R_drew)); exact Kd.R_mono (Kd.R_far (p := ⟨gb478, 1, none⟩) (Kd.R_types HO_479000.out BK478.out (by decide)) (fun _ hk => hk.2) (.slice Ao195 y497.length co195)) (fun _ hk => trivial)⟩, ⟨by (with_reducible repeat (first | apply Kd.R_alloc | apply Kd.R_drewN | apply Kd.R_drew)); exact Kd.R_mono (Kd.R_far (p := ⟨gb478, 1, none⟩) (Kd.R_types HO499.out BK478.out (by decide)) (fun _ hk => hk.2) (.slice Ao195 y497.length co195)) (fun _ hk => trivial)⟩, ⟨by (with_reducible repeat first | apply bN | apply bd | apply ba); refine bF ?_ NB475_478.out _; (with_reducible repeat first | apply bN | apply bd | apply ba); exact BK475.out⟩, ⟨by (with_reducible repeat first | apply bN | apply bd | apply ba); refine bF ?_ NB476_478.out _; (with_reducible repeat first | apply bN | apply bd | apply ba); exact BK476.out⟩, ⟨by (with_reducible repeat first | apply bN | apply bd | apply ba); refine bF ?_ NB477_478.out _; (with_reducible repeat first | apply bN | apply bd | apply ba); exact BK477.out⟩, ⟨by (with_reducible repeat first | apply bN | apply bd | apply ba); refine bp (cs := #[u479000, u479001]) ?_ 1 _ rfl; (with_reducible repeat first | apply bN | apply bd | apply ba); exact BK478.out⟩, ⟨fW HB.out⟩⟩
       replace c184 := Bool.eq_false_iff.mpr c184
       subst c184
       have H1 : ((r_Calendar_free.f k2 l1_0 l1_1 x13_2).bind fun t500 => (if t500 = true then (if x479001_2.length < 17592186044416 then (r_Common.l2 k2 (wrap64 (x13_2 + 1)) l0_0 l0_1 l1_0 l1_1 x479000_1 (x479001_2 ++ [x13_2])) else (none)) else (r_Common.l2 k2 (wrap64 (x13_2 + 1)) l0_0 l0_1 l1_0 l1_1 x479000_1 x479001_2))) = some (r1, r2, r3) := by rw [if_neg (show ¬ (false = true) by decide)] at H; exact H
       clear H
       have H := H1
       clear H1
       replace H := Option.bind_eq_some_iff.mp H
       obtain ⟨t500, A1970, H⟩ := H
       replace H : (if t500 = true then (if x479001_2.length < 17592186044416 then (r_Common.l2 k2 (wrap64 (x13_2 + 1)) l0_0 l0_1 l1_0 l1_1 x479000_1 (x479001_2 ++ [x13_2])) else (none)) else (r_Common.l2 k2 (wrap64 (x13_2 + 1)) l0_0 l0_1 l1_0 l1_1 x479000_1 x479001_2)) = some (r1, r2, r3) := H
       have A197 := am A1970
       clear A1970
       by_cases c198 : t500 = true
       ·subst c198
        have H1 : (if x479001_2.length < 17592186044416 then (r_Common.l2 k2 (wrap64 (x13_2 + 1)) l0_0 l0_1 l1_0 l1_1 x479000_1 (x479001_2 ++ [x13_2])) else (none)) = some (r1, r2, r3) := by rw [if_pos rfl] at H; exact H
        clear H
        have H := H1
        clear H1
        by_cases c199 : x479001_2.length < 17592186044416
        rotate_left
        ·rw [if_neg c199] at H
         exact absurd H (by simp)
        rw [if_pos c199] at H
        have LMc199 := am c199
        clear c199
        obtain ⟨y501, hy501⟩ : ∃ y_ : List Int, y_ = (x479001_2 ++ [x13_2]) := ⟨_, rfl⟩
        replace H : (r_Common.l2 k2 (wrap64 (x13_2 + 1)) l0_0 l0_1 l1_0 l1_1 x479000_1 y501) = some (r1, r2, r3) := by first | (rw [hy501]; with_reducible exact H) | (have H2_ := (Option.bind_some _ _).symm.trans H; rw [hy501]; with_reducible exact H2_) | (have H2_ := (Option.bind_some _ _).symm.trans H; with_reducible exact H2_) | with_reducible exact H | (rw [hy501]; exact H) | exact H
        have Ny501 := am hy501
        clear hy501
        have H' := am H
        clear H
        have hnb200 := NB475_476.out
        have hnc200 := NB476_475.out
        have hnb201 := NB475_477.out
        have hnc201 := NB477_475.out
        have hnb202 := NB475_478.out
        have hnc202 := NB478_475.out
        have := yC1 BK475
        have := kC1 BK475
        have := bf BK475.out 0
        have := bf BK475.out 1
        go_wp2_with (first | ((with_reducible refine gate_callee (f := 37) rfl ?_); refine goesL_ (some 113) rfl rfl Try.func37 (by kernel_rfl) rfl #[.agg #[.slice A0_0 l0_0.length c0_0, .slice A0_1 l0_1.length c0_1], .int .i64 x13_2] rfl (by (try simp only [pml]); first | done | rfl | (simp only [pdt]; rfl)) ?_; (with_reducible refine (r_Calendar_free.calls k2 _ _ l0_0 _ _ l0_1 x13_2 false _ ?side1 ?side2 ?side3 ?side4 A183.out).mono ?_); (case side1 => repeat (first | exact (Kd.C_below HR0_0.out HB.out) | (with_reducible refine Kd.C_alloc ?_ _) | (with_reducible refine Kd.C_drewN ?_ _) | (with_reducible refine Kd.C_drew ?_))); (case side2 => exact HC0_0.out); (case side3 => repeat (first | exact (Kd.C_below HR0_1.out HB.out) | (with_reducible refine Kd.C_alloc ?_ _) | (with_reducible refine Kd.C_drewN ?_ _) | (with_reducible refine Kd.C_drew ?_))); (case side4 => exact HC0_1.out); rintro e w204 ⟨rfl, hb⟩; refine ⟨_, rfl, ?_⟩; replace HO_479000 := dR HO_479000 hb; replace HO_479001 := dR HO_479001 hb; replace BK475 := bB BK475 hb; replace BK476 := bB BK476 hb; replace BK477 := bB BK477 hb; replace BK478 := bB BK478 hb; replace HB := bS HB hb; (try clear hb); (try clear hb2); (try clear hk); (try clear hi); have hnb205 := NB476_477.out; have hnc205 := NB477_476.out; have hnb206 := NB476_478.out; have hnc206 := NB478_476.out; obtain ⟨_, _, _, _⟩ := zC2 BK476) | (go_at_call 37; (with_reducible refine (r_Calendar_free.calls k2 _ _ l1_0 _ _ l1_1 x13_2 true _ ?side1 ?side2 ?side3 ?side4 A197.out).mono ?_); (case side1 => repeat (first | exact (Kd.C_below HR1_0.out HB.out) | (with_reducible refine Kd.C_alloc ?_ _) | (with_reducible refine Kd.C_drewN ?_ _) | (with_reducible refine Kd.C_drew ?_))); (case side2 => exact HC1_0.out); (case side3 => repeat (first | exact (Kd.C_below HR1_1.out HB.out) | (with_reducible refine Kd.C_alloc ?_ _) | (with_reducible refine Kd.C_drewN ?_ _) | (with_reducible refine Kd.C_drew ?_))); (case side4 => exact HC1_1.out); rintro e w208 ⟨rfl, hb⟩; replace HO_479000 := dR HO_479000 hb; replace HO_479001 := dR HO_479001 hb; replace BK475 := bB BK475 hb; replace BK476 := bB BK476 hb; replace BK477 := bB BK477 hb; replace BK478 := bB BK478 hb; replace HB := bS HB hb; (try clear hb); (try clear hb2); (try clear hk); (try clear hi); have hnb209 := NB478_477.out; have hnc209 := NB477_478.out; obtain ⟨_, _, _, _⟩ := zC2 BK478) | ((with_reducible refine gate_builtin (b := .append) (xs := #[.tmp 120, .tmp 122]) rfl ?_); (try (refine gG (by rfl) ?_; dsimp only)); at_builtin; refine Kd.R_append (Kd.int .i64) (w0 := w) w.heap.size rfl (.tmp 120) (.tmp 122) 23 3 (.int .i64 0) 8 rfl Try.underlying23 info3 rfl (by decide) (by omega) u479001 x479001_2 x13_2 [.int .i64 x13_2] (fun _ => True) (fun _ => False) rfl rfl ?aP (fun _ hk => hk.elim) ?aF ?aO ?aB ?aS ?aL ?_; (case aP => exact rfl); (case aB => exact (fW HB.out)); (case aF => exact (fun _ _ => trivial)); (case aO => exact (fR HO_479001.out)); (case aS => exact (below_size (fW HB.out))); (case aL => have := LMc199.out; omega); intro v502 w211 ho hb hg hat; rw [← Ny501.out] at ho; replace HO_479000 := am (Kd.R_over' (fR HO_479000.out) (Kd.R_typed (fR HO_479001.out)) (by decide) hg); replace BK475 := am (blk_grown (g := gb475) (o := .cells #[.slice A0_0 l0_0.length c0_0, .slice A0_1 l0_1.length c0_1] 25 (0, 0)) (fb BK475.out) hg (Kd.R_ne HO_479001.out BK475.out (by decide))); replace BK476 := am (blk_grown (g := gb476) (o := .cells #[.slice A1_0 l1_0.length c1_0, .slice A1_1 l1_1.length c1_1] 25 (0, 0)) (fb BK476.out) hg (Kd.R_ne HO_479001.out BK476.out (by decide))); replace BK477 := am (blk_grown (g := gb477) (o := .cells #[.slice none 0 0, .slice none 0 0] 25 (0, 0)) (fb BK477.out) hg (Kd.R_ne HO_479001.out BK477.out (by decide))); replace BK478 := am (blk_grown (g := gb478) (o := .cells #[u479000, u479001] 25 (0, 0)) (fb BK478.out) hg (Kd.R_ne HO_479001.out BK478.out (by decide))); replace HB := am (hb); have HO503 := am (ho); clear HO_479001 ho hb hg hat; obtain ⟨Ao212, co212, eo212⟩ := Kd.R_slice HO503.out; subst eo212; obtain ⟨_, _, _, _⟩ := zC2 BK478))
        go_roundg k2
        case measure => have := HK1.out; have := HK2.out; omega
        case rel => exact ⟨(wrap64 (x13_2 + 1)), (y501), (.slice Ao212 y501.length co212), sqD, H', ⟨by have := HK1.out; have := HK2.out; omega⟩, ⟨by (with_reducible repeat (first | apply Kd.R_alloc | apply Kd.R_drewN | apply Kd.R_drew)); exact Kd.R_mono (Kd.R_far (p := ⟨gb478, 1, none⟩) (Kd.R_types HO_479000.out BK478.out (by decide)) (fun _ hk => hk.2) (.slice Ao212 y501.length co212)) (fun _ hk => trivial)⟩, ⟨by (with_reducible repeat (first | apply Kd.R_alloc | apply Kd.R_drewN | apply Kd.R_drew)); exact Kd.R_mono (Kd.R_far (p := ⟨gb478, 1, none⟩) (Kd.R_types HO503.out BK478.out (by decide)) (fun _ hk => hk.2) (.slice Ao212 y501.length co212)) (fun _ hk => trivial)⟩, ⟨by (with_reducible repeat first | apply bN | apply bd | apply ba); refine bF ?_ NB475_478.out _; (with_reducible repeat first | apply bN | apply bd | apply ba); exact BK475.out⟩, ⟨by (with_reducible repeat first | apply bN | apply bd | apply ba); refine bF ?_ NB476_478.out _; (with_reducible repeat first | apply bN | apply bd | apply ba); exact BK476.out⟩, ⟨by (with_reducible repeat first | apply bN | apply bd | apply ba); refine bF ?_ NB477_478.out _; (with_reducible repeat first | apply bN | apply bd | apply ba); exact BK477.out⟩, ⟨by (with_reducible repeat first | apply bN | apply bd | apply ba); refine bp (cs := #[u479000, u479001]) ?_ 1 _ rfl; (with_reducible repeat first | apply bN | apply bd | apply ba); exact BK478.out⟩, ⟨fW HB.out⟩⟩
       replace c198 := Bool.eq_false_iff.mpr c198
       subst c198
       have H1 : (r_Common.l2 k2 (wrap64 (x13_2 + 1)) l0_0 l0_1 l1_0 l1_1 x479000_1 x479001_2) = some (r1, r2, r3) := by rw [if_neg (show ¬ (false = true) by decide)] at H; exact H
       clear H
       have H := H1
       clear H1
       have H' := am H
       clear H
       have hnb214 := NB475_476.out
       have hnc214 := NB476_475.out
       have hnb215 := NB475_477.out
       have hnc215 := NB477_475.out
       have hnb216 := NB475_478.out
       have hnc216 := NB478_475.out
       have := yC1 BK475
       have := kC1 BK475
       have := bf BK475.out 0
       have := bf BK475.out 1
       go_wp2_with (first | ((with_reducible refine gate_callee (f := 37) rfl ?_); refine goesL_ (some 113) rfl rfl Try.func37 (by kernel_rfl) rfl #[.agg #[.slice A0_0 l0_0.length c0_0, .slice A0_1 l0_1.length c0_1], .int .i64 x13_2] rfl (by (try simp only [pml]); first | done | rfl | (simp only [pdt]; rfl)) ?_; (with_reducible refine (r_Calendar_free.calls k2 _ _ l0_0 _ _ l0_1 x13_2 false _ ?side1 ?side2 ?side3 ?side4 A183.out).mono ?_); (case side1 => repeat (first | exact (Kd.C_below HR0_0.out HB.out) | (with_reducible refine Kd.C_alloc ?_ _) | (with_reducible refine Kd.C_drewN ?_ _) | (with_reducible refine Kd.C_drew ?_))); (case side2 => exact HC0_0.out); (case side3 => repeat (first | exact (Kd.C_below HR0_1.out HB.out) | (with_reducible refine Kd.C_alloc ?_ _) | (with_reducible refine Kd.C_drewN ?_ _) | (with_reducible refine Kd.C_drew ?_))); (case side4 => exact HC0_1.out); rintro e w218 ⟨rfl, hb⟩; refine ⟨_, rfl, ?_⟩; replace HO_479000 := dR HO_479000 hb; replace HO_479001 := dR HO_479001 hb; replace BK475 := bB BK475 hb; replace BK476 := bB BK476 hb; replace BK477 := bB BK477 hb; replace BK478 := bB BK478 hb; replace HB := bS HB hb; (try clear hb); (try clear hb2); (try clear hk); (try clear hi); have hnb219 := NB476_477.out; have hnc219 := NB477_476.out; have hnb220 := NB476_478.out; have hnc220 := NB478_476.out; obtain ⟨_, _, _, _⟩ := zC2 BK476) | (go_at_call 37; (with_reducible refine (r_Calendar_free.calls k2 _ _ l1_0 _ _ l1_1 x13_2 false _ ?side1 ?side2 ?side3 ?side4 A197.out).mono ?_); (case side1 => repeat (first | exact (Kd.C_below HR1_0.out HB.out) | (with_reducible refine Kd.C_alloc ?_ _) | (with_reducible refine Kd.C_drewN ?_ _) | (with_reducible refine Kd.C_drew ?_))); (case side2 => exact HC1_0.out); (case side3 => repeat (first | exact (Kd.C_below HR1_1.out HB.out) | (with_reducible refine Kd.C_alloc ?_ _) | (with_reducible refine Kd.C_drewN ?_ _) | (with_reducible refine Kd.C_drew ?_))); (case side4 => exact HC1_1.out); rintro e w222 ⟨rfl, hb⟩; replace HO_479000 := dR HO_479000 hb; replace HO_479001 := dR HO_479001 hb; replace BK475 := bB BK475 hb; replace BK476 := bB BK476 hb; replace BK477 := bB BK477 hb; replace BK478 := bB BK478 hb; replace HB := bS HB hb; (try clear hb); (try clear hb2); (try clear hk); (try clear hi)))
       go_roundg k2
       case measure => have := HK1.out; have := HK2.out; omega
       case rel => exact ⟨(wrap64 (x13_2 + 1)), (x479001_2), (u479001), sqD, H', ⟨by have := HK1.out; have := HK2.out; omega⟩, ⟨fR HO_479000.out⟩, ⟨fR HO_479001.out⟩, ⟨fb BK475.out⟩, ⟨fb BK476.out⟩, ⟨fb BK477.out⟩, ⟨fb BK478.out⟩, ⟨fW HB.out⟩⟩
      ·rw [if_neg c182] at H
       have c182b0 : decide (x13_2 < 10000) = false := decide_eq_false c182
       clear c182
       by_cases c223 : (x479000_1.length : Int) > 64
       ·rw [if_pos c223] at H
        have c223b0 : decide (64 < (x479000_1.length : Int)) = true := decide_eq_true c223
        have c223b1 : decide (64 < x479000_1.length) = true := decide_eq_true (by omega)
        clear c223
        simp only [Option.some.injEq, Prod.mk.injEq] at H
        obtain ⟨rfl, rfl, rfl⟩ := H
        have hnb224 := NB478_475.out
        have hnc224 := NB475_478.out
        have hnb225 := NB478_476.out
        have hnc225 := NB476_478.out
        have hnb226 := NB478_477.out
        have hnc226 := NB477_478.out
        have := yC1 BK478
        have := kC1 BK478
        have := bf BK478.out 0
        have := bf BK478.out 1
        obtain ⟨Ao228, co228, eo228⟩ := Kd.R_slice HO_479000.out
        subst eo228
        have hnb229 := NB477_475.out
        have hnc229 := NB475_477.out
        have hnb230 := NB477_476.out
        have hnc230 := NB476_477.out
        have := yC1 BK477
        have := kC1 BK477
        have := bf BK477.out 0
        have := bf BK477.out 1
        go_wp2
        refine bodyPost_ret (results_ct rfl _ _ gb477 25 #[.slice none 0 0, .slice none 0 0] (0, 0) _ rfl (kkC BK477.out) Try.underlying25 rfl (by kernel_rfl)) rfl ?_
        exact ⟨_, _, sqE, by first | exact Kd.R_nil _ _ _ _ _ | exact Kd.N_nil _ _ _ _ _ | exact Kd.V_nil _ _ _ _ _ | exact Kd.Q_nil _ _ _ _ _ | exact Kd.S_nil _ _ _ _ _, by first | exact Kd.R_nil _ _ _ _ _ | exact Kd.N_nil _ _ _ _ _ | exact Kd.V_nil _ _ _ _ _ | exact Kd.Q_nil _ _ _ _ _ | exact Kd.S_nil _ _ _ _ _, fW HB.out⟩
       ·rw [if_neg c223] at H
        have c223b0 : decide (64 < (x479000_1.length : Int)) = false := decide_eq_false c223
        have c223b1 : decide (64 < x479000_1.length) = false := decide_eq_false (by omega)
        clear c223
        by_cases c232 : (x479001_2.length : Int) > 64
        ·rw [if_pos c232] at H
         have c232b0 : decide (64 < (x479001_2.length : Int)) = true := decide_eq_true c232
         have c232b1 : decide (64 < x479001_2.length) = true := decide_eq_true (by omega)
         clear c232
         simp only [Option.some.injEq, Prod.mk.injEq] at H
         obtain ⟨rfl, rfl, rfl⟩ := H
         have hnb233 := NB478_475.out
         have hnc233 := NB475_478.out
         have hnb234 := NB478_476.out
         have hnc234 := NB476_478.out
         have hnb235 := NB478_477.out
         have hnc235 := NB477_478.out
         have := yC1 BK478
         have := kC1 BK478
         have := bf BK478.out 0
         have := bf BK478.out 1
         obtain ⟨Ao237, co237, eo237⟩ := Kd.R_slice HO_479000.out
         subst eo237
         obtain ⟨Ao238, co238, eo238⟩ := Kd.R_slice HO_479001.out
         subst eo238
         have hnb239 := NB477_475.out
         have hnc239 := NB475_477.out
         have hnb240 := NB477_476.out
         have hnc240 := NB476_477.out
         have := yC1 BK477
         have := kC1 BK477
         have := bf BK477.out 0
         have := bf BK477.out 1
         go_wp2
         refine bodyPost_ret (results_ct rfl _ _ gb477 25 #[.slice none 0 0, .slice none 0 0] (0, 0) _ rfl (kkC BK477.out) Try.underlying25 rfl (by kernel_rfl)) rfl ?_
         exact ⟨_, _, sqE, by first | exact Kd.R_nil _ _ _ _ _ | exact Kd.N_nil _ _ _ _ _ | exact Kd.V_nil _ _ _ _ _ | exact Kd.Q_nil _ _ _ _ _ | exact Kd.S_nil _ _ _ _ _, by first | exact Kd.R_nil _ _ _ _ _ | exact Kd.N_nil _ _ _ _ _ | exact Kd.V_nil _ _ _ _ _ | exact Kd.Q_nil _ _ _ _ _ | exact Kd.S_nil _ _ _ _ _, fW HB.out⟩
        ·rw [if_neg c232] at H
         have c232b0 : decide (64 < (x479001_2.length : Int)) = false := decide_eq_false c232
         have c232b1 : decide (64 < x479001_2.length) = false := decide_eq_false (by omega)
         clear c232
         simp only [Option.some.injEq, Prod.mk.injEq] at H
         obtain ⟨rfl, rfl, rfl⟩ := H
         have hnb242 := NB478_475.out
         have hnc242 := NB475_478.out
         have hnb243 := NB478_476.out
         have hnc243 := NB476_478.out
         have hnb244 := NB478_477.out
         have hnc244 := NB477_478.out
         have := yC1 BK478
         have := kC1 BK478
         have := bf BK478.out 0
         have := bf BK478.out 1
         obtain ⟨Ao246, co246, eo246⟩ := Kd.R_slice HO_479000.out
         subst eo246
         obtain ⟨Ao247, co247, eo247⟩ := Kd.R_slice HO_479001.out
         subst eo247
         have hnb248 := NB477_475.out
         have hnc248 := NB475_477.out
         have hnb249 := NB477_476.out
         have hnc249 := NB476_477.out
         have := yC1 BK477
         have := kC1 BK477
         have := bf BK477.out 0
         have := bf BK477.out 1
         go_wp2
         refine bodyPost_ret (results_ct rfl _ _ gb477 25 #[.slice Ao246 x479000_1.length co246, .slice Ao247 x479001_2.length co247] (0, 0) _ rfl (kkC BK477.out) Try.underlying25 rfl (by kernel_rfl)) rfl ?_
         exact ⟨_, _, sqE, by (with_reducible repeat (first | apply Kd.R_alloc | apply Kd.R_drewN | apply Kd.R_drew)); exact Kd.R_mono (Kd.R_far (p := ⟨gb477, 1, none⟩) (Kd.R_far (p := ⟨gb477, 0, none⟩) (Kd.R_types HO_479000.out BK477.out (by decide)) (fun _ hk => hk.2) (.slice Ao246 x479000_1.length co246)) (fun _ hk => hk.2) (.slice Ao247 x479001_2.length co247)) (fun _ hk => trivial), by (with_reducible repeat (first | apply Kd.R_alloc | apply Kd.R_drewN | apply Kd.R_drew)); exact Kd.R_mono (Kd.R_far (p := ⟨gb477, 1, none⟩) (Kd.R_far (p := ⟨gb477, 0, none⟩) (Kd.R_types HO_479001.out BK477.out (by decide)) (fun _ hk => hk.2) (.slice Ao246 x479000_1.length co246)) (fun _ hk => hk.2) (.slice Ao247 x479001_2.length co247)) (fun _ hk => trivial), fW HB.out⟩

end Go.Proofs.Ytpjgmlnnhcnelaa.QA
