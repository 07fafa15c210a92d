import Derived.Test.YtcofgnbopodahaaJQAx0
import Derived.Test.YtcofgnbopodahaaJQAx5
import Derived.Test.YtcofgnbopodahaaJQAx6
import Derived.Test.YtcofgnbopodahaaJQAx7
import Derived.Test.YtcofgnbopodahaaJQAx8
import Derived.Test.YtcofgnbopodahaaJEvKit
import Derived.Test.YtcofgnbopodahaaJMapKit
import Derived.Test.YtcofgnbopodahaaJMapS
import Derived.Test.YtcofgnbopodahaaJRegInv
import Derived.Carry
import Derived.Deep.RegionHeld3
import Derived.Deep.RegionLaw
import Derived.IntWalk
import Derived.Lib.SlicesCompact
import Derived.LoopN
import Derived.RegionTactic
import Derived.StillTailTactics
import Derived.WalkSpells
namespace Go.Proofs.Ytcofgnbopodahaa.QA
open Go.RowKit Go.Proofs.YtcofgnbopodahaaW.PrintWords Go.Proofs.YtcofgnbopodahaaW.PrintLast Go.Proofs.YtcofgnbopodahaaW.PrintMore
open Go.Proofs.YtcofgnbopodahaaW.PrintWords renaming blk_drewN → bN, blk_drew → bd, blk_alloc → ba, below_alloc → wa, below_set → ws, blk_frozen → bf, blk_cell → bc, blk_below → bb, below_step → wt, blk_far → bF, blk_put → bp
open Aside0 renaming mk → am
attribute [local go_sem] max2_int min2_int max_two min_two max_three min_three max_four min_four
set_option linter.unusedVariables false
set_option linter.unusedSimpArgs false

def model_before.f (a0_0 : Int) (a0_1 : Int) (a0_2 : Int) (a1_0 : Int) (a1_1 : Int) (a1_2 : Int) : Option (Bool) := if a0_2 = a1_2 then (if a0_1 = a1_1 then (some (decide (a0_0 < a1_0))) else (some (decide (a0_1 < a1_1)))) else (some (decide (a0_2 < a1_2)))
set_option maxHeartbeats 8000000 in
set_option maxRecDepth 100000 in
theorem model_before.calls (a0_0 : Int) (a0_1 : Int) (a0_2 : Int) (a1_0 : Int) (a1_1 : Int) (a1_2 : Int) (r : Bool) (w : World) (h : model_before.f a0_0 a0_1 a0_2 a1_0 a1_1 a1_2 = some r) :
  Calls Try.prog 54 #[.agg #[.int .i64 a0_0, .int .i64 a0_1, .int .i64 a0_2], .agg #[.int .i64 a1_0, .int .i64 a1_1, .int .i64 a1_2]] w fun e w' => e = .returned (.bool r) ∧ Below w.heap.size w w' := by
 have hu24 := Try.underlying24
 have HB := am (Below.refl w.heap.size w)
 have H : (if a0_2 = a1_2 then (if a0_1 = a1_1 then (some (decide (a0_0 < a1_0))) else (some (decide (a0_1 < a1_1)))) else (some (decide (a0_2 < a1_2)))) = some r := h
 clear h
 by_cases c3 : a0_2 = a1_2
 ·rw [if_pos c3] at H
  have c3b0 : (a0_2 == a1_2) = true := beq_iff_eq.mpr c3
  have c3b1 : (a0_2 != a1_2) = false := bne_eq_false_iff_eq.mpr c3
  clear c3
  by_cases c4 : a0_1 = a1_1
  ·rw [if_pos c4] at H
   have c4b0 : (a0_1 == a1_1) = true := beq_iff_eq.mpr c4
   have c4b1 : (a0_1 != a1_1) = false := bne_eq_false_iff_eq.mpr c4
   clear c4
   obtain rfl := Option.some.inj H
   go_enter Try.func54, Try.ntmps54
   go_wp2_with (first | ((with_reducible refine gate_dst (N := 2) rfl ?_); refine box_event ?hg (N := 2) ?hd (cs := #[.int .i64 a0_0, .int .i64 a0_1, .int .i64 a0_2]) (t := 24) ?hr ?_; (case hd | hg => rfl); (case hr => first | (go_simp; done) | (go_simp; rfl)); intro gb165 hg w5 hbox hb; have BK165 := am hbox; have GW165 := sG HB hg; have GE165 := sG HB hg; replace HB := bS HB hb; clear hb hbox hg) | ((with_reducible refine gate_dst (N := 3) rfl ?_); refine box_event ?hg (N := 3) ?hd (cs := #[.int .i64 a1_0, .int .i64 a1_1, .int .i64 a1_2]) (t := 24) ?hr ?_; (case hd | hg => rfl); (case hr => first | (go_simp; done) | (go_simp; rfl)); intro gb166 hg w6 hbox hb; have BK166 := am hbox; have GW166 := sG HB hg; have GE166 := sG HB hg; replace HB := bS HB hb; have NB165_166 := nL BK165 hg; have NB166_165 := nG BK165 hg; replace BK165 := bB BK165 hb; clear hb hbox hg; have hnb7 := NB165_166.out; have hnc7 := NB166_165.out; obtain ⟨_, _, _, _, _, _⟩ := zC3 BK165; obtain ⟨_, _, _, _, _, _⟩ := zC3 BK166))
   go_ret
   exact ⟨sqE, fW HB.out⟩
  rw [if_neg c4] at H
  have c4b0 : (a0_1 == a1_1) = false := beq_eq_false_iff_ne.mpr c4
  have c4b1 : (a0_1 != a1_1) = true := bne_iff_ne.mpr c4
  obtain rfl := Option.some.inj H
  go_enter Try.func54, Try.ntmps54
  go_wp2_with (first | ((with_reducible refine gate_dst (N := 2) rfl ?_); refine box_event ?hg (N := 2) ?hd (cs := #[.int .i64 a0_0, .int .i64 a0_1, .int .i64 a0_2]) (t := 24) ?hr ?_; (case hd | hg => rfl); (case hr => first | (go_simp; done) | (go_simp; rfl)); intro gb165 hg w10 hbox hb; have BK165 := am hbox; have GW165 := sG HB hg; have GE165 := sG HB hg; replace HB := bS HB hb; clear hb hbox hg) | ((with_reducible refine gate_dst (N := 3) rfl ?_); refine box_event ?hg (N := 3) ?hd (cs := #[.int .i64 a1_0, .int .i64 a1_1, .int .i64 a1_2]) (t := 24) ?hr ?_; (case hd | hg => rfl); (case hr => first | (go_simp; done) | (go_simp; rfl)); intro gb166 hg w11 hbox hb; have BK166 := am hbox; have GW166 := sG HB hg; have GE166 := sG HB hg; replace HB := bS HB hb; have NB165_166 := nL BK165 hg; have NB166_165 := nG BK165 hg; replace BK165 := bB BK165 hb; clear hb hbox hg; have hnb12 := NB165_166.out; have hnc12 := NB166_165.out; obtain ⟨_, _, _, _, _, _⟩ := zC3 BK165; obtain ⟨_, _, _, _, _, _⟩ := zC3 BK166))
  go_ret
  exact ⟨sqE, fW HB.out⟩
 ·rw [if_neg c3] at H
  have c3b0 : (a0_2 == a1_2) = false := beq_eq_false_iff_ne.mpr c3
  have c3b1 : (a0_2 != a1_2) = true := bne_iff_ne.mpr c3
  obtain rfl := Option.some.inj H
  go_enter Try.func54, Try.ntmps54
  go_wp2_with (first | ((with_reducible refine gate_dst (N := 2) rfl ?_); refine box_event ?hg (N := 2) ?hd (cs := #[.int .i64 a0_0, .int .i64 a0_1, .int .i64 a0_2]) (t := 24) ?hr ?_; (case hd | hg => rfl); (case hr => first | (go_simp; done) | (go_simp; rfl)); intro gb165 hg w15 hbox hb; have BK165 := am hbox; have GW165 := sG HB hg; have GE165 := sG HB hg; replace HB := bS HB hb; clear hb hbox hg) | ((with_reducible refine gate_dst (N := 3) rfl ?_); refine box_event ?hg (N := 3) ?hd (cs := #[.int .i64 a1_0, .int .i64 a1_1, .int .i64 a1_2]) (t := 24) ?hr ?_; (case hd | hg => rfl); (case hr => first | (go_simp; done) | (go_simp; rfl)); intro gb166 hg w16 hbox hb; have BK166 := am hbox; have GW166 := sG HB hg; have GE166 := sG HB hg; replace HB := bS HB hb; have NB165_166 := nL BK165 hg; have NB166_165 := nG BK165 hg; replace BK165 := bB BK165 hb; clear hb hbox hg; have hnb17 := NB165_166.out; have hnc17 := NB166_165.out; obtain ⟨_, _, _, _, _, _⟩ := zC3 BK165; obtain ⟨_, _, _, _, _, _⟩ := zC3 BK166))
  go_ret
  exact ⟨sqE, fW HB.out⟩

section
open Go.Proofs.Ytcofgnbopodahaa.EvKit Go.Proofs.Ytcofgnbopodahaa.MapKit
attribute [local go_sem] max2_int min2_int max_two min_two Oper.semAt_some
set_option linter.unusedVariables false
set_option linter.unusedSimpArgs false
structure FstI (w : World) (g5 g6 g9 g10 : Nat) (n : Int) (s : Bool × S24) (W : World) : Prop where
 b : Below w.heap.size w W
 n5 : W.heap[g5]? = some (.cells #[.int .i64 n] 3 (0, 0))
 n9 : W.heap[g9]? = some (.cells #[.bool s.1] 4 (0, 0))
 n10 : W.heap[g10]? = some (.cells #[.int .i64 s.2.f0, .int .i64 s.2.f1, .int .i64 s.2.f2] 24 (0, 0))
 n6 : W.heap[g6]? = some (.cells #[.int .i64 0, .int .i64 0, .int .i64 0] 24 (0, 0))
theorem FstI.keep {w W W' : World} {g5 g6 g9 g10 : Nat} {n : Int} {s : Bool × S24} (h : FstI w g5 g6 g9 g10 n s W) (hb : Below W.heap.size W W') : FstI w g5 g6 g9 g10 n s W' := ⟨wt h.b hb, bb h.n5 hb, bb h.n9 hb, bb h.n10 hb, bb h.n6 hb⟩
theorem fst_set {w W V : World} {g5 g6 g9 g10 B : Nat} {n : Int} {s : Bool × S24} (hI : FstI w g5 g6 g9 g10 n s W) (hb : Below W.heap.size W V) (h59 : g5 ≠ g9) (h510 : g5 ≠ g10) (h910 : g9 ≠ g10) (h69 : g6 ≠ g9) (h610 : g6 ≠ g10) (h9 : w.heap.size ≤ g9) (h10 : w.heap.size ≤ g10) (hB : g9 < B) (hB10 : g10 < B) (x y z : Int) :
  FstI w g5 g6 g9 g10 n (true, ⟨x, y, z⟩) ((((V.setCell ⟨g9, 0, none⟩ (.bool true)).setCell ⟨g10, 0, none⟩ (.int .i64 x)).setCell ⟨g10, 1, none⟩ (.int .i64 y)).setCell ⟨g10, 2, none⟩ (.int .i64 z)).drew ∧ Rest B W ((((V.setCell ⟨g9, 0, none⟩ (.bool true)).setCell ⟨g10, 0, none⟩ (.int .i64 x)).setCell ⟨g10, 1, none⟩ (.int .i64 y)).setCell ⟨g10, 2, none⟩ (.int .i64 z)).drew := by
 have k := hI.keep hb
 refine ⟨⟨below_drew1 (ws (ws (ws (ws k.b h9) h10) h10) h10), bd (bF (p := ⟨g10, 2, none⟩) (bF (p := ⟨g10, 1, none⟩) (bF (p := ⟨g10, 0, none⟩) (bF (p := ⟨g9, 0, none⟩) k.n5 h59 _) h510 _) h510 _) h510 _), bd (bF (p := ⟨g10, 2, none⟩) (bF (p := ⟨g10, 1, none⟩) (bF (p := ⟨g10, 0, none⟩) (bp k.n9 0 (.bool true) rfl) h910 _) h910 _) h910 _), bd (bp (bp (bp (bF (p := ⟨g9, 0, none⟩) k.n10 (Ne.symm h910) _) 0 (.int .i64 x) rfl) 1 (.int .i64 y) rfl) 2 (.int .i64 z) rfl), bd (bF (p := ⟨g10, 2, none⟩) (bF (p := ⟨g10, 1, none⟩) (bF (p := ⟨g10, 0, none⟩) (bF (p := ⟨g9, 0, none⟩) k.n6 h69 _) h610 _) h610 _) h610 _)⟩, ?_⟩
 exact (((((Rest.of_below hb).trans (rest_set (Below.refl _ _) hB)).trans (rest_set (Below.refl _ _) hB10)).trans (rest_set (Below.refl _ _) hB10)).trans (rest_set (Below.refl _ _) hB10)).trans (Rest.of_below (below_drew1 (Below.refl _ _)))
def fstStep (n : Int) (s : Bool × S24) (p : S43) (m : Int) : Option ((Bool × S24) × Bool) := if m = n then (if s.1 = true then (model_before.f p.f0.f0 p.f0.f1 p.f0.f2 s.2.f0 s.2.f1 s.2.f2).bind fun b => if b = true then some ((true, p.f0), true) else some (s, true) else some ((true, p.f0), true)) else some (s, true)
def model_First_1.T2 : Bool × List (List Nat × List Nat) := (true, [([], []), ([0], [0]), ([], []), ([1, 2, 0, 1, 2], [1])])
def model_First_1.B2 : List Nat := [0, 1, 0, 7]
theorem model_First_1.tab2 : rtab .any (opsOf Try.f53 2) = model_First_1.T2 := by kernel_rfl
theorem model_First_1.bits2 : waitsOk model_First_1.T2.2 model_First_1.B2 = true := by kernel_rfl
set_option maxHeartbeats 4000000 in
set_option maxRecDepth 100000 in
theorem clo53 (w : World) (g5 g6 g9 g10 B : Nat) (n : Int) (s : Bool × S24) (W : World) (p : S43) (m : Int) (r : (Bool × S24) × Bool) (h59 : g5 ≠ g9) (h510 : g5 ≠ g10) (h910 : g9 ≠ g10) (h69 : g6 ≠ g9) (h610 : g6 ≠ g10) (h9 : w.heap.size ≤ g9) (h10 : w.heap.size ≤ g10) (hB : g9 < B) (hB10 : g10 < B) (hI : FstI w g5 g6 g9 g10 n s W) (h : fstStep n s p m = some r) :
  Calls Try.prog 53 (#[.agg #[.int .i64 p.f0.f0, .int .i64 p.f0.f1, .int .i64 p.f0.f2, .int .i64 p.f1.f0, .int .i64 p.f1.f1, .int .i64 p.f1.f2], .int .i64 m] ++ #[.pointer (some ⟨g5, 0, none⟩), .pointer (some ⟨g9, 0, none⟩), .pointer (some ⟨g10, 0, none⟩)]) W fun e W' => e = .returned (.bool r.2) ∧ FstI w g5 g6 g9 g10 n r.1 W' ∧ Rest B W W' := by
 have hu43 := Try.underlying43
 have hu24 := Try.underlying24
 have HI := am hI
 have c5 := (bc (ba hI.n5 (.cells #[.int .i64 p.f0.f0, .int .i64 p.f0.f1, .int .i64 p.f0.f2, .int .i64 p.f1.f0, .int .i64 p.f1.f1, .int .i64 p.f1.f2] 43)) 0).trans rfl
 have c9 := (bc (ba hI.n9 (.cells #[.int .i64 p.f0.f0, .int .i64 p.f0.f1, .int .i64 p.f0.f2, .int .i64 p.f1.f0, .int .i64 p.f1.f1, .int .i64 p.f1.f2] 43)) 0).trans rfl
 have f9 := bf (ba hI.n9 (.cells #[.int .i64 p.f0.f0, .int .i64 p.f0.f1, .int .i64 p.f0.f2, .int .i64 p.f1.f0, .int .i64 p.f1.f1, .int .i64 p.f1.f2] 43)) 0
 obtain ⟨d0, d1, d2⟩ := cells3 (ba hI.n10 (.cells #[.int .i64 p.f0.f0, .int .i64 p.f0.f1, .int .i64 p.f0.f2, .int .i64 p.f1.f0, .int .i64 p.f1.f1, .int .i64 p.f1.f2] 43))
 have HB1 := am (wa (Below.refl W.heap.size W) (.cells #[.int .i64 p.f0.f0, .int .i64 p.f0.f1, .int .i64 p.f0.f2, .int .i64 p.f1.f0, .int .i64 p.f1.f1, .int .i64 p.f1.f2] 43))
 have H59 := am h59
 have H510 := am h510
 have H910 := am h910
 have H69 := am h69
 have H610 := am h610
 have H9 := am h9
 have H10 := am h10
 have HLB := am hB
 have HLB10 := am hB10
 clear hI h59 h510 h910 h69 h610 h9 h10 hB hB10
 show Calls Try.prog 53 #[.agg #[.int .i64 p.f0.f0, .int .i64 p.f0.f1, .int .i64 p.f0.f2, .int .i64 p.f1.f0, .int .i64 p.f1.f1, .int .i64 p.f1.f2], .int .i64 m, .pointer (some ⟨g5, 0, none⟩), .pointer (some ⟨g9, 0, none⟩), .pointer (some ⟨g10, 0, none⟩)] W _
 unfold fstStep at h
 by_cases hm : m = n
 ·rw [if_pos hm] at h
  have e1 : (m == n) = true := beq_iff_eq.2 hm
  clear hm
  obtain ⟨fo, be⟩ := s
  cases fo with
  | false =>
   rw [if_neg (by simp)] at h
   obtain rfl := Option.some.inj h
   clear h
   go_enter Try.func53, Try.ntmps53
   go_wp2
   have HV := am HB1.out
   have HPB := am (blk_new W (.cells #[.int .i64 p.f0.f0, .int .i64 p.f0.f1, .int .i64 p.f0.f2, .int .i64 p.f1.f0, .int .i64 p.f1.f1, .int .i64 p.f1.f2] 43))
   have HNE := am (show W.heap.size ≠ g9 from fun e => Nat.lt_irrefl _ (e ▸ blk_lt HI.out.n9))
   generalize hV : W.alloc (.cells #[.int .i64 p.f0.f0, .int .i64 p.f0.f1, .int .i64 p.f0.f2, .int .i64 p.f1.f0, .int .i64 p.f1.f1, .int .i64 p.f1.f2] 43) = V at HV HPB c5 c9 f9 d0 d1 d2 ⊢
   generalize W.heap.size = gp at HPB HNE ⊢
   clear hV c5 c9 f9 d0 d1 d2
   have b9 := bb HI.out.n9 HV.out
   have b10 := bF (p := ⟨g9, 0, none⟩) (bb HI.out.n10 HV.out) (Ne.symm H910.out) (.bool true)
   have c9 := (bc b9 0).trans rfl
   have f9 := bf b9 0
   obtain ⟨d0, d1, d2⟩ := cells3 b10
   obtain ⟨q0, q1, q2⟩ := free3 (bb HI.out.n10 HV.out)
   clear b9 b10
   refine start_ (n := 4) (S := fun w' => w'.cell? ⟨gp, 0, none⟩ = some (.int .i64 p.f0.f0) ∧ w'.cell? ⟨gp, 1, none⟩ = some (.int .i64 p.f0.f1) ∧ w'.cell? ⟨gp, 2, none⟩ = some (.int .i64 p.f0.f2)) (ds := [3]) #[F,F,F,F] (by kernel_rfl) rfl rfl ⟨(bc HPB.out 0).trans rfl, (bc HPB.out 1).trans rfl, (bc HPB.out 2).trans rfl⟩ (fun hHeld => ?_)
   refine with_tabW model_First_1.tab2 model_First_1.bits2 (fun HT_ HW_ => ?_)
   refine pu (i := 0) (N := some 21) (fl 4 1 []) HT_ ?_
   refine tk (i := 1) (N := some 22) (fl 4 2 []) HT_ HW_ hHeld ?_
   refine one_ (i := 2) (N := none) (fl 4 3 []) rfl rfl (one_of HT_.out (by kernel_rfl)) (by decide) (fun K hK => ?_)
   refine skip_ (w1 := ?_) (by rfl) rfl ?_ ?_
   rotate_left
   ·go_simp
    rfl
   refine hK.out _ _ ⟨(bc (bF (p := ⟨g9, 0, none⟩) (bd HPB.out) HNE.out _) 0).trans rfl, (bc (bF (p := ⟨g9, 0, none⟩) (bd HPB.out) HNE.out _) 1).trans rfl, (bc (bF (p := ⟨g9, 0, none⟩) (bd HPB.out) HNE.out _) 2).trans rfl⟩ (fun hHeld => ?_)
   clear hK K
   refine last_ (i := 3) (N := none) #[T,T,T,T] rfl rfl (one_of HT_.out (by kernel_rfl)) (by decide) (fun K hK => ?_)
   refine skip_ (w1 := ?_) (by rfl) rfl ?_ ?_
   rotate_left
   ·go_simp
    rfl
   refine hK.out _ _ ?_
   clear hK K
   refine done_ (done_of HT_.out (by kernel_rfl)) ?_

   go_wp2
   go_ret
   exact ⟨rfl, fst_set HI.out HV.out H59.out H510.out H910.out H69.out H610.out H9.out H10.out HLB.out HLB10.out p.f0.f0 p.f0.f1 p.f0.f2⟩
  | true =>
   rw [if_pos rfl] at h
   obtain ⟨b, hb, hh⟩ := Option.bind_eq_some_iff.1 h
   clear h
   have HQ := am (fun W => model_before.calls p.f0.f0 p.f0.f1 p.f0.f2 be.f0 be.f1 be.f2 b W hb)
   clear hb
   cases b with
   | false =>
    obtain rfl := Option.some.inj hh
    clear hh
    go_enter Try.func53, Try.ntmps53
    go_wp2_with (go_at_call 54; refine (HQ.out _).mono ?_; rintro e w3 ⟨rfl, hb⟩; have HB3 := am (wt HB1.out hb); clear hb)
    go_ret
    exact ⟨rfl, HI.out.keep HB3.out, Rest.of_below HB3.out⟩
   | true =>
    obtain rfl := Option.some.inj hh
    clear hh
    go_enter Try.func53, Try.ntmps53
    go_wp2_with (go_at_call 54; refine (HQ.out _).mono ?_; rintro e w3 ⟨rfl, hb⟩; have HB3 := am (wt HB1.out hb); have HP3 := am (bb (blk_new W (.cells #[.int .i64 p.f0.f0, .int .i64 p.f0.f1, .int .i64 p.f0.f2, .int .i64 p.f1.f0, .int .i64 p.f1.f1, .int .i64 p.f1.f2] 43)) hb); clear hb)
    have HPB := HP3
    have HV := HB3
    have HNE := am (show W.heap.size ≠ g9 from fun e => Nat.lt_irrefl _ (e ▸ blk_lt HI.out.n9))
    clear c5 c9 f9 d0 d1 d2
    generalize w3 = V at HPB HV ⊢
    generalize W.heap.size = gp at HPB HNE ⊢
    have b9 := bb HI.out.n9 HV.out
    have b10 := bF (p := ⟨g9, 0, none⟩) (bb HI.out.n10 HV.out) (Ne.symm H910.out) (.bool true)
    have c9 := (bc b9 0).trans rfl
    have f9 := bf b9 0
    obtain ⟨d0, d1, d2⟩ := cells3 b10
    obtain ⟨q0, q1, q2⟩ := free3 (bb HI.out.n10 HV.out)
    clear b9 b10
    refine start_ (n := 4) (S := fun w' => w'.cell? ⟨gp, 0, none⟩ = some (.int .i64 p.f0.f0) ∧ w'.cell? ⟨gp, 1, none⟩ = some (.int .i64 p.f0.f1) ∧ w'.cell? ⟨gp, 2, none⟩ = some (.int .i64 p.f0.f2)) (ds := [3]) #[F,F,F,F] (by kernel_rfl) rfl rfl ⟨(bc HPB.out 0).trans rfl, (bc HPB.out 1).trans rfl, (bc HPB.out 2).trans rfl⟩ (fun hHeld => ?_)
    refine with_tabW model_First_1.tab2 model_First_1.bits2 (fun HT_ HW_ => ?_)
    refine pu (i := 0) (N := some 21) (fl 4 1 []) HT_ ?_
    refine tk (i := 1) (N := some 22) (fl 4 2 []) HT_ HW_ hHeld ?_
    refine one_ (i := 2) (N := none) (fl 4 3 []) rfl rfl (one_of HT_.out (by kernel_rfl)) (by decide) (fun K hK => ?_)
    refine skip_ (w1 := ?_) (by rfl) rfl ?_ ?_
    rotate_left
    ·go_simp
     rfl
    refine hK.out _ _ ⟨(bc (bF (p := ⟨g9, 0, none⟩) (bd HPB.out) HNE.out _) 0).trans rfl, (bc (bF (p := ⟨g9, 0, none⟩) (bd HPB.out) HNE.out _) 1).trans rfl, (bc (bF (p := ⟨g9, 0, none⟩) (bd HPB.out) HNE.out _) 2).trans rfl⟩ (fun hHeld => ?_)
    clear hK K
    refine last_ (i := 3) (N := none) #[T,T,T,T] rfl rfl (one_of HT_.out (by kernel_rfl)) (by decide) (fun K hK => ?_)
    refine skip_ (w1 := ?_) (by rfl) rfl ?_ ?_
    rotate_left
    ·go_simp
     rfl
    refine hK.out _ _ ?_
    clear hK K
    refine done_ (done_of HT_.out (by kernel_rfl)) ?_

    go_wp2
    go_ret
    exact ⟨rfl, fst_set HI.out HV.out H59.out H510.out H910.out H69.out H610.out H9.out H10.out HLB.out HLB10.out p.f0.f0 p.f0.f1 p.f0.f2⟩
 rw [if_neg hm] at h
 obtain rfl := Option.some.inj h
 have e1 : (m == n) = false := beq_eq_false_iff_ne.2 hm
 clear hm h
 go_enter Try.func53, Try.ntmps53
 go_wp2
 go_ret
 exact ⟨rfl, HI.out.keep HB1.out, Rest.of_below HB1.out⟩
def model_First.f (k : Nat) (l0 : List S68) (a1_0 a1_1 a1_2 a1_3 a1_4 a1_5 a2 : Int) : Option (Int × Int × Int × Int) :=
 (model_ready.f k l0 a1_0 a1_1 a1_2 a1_3 a1_4 a1_5 a2).bind fun e => if e = 0 then (if l0.length < 1000000 then (eachF (fun l p => model_at.f k l p.f0.f0 p.f0.f1 p.f0.f2) (fstStep a2) l0 ⟨⟨a1_0, a1_1, a1_2⟩, ⟨a1_3, a1_4, a1_5⟩⟩ (false, (⟨0, 0, 0⟩ : S24))).bind fun s => if s.1 = true then some (s.2.f0, s.2.f1, s.2.f2, 0) else some (0, 0, 0, 9) else none) else some (0, 0, 0, e)
set_option maxHeartbeats 4000000 in
set_option maxRecDepth 100000 in
theorem model_First.calls (k : Nat) (A0 : Option Addr) (c0 : Nat) (l0 : List S68) (a1_0 a1_1 a1_2 a1_3 a1_4 a1_5 a2 : Int) (r1 r2 r3 r4 : Int) (w : World) (hr0 : Kd.C k68 w A0 l0.length l0) (hc0 : l0.length ≤ c0) (h : model_First.f k l0 a1_0 a1_1 a1_2 a1_3 a1_4 a1_5 a2 = some (r1, r2, r3, r4)) :
  Calls Try.prog 22 #[.slice A0 l0.length c0, .agg #[.int .i64 a1_0, .int .i64 a1_1, .int .i64 a1_2, .int .i64 a1_3, .int .i64 a1_4, .int .i64 a1_5], .int .i64 a2] w fun e w' => e = .returned (.tuple #[.agg #[.int .i64 r1, .int .i64 r2, .int .i64 r3], .int .i64 r4]) ∧ Below w.heap.size w w' := by
 have hu43 := Try.underlying43
 have hu24 := Try.underlying24
 obtain ⟨e, he, hh⟩ := Option.bind_eq_some_iff.1 h
 replace h := hh
 clear hh
 obtain ⟨W2, hW2⟩ : ∃ W2, W2 = ((w.alloc (.cells #[.int .i64 a1_0, .int .i64 a1_1, .int .i64 a1_2, .int .i64 a1_3, .int .i64 a1_4, .int .i64 a1_5] 43)).alloc (.cells #[.int .i64 a2] 3)).alloc (.cells #[.int .i64 0, .int .i64 0, .int .i64 0] 24) := ⟨_, rfl⟩
 have hb2 : Below w.heap.size w W2 := by rw [hW2]; exact wa (wa (wa (Below.refl _ _) _) _) _
 have b4 : W2.heap[w.heap.size]? = some (.cells #[.int .i64 a1_0, .int .i64 a1_1, .int .i64 a1_2, .int .i64 a1_3, .int .i64 a1_4, .int .i64 a1_5] 43 (0, 0)) := by rw [hW2]; exact ba (ba (blk_new w _) _) _
 have b5 : W2.heap[w.heap.size + 1]? = some (.cells #[.int .i64 a2] 3 (0, 0)) := by
  rw [hW2]; have h := blk_new (w.alloc (.cells #[.int .i64 a1_0, .int .i64 a1_1, .int .i64 a1_2, .int .i64 a1_3, .int .i64 a1_4, .int .i64 a1_5] 43)) (.cells #[.int .i64 a2] 3); rw [World.size_alloc] at h; exact ba h _
 have b6 : W2.heap[w.heap.size + 1 + 1]? = some (.cells #[.int .i64 0, .int .i64 0, .int .i64 0] 24 (0, 0)) := by
  rw [hW2]; have h := blk_new ((w.alloc (.cells #[.int .i64 a1_0, .int .i64 a1_1, .int .i64 a1_2, .int .i64 a1_3, .int .i64 a1_4, .int .i64 a1_5] 43)).alloc (.cells #[.int .i64 a2] 3)) (.cells #[.int .i64 0, .int .i64 0, .int .i64 0] 24); rw [World.size_alloc, World.size_alloc] at h; exact h
 have HB2 := am hb2
 have H4 := am b4
 have H5 := am b5
 have H6 := am b6
 have HW := am hW2
 have HR := am hr0
 have HE := am he
 clear hb2 b4 b5 b6 hW2 hr0 he
 by_cases he0 : e = 0
 case neg =>
  rw [if_neg he0] at h
  obtain ⟨rfl, rfl, rfl, rfl⟩ : r1 = 0 ∧ r2 = 0 ∧ r3 = 0 ∧ r4 = e := by have := Option.some.inj h; simp only [Prod.mk.injEq] at this; exact ⟨this.1.symm, this.2.1.symm, this.2.2.1.symm, this.2.2.2.symm⟩
  have e2 : (r4 != 0) = true := by simpa using he0
  clear he0 h
  go_enter Try.func22, Try.ntmps22
  go_wp2_with (go_at_call 49; rw [← HW.out]; (with_reducible refine (model_ready.calls k _ c0 l0 a1_0 a1_1 a1_2 a1_3 a1_4 a1_5 a2 r4 _ (Kd.C_below HR.out HB2.out) hc0 HE.out).mono ?_); rintro e w3 ⟨rfl, hb⟩; obtain ⟨d0, d1, d2⟩ := cells3 (bb H6.out hb); obtain ⟨q0, q1, q2⟩ := free3 (bb H6.out hb); have HB3 := am (wt HB2.out hb); clear hb)
  exact bodyPost_ret (v := .tuple #[.agg #[.int .i64 0, .int .i64 0, .int .i64 0], .int .i64 r4]) (by simp [results, Try.results22, go_sem, d0, d1, d2, q0, q1, q2]) rfl ⟨rfl, ws (ws (ws HB3.out (by omega)) (by omega)) (by omega)⟩
 subst he0
 rw [if_pos rfl] at h
 have hl : l0.length < 1000000 := by
  by_cases hq : l0.length < 1000000
  ·exact hq
  rw [if_neg hq] at h; cases h
 rw [if_pos hl] at h
 obtain ⟨s, hs, hh⟩ := Option.bind_eq_some_iff.1 h
 replace h := hh
 clear hh
 have HS := am hs
 clear hs
 obtain ⟨fo, be⟩ := s
 cases fo with
 | false =>
  rw [if_neg (by simp)] at h
  obtain ⟨rfl, rfl, rfl, rfl⟩ : r1 = 0 ∧ r2 = 0 ∧ r3 = 0 ∧ r4 = 9 := by have := Option.some.inj h; simp only [Prod.mk.injEq] at this; exact ⟨this.1.symm, this.2.1.symm, this.2.2.1.symm, this.2.2.2.symm⟩
  clear h
  go_enter Try.func22, Try.ntmps22
  go_wp2_with (first | (go_at_call 49; rw [← HW.out]; (with_reducible refine (model_ready.calls k _ c0 l0 a1_0 a1_1 a1_2 a1_3 a1_4 a1_5 a2 0 _ (Kd.C_below HR.out HB2.out) hc0 HE.out).mono ?_); rintro e w3 ⟨rfl, hb⟩; obtain ⟨k0, k1, k2, k3, k4, k5⟩ := RegInv.cells6 (ba (ba (bb H4.out hb) (.cells #[.bool false] 4)) (.cells #[.int .i64 0, .int .i64 0, .int .i64 0] 24)); have HB3 := am hb; clear hb) | (go_at_call 50; have l5 := blk_lt H6.out; have ls := HB3.out.size; have HBn := am (wa (wa (Below.refl w3.heap.size w3) (.cells #[.bool false] 4)) (.cells #[.int .i64 0, .int .i64 0, .int .i64 0] 24)); have hn10 := blk_new (w3.alloc (.cells #[.bool false] 4)) (.cells #[.int .i64 0, .int .i64 0, .int .i64 0] 24); rw [World.size_alloc] at hn10; have HN10 := am hn10; clear hn10; (with_reducible refine (each_is 53 Try.f53 Try.func53 (by kernel_rfl) rfl #[.pointer (some ⟨w.heap.size + 1, 0, none⟩), .pointer (some ⟨w3.heap.size, 0, none⟩), .pointer (some ⟨w3.heap.size + 1, 0, none⟩)] (FstI w (w.heap.size + 1) (w.heap.size + 1 + 1) w3.heap.size (w3.heap.size + 1) a2) (fstStep a2) k A0 c0 l0 ⟨⟨a1_0, a1_1, a1_2⟩, ⟨a1_3, a1_4, a1_5⟩⟩ (false, (⟨0, 0, 0⟩ : S24)) _ _ (fun s W W' h hb => h.keep hb) (fun s W p m r hI hs => clo53 w (w.heap.size + 1) (w.heap.size + 1 + 1) w3.heap.size (w3.heap.size + 1) _ a2 s W p m r (by omega) (by omega) (by omega) (by omega) (by omega) (by omega) (by omega) (by simp; omega) (by simp) hI hs) (Kd.C_below (Kd.C_below (Kd.C_below HR.out HB2.out) HB3.out) HBn.out) hc0 hl ⟨wt (wt HB2.out HB3.out) HBn.out, bb (bb H5.out HB3.out) HBn.out, ba (blk_new _ _) _, HN10.out, bb (bb H6.out HB3.out) HBn.out⟩ HS.out).mono ?_); rintro e w5 ⟨rfl, hi, hr⟩; have c9 := (bc hi.n9 0).trans rfl; obtain ⟨e0, e1, e2⟩ := cells3 hi.n10; obtain ⟨d0, d1, d2⟩ := cells3 hi.n6; obtain ⟨q0, q1, q2⟩ := free3 hi.n6; have HI9 := am hi.b; clear hi hr k0 k1 k2 k3 k4 k5))
  exact bodyPost_ret (v := .tuple #[.agg #[.int .i64 0, .int .i64 0, .int .i64 0], .int .i64 9]) (by simp [results, Try.results22, go_sem, d0, d1, d2, q0, q1, q2]) rfl ⟨rfl, ws (ws (ws HI9.out (by omega)) (by omega)) (by omega)⟩
 | true =>
  rw [if_pos rfl] at h
  obtain ⟨rfl, rfl, rfl, rfl⟩ : r1 = be.f0 ∧ r2 = be.f1 ∧ r3 = be.f2 ∧ r4 = 0 := by have := Option.some.inj h; simp only [Prod.mk.injEq] at this; exact ⟨this.1.symm, this.2.1.symm, this.2.2.1.symm, this.2.2.2.symm⟩
  clear h
  go_enter Try.func22, Try.ntmps22
  go_wp2_with (first | (go_at_call 49; rw [← HW.out]; (with_reducible refine (model_ready.calls k _ c0 l0 a1_0 a1_1 a1_2 a1_3 a1_4 a1_5 a2 0 _ (Kd.C_below HR.out HB2.out) hc0 HE.out).mono ?_); rintro e w3 ⟨rfl, hb⟩; obtain ⟨k0, k1, k2, k3, k4, k5⟩ := RegInv.cells6 (ba (ba (bb H4.out hb) (.cells #[.bool false] 4)) (.cells #[.int .i64 0, .int .i64 0, .int .i64 0] 24)); have HB3 := am hb; clear hb) | (go_at_call 50; have l5 := blk_lt H6.out; have ls := HB3.out.size; have HBn := am (wa (wa (Below.refl w3.heap.size w3) (.cells #[.bool false] 4)) (.cells #[.int .i64 0, .int .i64 0, .int .i64 0] 24)); have hn10 := blk_new (w3.alloc (.cells #[.bool false] 4)) (.cells #[.int .i64 0, .int .i64 0, .int .i64 0] 24); rw [World.size_alloc] at hn10; have HN10 := am hn10; clear hn10; (with_reducible refine (each_is 53 Try.f53 Try.func53 (by kernel_rfl) rfl #[.pointer (some ⟨w.heap.size + 1, 0, none⟩), .pointer (some ⟨w3.heap.size, 0, none⟩), .pointer (some ⟨w3.heap.size + 1, 0, none⟩)] (FstI w (w.heap.size + 1) (w.heap.size + 1 + 1) w3.heap.size (w3.heap.size + 1) a2) (fstStep a2) k A0 c0 l0 ⟨⟨a1_0, a1_1, a1_2⟩, ⟨a1_3, a1_4, a1_5⟩⟩ (false, (⟨0, 0, 0⟩ : S24)) _ _ (fun s W W' h hb => h.keep hb) (fun s W p m r hI hs => clo53 w (w.heap.size + 1) (w.heap.size + 1 + 1) w3.heap.size (w3.heap.size + 1) _ a2 s W p m r (by omega) (by omega) (by omega) (by omega) (by omega) (by omega) (by omega) (by simp; omega) (by simp) hI hs) (Kd.C_below (Kd.C_below (Kd.C_below HR.out HB2.out) HB3.out) HBn.out) hc0 hl ⟨wt (wt HB2.out HB3.out) HBn.out, bb (bb H5.out HB3.out) HBn.out, ba (blk_new _ _) _, HN10.out, bb (bb H6.out HB3.out) HBn.out⟩ HS.out).mono ?_); rintro e w5 ⟨rfl, hi, hr⟩; have c9 := (bc hi.n9 0).trans rfl; obtain ⟨e0, e1, e2⟩ := cells3 hi.n10; obtain ⟨d0, d1, d2⟩ := cells3 hi.n6; obtain ⟨q0, q1, q2⟩ := free3 hi.n6; have HI9 := am hi.b; clear hi hr k0 k1 k2 k3 k4 k5))
  exact bodyPost_ret (v := .tuple #[.agg #[.int .i64 be.f0, .int .i64 be.f1, .int .i64 be.f2], .int .i64 0]) (by simp [results, Try.results22, go_sem, d0, d1, d2, q0, q1, q2]) rfl ⟨rfl, ws (ws (ws HI9.out (by omega)) (by omega)) (by omega)⟩
end

mutual
def model_Clashes.l0 : Nat → List (S68) → List (S65) → List (S68) → Int → Int → Option ((List (S65)) × Int)
 | 0, _, _, _, _, _ => none
 | k + 1, x0, x5, x15, x16, x17 => if x17 < x16 then (if 0 ≤ x17 then (if x17 < (x15.length : Int) then (model_Clashes.l1 k x0 x5 x17 (wrap64 (x17 + 1)) x15 x16 x17 ((rd_T68 x15 x17).f0) ((rd_T68 x15 x17).f1.f0.f0) ((rd_T68 x15 x17).f1.f0.f1) ((rd_T68 x15 x17).f1.f0.f2) ((rd_T68 x15 x17).f1.f1.f0) ((rd_T68 x15 x17).f1.f1.f1) ((rd_T68 x15 x17).f1.f1.f2) ((rd_T68 x15 x17).f2)) else (none)) else (none)) else (some (x5, 0))
def model_Clashes.l1 : Nat → List (S68) → List (S65) → Int → Int → List (S68) → Int → Int → ByteArray → Int → Int → Int → Int → Int → Int → Int → Option ((List (S65)) × Int)
 | 0, _, _, _, _, _, _, _, _, _, _, _, _, _, _, _ => none
 | k + 1, x0, x5, x6, x8, x15, x16, x17, x170000, x170001, x170002, x170003, x170004, x170005, x170006, x170007 => if x8 < (x0.length : Int) then (if 0 ≤ x8 then (if x170007 = ((rd_T68 x0 x8).f2) then (model_Clashes.j2 k x0 x5 x6 x8 x15 x16 x17 x170000 x170001 x170002 x170003 x170004 x170005 x170006 x170007) else ((box_Overlap.f x170001 x170002 x170003 x170004 x170005 x170006 ((rd_T68 x0 x8).f1.f0.f0) ((rd_T68 x0 x8).f1.f0.f1) ((rd_T68 x0 x8).f1.f0.f2) ((rd_T68 x0 x8).f1.f1.f0) ((rd_T68 x0 x8).f1.f1.f1) ((rd_T68 x0 x8).f1.f1.f2)).bind fun t172 => (if t172 = true then (if x5.length < 8796093022208 then (model_Clashes.j2 k x0 (x5 ++ [(⟨x6, x8⟩ : S65)]) x6 x8 x15 x16 x17 x170000 x170001 x170002 x170003 x170004 x170005 x170006 x170007) else (none)) else (model_Clashes.j2 k x0 x5 x6 x8 x15 x16 x17 x170000 x170001 x170002 x170003 x170004 x170005 x170006 x170007)))) else (none)) else (model_Clashes.l0 k x0 x5 x15 x16 (wrap64 (x17 + 1)))
def model_Clashes.j2 : Nat → List (S68) → List (S65) → Int → Int → List (S68) → Int → Int → ByteArray → Int → Int → Int → Int → Int → Int → Int → Option ((List (S65)) × Int)
 | 0, _, _, _, _, _, _, _, _, _, _, _, _, _, _, _ => none
 | k + 1, x0, x5, x6, x8, x15, x16, x17, x170000, x170001, x170002, x170003, x170004, x170005, x170006, x170007 => model_Clashes.l1 k x0 x5 x6 (wrap64 (x8 + 1)) x15 x16 x17 x170000 x170001 x170002 x170003 x170004 x170005 x170006 x170007
end
def model_Clashes.f (k : Nat) (l0 : List (S68)) : Option ((List (S65)) × Int) := (model_Check.f k l0).bind fun t167 => (if t167 = 0 then (model_Clashes.l0 k l0 ([] : List (S65)) l0 (l0.length : Int) 0) else (some (([] : List (S65)), t167)))
set_option maxHeartbeats 8000000 in
set_option maxRecDepth 100000 in
theorem model_Clashes.calls (k : Nat) (A0 : Option Addr) (c0 : Nat) (l0 : List (S68)) (r1 : List (S65)) (r2 : Int) (w : World) (hr0 : Kd.C k68 w A0 l0.length l0) (hc0 : l0.length ≤ c0) (h : model_Clashes.f k l0 = some (r1, r2)) :
  Calls Try.prog 27 #[.slice A0 l0.length c0] w fun e w' => ∃ v0_ : Value, e = .returned (.tuple #[v0_, .int .i64 r2]) ∧ Kd.R k65 65 w' w.heap.size (fun _ => True) v0_ r1 ∧ Below w.heap.size w w' := by
 have hu68 := Try.underlying68
 have hu43 := Try.underlying43
 have hu65 := Try.underlying65
 have HR0 := am hr0
 have HC0 := am hc0
 clear hr0 hc0
 have HB := am (Below.refl w.heap.size w)
 have H : ((model_Check.f k l0).bind fun t167 => (if t167 = 0 then (model_Clashes.l0 k l0 ([] : List (S65)) l0 (l0.length : Int) 0) else (some (([] : List (S65)), t167)))) = some (r1, r2) := h
 clear h
 replace H := Option.bind_eq_some_iff.mp H
 obtain ⟨t167, A20, H⟩ := H
 replace H : (if t167 = 0 then (model_Clashes.l0 k l0 ([] : List (S65)) l0 (l0.length : Int) 0) else (some (([] : List (S65)), t167))) = some (r1, r2) := H
 have A2 := am A20
 clear A20
 by_cases c3 : t167 = 0
 ·rw [if_pos c3] at H
  have c3b0 : (t167 == 0) = true := beq_iff_eq.mpr c3
  have c3b1 : (t167 != 0) = false := bne_eq_false_iff_eq.mpr c3
  clear c3
  have H' := am H
  clear H
  go_enter Try.func27, Try.ntmps27
  go_wp2_with (first | ((with_reducible refine gate_callee (f := 15) rfl ?_); refine goesL_ (some 11) rfl rfl Try.func15 (by kernel_rfl) rfl #[.slice A0 l0.length c0] rfl (by (try simp only [pml]); first | done | rfl | (simp only [pdt]; rfl)) ?_; (with_reducible refine (model_Check.calls k _ _ l0 t167 _ ?side1 ?side2 A2.out).mono ?_); (case side1 => repeat (first | exact HR0.out | (with_reducible refine Kd.C_alloc ?_ _) | (with_reducible refine Kd.C_drewN ?_ _) | (with_reducible refine Kd.C_drew ?_))); (case side2 => exact HC0.out); rintro e w4 ⟨rfl, hb⟩; refine ⟨_, rfl, ?_⟩; replace HB := bS HB hb; (try clear hb); (try clear hb2); (try clear hk); (try clear hi)))
  go_loopg [5, 17] k (fun kq v5 v17 w' => ∃ (x5_1 : List (S65)) (x17_1 : Int), v17 = .int .i64 x17_1 ∧ Aside0 (model_Clashes.l0 kq l0 x5_1 l0 (l0.length : Int) x17_1 = some (r1, r2)) ∧ Aside0 (kq ≤ k) ∧ Aside0 (Kd.R k65 65 w' w.heap.size (fun _ => True) v5 x5_1) ∧ Aside0 (Below w.heap.size w w'))
  case atStart => exact ⟨(([] : List (S65))), (0), sqD, H', ⟨Nat.le_refl _⟩, ⟨by first | exact Kd.R_nil _ _ _ _ _ | exact Kd.N_nil _ _ _ _ _ | exact Kd.V_nil _ _ _ _ _ | exact Kd.Q_nil _ _ _ _ _ | exact Kd.S_nil _ _ _ _ _⟩, ⟨fW HB.out⟩⟩
  case round =>
   clear H'
   try clear c1;try clear c2;try clear p2;try clear c3;try clear c3b0;try clear c3b1
   obtain ⟨x5_1, x17_1, rfl, HA, HK1, HO_5, HB⟩ := hrel
   cases gk with
   | zero => exact absurd HA.out (by simp [model_Clashes.l0])
   | succ k1 =>
    have H := HA.out
    clear HA
    simp only [model_Clashes.l0] at H
    by_cases c5 : x17_1 < (l0.length : Int)
    rotate_left
    ·rw [if_neg c5] at H
     have c5b0 : decide (x17_1 < (l0.length : Int)) = false := decide_eq_false c5
     clear c5
     simp only [Option.some.injEq, Prod.mk.injEq] at H
     obtain ⟨rfl, rfl⟩ := H
     go_wp2
     go_ret2
     exact ⟨_, sqE, fR HO_5.out, fW HB.out⟩
    rw [if_pos c5] at H
    have c5b0 : decide (x17_1 < (l0.length : Int)) = true := decide_eq_true c5
    clear c5
    by_cases c6 : 0 ≤ x17_1
    rotate_left
    ·rw [if_neg c6] at H
     exact absurd H (by simp)
    rw [if_pos c6] at H
    have c6b0 : decide (0 ≤ x17_1) = true := decide_eq_true c6
    clear c6
    by_cases c7 : x17_1 < (l0.length : Int)
    rotate_left
    ·rw [if_neg c7] at H
     exact absurd H (by simp)
    rw [if_pos c7] at H
    have c7b0 : decide (x17_1 < (l0.length : Int)) = true := decide_eq_true c7
    clear c7
    have H' := am H
    clear H
    have p168 : 0 ≤ (x17_1 : Int) := of_decide_eq_true (by assumption)
    have q168 : x17_1 < (l0.length : Int) := of_decide_eq_true (by assumption)
    obtain ⟨ad168, e168, hx168_0, hx168_1, hx168_2, hx168_3, hx168_4, hx168_5, hx168_6, hx168_7⟩ := at_T68 HR0.out x17_1 p168 q168
    cases e168
    replace hx168_0 := cl HB hx168_0
    replace hx168_1 := cl HB hx168_1
    replace hx168_2 := cl HB hx168_2
    replace hx168_3 := cl HB hx168_3
    replace hx168_4 := cl HB hx168_4
    replace hx168_5 := cl HB hx168_5
    replace hx168_6 := cl HB hx168_6
    replace hx168_7 := cl HB hx168_7
    replace p168 := eq_true p168
    replace q168 := eq_true q168
    go_wp2_with (first | ((with_reducible refine gate_dst (N := 7) rfl ?_); refine box_event ?hg (N := 7) ?hd (cs := #[.string (⟨#[]⟩ : ByteArray), .int .i64 0, .int .i64 0, .int .i64 0, .int .i64 0, .int .i64 0, .int .i64 0, .int .i64 0]) (t := 68) ?hr ?_; (case hd | hg => rfl); (case hr => first | (go_simp; done) | (go_simp; rfl)); intro gb169 hg w8 hbox hb; replace HO_5 := dR HO_5 hb; have BK169 := am hbox; have GW169 := sG HB hg; have GE169 := sG HB hg; replace HB := bS HB hb; clear hb hbox hg; obtain ⟨_, _, _, _, _, _⟩ := yC6 BK169; have hcz9_6 : w8.cell? ⟨gb169, 6, none⟩ = some (.int .i64 0) := (bc BK169.out 6).trans rfl; have hcz9_7 : w8.cell? ⟨gb169, 7, none⟩ = some (.int .i64 0) := (bc BK169.out 7).trans rfl; have := bf BK169.out 0; have := bf BK169.out 1; have := bf BK169.out 2; have := bf BK169.out 3; have := bf BK169.out 4; have := bf BK169.out 5; have := bf BK169.out 6; have := bf BK169.out 7))
    go_loopg [5, 8] k1 (fun kq v5 v8 w' => ∃ (x5_2 : List (S65)) (x8_2 : Int), v8 = .int .i64 x8_2 ∧ Aside0 (model_Clashes.l1 kq l0 x5_2 x17_1 x8_2 l0 (l0.length : Int) x17_1 ((rd_T68 l0 x17_1).f0) ((rd_T68 l0 x17_1).f1.f0.f0) ((rd_T68 l0 x17_1).f1.f0.f1) ((rd_T68 l0 x17_1).f1.f0.f2) ((rd_T68 l0 x17_1).f1.f1.f0) ((rd_T68 l0 x17_1).f1.f1.f1) ((rd_T68 l0 x17_1).f1.f1.f2) ((rd_T68 l0 x17_1).f2) = some (r1, r2)) ∧ Aside0 (kq ≤ k1) ∧ Aside0 (Kd.R k65 65 w' w.heap.size (fun _ => True) v5 x5_2) ∧ Aside0 (w'.heap[gb169]? = some (.cells #[.string ((rd_T68 l0 x17_1).f0), .int .i64 ((rd_T68 l0 x17_1).f1.f0.f0), .int .i64 ((rd_T68 l0 x17_1).f1.f0.f1), .int .i64 ((rd_T68 l0 x17_1).f1.f0.f2), .int .i64 ((rd_T68 l0 x17_1).f1.f1.f0), .int .i64 ((rd_T68 l0 x17_1).f1.f1.f1), .int .i64 ((rd_T68 l0 x17_1).f1.f1.f2), .int .i64 ((rd_T68 l0 x17_1).f2)] 68 (0, 0))) ∧ Aside0 (Below w.heap.size w w'))
    case atStart => exact ⟨(x5_1), (wrap64 (x17_1 + 1)), sqD, H', ⟨Nat.le_refl _⟩, ⟨by (with_reducible repeat (first | apply Kd.R_alloc | apply Kd.R_drewN | apply Kd.R_drew)); exact Kd.R_mono (Kd.R_far (p := ⟨gb169, 7, none⟩) (Kd.R_far (p := ⟨gb169, 6, none⟩) (Kd.R_far (p := ⟨gb169, 5, none⟩) (Kd.R_far (p := ⟨gb169, 4, none⟩) (Kd.R_far (p := ⟨gb169, 3, none⟩) (Kd.R_far (p := ⟨gb169, 2, none⟩) (Kd.R_far (p := ⟨gb169, 1, none⟩) (Kd.R_far (p := ⟨gb169, 0, none⟩) (Kd.R_types HO_5.out BK169.out (by decide)) (fun _ hk => hk.2) (.string ((rd_T68 l0 x17_1).f0))) (fun _ hk => hk.2) (.int .i64 ((rd_T68 l0 x17_1).f1.f0.f0))) (fun _ hk => hk.2) (.int .i64 ((rd_T68 l0 x17_1).f1.f0.f1))) (fun _ hk => hk.2) (.int .i64 ((rd_T68 l0 x17_1).f1.f0.f2))) (fun _ hk => hk.2) (.int .i64 ((rd_T68 l0 x17_1).f1.f1.f0))) (fun _ hk => hk.2) (.int .i64 ((rd_T68 l0 x17_1).f1.f1.f1))) (fun _ hk => hk.2) (.int .i64 ((rd_T68 l0 x17_1).f1.f1.f2))) (fun _ hk => hk.2) (.int .i64 ((rd_T68 l0 x17_1).f2))) (fun _ hk => trivial)⟩, ⟨by (with_reducible repeat first | apply bN | apply bd | apply ba); refine bp (cs := #[.string ((rd_T68 l0 x17_1).f0), .int .i64 ((rd_T68 l0 x17_1).f1.f0.f0), .int .i64 ((rd_T68 l0 x17_1).f1.f0.f1), .int .i64 ((rd_T68 l0 x17_1).f1.f0.f2), .int .i64 ((rd_T68 l0 x17_1).f1.f1.f0), .int .i64 ((rd_T68 l0 x17_1).f1.f1.f1), .int .i64 ((rd_T68 l0 x17_1).f1.f1.f2), .int .i64 0]) ?_ 7 _ rfl; (with_reducible repeat first | apply bN | apply bd | apply ba); refine bp (cs := #[.string ((rd_T68 l0 x17_1).f0), .int .i64 ((rd_T68 l0 x17_1).f1.f0.f0), .int .i64 ((rd_T68 l0 x17_1).f1.f0.f1), .int .i64 ((rd_T68 l0 x17_1).f1.f0.f2), .int .i64 ((rd_T68 l0 x17_1).f1.f1.f0), .int .i64 ((rd_T68 l0 x17_1).f1.f1.f1), .int .i64 0, .int .i64 0]) ?_ 6 _ rfl; (with_reducible repeat first | apply bN | apply bd | apply ba); refine bp (cs := #[.string ((rd_T68 l0 x17_1).f0), .int .i64 ((rd_T68 l0 x17_1).f1.f0.f0), .int .i64 ((rd_T68 l0 x17_1).f1.f0.f1), .int .i64 ((rd_T68 l0 x17_1).f1.f0.f2), .int .i64 ((rd_T68 l0 x17_1).f1.f1.f0), .int .i64 0, .int .i64 0, .int .i64 0]) ?_ 5 _ rfl; (with_reducible repeat first | apply bN | apply bd | apply ba); refine bp (cs := #[.string ((rd_T68 l0 x17_1).f0), .int .i64 ((rd_T68 l0 x17_1).f1.f0.f0), .int .i64 ((rd_T68 l0 x17_1).f1.f0.f1), .int .i64 ((rd_T68 l0 x17_1).f1.f0.f2), .int .i64 0, .int .i64 0, .int .i64 0, .int .i64 0]) ?_ 4 _ rfl; (with_reducible repeat first | apply bN | apply bd | apply ba); refine bp (cs := #[.string ((rd_T68 l0 x17_1).f0), .int .i64 ((rd_T68 l0 x17_1).f1.f0.f0), .int .i64 ((rd_T68 l0 x17_1).f1.f0.f1), .int .i64 0, .int .i64 0, .int .i64 0, .int .i64 0, .int .i64 0]) ?_ 3 _ rfl; (with_reducible repeat first | apply bN | apply bd | apply ba); refine bp (cs := #[.string ((rd_T68 l0 x17_1).f0), .int .i64 ((rd_T68 l0 x17_1).f1.f0.f0), .int .i64 0, .int .i64 0, .int .i64 0, .int .i64 0, .int .i64 0, .int .i64 0]) ?_ 2 _ rfl; (with_reducible repeat first | apply bN | apply bd | apply ba); refine bp (cs := #[.string ((rd_T68 l0 x17_1).f0), .int .i64 0, .int .i64 0, .int .i64 0, .int .i64 0, .int .i64 0, .int .i64 0, .int .i64 0]) ?_ 1 _ rfl; (with_reducible repeat first | apply bN | apply bd | apply ba); refine bp (cs := #[.string (⟨#[]⟩ : ByteArray), .int .i64 0, .int .i64 0, .int .i64 0, .int .i64 0, .int .i64 0, .int .i64 0, .int .i64 0]) ?_ 0 _ rfl; (with_reducible repeat first | apply bN | apply bd | apply ba); exact BK169.out⟩, ⟨fW HB.out⟩⟩
    case round =>
     clear H'
     try clear c1;try clear p1;try clear q1;try clear hx1;try clear c2;try clear p2;try clear c3;try clear c3b0;try clear c3b1;try clear c5;try clear c5b0;try clear c6;try clear c6b0;try clear p6;try clear c7;try clear c7b0;try clear hcz9_6;try clear hcz9_7;try clear hx168_0;try clear hx168_1;try clear hx168_2;try clear hx168_3;try clear hx168_4;try clear hx168_5;try clear hx168_6;try clear hx168_7;try clear p168;try clear p2;try clear q168
     obtain ⟨x5_2, x8_2, rfl, HA, HK2, HO_5, BK169, HB⟩ := hrel
     cases gk with
     | zero => exact absurd HA.out (by simp [model_Clashes.l1])
     | succ k2 =>
      have H := HA.out
      clear HA
      simp only [model_Clashes.l1] at H
      by_cases c10 : x8_2 < (l0.length : Int)
      rotate_left
      ·rw [if_neg c10] at H
       have c10b0 : decide (x8_2 < (l0.length : Int)) = false := decide_eq_false c10
       clear c10
       have H' := am H
       clear H
       go_wp2
       go_roundg k2
       case measure => have := HK1.out; have := HK2.out; omega
       case rel => exact ⟨(x5_2), (wrap64 (x17_1 + 1)), sqD, H', ⟨by have := HK1.out; have := HK2.out; omega⟩, ⟨fR HO_5.out⟩, ⟨fW HB.out⟩⟩
      rw [if_pos c10] at H
      have c10b0 : decide (x8_2 < (l0.length : Int)) = true := decide_eq_true c10
      clear c10
      have HC11 := am H
      clear H
      go_upto_block 3 with (fail)
      go_cut [5] (fun v5 wc => ∃ (kq : Nat) (x5_10 : List (S65)), Aside0 (model_Clashes.j2 kq l0 x5_10 x17_1 x8_2 l0 (l0.length : Int) x17_1 ((rd_T68 l0 x17_1).f0) ((rd_T68 l0 x17_1).f1.f0.f0) ((rd_T68 l0 x17_1).f1.f0.f1) ((rd_T68 l0 x17_1).f1.f0.f2) ((rd_T68 l0 x17_1).f1.f1.f0) ((rd_T68 l0 x17_1).f1.f1.f1) ((rd_T68 l0 x17_1).f1.f1.f2) ((rd_T68 l0 x17_1).f2) = some (r1, r2)) ∧ Aside0 (kq ≤ k2) ∧ Aside0 (Kd.R k65 65 wc w.heap.size (fun _ => True) v5 x5_10) ∧ Aside0 (wc.heap[gb169]? = some (.cells #[.string ((rd_T68 l0 x17_1).f0), .int .i64 ((rd_T68 l0 x17_1).f1.f0.f0), .int .i64 ((rd_T68 l0 x17_1).f1.f0.f1), .int .i64 ((rd_T68 l0 x17_1).f1.f0.f2), .int .i64 ((rd_T68 l0 x17_1).f1.f1.f0), .int .i64 ((rd_T68 l0 x17_1).f1.f1.f1), .int .i64 ((rd_T68 l0 x17_1).f1.f1.f2), .int .i64 ((rd_T68 l0 x17_1).f2)] 68 (0, 0))) ∧ Aside0 (Below w.heap.size w wc))
      case first =>
       have H := HC11.out
       clear HC11
       by_cases c12 : 0 ≤ x8_2
       rotate_left
       ·rw [if_neg c12] at H
        exact absurd H (by simp)
       rw [if_pos c12] at H
       have c12b0 : decide (0 ≤ x8_2) = true := decide_eq_true c12
       clear c12
       (first | rw [c12b0] | (simp only [i64_w, i32_w]; rw [c12b0]) | skip)
       by_cases c13 : ((rd_T68 l0 x17_1).f2) = ((rd_T68 l0 x8_2).f2)
       ·rw [if_pos c13] at H
        have c13b0 : (((rd_T68 l0 x17_1).f2) == ((rd_T68 l0 x8_2).f2)) = true := beq_iff_eq.mpr c13
        have c13b1 : (((rd_T68 l0 x17_1).f2) != ((rd_T68 l0 x8_2).f2)) = false := bne_eq_false_iff_eq.mpr c13
        clear c13
        have H' := am H
        clear H
        have p170 : 0 ≤ (x8_2 : Int) := of_decide_eq_true (by assumption)
        have q170 : x8_2 < (l0.length : Int) := of_decide_eq_true (by assumption)
        obtain ⟨ad170, e170, hx170_0, hx170_1, hx170_2, hx170_3, hx170_4, hx170_5, hx170_6, hx170_7⟩ := at_T68 HR0.out x8_2 p170 q170
        obtain rfl : ad168 = ad170 := (by injection e170)
        replace hx170_0 := cl HB hx170_0
        replace hx170_1 := cl HB hx170_1
        replace hx170_2 := cl HB hx170_2
        replace hx170_3 := cl HB hx170_3
        replace hx170_4 := cl HB hx170_4
        replace hx170_5 := cl HB hx170_5
        replace hx170_6 := cl HB hx170_6
        replace hx170_7 := cl HB hx170_7
        replace p170 := eq_true p170
        replace q170 := eq_true q170
        go_wp2_with (first | ((with_reducible refine gate_dst (N := 9) rfl ?_); refine box_event ?hg (N := 9) ?hd (cs := #[.string (⟨#[]⟩ : ByteArray), .int .i64 0, .int .i64 0, .int .i64 0, .int .i64 0, .int .i64 0, .int .i64 0, .int .i64 0]) (t := 68) ?hr ?_; (case hd | hg => rfl); (case hr => first | (go_simp; done) | (go_simp; rfl)); intro gb171 hg w14 hbox hb; replace HO_5 := dR HO_5 hb; have BK171 := am hbox; have GW171 := sG HB hg; have GE171 := sG HB hg; replace HB := bS HB hb; have NB169_171 := nL BK169 hg; have NB171_169 := nG BK169 hg; replace BK169 := bB BK169 hb; clear hb hbox hg; have hnb15 := NB171_169.out; have hnc15 := NB169_171.out; obtain ⟨_, _, _, _, _, _⟩ := yC6 BK171; have hcz16_6 : w14.cell? ⟨gb171, 6, none⟩ = some (.int .i64 0) := (bc BK171.out 6).trans rfl; have hcz16_7 : w14.cell? ⟨gb171, 7, none⟩ = some (.int .i64 0) := (bc BK171.out 7).trans rfl; have := bf BK171.out 0; have := bf BK171.out 1; have := bf BK171.out 2; have := bf BK171.out 3; have := bf BK171.out 4; have := bf BK171.out 5; have := bf BK171.out 6; have := bf BK171.out 7; obtain ⟨_, _, _, _, _, _⟩ := yC6 BK169; have hcz17_6 : w14.cell? ⟨gb169, 6, none⟩ = some (.int .i64 ((rd_T68 l0 x17_1).f1.f1.f2)) := (bc BK169.out 6).trans rfl; have hcz17_7 : w14.cell? ⟨gb169, 7, none⟩ = some (.int .i64 ((rd_T68 l0 x17_1).f2)) := (bc BK169.out 7).trans rfl; have := bf BK169.out 0; have := bf BK169.out 1; have := bf BK169.out 2; have := bf BK169.out 3; have := bf BK169.out 4; have := bf BK169.out 5; have := bf BK169.out 6; have := bf BK169.out 7))
        go_meet
        case rel => exact ⟨_, (x5_2), H', ⟨by have := HK1.out; have := HK2.out; first | omega | exact Nat.le_refl _⟩, ⟨by (with_reducible repeat (first | apply Kd.R_alloc | apply Kd.R_drewN | apply Kd.R_drew)); exact Kd.R_mono (Kd.R_far (p := ⟨gb171, 7, none⟩) (Kd.R_far (p := ⟨gb171, 6, none⟩) (Kd.R_far (p := ⟨gb171, 5, none⟩) (Kd.R_far (p := ⟨gb171, 4, none⟩) (Kd.R_far (p := ⟨gb171, 3, none⟩) (Kd.R_far (p := ⟨gb171, 2, none⟩) (Kd.R_far (p := ⟨gb171, 1, none⟩) (Kd.R_far (p := ⟨gb171, 0, none⟩) (Kd.R_types HO_5.out BK171.out (by decide)) (fun _ hk => hk.2) (.string ((rd_T68 l0 x8_2).f0))) (fun _ hk => hk.2) (.int .i64 ((rd_T68 l0 x8_2).f1.f0.f0))) (fun _ hk => hk.2) (.int .i64 ((rd_T68 l0 x8_2).f1.f0.f1))) (fun _ hk => hk.2) (.int .i64 ((rd_T68 l0 x8_2).f1.f0.f2))) (fun _ hk => hk.2) (.int .i64 ((rd_T68 l0 x8_2).f1.f1.f0))) (fun _ hk => hk.2) (.int .i64 ((rd_T68 l0 x8_2).f1.f1.f1))) (fun _ hk => hk.2) (.int .i64 ((rd_T68 l0 x8_2).f1.f1.f2))) (fun _ hk => hk.2) (.int .i64 ((rd_T68 l0 x8_2).f2))) (fun _ hk => trivial)⟩, ⟨by (with_reducible repeat first | apply bN | apply bd | apply ba); refine bF ?_ NB169_171.out _; (with_reducible repeat first | apply bN | apply bd | apply ba); refine bF ?_ NB169_171.out _; (with_reducible repeat first | apply bN | apply bd | apply ba); refine bF ?_ NB169_171.out _; (with_reducible repeat first | apply bN | apply bd | apply ba); refine bF ?_ NB169_171.out _; (with_reducible repeat first | apply bN | apply bd | apply ba); refine bF ?_ NB169_171.out _; (with_reducible repeat first | apply bN | apply bd | apply ba); refine bF ?_ NB169_171.out _; (with_reducible repeat first | apply bN | apply bd | apply ba); refine bF ?_ NB169_171.out _; (with_reducible repeat first | apply bN | apply bd | apply ba); refine bF ?_ NB169_171.out _; (with_reducible repeat first | apply bN | apply bd | apply ba); exact BK169.out⟩, ⟨fW HB.out⟩⟩
       rw [if_neg c13] at H
       have c13b0 : (((rd_T68 l0 x17_1).f2) == ((rd_T68 l0 x8_2).f2)) = false := beq_eq_false_iff_ne.mpr c13
       have c13b1 : (((rd_T68 l0 x17_1).f2) != ((rd_T68 l0 x8_2).f2)) = true := bne_iff_ne.mpr c13
       replace H := Option.bind_eq_some_iff.mp H
       obtain ⟨t172, A180, H⟩ := H
       replace H : (if t172 = true then (if x5_2.length < 8796093022208 then (model_Clashes.j2 k2 l0 (x5_2 ++ [(⟨x17_1, x8_2⟩ : S65)]) x17_1 x8_2 l0 (l0.length : Int) x17_1 ((rd_T68 l0 x17_1).f0) ((rd_T68 l0 x17_1).f1.f0.f0) ((rd_T68 l0 x17_1).f1.f0.f1) ((rd_T68 l0 x17_1).f1.f0.f2) ((rd_T68 l0 x17_1).f1.f1.f0) ((rd_T68 l0 x17_1).f1.f1.f1) ((rd_T68 l0 x17_1).f1.f1.f2) ((rd_T68 l0 x17_1).f2)) else (none)) else (model_Clashes.j2 k2 l0 x5_2 x17_1 x8_2 l0 (l0.length : Int) x17_1 ((rd_T68 l0 x17_1).f0) ((rd_T68 l0 x17_1).f1.f0.f0) ((rd_T68 l0 x17_1).f1.f0.f1) ((rd_T68 l0 x17_1).f1.f0.f2) ((rd_T68 l0 x17_1).f1.f1.f0) ((rd_T68 l0 x17_1).f1.f1.f1) ((rd_T68 l0 x17_1).f1.f1.f2) ((rd_T68 l0 x17_1).f2))) = some (r1, r2) := H
       have A18 := am A180
       clear A180
       by_cases c19 : t172 = true
       ·subst c19
        have H1 : (if x5_2.length < 8796093022208 then (model_Clashes.j2 k2 l0 (x5_2 ++ [(⟨x17_1, x8_2⟩ : S65)]) x17_1 x8_2 l0 (l0.length : Int) x17_1 ((rd_T68 l0 x17_1).f0) ((rd_T68 l0 x17_1).f1.f0.f0) ((rd_T68 l0 x17_1).f1.f0.f1) ((rd_T68 l0 x17_1).f1.f0.f2) ((rd_T68 l0 x17_1).f1.f1.f0) ((rd_T68 l0 x17_1).f1.f1.f1) ((rd_T68 l0 x17_1).f1.f1.f2) ((rd_T68 l0 x17_1).f2)) else (none)) = some (r1, r2) := by rw [if_pos rfl] at H; exact H
        clear H
        have H := H1
        clear H1
        by_cases c20 : x5_2.length < 8796093022208
        rotate_left
        ·rw [if_neg c20] at H
         exact absurd H (by simp)
        rw [if_pos c20] at H
        have LMc20 := am c20
        clear c20
        obtain ⟨y173, hy173⟩ : ∃ y_ : List (S65), y_ = (x5_2 ++ [(⟨x17_1, x8_2⟩ : S65)]) := ⟨_, rfl⟩
        replace H : (model_Clashes.j2 k2 l0 y173 x17_1 x8_2 l0 (l0.length : Int) x17_1 ((rd_T68 l0 x17_1).f0) ((rd_T68 l0 x17_1).f1.f0.f0) ((rd_T68 l0 x17_1).f1.f0.f1) ((rd_T68 l0 x17_1).f1.f0.f2) ((rd_T68 l0 x17_1).f1.f1.f0) ((rd_T68 l0 x17_1).f1.f1.f1) ((rd_T68 l0 x17_1).f1.f1.f2) ((rd_T68 l0 x17_1).f2)) = some (r1, r2) := by first | (rw [hy173]; with_reducible exact H) | (have H2_ := (Option.bind_some _ _).symm.trans H; rw [hy173]; with_reducible exact H2_) | (have H2_ := (Option.bind_some _ _).symm.trans H; with_reducible exact H2_) | with_reducible exact H | (rw [hy173]; exact H) | exact H
        have Ny173 := am hy173
        clear hy173
        have H' := am H
        clear H
        have p170 : 0 ≤ (x8_2 : Int) := of_decide_eq_true (by assumption)
        have q170 : x8_2 < (l0.length : Int) := of_decide_eq_true (by assumption)
        obtain ⟨ad170, e170, hx170_0, hx170_1, hx170_2, hx170_3, hx170_4, hx170_5, hx170_6, hx170_7⟩ := at_T68 HR0.out x8_2 p170 q170
        obtain rfl : ad168 = ad170 := (by injection e170)
        replace hx170_0 := cl HB hx170_0
        replace hx170_1 := cl HB hx170_1
        replace hx170_2 := cl HB hx170_2
        replace hx170_3 := cl HB hx170_3
        replace hx170_4 := cl HB hx170_4
        replace hx170_5 := cl HB hx170_5
        replace hx170_6 := cl HB hx170_6
        replace hx170_7 := cl HB hx170_7
        replace p170 := eq_true p170
        replace q170 := eq_true q170
        go_wp2_with (first | ((with_reducible refine gate_dst (N := 9) rfl ?_); refine box_event ?hg (N := 9) ?hd (cs := #[.string (⟨#[]⟩ : ByteArray), .int .i64 0, .int .i64 0, .int .i64 0, .int .i64 0, .int .i64 0, .int .i64 0, .int .i64 0]) (t := 68) ?hr ?_; (case hd | hg => rfl); (case hr => first | (go_simp; done) | (go_simp; rfl)); intro gb171 hg w21 hbox hb; replace HO_5 := dR HO_5 hb; have BK171 := am hbox; have GW171 := sG HB hg; have GE171 := sG HB hg; replace HB := bS HB hb; have NB169_171 := nL BK169 hg; have NB171_169 := nG BK169 hg; replace BK169 := bB BK169 hb; clear hb hbox hg; have hnb22 := NB171_169.out; have hnc22 := NB169_171.out; obtain ⟨_, _, _, _, _, _⟩ := yC6 BK171; have hcz23_6 : w21.cell? ⟨gb171, 6, none⟩ = some (.int .i64 0) := (bc BK171.out 6).trans rfl; have hcz23_7 : w21.cell? ⟨gb171, 7, none⟩ = some (.int .i64 0) := (bc BK171.out 7).trans rfl; have := bf BK171.out 0; have := bf BK171.out 1; have := bf BK171.out 2; have := bf BK171.out 3; have := bf BK171.out 4; have := bf BK171.out 5; have := bf BK171.out 6; have := bf BK171.out 7; obtain ⟨_, _, _, _, _, _⟩ := yC6 BK169; have hcz24_6 : w21.cell? ⟨gb169, 6, none⟩ = some (.int .i64 ((rd_T68 l0 x17_1).f1.f1.f2)) := (bc BK169.out 6).trans rfl; have hcz24_7 : w21.cell? ⟨gb169, 7, none⟩ = some (.int .i64 ((rd_T68 l0 x17_1).f2)) := (bc BK169.out 7).trans rfl; have := bf BK169.out 0; have := bf BK169.out 1; have := bf BK169.out 2; have := bf BK169.out 3; have := bf BK169.out 4; have := bf BK169.out 5; have := bf BK169.out 6; have := bf BK169.out 7) | (go_at_call 60; (with_reducible refine (box_Overlap.calls ((rd_T68 l0 x17_1).f1.f0.f0) ((rd_T68 l0 x17_1).f1.f0.f1) ((rd_T68 l0 x17_1).f1.f0.f2) ((rd_T68 l0 x17_1).f1.f1.f0) ((rd_T68 l0 x17_1).f1.f1.f1) ((rd_T68 l0 x17_1).f1.f1.f2) ((rd_T68 l0 x8_2).f1.f0.f0) ((rd_T68 l0 x8_2).f1.f0.f1) ((rd_T68 l0 x8_2).f1.f0.f2) ((rd_T68 l0 x8_2).f1.f1.f0) ((rd_T68 l0 x8_2).f1.f1.f1) ((rd_T68 l0 x8_2).f1.f1.f2) true _ A18.out).mono ?_); rintro e w25 ⟨rfl, hb⟩; replace HO_5 := am (Kd.R_below (by (with_reducible repeat (first | apply Kd.R_alloc | apply Kd.R_drewN | apply Kd.R_drew)); exact (Kd.R_mono (Kd.R_far (p := ⟨gb171, 7, none⟩) (Kd.R_far (p := ⟨gb171, 6, none⟩) (Kd.R_far (p := ⟨gb171, 5, none⟩) (Kd.R_far (p := ⟨gb171, 4, none⟩) (Kd.R_far (p := ⟨gb171, 3, none⟩) (Kd.R_far (p := ⟨gb171, 2, none⟩) (Kd.R_far (p := ⟨gb171, 1, none⟩) (Kd.R_far (p := ⟨gb171, 0, none⟩) (Kd.R_types HO_5.out BK171.out (by decide)) (fun _ hk => hk.2) (.string ((rd_T68 l0 x8_2).f0))) (fun _ hk => hk.2) (.int .i64 ((rd_T68 l0 x8_2).f1.f0.f0))) (fun _ hk => hk.2) (.int .i64 ((rd_T68 l0 x8_2).f1.f0.f1))) (fun _ hk => hk.2) (.int .i64 ((rd_T68 l0 x8_2).f1.f0.f2))) (fun _ hk => hk.2) (.int .i64 ((rd_T68 l0 x8_2).f1.f1.f0))) (fun _ hk => hk.2) (.int .i64 ((rd_T68 l0 x8_2).f1.f1.f1))) (fun _ hk => hk.2) (.int .i64 ((rd_T68 l0 x8_2).f1.f1.f2))) (fun _ hk => hk.2) (.int .i64 ((rd_T68 l0 x8_2).f2))) (fun _ h_ => h_.1))) hb); replace BK169 := xC1 (kfC BK169.out) hb; replace BK171 := am (bb (g := gb171) (o := .cells #[.string ((rd_T68 l0 x8_2).f0), .int .i64 ((rd_T68 l0 x8_2).f1.f0.f0), .int .i64 ((rd_T68 l0 x8_2).f1.f0.f1), .int .i64 ((rd_T68 l0 x8_2).f1.f0.f2), .int .i64 ((rd_T68 l0 x8_2).f1.f1.f0), .int .i64 ((rd_T68 l0 x8_2).f1.f1.f1), .int .i64 ((rd_T68 l0 x8_2).f1.f1.f2), .int .i64 ((rd_T68 l0 x8_2).f2)] 68 (0, 0)) (by (with_reducible repeat first | apply bN | apply bd | apply ba); refine bp (cs := #[.string ((rd_T68 l0 x8_2).f0), .int .i64 ((rd_T68 l0 x8_2).f1.f0.f0), .int .i64 ((rd_T68 l0 x8_2).f1.f0.f1), .int .i64 ((rd_T68 l0 x8_2).f1.f0.f2), .int .i64 ((rd_T68 l0 x8_2).f1.f1.f0), .int .i64 ((rd_T68 l0 x8_2).f1.f1.f1), .int .i64 ((rd_T68 l0 x8_2).f1.f1.f2), .int .i64 0]) ?_ 7 _ rfl; (with_reducible repeat first | apply bN | apply bd | apply ba); refine bp (cs := #[.string ((rd_T68 l0 x8_2).f0), .int .i64 ((rd_T68 l0 x8_2).f1.f0.f0), .int .i64 ((rd_T68 l0 x8_2).f1.f0.f1), .int .i64 ((rd_T68 l0 x8_2).f1.f0.f2), .int .i64 ((rd_T68 l0 x8_2).f1.f1.f0), .int .i64 ((rd_T68 l0 x8_2).f1.f1.f1), .int .i64 0, .int .i64 0]) ?_ 6 _ rfl; (with_reducible repeat first | apply bN | apply bd | apply ba); refine bp (cs := #[.string ((rd_T68 l0 x8_2).f0), .int .i64 ((rd_T68 l0 x8_2).f1.f0.f0), .int .i64 ((rd_T68 l0 x8_2).f1.f0.f1), .int .i64 ((rd_T68 l0 x8_2).f1.f0.f2), .int .i64 ((rd_T68 l0 x8_2).f1.f1.f0), .int .i64 0, .int .i64 0, .int .i64 0]) ?_ 5 _ rfl; (with_reducible repeat first | apply bN | apply bd | apply ba); refine bp (cs := #[.string ((rd_T68 l0 x8_2).f0), .int .i64 ((rd_T68 l0 x8_2).f1.f0.f0), .int .i64 ((rd_T68 l0 x8_2).f1.f0.f1), .int .i64 ((rd_T68 l0 x8_2).f1.f0.f2), .int .i64 0, .int .i64 0, .int .i64 0, .int .i64 0]) ?_ 4 _ rfl; (with_reducible repeat first | apply bN | apply bd | apply ba); refine bp (cs := #[.string ((rd_T68 l0 x8_2).f0), .int .i64 ((rd_T68 l0 x8_2).f1.f0.f0), .int .i64 ((rd_T68 l0 x8_2).f1.f0.f1), .int .i64 0, .int .i64 0, .int .i64 0, .int .i64 0, .int .i64 0]) ?_ 3 _ rfl; (with_reducible repeat first | apply bN | apply bd | apply ba); refine bp (cs := #[.string ((rd_T68 l0 x8_2).f0), .int .i64 ((rd_T68 l0 x8_2).f1.f0.f0), .int .i64 0, .int .i64 0, .int .i64 0, .int .i64 0, .int .i64 0, .int .i64 0]) ?_ 2 _ rfl; (with_reducible repeat first | apply bN | apply bd | apply ba); refine bp (cs := #[.string ((rd_T68 l0 x8_2).f0), .int .i64 0, .int .i64 0, .int .i64 0, .int .i64 0, .int .i64 0, .int .i64 0, .int .i64 0]) ?_ 1 _ rfl; (with_reducible repeat first | apply bN | apply bd | apply ba); refine bp (cs := #[.string (⟨#[]⟩ : ByteArray), .int .i64 0, .int .i64 0, .int .i64 0, .int .i64 0, .int .i64 0, .int .i64 0, .int .i64 0]) ?_ 0 _ rfl; (with_reducible repeat first | apply bN | apply bd | apply ba); exact BK171.out) hb); replace HB := bS HB hb; (try clear hb); (try clear hb2); (try clear hk); (try clear hi)) | ((with_reducible refine gate_builtin (b := .append) (xs := #[.tmp 46, .tmp 50]) rfl ?_); at_builtin; refine Kd.R_append k65 (w0 := w) w.heap.size rfl (.tmp 46) (.tmp 50) 56 65 (.agg #[(.int .i64 0), (.int .i64 0)]) 16 rfl Try.underlying56 info65 rfl (by decide) (by omega) u5 x5_2 (⟨x17_1, x8_2⟩ : S65) [.int .i64 x17_1, .int .i64 x8_2] (fun _ => True) (fun _ => False) rfl rfl ?aP (fun _ hk => hk.elim) ?aF ?aO ?aB ?aS ?aL ?_; (case aP => exact k65_mkM _ _ _ (⟨x17_1, x8_2⟩ : S65)); (case aB => exact (fW HB.out)); (case aF => exact (fun _ _ => trivial)); (case aO => exact (fR HO_5.out)); (case aS => exact (below_size (fW HB.out))); (case aL => have := LMc20.out; omega); intro v174 w26 ho hb hg hat; rw [← Ny173.out] at ho; replace BK169 := am (blk_grown (g := gb169) (o := .cells #[.string ((rd_T68 l0 x17_1).f0), .int .i64 ((rd_T68 l0 x17_1).f1.f0.f0), .int .i64 ((rd_T68 l0 x17_1).f1.f0.f1), .int .i64 ((rd_T68 l0 x17_1).f1.f0.f2), .int .i64 ((rd_T68 l0 x17_1).f1.f1.f0), .int .i64 ((rd_T68 l0 x17_1).f1.f1.f1), .int .i64 ((rd_T68 l0 x17_1).f1.f1.f2), .int .i64 ((rd_T68 l0 x17_1).f2)] 68 (0, 0)) (fb BK169.out) hg (Kd.R_ne HO_5.out BK169.out (by decide))); replace BK171 := am (blk_grown (g := gb171) (o := .cells #[.string ((rd_T68 l0 x8_2).f0), .int .i64 ((rd_T68 l0 x8_2).f1.f0.f0), .int .i64 ((rd_T68 l0 x8_2).f1.f0.f1), .int .i64 ((rd_T68 l0 x8_2).f1.f0.f2), .int .i64 ((rd_T68 l0 x8_2).f1.f1.f0), .int .i64 ((rd_T68 l0 x8_2).f1.f1.f1), .int .i64 ((rd_T68 l0 x8_2).f1.f1.f2), .int .i64 ((rd_T68 l0 x8_2).f2)] 68 (0, 0)) (fb BK171.out) hg (Kd.R_ne HO_5.out BK171.out (by decide))); replace HB := am (hb); have HO175 := am (ho); clear HO_5 ho hb hg hat))
        go_meet
        case rel => exact ⟨_, (y173), H', ⟨by have := HK1.out; have := HK2.out; first | omega | exact Nat.le_refl _⟩, ⟨fR HO175.out⟩, ⟨fb BK169.out⟩, ⟨fW HB.out⟩⟩
       replace c19 := Bool.eq_false_iff.mpr c19
       subst c19
       have H1 : (model_Clashes.j2 k2 l0 x5_2 x17_1 x8_2 l0 (l0.length : Int) x17_1 ((rd_T68 l0 x17_1).f0) ((rd_T68 l0 x17_1).f1.f0.f0) ((rd_T68 l0 x17_1).f1.f0.f1) ((rd_T68 l0 x17_1).f1.f0.f2) ((rd_T68 l0 x17_1).f1.f1.f0) ((rd_T68 l0 x17_1).f1.f1.f1) ((rd_T68 l0 x17_1).f1.f1.f2) ((rd_T68 l0 x17_1).f2)) = some (r1, r2) := by rw [if_neg (show ¬ (false = true) by decide)] at H; exact H
       clear H
       have H := H1
       clear H1
       have H' := am H
       clear H
       have p170 : 0 ≤ (x8_2 : Int) := of_decide_eq_true (by assumption)
       have q170 : x8_2 < (l0.length : Int) := of_decide_eq_true (by assumption)
       obtain ⟨ad170, e170, hx170_0, hx170_1, hx170_2, hx170_3, hx170_4, hx170_5, hx170_6, hx170_7⟩ := at_T68 HR0.out x8_2 p170 q170
       obtain rfl : ad168 = ad170 := (by injection e170)
       replace hx170_0 := cl HB hx170_0
       replace hx170_1 := cl HB hx170_1
       replace hx170_2 := cl HB hx170_2
       replace hx170_3 := cl HB hx170_3
       replace hx170_4 := cl HB hx170_4
       replace hx170_5 := cl HB hx170_5
       replace hx170_6 := cl HB hx170_6
       replace hx170_7 := cl HB hx170_7
       replace p170 := eq_true p170
       replace q170 := eq_true q170
       go_wp2_with (first | ((with_reducible refine gate_dst (N := 9) rfl ?_); refine box_event ?hg (N := 9) ?hd (cs := #[.string (⟨#[]⟩ : ByteArray), .int .i64 0, .int .i64 0, .int .i64 0, .int .i64 0, .int .i64 0, .int .i64 0, .int .i64 0]) (t := 68) ?hr ?_; (case hd | hg => rfl); (case hr => first | (go_simp; done) | (go_simp; rfl)); intro gb171 hg w27 hbox hb; replace HO_5 := dR HO_5 hb; have BK171 := am hbox; have GW171 := sG HB hg; have GE171 := sG HB hg; replace HB := bS HB hb; have NB169_171 := nL BK169 hg; have NB171_169 := nG BK169 hg; replace BK169 := bB BK169 hb; clear hb hbox hg; have hnb28 := NB171_169.out; have hnc28 := NB169_171.out; obtain ⟨_, _, _, _, _, _⟩ := yC6 BK171; have hcz29_6 : w27.cell? ⟨gb171, 6, none⟩ = some (.int .i64 0) := (bc BK171.out 6).trans rfl; have hcz29_7 : w27.cell? ⟨gb171, 7, none⟩ = some (.int .i64 0) := (bc BK171.out 7).trans rfl; have := bf BK171.out 0; have := bf BK171.out 1; have := bf BK171.out 2; have := bf BK171.out 3; have := bf BK171.out 4; have := bf BK171.out 5; have := bf BK171.out 6; have := bf BK171.out 7; obtain ⟨_, _, _, _, _, _⟩ := yC6 BK169; have hcz30_6 : w27.cell? ⟨gb169, 6, none⟩ = some (.int .i64 ((rd_T68 l0 x17_1).f1.f1.f2)) := (bc BK169.out 6).trans rfl; have hcz30_7 : w27.cell? ⟨gb169, 7, none⟩ = some (.int .i64 ((rd_T68 l0 x17_1).f2)) := (bc BK169.out 7).trans rfl; have := bf BK169.out 0; have := bf BK169.out 1; have := bf BK169.out 2; have := bf BK169.out 3; have := bf BK169.out 4; have := bf BK169.out 5; have := bf BK169.out 6; have := bf BK169.out 7) | (go_at_call 60; (with_reducible refine (box_Overlap.calls ((rd_T68 l0 x17_1).f1.f0.f0) ((rd_T68 l0 x17_1).f1.f0.f1) ((rd_T68 l0 x17_1).f1.f0.f2) ((rd_T68 l0 x17_1).f1.f1.f0) ((rd_T68 l0 x17_1).f1.f1.f1) ((rd_T68 l0 x17_1).f1.f1.f2) ((rd_T68 l0 x8_2).f1.f0.f0) ((rd_T68 l0 x8_2).f1.f0.f1) ((rd_T68 l0 x8_2).f1.f0.f2) ((rd_T68 l0 x8_2).f1.f1.f0) ((rd_T68 l0 x8_2).f1.f1.f1) ((rd_T68 l0 x8_2).f1.f1.f2) false _ A18.out).mono ?_); rintro e w31 ⟨rfl, hb⟩; replace HO_5 := am (Kd.R_below (by (with_reducible repeat (first | apply Kd.R_alloc | apply Kd.R_drewN | apply Kd.R_drew)); exact (Kd.R_mono (Kd.R_far (p := ⟨gb171, 7, none⟩) (Kd.R_far (p := ⟨gb171, 6, none⟩) (Kd.R_far (p := ⟨gb171, 5, none⟩) (Kd.R_far (p := ⟨gb171, 4, none⟩) (Kd.R_far (p := ⟨gb171, 3, none⟩) (Kd.R_far (p := ⟨gb171, 2, none⟩) (Kd.R_far (p := ⟨gb171, 1, none⟩) (Kd.R_far (p := ⟨gb171, 0, none⟩) (Kd.R_types HO_5.out BK171.out (by decide)) (fun _ hk => hk.2) (.string ((rd_T68 l0 x8_2).f0))) (fun _ hk => hk.2) (.int .i64 ((rd_T68 l0 x8_2).f1.f0.f0))) (fun _ hk => hk.2) (.int .i64 ((rd_T68 l0 x8_2).f1.f0.f1))) (fun _ hk => hk.2) (.int .i64 ((rd_T68 l0 x8_2).f1.f0.f2))) (fun _ hk => hk.2) (.int .i64 ((rd_T68 l0 x8_2).f1.f1.f0))) (fun _ hk => hk.2) (.int .i64 ((rd_T68 l0 x8_2).f1.f1.f1))) (fun _ hk => hk.2) (.int .i64 ((rd_T68 l0 x8_2).f1.f1.f2))) (fun _ hk => hk.2) (.int .i64 ((rd_T68 l0 x8_2).f2))) (fun _ h_ => h_.1))) hb); replace BK169 := xC1 (kfC BK169.out) hb; replace BK171 := am (bb (g := gb171) (o := .cells #[.string ((rd_T68 l0 x8_2).f0), .int .i64 ((rd_T68 l0 x8_2).f1.f0.f0), .int .i64 ((rd_T68 l0 x8_2).f1.f0.f1), .int .i64 ((rd_T68 l0 x8_2).f1.f0.f2), .int .i64 ((rd_T68 l0 x8_2).f1.f1.f0), .int .i64 ((rd_T68 l0 x8_2).f1.f1.f1), .int .i64 ((rd_T68 l0 x8_2).f1.f1.f2), .int .i64 ((rd_T68 l0 x8_2).f2)] 68 (0, 0)) (by (with_reducible repeat first | apply bN | apply bd | apply ba); refine bp (cs := #[.string ((rd_T68 l0 x8_2).f0), .int .i64 ((rd_T68 l0 x8_2).f1.f0.f0), .int .i64 ((rd_T68 l0 x8_2).f1.f0.f1), .int .i64 ((rd_T68 l0 x8_2).f1.f0.f2), .int .i64 ((rd_T68 l0 x8_2).f1.f1.f0), .int .i64 ((rd_T68 l0 x8_2).f1.f1.f1), .int .i64 ((rd_T68 l0 x8_2).f1.f1.f2), .int .i64 0]) ?_ 7 _ rfl; (with_reducible repeat first | apply bN | apply bd | apply ba); refine bp (cs := #[.string ((rd_T68 l0 x8_2).f0), .int .i64 ((rd_T68 l0 x8_2).f1.f0.f0), .int .i64 ((rd_T68 l0 x8_2).f1.f0.f1), .int .i64 ((rd_T68 l0 x8_2).f1.f0.f2), .int .i64 ((rd_T68 l0 x8_2).f1.f1.f0), .int .i64 ((rd_T68 l0 x8_2).f1.f1.f1), .int .i64 0, .int .i64 0]) ?_ 6 _ rfl; (with_reducible repeat first | apply bN | apply bd | apply ba); refine bp (cs := #[.string ((rd_T68 l0 x8_2).f0), .int .i64 ((rd_T68 l0 x8_2).f1.f0.f0), .int .i64 ((rd_T68 l0 x8_2).f1.f0.f1), .int .i64 ((rd_T68 l0 x8_2).f1.f0.f2), .int .i64 ((rd_T68 l0 x8_2).f1.f1.f0), .int .i64 0, .int .i64 0, .int .i64 0]) ?_ 5 _ rfl; (with_reducible repeat first | apply bN | apply bd | apply ba); refine bp (cs := #[.string ((rd_T68 l0 x8_2).f0), .int .i64 ((rd_T68 l0 x8_2).f1.f0.f0), .int .i64 ((rd_T68 l0 x8_2).f1.f0.f1), .int .i64 ((rd_T68 l0 x8_2).f1.f0.f2), .int .i64 0, .int .i64 0, .int .i64 0, .int .i64 0]) ?_ 4 _ rfl; (with_reducible repeat first | apply bN | apply bd | apply ba); refine bp (cs := #[.string ((rd_T68 l0 x8_2).f0), .int .i64 ((rd_T68 l0 x8_2).f1.f0.f0), .int .i64 ((rd_T68 l0 x8_2).f1.f0.f1), .int .i64 0, .int .i64 0, .int .i64 0, .int .i64 0, .int .i64 0]) ?_ 3 _ rfl; (with_reducible repeat first | apply bN | apply bd | apply ba); refine bp (cs := #[.string ((rd_T68 l0 x8_2).f0), .int .i64 ((rd_T68 l0 x8_2).f1.f0.f0), .int .i64 0, .int .i64 0, .int .i64 0, .int .i64 0, .int .i64 0, .int .i64 0]) ?_ 2 _ rfl; (with_reducible repeat first | apply bN | apply bd | apply ba); refine bp (cs := #[.string ((rd_T68 l0 x8_2).f0), .int .i64 0, .int .i64 0, .int .i64 0, .int .i64 0, .int .i64 0, .int .i64 0, .int .i64 0]) ?_ 1 _ rfl; (with_reducible repeat first | apply bN | apply bd | apply ba); refine bp (cs := #[.string (⟨#[]⟩ : ByteArray), .int .i64 0, .int .i64 0, .int .i64 0, .int .i64 0, .int .i64 0, .int .i64 0, .int .i64 0]) ?_ 0 _ rfl; (with_reducible repeat first | apply bN | apply bd | apply ba); exact BK171.out) hb); replace HB := bS HB hb; (try clear hb); (try clear hb2); (try clear hk); (try clear hi)))
       go_meet
       case rel => exact ⟨_, (x5_2), H', ⟨by have := HK1.out; have := HK2.out; first | omega | exact Nat.le_refl _⟩, ⟨fR HO_5.out⟩, ⟨fb BK169.out⟩, ⟨fW HB.out⟩⟩
      case rest =>
       clear HC11
       try clear c1;try clear p1;try clear q1;try clear hx1;try clear c2;try clear p2;try clear c3;try clear c3b0;try clear c3b1;try clear c5;try clear c5b0;try clear c6;try clear c6b0;try clear p6;try clear c7;try clear c7b0;try clear c10;try clear c10b0;try clear c12;try clear c12b0;try clear c13;try clear c13b0;try clear c13b1;try clear c15;try clear p16;try clear q16;try clear hx16;try clear p17;try clear q17;try clear hx17;try clear c19;try clear c20;try clear c22;try clear c27;try clear c28;try clear hcz16_6;try clear hcz16_7;try clear hcz17_6;try clear hcz17_7;try clear hcz23_6;try clear hcz23_7;try clear hcz24_6;try clear hcz24_7;try clear hcz29_6;try clear hcz29_7;try clear hcz30_6;try clear hcz30_7;try clear hcz9_6;try clear hcz9_7;try clear hx168_0;try clear hx168_1;try clear hx168_2;try clear hx168_3;try clear hx168_4;try clear hx168_5;try clear hx168_6;try clear hx168_7;try clear hx170_0;try clear hx170_1;try clear hx170_2;try clear hx170_3;try clear hx170_4;try clear hx170_5;try clear hx170_6;try clear hx170_7;try clear p1;try clear p168;try clear p170;try clear p2;try clear p6;try clear q1;try clear q168;try clear q170
       obtain ⟨kq, x5_10, HA, HJ10, HO_5, BK169, HB⟩ := hcut
       cases kq with
       | zero => exact absurd HA.out (by simp [model_Clashes.j2])
       | succ kj10 =>
        have H := HA.out
        clear HA
        simp only [model_Clashes.j2] at H
        have H' := am H
        clear H
        go_wp2
        go_roundg kj10
        case measure => have := HK1.out; have := HK2.out; have := HJ10.out; omega
        case rel => exact ⟨(x5_10), (wrap64 (x8_2 + 1)), sqD, H', ⟨by have := HK1.out; have := HK2.out; have := HJ10.out; omega⟩, ⟨fR HO_5.out⟩, ⟨fb BK169.out⟩, ⟨fW HB.out⟩⟩
 ·rw [if_neg c3] at H
  have c3b0 : (t167 == 0) = false := beq_eq_false_iff_ne.mpr c3
  have c3b1 : (t167 != 0) = true := bne_iff_ne.mpr c3
  simp only [Option.some.injEq, Prod.mk.injEq] at H
  obtain ⟨rfl, rfl⟩ := H
  go_enter Try.func27, Try.ntmps27
  go_wp2_with (first | ((with_reducible refine gate_callee (f := 15) rfl ?_); refine goesL_ (some 11) rfl rfl Try.func15 (by kernel_rfl) rfl #[.slice A0 l0.length c0] rfl (by (try simp only [pml]); first | done | rfl | (simp only [pdt]; rfl)) ?_; (with_reducible refine (model_Check.calls k _ _ l0 t167 _ ?side1 ?side2 A2.out).mono ?_); (case side1 => repeat (first | exact HR0.out | (with_reducible refine Kd.C_alloc ?_ _) | (with_reducible refine Kd.C_drewN ?_ _) | (with_reducible refine Kd.C_drew ?_))); (case side2 => exact HC0.out); rintro e w32 ⟨rfl, hb⟩; refine ⟨_, rfl, ?_⟩; replace HB := bS HB hb; (try clear hb); (try clear hb2); (try clear hk); (try clear hi)))
  go_ret2
  exact ⟨_, sqE, by first | exact Kd.R_nil _ _ _ _ _ | exact Kd.N_nil _ _ _ _ _ | exact Kd.V_nil _ _ _ _ _ | exact Kd.Q_nil _ _ _ _ _ | exact Kd.S_nil _ _ _ _ _, fW HB.out⟩

end Go.Proofs.Ytcofgnbopodahaa.QA
