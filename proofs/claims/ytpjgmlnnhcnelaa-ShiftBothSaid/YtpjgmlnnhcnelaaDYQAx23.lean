import Derived.Test.YtpjgmlnnhcnelaaDYQAx0
import Derived.Test.YtpjgmlnnhcnelaaDYQAx3
import Derived.Test.YtpjgmlnnhcnelaaDYQAx22
import Derived.Test.YtpjgmlnnhcnelaaDYEvKit
import Derived.Outline
import Derived.WalkSpells
import Derived.LoopN
import Derived.RegionTactic
import Derived.StillTailTactics
import Derived.BigRegion
import Derived.Carry
namespace Go.Proofs.Ytpjgmlnnhcnelaa.QA
open Go.RowKit Go.Proofs.YtpjgmlnnhcnelaaW.PrintWords Go.Proofs.YtpjgmlnnhcnelaaW.PrintLast Go.Proofs.YtpjgmlnnhcnelaaW.PrintMore Go.Proofs.Ytpjgmlnnhcnelaa.EvKit
open Go.Proofs.YtpjgmlnnhcnelaaW.PrintWords renaming blk_alloc → ba, below_alloc → wa, blk_frozen → bf, blk_cell → bc
open Aside0 renaming mk → am
attribute [local go_sem] max2_int min2_int max_two min_two Oper.semAt_some
set_option linter.unusedVariables false
set_option linter.unusedSimpArgs false
mutual
def shift_Common.l0 : Nat → List (S31) → Int → Int → List (S54) → List Int → List (S54) → List Int → Option ((List (S54)) × List Int × Int)
 | 0, _, _, _, _, _, _, _ => none
 | k + 1, x18, x19, x20, x433000, x433001, x434000, x434001 => if x20 < x19 then (if 0 ≤ x20 then (if x20 < (x18.length : Int) then ((shift_Check.f k ((rd_T31 x18 x20).f0) ((rd_T31 x18 x20).f1)).bind fun t440 => (if t440 = 0 then (shift_Common.l0 k x18 x19 (wrap64 (x20 + 1)) x433000 x433001 x434000 x434001) else (some (([] : List (S54)), ([] : List Int), t440)))) else (none)) else (none)) else ((slices_Concat_int_int.f (([x433001, x434001] : List (List Int)))).bind fun t444 => ((slices_Sort_int_int.f t444).bind fun t448 => ((slices_Compact_int_int.f t448).bind fun t449 => (shift_Common.l1 k x433000 (x433000.length : Int) 0 x434000 x434001 ([] : List (S54)) t449))))
def shift_Common.l1 : Nat → List (S54) → Int → Int → List (S54) → List Int → List (S54) → List Int → Option ((List (S54)) × List Int × Int)
 | 0, _, _, _, _, _, _, _ => none
 | k + 1, x46, x47, x48, x434000, x434001, x448000, x448001 => if x48 < x47 then (if 0 ≤ x48 then (if x48 < (x46.length : Int) then (shift_Common.l2 k x46 x47 x48 x434000 (x434000.length : Int) 0 x434000 x434001 x448000 x448001 ((rd_T54 x46 x48).f0) ((rd_T54 x46 x48).f1) ((rd_T54 x46 x48).f2)) else (none)) else (none)) else (if (x448000.length : Int) > 64 then (some (([] : List (S54)), ([] : List Int), 7)) else (if (x448001.length : Int) > 64 then (some (([] : List (S54)), ([] : List Int), 7)) else (some (x448000, x448001, 0))))
def shift_Common.l2 : Nat → List (S54) → Int → Int → List (S54) → Int → Int → List (S54) → List Int → List (S54) → List Int → Int → Int → Int → Option ((List (S54)) × List Int × Int)
 | 0, _, _, _, _, _, _, _, _, _, _, _, _, _ => none
 | k + 1, x46, x47, x48, x53, x54, x55, x434000, x434001, x448000, x448001, x454000, x454001, x454002 => if x55 < x54 then (if 0 ≤ x55 then (if x55 < (x53.length : Int) then (if x454000 = ((rd_T54 x53 x55).f0) then (shift_Common.j3 k x46 x47 x48 x53 x54 x55 (decide ((mx x454001 ((rd_T54 x53 x55).f1)) ≥ (mn x454002 ((rd_T54 x53 x55).f2)))) x434000 x434001 x448000 x448001 x454000 x454001 x454002 x454000 (mx x454001 ((rd_T54 x53 x55).f1)) (mn x454002 ((rd_T54 x53 x55).f2))) else (shift_Common.j3 k x46 x47 x48 x53 x54 x55 true x434000 x434001 x448000 x448001 x454000 x454001 x454002 x454000 (mx x454001 ((rd_T54 x53 x55).f1)) (mn x454002 ((rd_T54 x53 x55).f2)))) else (none)) else (none)) else (shift_Common.l1 k x46 x47 (wrap64 (x48 + 1)) x434000 x434001 x448000 x448001)
def shift_Common.j3 : Nat → List (S54) → Int → Int → List (S54) → Int → Int → Bool → List (S54) → List Int → List (S54) → List Int → Int → Int → Int → Int → Int → Int → Option ((List (S54)) × List Int × Int)
 | 0, _, _, _, _, _, _, _, _, _, _, _, _, _, _, _, _, _ => none
 | k + 1, x46, x47, x48, x53, x54, x55, x83, x434000, x434001, x448000, x448001, x454000, x454001, x454002, x457000, x457001, x457002 => if x83 = true then (shift_Common.l2 k x46 x47 x48 x53 x54 (wrap64 (x55 + 1)) x434000 x434001 x448000 x448001 x454000 x454001 x454002) else (if (x448000.length : Int) > 0 then (if 0 ≤ (wrap64 ((x448000.length : Int) - 1)) then (if (wrap64 ((x448000.length : Int) - 1)) < (x448000.length : Int) then (if ((rd_T54 x448000 (wrap64 ((x448000.length : Int) - 1))).f0) = x457000 then (if ((rd_T54 x448000 (wrap64 ((x448000.length : Int) - 1))).f2) = x457001 then (shift_Common.l2 k x46 x47 x48 x53 x54 (wrap64 (x55 + 1)) x434000 x434001 (x448000.set ((wrap64 ((x448000.length : Int) - 1)) : Int).toNat (⟨(rd_T54 x448000 (wrap64 ((x448000.length : Int) - 1))).f0, (rd_T54 x448000 (wrap64 ((x448000.length : Int) - 1))).f1, x457002⟩ : S54)) x448001 x454000 x454001 x454002) else (if x448000.length < 5864062014805 then (shift_Common.l2 k x46 x47 x48 x53 x54 (wrap64 (x55 + 1)) x434000 x434001 (x448000 ++ [(⟨x457000, x457001, x457002⟩ : S54)]) x448001 x454000 x454001 x454002) else (none))) else (if x448000.length < 5864062014805 then (shift_Common.l2 k x46 x47 x48 x53 x54 (wrap64 (x55 + 1)) x434000 x434001 (x448000 ++ [(⟨x457000, x457001, x457002⟩ : S54)]) x448001 x454000 x454001 x454002) else (none))) else (none)) else (none)) else (if x448000.length < 5864062014805 then (shift_Common.l2 k x46 x47 x48 x53 x54 (wrap64 (x55 + 1)) x434000 x434001 (x448000 ++ [(⟨x457000, x457001, x457002⟩ : S54)]) x448001 x454000 x454001 x454002) else (none)))
end
def shift_Common.f (k : Nat) (l0_0 : List (S54)) (l0_1 : List Int) (l1_0 : List (S54)) (l1_1 : List Int) : Option ((List (S54)) × List Int × Int) := (some (([(⟨l0_0, l0_1⟩ : S31), (⟨l1_0, l1_1⟩ : S31)] : List (S31)) : List (S31))).bind fun y435 => (shift_Common.l0 k y435 (y435.length : Int) 0 l0_0 l0_1 l1_0 l1_1)
theorem C_two {w : World} {g : Nat} {A B : Option Addr} {ca cb : Nat} {fa fb : List Int} (hg : w.heap[g]? = some (.cells #[.slice A fa.length ca, .slice B fb.length cb] 23 (0, 0))) (ha : Kd.C (Kd.int .i64) w A fa.length fa) (hca : fa.length ≤ ca) (hb : Kd.C (Kd.int .i64) w B fb.length fb) (hcb : fb.length ≤ cb) :
  Kd.C (Kd.slice 3 (Kd.int .i64)) w (some ⟨g, 0, none⟩) 2 [fa, fb] := by
 have c0 : w.cell? ⟨g, 0, none⟩ = some (.slice A fa.length ca) := (bc hg 0).trans rfl
 have c1 : w.cell? ⟨g, 1, none⟩ = some (.slice B fb.length cb) := (bc hg 1).trans rfl
 refine ⟨rfl, by omega, fun _ => ⟨_, rfl, fun j p hj => ?_⟩⟩
 match j with
 | 0 =>
  cases hj
  refine ⟨[_], rfl, ⟨A, ca, rfl, hca, ha⟩, fun i u hi => ?_⟩
  match i with
  | 0 => cases hi; exact c0
  | i + 1 => simp at hi
 | 1 =>
  cases hj
  refine ⟨[_], rfl, ⟨B, cb, rfl, hcb, hb⟩, fun i u hi => ?_⟩
  match i with
  | 0 => cases hi; exact c1
  | i + 1 => simp at hi
 | j + 2 => simp at hj
theorem grown_keep {ws w9 : World} {nq g : Nat} {row : Option Nat} {o : Obj} (hg : (ws.drewN nq).grownBy w9 row) (h : ws.heap[g]? = some o) (hne : some g ≠ row) : w9.heap[g]? = some o := (hg.block g (blk_lt h) hne).trans h
theorem new_ne {ws : World} {nq g : Nat} {v v9 : Value} {o : Obj} (hat : v9.ownBlock = v.ownBlock ∨ ∃ b, v9.ownBlock = some b ∧ (ws.drewN nq).heap.size ≤ b) (h : ws.heap[g]? = some o) (hne : some g ≠ v.ownBlock) : some g ≠ v9.ownBlock := by
 rcases hat with h1 | ⟨b, h1, h2⟩
 ·rw [h1]; exact hne
 rw [h1]; intro e; injection e with e
 have h3 := blk_lt h
 have h4 : (ws.drewN nq).heap.size = ws.heap.size := rfl
 omega
theorem slice_one {α : Type} {d : Kd α} {e base : Nat} {ok : Nat → Prop} {w : World} {v : Value} {o : List α} {x : α} (h : d.R e w base ok v (o ++ [x])) : ∃ A c, v = .slice A (o.length + 1) c := by
 obtain ⟨A, c, e⟩ := Kd.R_slice h
 exact ⟨A, c, by rw [e, List.length_append]; rfl⟩
theorem st2_heap (w : World) (a b : Value) {g k : Nat} (h : k ≠ g) : ((w.setCell ⟨g, 0, none⟩ a).setCell ⟨g, 1, none⟩ b).heap[k]? = w.heap[k]? := by
 rw [Below.heap_setCell _ _ _ k h, Below.heap_setCell _ _ _ k h]
theorem if_some {c : Prop} [Decidable c] {α : Type} {x : Option α} {r : α} (h : (if c then x else none) = some r) : c ∧ x = some r := by
 by_cases hc : c
 ·exact ⟨hc, by rw [if_pos hc] at h; exact h⟩
 rw [if_neg hc] at h; cases h
def CStart (k : Nat) (a : List S54) (fa : List Int) (b : List S54) (fb : List Int) (r : List S54 × List Int × Int) : Prop :=
 ∃ e1 k1, shift_Check.f k1 a fa = some e1 ∧ ((e1 ≠ 0 ∧ r = ([], [], e1)) ∨ (e1 = 0 ∧ ∃ e2 k2, shift_Check.f k2 b fb = some e2 ∧ ((e2 ≠ 0 ∧ r = ([], [], e2)) ∨ (e2 = 0 ∧ ∃ c s u k3, k3 ≤ k ∧ slices_Concat_int_int.f [fa, fb] = some c ∧ slices_Sort_int_int.f c = some s ∧ slices_Compact_int_int.f s = some u ∧ shift_Common.l1 k3 a (a.length : Int) 0 b fb [] u = some r))))
theorem common_start {k : Nat} {a : List S54} {fa : List Int} {b : List S54} {fb : List Int} {r : List S54 × List Int × Int} (h : shift_Common.f k a fa b fb = some r) : CStart k a fa b fb r := by
 unfold shift_Common.f at h
 rw [Option.bind_some] at h
 have e0 : (([⟨a, fa⟩, ⟨b, fb⟩] : List S31).length : Int) = 2 := rfl
 rw [e0] at h
 have n1 : wrap64 (0 + 1) = 1 := w64 (by omega) (by omega)
 have n2 : wrap64 (1 + 1) = 2 := w64 (by omega) (by omega)
 have r0 : rd_T31 [⟨a, fa⟩, ⟨b, fb⟩] 0 = ⟨a, fa⟩ := rfl
 have r1 : rd_T31 [⟨a, fa⟩, ⟨b, fb⟩] 1 = ⟨b, fb⟩ := rfl
 cases k with
 | zero => simp [shift_Common.l0] at h
 | succ k1 =>
  simp only [shift_Common.l0] at h
  rw [if_pos (by omega), if_pos (by omega), if_pos (by rw [e0]; omega), r0, n1] at h
  obtain ⟨e1, h1, h⟩ := Option.bind_eq_some_iff.1 h
  refine ⟨e1, k1, h1, ?_⟩
  by_cases he : e1 = 0
  rotate_left
  ·rw [if_neg he] at h
   exact .inl ⟨he, (Option.some.inj h).symm⟩
  rw [if_pos he] at h
  refine .inr ⟨he, ?_⟩
  cases k1 with
  | zero => simp [shift_Common.l0] at h
  | succ k2 =>
   simp only [shift_Common.l0] at h
   rw [if_pos (by omega), if_pos (by omega), if_pos (by rw [e0]; omega), r1, n2] at h
   obtain ⟨e2, h2, h⟩ := Option.bind_eq_some_iff.1 h
   refine ⟨e2, k2, h2, ?_⟩
   by_cases he2 : e2 = 0
   ·rw [if_pos he2] at h
    refine .inr ⟨he2, ?_⟩
    cases k2 with
    | zero => simp [shift_Common.l0] at h
    | succ k3 =>
     simp only [shift_Common.l0] at h
     rw [if_neg (by omega)] at h
     obtain ⟨c, h3, h⟩ := Option.bind_eq_some_iff.1 h
     obtain ⟨s, h4, h⟩ := Option.bind_eq_some_iff.1 h
     obtain ⟨u, h5, h⟩ := Option.bind_eq_some_iff.1 h
     exact ⟨c, s, u, k3, by omega, h3, h4, h5, h⟩
   rw [if_neg he2] at h
   exact .inl ⟨he2, (Option.some.inj h).symm⟩
def CPost (w : World) (e : Ending) (w' : World) (r : List S54 × List Int × Int) : Prop :=
 ∃ v0_ v1_ : Value, e = .returned (.tuple #[.agg #[v0_, v1_], .int .i64 r.2.2]) ∧ Kd.R k54 54 w' w.heap.size (fun _ => True) v0_ r.1 ∧ Kd.R (Kd.int .i64) 3 w' w.heap.size (fun _ => True) v1_ r.2.1 ∧ Below w.heap.size w w'
theorem CPost.zero {w w' : World} {z : Int} (hb : Below w.heap.size w w') : CPost w (.returned (.tuple #[.agg #[.slice none 0 0, .slice none 0 0], .int .i64 z])) w' ([], [], z) :=
 ⟨_, _, rfl, Kd.R_nil _ _ _ _ _, Kd.R_nil _ _ _ _ _, hb⟩
set_option maxHeartbeats 8000000 in
set_option maxRecDepth 100000 in
theorem common_walk (k : Nat) (A0_0 : Option Addr) (c0_0 : Nat) (l0_0 : List (S54)) (A0_1 : Option Addr) (c0_1 : Nat) (l0_1 : List Int) (A1_0 : Option Addr) (c1_0 : Nat) (l1_0 : List (S54)) (A1_1 : Option Addr) (c1_1 : Nat) (l1_1 : List Int) (r : List S54 × List Int × Int) (w : World) (hr0_0 : Kd.C k54 w A0_0 l0_0.length l0_0) (hc0_0 : l0_0.length ≤ c0_0) (hr0_1 : Kd.C (Kd.int .i64) w A0_1 l0_1.length l0_1) (hc0_1 : l0_1.length ≤ c0_1) (hr1_0 : Kd.C k54 w A1_0 l1_0.length l1_0) (hc1_0 : l1_0.length ≤ c1_0) (hr1_1 : Kd.C (Kd.int .i64) w A1_1 l1_1.length l1_1) (hc1_1 : l1_1.length ≤ c1_1) (h : shift_Common.f k l0_0 l0_1 l1_0 l1_1 = some r) :
  Calls Try.prog 32 #[.agg #[.slice A0_0 l0_0.length c0_0, .slice A0_1 l0_1.length c0_1], .agg #[.slice A1_0 l1_0.length c1_0, .slice A1_1 l1_1.length c1_1]] w fun e w' => CPost w e w' r := by
 have hu31 := Try.underlying31
 have hu54 := Try.underlying54
 have HR0 := am hr0_0
 have HR1 := am hr0_1
 have HR2 := am hr1_0
 have HR3 := am hr1_1
 have H' := am (common_start h)
 clear hr0_0 hr0_1 hr1_0 hr1_1 h
 go_enter Try.func32, Try.ntmps32
 go_wp2_with fail
 obtain ⟨W3, hW3⟩ : ∃ W3, W3 = (((w.alloc (.cells #[.slice A0_0 l0_0.length c0_0, .slice A0_1 l0_1.length c0_1] 31)).alloc (.cells #[.slice A1_0 l1_0.length c1_0, .slice A1_1 l1_1.length c1_1] 31)).alloc (.cells #[.slice none 0 0, .slice none 0 0] 31)).alloc (.cells #[.slice A0_0 l0_0.length c0_0, .slice A0_1 l0_1.length c0_1, .slice A1_0 l1_0.length c1_0, .slice A1_1 l1_1.length c1_1] 31) := ⟨_, rfl⟩
 have b1 : W3.heap[w.heap.size]? = some (.cells #[.slice A0_0 l0_0.length c0_0, .slice A0_1 l0_1.length c0_1] 31 (0, 0)) := by rw [hW3]; exact ba (ba (ba (blk_new w _) _) _) _
 have b2 : W3.heap[w.heap.size + 1]? = some (.cells #[.slice A1_0 l1_0.length c1_0, .slice A1_1 l1_1.length c1_1] 31 (0, 0)) := by
  rw [hW3]; refine ba (ba ?_ _) _; have := blk_new (w.alloc (.cells #[.slice A0_0 l0_0.length c0_0, .slice A0_1 l0_1.length c0_1] 31)) (.cells #[.slice A1_0 l1_0.length c1_0, .slice A1_1 l1_1.length c1_1] 31); rw [World.size_alloc] at this; exact this
 have b3 : W3.heap[w.heap.size + 1 + 1]? = some (.cells #[.slice none 0 0, .slice none 0 0] 31 (0, 0)) := by
  rw [hW3]; refine ba ?_ _; have := blk_new ((w.alloc (.cells #[.slice A0_0 l0_0.length c0_0, .slice A0_1 l0_1.length c0_1] 31)).alloc (.cells #[.slice A1_0 l1_0.length c1_0, .slice A1_1 l1_1.length c1_1] 31)) (.cells #[.slice none 0 0, .slice none 0 0] 31); rw [World.size_alloc, World.size_alloc] at this; exact this
 have b4 : W3.heap[w.heap.size + 1 + 1 + 1]? = some (.cells #[.slice A0_0 l0_0.length c0_0, .slice A0_1 l0_1.length c0_1, .slice A1_0 l1_0.length c1_0, .slice A1_1 l1_1.length c1_1] 31 (0, 0)) := by
  rw [hW3]; have := blk_new (((w.alloc (.cells #[.slice A0_0 l0_0.length c0_0, .slice A0_1 l0_1.length c0_1] 31)).alloc (.cells #[.slice A1_0 l1_0.length c1_0, .slice A1_1 l1_1.length c1_1] 31)).alloc (.cells #[.slice none 0 0, .slice none 0 0] 31)) (.cells #[.slice A0_0 l0_0.length c0_0, .slice A0_1 l0_1.length c0_1, .slice A1_0 l1_0.length c1_0, .slice A1_1 l1_1.length c1_1] 31); rw [World.size_alloc, World.size_alloc, World.size_alloc] at this; exact this
 have hb3 : Below w.heap.size w W3 := by rw [hW3]; exact wa (wa (wa (wa (Below.refl _ _) _) _) _) _
 have hz : w.heap.size + 1 + 1 + 1 < W3.heap.size := by rw [hW3]; simp
 have HB3 := am hb3
 have HBA := am b1
 have HBB := am b2
 have HBO := am b3
 have HBL := am b4
 have HZ := am hz
 have HR0' := am (Kd.C_below HR0.out hb3)
 have HR1' := am (Kd.C_below HR1.out hb3)
 have HR2' := am (Kd.C_below HR2.out hb3)
 have HR3' := am (Kd.C_below HR3.out hb3)
 have HB := am (Below.refl W3.heap.size W3)
 obtain ⟨e1, k1, he1, hr1⟩ := H'.out
 have HE1 := am he1
 have H1 := am hr1
 rw [← hW3]
 clear HR0 HR1 HR2 HR3 H' hb3 b1 b2 b3 b4 hz hW3 he1 hr1
 go_loopw [20] (fun i wr => ∃ n : Nat, i = .int .i64 n ∧ n ≤ 2 ∧ Aside0 (Below W3.heap.size W3 wr) ∧ Aside0 (1 ≤ n → e1 = 0) ∧ Aside0 (2 ≤ n → ∃ c s u k3, slices_Concat_int_int.f [l0_1, l1_1] = some c ∧ slices_Sort_int_int.f c = some s ∧ slices_Compact_int_int.f s = some u ∧ shift_Common.l1 k3 l0_0 (l0_0.length : Int) 0 l1_0 l1_1 [] u = some r))
   (fun i _ => 2 - (intOf i).toNat)
 case atStart => exact ⟨0, rfl, by omega, HB, ⟨fun h => absurd h (by omega)⟩, ⟨fun h => absurd h (by omega)⟩⟩
 case round =>
  clear HB
  obtain ⟨n, rfl, hn, HB, G1, G2⟩ := hrel
  have LB := am ((HB.out.block _ HZ.out).trans HBL.out)
  have hl0 := (bc LB.out 0).trans rfl
  have hl1 := (bc LB.out 1).trans rfl
  have hl2 := (bc LB.out 2).trans rfl
  have hl3 := (bc LB.out 3).trans rfl
  match n, hn with
  | 0, _ =>
   by_cases h0 : e1 = 0
   ·subst h0
    go_wp2_with (go_at_call 29; refine (shift_Check.calls k1 _ c0_0 l0_0 _ c0_1 l0_1 _ _ ?q0 hc0_0 ?q2 hc0_1 HE1.out).mono ?_; (case q0 => exact Kd.C_below HR0'.out (wa HB.out _)); (case q2 => exact Kd.C_below HR1'.out (wa HB.out _)); rintro e' w9 ⟨rfl, hb⟩; have HB9 := am ((wa HB.out _).trans (hb.mono (by simp; have := HB.out.size; omega))); clear hb HB hl0 hl1 hl2 hl3 LB)
    go_roundw
    case rel => exact ⟨1, rfl, by omega, HB9, ⟨fun _ => by first | rfl | trivial⟩, ⟨fun h => absurd h (by omega)⟩⟩
    case measure => simp [intOf]
   obtain rfl : r = ([], [], e1) := by rcases H1.out with h | h; exact h.2; exact absurd h.1 h0
   have e2 : (e1 == 0) = false := beq_eq_false_iff_ne.2 h0
   have e3 : (e1 != 0) = true := by simpa using h0
   go_wp2_with (go_at_call 29; refine (shift_Check.calls k1 _ c0_0 l0_0 _ c0_1 l0_1 _ _ ?q0 hc0_0 ?q2 hc0_1 HE1.out).mono ?_; (case q0 => exact Kd.C_below HR0'.out (wa HB.out _)); (case q2 => exact Kd.C_below HR1'.out (wa HB.out _)); rintro e' w9 ⟨rfl, hb⟩; have HB9 := am ((wa HB.out _).trans (hb.mono (by simp; have := HB.out.size; omega))); clear hb HB hl0 hl1 hl2 hl3 LB; have kb := (HB9.out.block _ (show w.heap.size + 1 + 1 < W3.heap.size by have := HZ.out; omega)).trans HBO.out; have k0 := (bc kb 0).trans rfl; have k1 := (bc kb 1).trans rfl; have kf0 := bf kb 0; have kf1 := bf kb 1; clear kb)
   exact bodyPost_ret (v := .tuple #[.agg #[.slice none 0 0, .slice none 0 0], .int .i64 e1]) (by simp [results, Try.results32, go_sem, k0, k1]) rfl (CPost.zero (((HB3.out.trans (HB9.out.mono (by have := HZ.out; omega))).setCell (p := ⟨w.heap.size + 1 + 1, 0, none⟩) (by show w.heap.size ≤ w.heap.size + 1 + 1; omega) _).setCell (p := ⟨w.heap.size + 1 + 1, 1, none⟩) (by show w.heap.size ≤ w.heap.size + 1 + 1; omega) _))
  | 1, _ =>
   obtain rfl := G1.out (Nat.le_refl _)
   obtain ⟨e2, k2, he2, hr2⟩ : ∃ e2 k2, shift_Check.f k2 l1_0 l1_1 = some e2 ∧ ((e2 ≠ 0 ∧ r = ([], [], e2)) ∨ (e2 = 0 ∧ ∃ c s u k3, k3 ≤ k ∧ slices_Concat_int_int.f [l0_1, l1_1] = some c ∧ slices_Sort_int_int.f c = some s ∧ slices_Compact_int_int.f s = some u ∧ shift_Common.l1 k3 l0_0 (l0_0.length : Int) 0 l1_0 l1_1 [] u = some r)) := by
    rcases H1.out with h | h
    ·exact absurd rfl h.1
    exact h.2
   have HE2 := am he2
   by_cases h0 : e2 = 0
   ·subst h0
    obtain ⟨c, s, u, k3, _, g1, g2, g3, g4⟩ := (show ∃ c s u k3, k3 ≤ k ∧ slices_Concat_int_int.f [l0_1, l1_1] = some c ∧ slices_Sort_int_int.f c = some s ∧ slices_Compact_int_int.f s = some u ∧ shift_Common.l1 k3 l0_0 (l0_0.length : Int) 0 l1_0 l1_1 [] u = some r from by rcases hr2 with h | h; exact absurd rfl h.1; exact h.2)
    have GG := am (show ∃ c s u k3, slices_Concat_int_int.f [l0_1, l1_1] = some c ∧ slices_Sort_int_int.f c = some s ∧ slices_Compact_int_int.f s = some u ∧ shift_Common.l1 k3 l0_0 (l0_0.length : Int) 0 l1_0 l1_1 [] u = some r from ⟨c, s, u, k3, g1, g2, g3, g4⟩)
    clear hr2 he2 g1 g2 g3 g4
    go_wp2_with (go_at_call 29; refine (shift_Check.calls k2 _ c1_0 l1_0 _ c1_1 l1_1 _ _ ?q0 hc1_0 ?q2 hc1_1 HE2.out).mono ?_; (case q0 => exact Kd.C_below HR2'.out (wa HB.out _)); (case q2 => exact Kd.C_below HR3'.out (wa HB.out _)); rintro e' w9 ⟨rfl, hb⟩; have HB9 := am ((wa HB.out _).trans (hb.mono (by simp; have := HB.out.size; omega))); clear hb HB hl0 hl1 hl2 hl3 LB)
    go_roundw
    case rel => exact ⟨2, rfl, by omega, HB9, ⟨fun _ => by first | rfl | trivial⟩, ⟨fun _ => GG.out⟩⟩
    case measure => simp [intOf]
   obtain rfl : r = ([], [], e2) := by rcases hr2 with h | h; exact h.2; exact absurd h.1 h0
   have e2' : (e2 == 0) = false := beq_eq_false_iff_ne.2 h0
   have e3 : (e2 != 0) = true := by simpa using h0
   clear hr2 he2
   go_wp2_with (go_at_call 29; refine (shift_Check.calls k2 _ c1_0 l1_0 _ c1_1 l1_1 _ _ ?q0 hc1_0 ?q2 hc1_1 HE2.out).mono ?_; (case q0 => exact Kd.C_below HR2'.out (wa HB.out _)); (case q2 => exact Kd.C_below HR3'.out (wa HB.out _)); rintro e' w9 ⟨rfl, hb⟩; have HB9 := am ((wa HB.out _).trans (hb.mono (by simp; have := HB.out.size; omega))); clear hb HB hl0 hl1 hl2 hl3 LB; have kb := (HB9.out.block _ (show w.heap.size + 1 + 1 < W3.heap.size by have := HZ.out; omega)).trans HBO.out; have k0 := (bc kb 0).trans rfl; have k1 := (bc kb 1).trans rfl; have kf0 := bf kb 0; have kf1 := bf kb 1; clear kb)
   exact bodyPost_ret (v := .tuple #[.agg #[.slice none 0 0, .slice none 0 0], .int .i64 e2]) (by simp [results, Try.results32, go_sem, k0, k1]) rfl (CPost.zero (((HB3.out.trans (HB9.out.mono (by have := HZ.out; omega))).setCell (p := ⟨w.heap.size + 1 + 1, 0, none⟩) (by show w.heap.size ≤ w.heap.size + 1 + 1; omega) _).setCell (p := ⟨w.heap.size + 1 + 1, 1, none⟩) (by show w.heap.size ≤ w.heap.size + 1 + 1; omega) _))
  | 2, _ =>
   obtain ⟨cc, ss, u, k3, g1, g2, g3, g4⟩ := G2.out (Nat.le_refl _)
   have GC := am g1
   have GS := am g2
   have GU := am g3
   have H' := am g4
   have kA := (HB.out.block _ (show w.heap.size < W3.heap.size by have := HZ.out; omega)).trans HBA.out
   have kB := (HB.out.block _ (show w.heap.size + 1 < W3.heap.size by have := HZ.out; omega)).trans HBB.out
   have a0 := (bc kA 0).trans rfl
   have a1 := (bc kA 1).trans rfl
   have b0 := (bc kB 0).trans rfl
   have b1 := (bc kB 1).trans rfl
   clear g1 g2 g3 g4 kA kB G1 G2 H1 HE1 hl0 hl1 hl2 hl3 LB
   go_wp2_with (first
    | (go_at_call 46; refine (slices_Concat_int_int.calls _ 2 [l0_1, l1_1] cc _ (C_two (blk_new _ _) (Kd.C_below HR1'.out (wa HB.out _)) hc0_1 (Kd.C_below HR3'.out (wa HB.out _)) hc1_1) (Nat.le_refl _) GC.out).mono ?_; rintro e w5 ⟨v5, rfl, hR, hb⟩; have HB5 := am ((wa HB.out _).trans (hb.mono (by simp; have := HB.out.size; omega))); have HR5 := am (Kd.R_lower (base' := W3.heap.size) hR (by simp; have := HB.out.size; omega)); clear hR hb HB a0 a1 b0 b1; obtain ⟨A5, c5, rfl⟩ := Kd.R_slice HR5.out)
    | (go_at_call 47; have KB5 := blk_new w5 (.cells #[.slice none 0 0, .slice A5 cc.length c5] 31); have HB5' := wa HB5.out (.cells #[.slice none 0 0, .slice A5 cc.length c5] 31); have NE5 := am (show ¬ (some w5.heap.size = (.slice A5 cc.length c5 : Value).ownBlock) from fun e => by have := Kd.R_lt HR5.out _ e.symm; omega); have GE5 := am HB5.out.size; have HR5' := Kd.R_alloc HR5.out (.cells #[.slice none 0 0, .slice A5 cc.length c5] 31); obtain ⟨gO, hgO⟩ : ∃ g, g = w5.heap.size := ⟨_, rfl⟩; rw [← hgO] at KB5 NE5 GE5; obtain ⟨wA, hwA⟩ : ∃ wA, wA = w5.alloc (.cells #[.slice none 0 0, .slice A5 cc.length c5] 31) := ⟨_, rfl⟩; rw [← hwA] at KB5 HB5' HR5'; rw [← hwA, ← hgO]; clear hwA hgO HB5 HR5; refine (slices_Sort_int_int.calls (fun k_ => some k_ = (.slice A5 cc.length c5 : Value).ownBlock) _ cc ss W3 _ HB5' (Kd.R_mono (Kd.R_tight rfl HR5') (fun k_ hk => hk)) GS.out).mono ?_; rintro e w6 ⟨rfl, hR, hb, hk⟩; have KB6 := am (blk_kept KB5 hk NE5.out); have HR6 := am hR; have HB6 := am hb; have t1 := (bc KB6.out 1).trans rfl; clear hR hb hk KB5 HB5' HR5')
    | (go_at_call 48; refine (slices_Compact_int_int.calls (fun k_ => some k_ = (.slice A5 cc.length c5 : Value).ownBlock) _ ss u W3 _ HB6.out (Kd.R_mono (Kd.R_tight rfl HR6.out) (fun k_ hk => hk)) GU.out).mono ?_; rintro e w7 ⟨v7, rfl, hR, hb, hk⟩; have KB7 := am (blk_kept KB6.out hk NE5.out); have HR7 := am hR; have HB7 := am hb; clear hR hb hk KB6 HR6 HB6 t1; have t1 := (bc KB7.out 1).trans rfl; have tf1 := bf KB7.out 1; have TT := am (fun x => bc (blk_set KB7.out 1 x)); obtain ⟨A7, c7, rfl⟩ := Kd.R_slice HR7.out; have a0 := (bc (blk_far ((HB7.out.block _ (show w.heap.size < W3.heap.size by have := HZ.out; omega)).trans HBA.out) (p := ⟨gO, 1, none⟩) (show w.heap.size ≠ gO by have := HZ.out; have := GE5.out; omega) (.slice A7 u.length c7)) 0).trans rfl))
   have KB8 := am (blk_set KB7.out 1 (.slice A7 u.length c7))
   have HB8 := am (HB7.out.setCell (p := ⟨gO, 1, none⟩) GE5.out (.slice A7 u.length c7))
   have HR8 := am (Kd.R_mono (Kd.R_set HR7.out KB7.out (by decide) 1 (.slice A7 u.length c7)) (fun _ _ => trivial))
   obtain ⟨w8, hw8⟩ : ∃ w8, w8 = w7.setCell ⟨gO, 1, none⟩ (.slice A7 u.length c7) := ⟨_, rfl⟩
   rw [← hw8] at KB8 HB8 HR8
   rw [← hw8]
   clear hw8 a0 t1 tf1 TT KB7 HB7 HR7
   go_loopg [48] k3 (fun kq v48 wr => ∃ (o : List S54) (v0 : Value) (i : Int), v48 = .int .i64 i ∧ Aside0 (shift_Common.l1 kq l0_0 (l0_0.length : Int) i l1_0 l1_1 o u = some r) ∧ Aside0 (kq ≤ k3) ∧ Aside0 (wr.heap[gO]? = some (.cells #[v0, (.slice A7 u.length c7)] 31 (0, 0))) ∧ Aside0 (Kd.R k54 54 wr W3.heap.size (fun _ => True) v0 o) ∧ Aside0 (Kd.R (Kd.int .i64) 3 wr W3.heap.size (fun _ => True) (.slice A7 u.length c7) u) ∧ Aside0 (Below W3.heap.size W3 wr))
   case atStart => exact ⟨[], .slice none 0 0, 0, rfl, H', ⟨Nat.le_refl _⟩, KB8, ⟨Kd.R_nil _ _ _ _ _⟩, HR8, HB8⟩
   case round =>
    clear H' KB8 HB8 HR8
    obtain ⟨o, v0, i, rfl, HA, HK1, KB, HO, HU, HB⟩ := hrel
    cases gk with
    | zero => exact absurd HA.out (by simp [shift_Common.l1])
    | succ k4 =>
     have H := HA.out
     clear HA
     simp only [shift_Common.l1] at H
     by_cases c1 : i < (l0_0.length : Int)
     case neg =>
      rw [if_neg c1] at H
      have c1' : decide (i < (l0_0.length : Int)) = false := decide_eq_false c1
      have kb := (HB.out.block _ (show w.heap.size + 1 + 1 < W3.heap.size by have := HZ.out; omega)).trans HBO.out
      have k0 := (bc kb 0).trans rfl
      have k1 := (bc kb 1).trans rfl
      have kf0 := bf kb 0
      have kf1 := bf kb 1
      have ko0 := (bc KB.out 0).trans rfl
      have ko1 := (bc KB.out 1).trans rfl
      obtain ⟨AO, cO, rfl⟩ := Kd.R_slice HO.out
      by_cases c2 : (o.length : Int) > 64
      case pos =>
       rw [if_pos c2] at H
       obtain rfl := Option.some.inj H
       have c2' : decide (64 < (o.length : Int)) = true := decide_eq_true c2
       have c2'' : decide (64 < o.length) = true := decide_eq_true (by omega)
       clear H c1 c2
       go_wp2_with fail
       exact bodyPost_ret (v := .tuple #[.agg #[.slice none 0 0, .slice none 0 0], .int .i64 7]) (by simp [results, Try.results32, go_sem, k0, k1]) rfl (CPost.zero (((HB3.out.trans (HB.out.mono (by have := HZ.out; omega))).setCell (p := ⟨w.heap.size + 1 + 1, 0, none⟩) (by show w.heap.size ≤ w.heap.size + 1 + 1; omega) _).setCell (p := ⟨w.heap.size + 1 + 1, 1, none⟩) (by show w.heap.size ≤ w.heap.size + 1 + 1; omega) _))
      rw [if_neg c2] at H
      have c2' : decide (64 < (o.length : Int)) = false := decide_eq_false c2
      have c2'' : decide (64 < o.length) = false := decide_eq_false (by omega)
      by_cases c3 : (u.length : Int) > 64
      case pos =>
       rw [if_pos c3] at H
       obtain rfl := Option.some.inj H
       have c3' : decide (64 < (u.length : Int)) = true := decide_eq_true c3
       have c3'' : decide (64 < u.length) = true := decide_eq_true (by omega)
       clear H c1 c2 c3
       go_wp2_with fail
       exact bodyPost_ret (v := .tuple #[.agg #[.slice none 0 0, .slice none 0 0], .int .i64 7]) (by simp [results, Try.results32, go_sem, k0, k1]) rfl (CPost.zero (((HB3.out.trans (HB.out.mono (by have := HZ.out; omega))).setCell (p := ⟨w.heap.size + 1 + 1, 0, none⟩) (by show w.heap.size ≤ w.heap.size + 1 + 1; omega) _).setCell (p := ⟨w.heap.size + 1 + 1, 1, none⟩) (by show w.heap.size ≤ w.heap.size + 1 + 1; omega) _))
      rw [if_neg c3] at H
      have c3' : decide (64 < (u.length : Int)) = false := decide_eq_false c3
      have c3'' : decide (64 < u.length) = false := decide_eq_false (by omega)
      obtain rfl := Option.some.inj H
      clear H c1 c2 c3
      go_wp2_with fail
      exact bodyPost_ret (v := .tuple #[.agg #[.slice AO o.length cO, (.slice A7 u.length c7)], .int .i64 0]) (by simp [results, Try.results32, go_sem, k0, k1]) rfl ⟨_, _, rfl, Kd.R_lower (Kd.R_mono (Kd.R_step (Kd.R_bound HO.out) (fun j hj _ => st2_heap wr _ _ (by have h1 := hj.2.1; have h2 := HZ.out; omega))) (fun _ _ => trivial)) (by have := HZ.out; omega), Kd.R_lower (Kd.R_mono (Kd.R_step (Kd.R_bound HU.out) (fun j hj _ => st2_heap wr _ _ (by have h1 := hj.2.1; have h2 := HZ.out; omega))) (fun _ _ => trivial)) (by have := HZ.out; omega), (((HB3.out.trans (HB.out.mono (by have := HZ.out; omega))).setCell (p := ⟨w.heap.size + 1 + 1, 0, none⟩) (by show w.heap.size ≤ w.heap.size + 1 + 1; omega) _).setCell (p := ⟨w.heap.size + 1 + 1, 1, none⟩) (by show w.heap.size ≤ w.heap.size + 1 + 1; omega) _)⟩
     rw [if_pos c1] at H
     obtain ⟨c2, H⟩ := if_some H
     obtain ⟨c3, H⟩ := if_some H
     obtain ⟨adx, eAx, hx0, hx1, hx2⟩ := at_T54 (Kd.C_below HR0'.out HB.out) i c2 c1
     obtain ⟨x0, ex0⟩ : ∃ x0, (rd_T54 l0_0 i).f0 = x0 := ⟨_, rfl⟩
     obtain ⟨x1, ex1⟩ : ∃ x1, (rd_T54 l0_0 i).f1 = x1 := ⟨_, rfl⟩
     obtain ⟨x2, ex2⟩ : ∃ x2, (rd_T54 l0_0 i).f2 = x2 := ⟨_, rfl⟩
     rw [ex0] at hx0 H
     rw [ex1] at hx1 H
     rw [ex2] at hx2 H
     subst eAx
     have kB := (HB.out.block _ (show w.heap.size + 1 < W3.heap.size by have := HZ.out; omega)).trans HBB.out
     have b0 := (bc (ba kB (.cells #[.int .i64 x0, .int .i64 x1, .int .i64 x2] 54)) 0).trans rfl
     have H' := am H
     have c2' : decide (0 ≤ i) = true := decide_eq_true c2
     clear H ex0 ex1 ex2 kB
     go_wp2_with fail
     have KX := am (blk_new wr (.cells #[.int .i64 x0, .int .i64 x1, .int .i64 x2] 54))
     have GX := am (Kd.fresh' (Kd.R_lt HO.out) _ (Nat.le_refl _))
     have GY := am HB.out.size
     obtain ⟨wx, hwx⟩ : ∃ wx, wx = wr.alloc (.cells #[.int .i64 x0, .int .i64 x1, .int .i64 x2] 54) := ⟨_, rfl⟩
     have KB8 := am (ba KB.out (.cells #[.int .i64 x0, .int .i64 x1, .int .i64 x2] 54))
     have HO8 := am (Kd.R_alloc HO.out (.cells #[.int .i64 x0, .int .i64 x1, .int .i64 x2] 54))
     have HU8 := am (Kd.R_alloc HU.out (.cells #[.int .i64 x0, .int .i64 x1, .int .i64 x2] 54))
     have HB8 := am (wa HB.out (.cells #[.int .i64 x0, .int .i64 x1, .int .i64 x2] 54))
     obtain ⟨gX, hgX⟩ : ∃ gX, gX = wr.heap.size := ⟨_, rfl⟩
     rw [← hwx] at KX KB8 HO8 HU8 HB8
     rw [← hwx, ← hgX]
     rw [← hgX] at KX GX GY
     clear hwx hgX KB HO HU HB hx0 hx1 hx2 b0 c1 c2 c3 c2'
     go_loopg [55] k4 (fun kq v55 wr => ∃ (o : List S54) (v0 : Value) (j : Int), v55 = .int .i64 j ∧ Aside0 (shift_Common.l2 kq l0_0 (l0_0.length : Int) i l1_0 (l1_0.length : Int) j l1_0 l1_1 o u x0 x1 x2 = some r) ∧ Aside0 (kq ≤ k4) ∧ Aside0 (wr.heap[gX]? = some (.cells #[.int .i64 x0, .int .i64 x1, .int .i64 x2] 54 (0, 0))) ∧ Aside0 (some gX ≠ v0.ownBlock) ∧ Aside0 (wr.heap[gO]? = some (.cells #[v0, (.slice A7 u.length c7)] 31 (0, 0))) ∧ Aside0 (Kd.R k54 54 wr W3.heap.size (fun _ => True) v0 o) ∧ Aside0 (Kd.R (Kd.int .i64) 3 wr W3.heap.size (fun _ => True) (.slice A7 u.length c7) u) ∧ Aside0 (Below W3.heap.size W3 wr))
     case atStart => exact ⟨o, v0, 0, rfl, H', ⟨Nat.le_refl _⟩, KX, GX, KB8, HO8, HU8, HB8⟩
     case round =>
      clear H' KX GX KB8 HO8 HU8 HB8
      obtain ⟨o, v0, j, rfl, HA, HK2, KX, GX, KB, HO, HU, HB⟩ := hrel
      cases gk with
      | zero => exact absurd HA.out (by simp [shift_Common.l2])
      | succ k5 =>
       have H := HA.out
       clear HA
       simp only [shift_Common.l2] at H
       by_cases c1 : j < (l1_0.length : Int)
       case neg =>
        rw [if_neg c1] at H
        have c1' : decide (j < (l1_0.length : Int)) = false := decide_eq_false c1
        have H' := am H
        clear H c1
        go_wp2_with fail
        go_roundg k5
        case measure => have := HK1.out; have := HK2.out; omega
        case rel => exact ⟨o, v0, _, rfl, H', ⟨by have := HK1.out; have := HK2.out; omega⟩, KB, HO, HU, HB⟩
       rw [if_pos c1] at H
       obtain ⟨c2, H⟩ := if_some H
       obtain ⟨c3, H⟩ := if_some H
       obtain ⟨ady, eAy, hy0, hy1, hy2⟩ := at_T54 (Kd.C_below HR2'.out HB.out) j c2 c1
       obtain ⟨y0, ey0⟩ : ∃ x0, (rd_T54 l1_0 j).f0 = x0 := ⟨_, rfl⟩
       obtain ⟨y1, ey1⟩ : ∃ x1, (rd_T54 l1_0 j).f1 = x1 := ⟨_, rfl⟩
       obtain ⟨y2, ey2⟩ : ∃ x2, (rd_T54 l1_0 j).f2 = x2 := ⟨_, rfl⟩
       rw [ey0] at hy0
       rw [ey1] at hy1
       rw [ey2] at hy2
       rw [ey0, ey1, ey2] at H
       subst eAy
       have c2' : decide (0 ≤ j) = true := decide_eq_true c2
       have kx0 := (bc KX.out 0).trans rfl
       have kx1 := (bc KX.out 1).trans rfl
       have kx2 := (bc KX.out 2).trans rfl
       have ko0 := (bc KB.out 0).trans rfl
       obtain ⟨s1, hs1⟩ : ∃ s1, mx x1 y1 = s1 := ⟨_, rfl⟩
       obtain ⟨s2, hs2⟩ : ∃ s2, mn x2 y2 = s2 := ⟨_, rfl⟩
       rw [hs1, hs2] at H
       have hs1' : (if x1 < y1 then y1 else x1) = s1 := hs1
       have hs2' : (if y2 < x2 then y2 else x2) = s2 := hs2
       clear ey0 ey1 ey2 hs1 hs2 c3
       have HH := am H
       clear H kx0 kx1 kx2 ko0
       go_upto_region 17 with fail
       have KY9 := am (blk_new wr (.cells #[.int .i64 y0, .int .i64 y1, .int .i64 y2] 54))
       have KX9 := am (ba KX.out (.cells #[.int .i64 y0, .int .i64 y1, .int .i64 y2] 54))
       have KB9 := am (ba KB.out (.cells #[.int .i64 y0, .int .i64 y1, .int .i64 y2] 54))
       have HO9 := am (Kd.R_alloc HO.out (.cells #[.int .i64 y0, .int .i64 y1, .int .i64 y2] 54))
       have HU9 := am (Kd.R_alloc HU.out (.cells #[.int .i64 y0, .int .i64 y1, .int .i64 y2] 54))
       have HB9 := am (wa HB.out (.cells #[.int .i64 y0, .int .i64 y1, .int .i64 y2] 54))
       obtain ⟨gY, hgY⟩ : ∃ g, g = wr.heap.size := ⟨_, rfl⟩
       obtain ⟨wy, hwy⟩ : ∃ g, g = wr.alloc (.cells #[.int .i64 y0, .int .i64 y1, .int .i64 y2] 54) := ⟨_, rfl⟩
       rw [← hgY] at KY9
       rw [← hwy] at KY9 KX9 KB9 HO9 HU9 HB9
       rw [← hwy, ← hgY]
       clear hgY hwy KX KB HO HU HB hy0 hy1 hy2
       have kx0 := (bc KX9.out 0).trans rfl
       have kx1 := (bc KX9.out 1).trans rfl
       have kx2 := (bc KX9.out 2).trans rfl
       have ky0 := (bc KY9.out 0).trans rfl
       have ky1 := (bc KY9.out 1).trans rfl
       have ky2 := (bc KY9.out 2).trans rfl
       go_upto_region 18 with fail
       have KS := am (blk_new wy (.cells #[.int .i64 x0, .int .i64 s1, .int .i64 s2] 54))
       have KY := am (ba KY9.out (.cells #[.int .i64 x0, .int .i64 s1, .int .i64 s2] 54))
       have KX := am (ba KX9.out (.cells #[.int .i64 x0, .int .i64 s1, .int .i64 s2] 54))
       have KB := am (ba KB9.out (.cells #[.int .i64 x0, .int .i64 s1, .int .i64 s2] 54))
       have HO := am (Kd.R_alloc HO9.out (.cells #[.int .i64 x0, .int .i64 s1, .int .i64 s2] 54))
       have HU := am (Kd.R_alloc HU9.out (.cells #[.int .i64 x0, .int .i64 s1, .int .i64 s2] 54))
       have HB := am (wa HB9.out (.cells #[.int .i64 x0, .int .i64 s1, .int .i64 s2] 54))
       obtain ⟨gS, hgS⟩ : ∃ g, g = wy.heap.size := ⟨_, rfl⟩
       obtain ⟨ws, hws⟩ : ∃ g, g = wy.alloc (.cells #[.int .i64 x0, .int .i64 s1, .int .i64 s2] 54) := ⟨_, rfl⟩
       rw [← hgS] at KS
       rw [← hws] at KS KY KX KB HO HU HB
       rw [← hws, ← hgS]
       clear hgS hws KX9 KY9 KB9 HO9 HU9 HB9 kx0 kx1 kx2 ky0 ky1 ky2
       have kx0 := (bc KX.out 0).trans rfl
       have kx1 := (bc KX.out 1).trans rfl
       have kx2 := (bc KX.out 2).trans rfl
       have ky0 := (bc KY.out 0).trans rfl
       have ky1 := (bc KY.out 1).trans rfl
       have ky2 := (bc KY.out 2).trans rfl
       have ks0 := (bc KS.out 0).trans rfl
       have ks1 := (bc KS.out 1).trans rfl
       have ks2 := (bc KS.out 2).trans rfl
       have ko0 := (bc KB.out 0).trans rfl
       have H := HH.out
       clear HH KY
       have skip : shift_Common.j3 k5 l0_0 (l0_0.length : Int) i l1_0 (l1_0.length : Int) j true l1_0 l1_1 o u x0 x1 x2 x0 s1 s2 = some r → ∃ k6, k6 < k5 ∧ shift_Common.l2 k6 l0_0 (l0_0.length : Int) i l1_0 (l1_0.length : Int) (wrap64 (j + 1)) l1_0 l1_1 o u x0 x1 x2 = some r := fun h => by
        cases k5 with
        | zero => exact absurd h (by simp [shift_Common.j3])
        | succ k6 =>
         simp only [shift_Common.j3] at h
         rw [if_pos trivial] at h
         exact ⟨k6, Nat.lt_succ_self _, h⟩
       by_cases d0 : x0 = y0
       case neg =>
        rw [if_neg d0] at H
        obtain ⟨k6, hk6, H⟩ := skip H
        have d1 : (x0 == y0) = false := beq_eq_false_iff_ne.2 d0
        have d2 : (x0 != y0) = true := bne_iff_ne.2 d0
        have H' := am H
        clear H skip
        go_wp2_with fail
        go_roundg k6
        case measure => have := HK1.out; have := HK2.out; omega
        case rel => exact ⟨o, v0, _, rfl, H', ⟨by have := HK1.out; have := HK2.out; omega⟩, KX, GX, KB, HO, HU, HB⟩
       rw [if_pos d0] at H
       have d1 : (x0 == y0) = true := beq_iff_eq.2 d0
       have d2 : (x0 != y0) = false := by simpa using d0
       by_cases d3 : s1 ≥ s2
       case pos =>
        rw [show decide (s1 ≥ s2) = true from decide_eq_true d3] at H
        obtain ⟨k6, hk6, H⟩ := skip H
        have d4 : decide (s2 ≤ s1) = true := decide_eq_true d3
        have H' := am H
        clear H skip d3 d0
        go_wp2_with fail
        go_roundg k6
        case measure => have := HK1.out; have := HK2.out; omega
        case rel => exact ⟨o, v0, _, rfl, H', ⟨by have := HK1.out; have := HK2.out; omega⟩, KX, GX, KB, HO, HU, HB⟩
       rw [show decide (s1 ≥ s2) = false from decide_eq_false d3] at H
       have d4 : decide (s2 ≤ s1) = false := decide_eq_false d3
       obtain ⟨k6, hk6, H⟩ : ∃ k6, k6 < k5 ∧ (if (o.length : Int) > 0 then (if 0 ≤ (wrap64 ((o.length : Int) - 1)) then (if (wrap64 ((o.length : Int) - 1)) < (o.length : Int) then (if ((rd_T54 o (wrap64 ((o.length : Int) - 1))).f0) = x0 then (if ((rd_T54 o (wrap64 ((o.length : Int) - 1))).f2) = s1 then (shift_Common.l2 k6 l0_0 (l0_0.length : Int) i l1_0 (l1_0.length : Int) (wrap64 (j + 1)) l1_0 l1_1 (o.set ((wrap64 ((o.length : Int) - 1)) : Int).toNat (⟨(rd_T54 o (wrap64 ((o.length : Int) - 1))).f0, (rd_T54 o (wrap64 ((o.length : Int) - 1))).f1, s2⟩ : S54)) u x0 x1 x2) else (if o.length < 5864062014805 then (shift_Common.l2 k6 l0_0 (l0_0.length : Int) i l1_0 (l1_0.length : Int) (wrap64 (j + 1)) l1_0 l1_1 (o ++ [(⟨x0, s1, s2⟩ : S54)]) u x0 x1 x2) else (none))) else (if o.length < 5864062014805 then (shift_Common.l2 k6 l0_0 (l0_0.length : Int) i l1_0 (l1_0.length : Int) (wrap64 (j + 1)) l1_0 l1_1 (o ++ [(⟨x0, s1, s2⟩ : S54)]) u x0 x1 x2) else (none))) else (none)) else (none)) else (if o.length < 5864062014805 then (shift_Common.l2 k6 l0_0 (l0_0.length : Int) i l1_0 (l1_0.length : Int) (wrap64 (j + 1)) l1_0 l1_1 (o ++ [(⟨x0, s1, s2⟩ : S54)]) u x0 x1 x2) else (none))) = some r := by
        cases k5 with
        | zero => exact absurd H (by simp [shift_Common.j3])
        | succ k6 =>
         simp only [shift_Common.j3] at H
         rw [if_neg (by decide)] at H
         exact ⟨k6, Nat.lt_succ_self _, H⟩
       clear skip d3 d0
       by_cases e0 : (o.length : Int) > 0
       case neg =>
        rw [if_neg e0] at H
        obtain ⟨e1, H⟩ := if_some H
        have LM := am e1
        have H' := am H
        obtain ⟨AO, cO, rfl⟩ := Kd.R_slice HO.out
        have e0' : decide (0 < (o.length : Int)) = false := decide_eq_false e0
        have e0'' : decide (0 < o.length) = false := decide_eq_false (by omega)
        clear H e0 e1
        go_wp2_with fail
        go_quiet (fail)
        go_wp2_with (first | ((with_reducible refine gate_builtin (b := .append) (xs := #[.tmp 122, .tmp 124]) rfl ?_); at_builtin; refine Kd.R_append k54 (w0 := W3) W3.heap.size rfl (.tmp 122) (.tmp 124) 22 54 (.agg #[(.int .i64 0), (.int .i64 0), (.int .i64 0)]) 24 rfl Try.underlying22 info54 rfl (by decide) (by omega) (.slice AO o.length cO) o (⟨x0, s1, s2⟩ : S54) [.int .i64 x0, .int .i64 s1, .int .i64 s2] (fun _ => True) (fun _ => False) rfl rfl ?aP (fun _ hk => hk.elim) ?aF ?aO ?aB ?aS ?aL ?_; (case aP => exact k54_mkM _ _ _ (⟨x0, s1, s2⟩ : S54)); (case aB => exact (fW HB.out)); (case aF => exact (fun _ _ => trivial)); (case aO => exact (fR HO.out)); (case aS => exact (below_size (fW HB.out))); (case aL => have := LM.out; omega); intro v9 w9 ho hb hg hat; have NEO := Kd.R_ne HO.out KB.out (by decide); have n1 := am (grown_keep hg KB.out NEO); have n2 := am (grown_keep hg KX.out GX.out); have n3 := am (new_ne hat KX.out GX.out); have n4 := am ho; have n5 := am (Kd.R_over' (Kd.R_drewN HU.out nq) (Kd.R_typed (Kd.R_drewN HO.out nq)) (by decide) hg); have n6 := am hb; clear ho hb hg hat NEO KB KX GX HO HU HB kx0 kx1 kx2 ks0 ks1 ks2 ky0 ky1 ky2 ko0; have KB := n1; have KX := n2; have GX := n3; have HO := n4; have HU := n5; have HB := n6; clear n1 n2 n3 n4 n5 n6; have ko0 := (bc KB.out 0).trans rfl; have kf0 := bf KB.out 0; obtain ⟨A9, c9, rfl⟩ := slice_one HO.out))
        go_roundg k6
        case measure => have := HK1.out; have := HK2.out; omega
        case rel => exact ⟨_, .slice A9 (o.length + 1) c9, _, rfl, H', ⟨by have := HK1.out; have := HK2.out; omega⟩, ⟨blk_far KX.out (p := ⟨gO, 0, none⟩) (blk_ne KX.out KB.out (by decide)) _⟩, GX, ⟨blk_set KB.out 0 _⟩, ⟨Kd.R_mono (Kd.R_set HO.out KB.out (by decide) 0 _) (fun _ _ => trivial)⟩, ⟨Kd.R_mono (Kd.R_set HU.out KB.out (by decide) 0 _) (fun _ _ => trivial)⟩, ⟨HB.out.setCell (p := ⟨gO, 0, none⟩) GE5.out _⟩⟩
       rw [if_pos e0] at H
       obtain ⟨q, hq⟩ : ∃ q, wrap64 ((o.length : Int) - 1) = q := ⟨_, rfl⟩
       rw [hq] at H
       have hqw : (IntKind.i64.wrap ((o.length : Int) - 1)) = q := (i64_w _).trans hq
       obtain ⟨c4, H⟩ := if_some H
       obtain ⟨c5, H⟩ := if_some H
       obtain ⟨go, co, rfl, hgo, hgl, hgc⟩ := Kd.R_form HO.out (by omega)
       obtain ⟨ce, hcl, hM, hcc, hfr⟩ := Kd.R_elem HO.out z54 q c4 c5
       obtain rfl := k54_openM hM
       obtain ⟨p0, ep0⟩ : ∃ p0, (rd_T54 o q).f0 = p0 := ⟨_, rfl⟩
       obtain ⟨p1, ep1⟩ : ∃ p0, (rd_T54 o q).f1 = p0 := ⟨_, rfl⟩
       obtain ⟨p2, ep2⟩ : ∃ p0, (rd_T54 o q).f2 = p0 := ⟨_, rfl⟩
       have SEG : ([.int .i64 (rd_T54 o q).f0, .int .i64 (rd_T54 o q).f1, .int .i64 (rd_T54 o q).f2] : List Value).length = k54.sz ∧ (∀ (j : Nat) (u : Value), ([.int .i64 (rd_T54 o q).f0, .int .i64 (rd_T54 o q).f1, .int .i64 (rd_T54 o q).f2] : List Value)[j]? = some u → ws.cell? ⟨go, q.toNat * k54.sz + j, none⟩ = some u) ∧ k54.M ws W3.heap.size (fun _ => False) ⟨(rd_T54 o q).f0, (rd_T54 o q).f1, s2⟩ [.int .i64 (rd_T54 o q).f0, .int .i64 (rd_T54 o q).f1, .int .i64 s2] := ⟨rfl, hcc, k54_mkM _ _ _ (⟨(rd_T54 o q).f0, (rd_T54 o q).f1, s2⟩ : S54)⟩
       have z0 : ws.cell? ⟨go, q.toNat * 3, none⟩ = some (.int .i64 (rd_T54 o q).f0) := hcc 0 _ rfl
       have z1 : ws.cell? ⟨go, q.toNat * 3 + 1, none⟩ = some (.int .i64 (rd_T54 o q).f1) := hcc 1 _ rfl
       have z2 : ws.cell? ⟨go, q.toNat * 3 + 2, none⟩ = some (.int .i64 (rd_T54 o q).f2) := hcc 2 _ rfl
       have zf2 : ws.frozen? ⟨go, q.toNat * 3 + 2, none⟩ = false := hfr 2
       rw [ep0] at z0 H
       rw [ep0, ep1, ep2] at SEG
       rw [ep1] at z1 H
       rw [ep2] at z2 H
       have e0' : decide (0 < (o.length : Int)) = true := decide_eq_true e0
       have e0'' : decide (0 < o.length) = true := decide_eq_true (by omega)
       have c4' : decide (0 ≤ q) = true := decide_eq_true c4
       have c5' : decide (q < (o.length : Int)) = true := decide_eq_true c5
       have SG := am SEG
       clear SEG hcl hcc hM hfr hgc ep0 ep1 ep2 hq e0
       by_cases f0 : p0 = x0
       case neg =>
        rw [if_neg f0] at H
        obtain ⟨e1, H⟩ := if_some H
        have LM := am e1
        have H' := am H
        have f1 : (p0 == x0) = false := beq_eq_false_iff_ne.2 f0
        have f2 : (p0 != x0) = true := bne_iff_ne.2 f0
        clear H e1 f0 SG
        go_wp2_with fail
        go_quiet (fail)
        go_wp2_with (first | ((with_reducible refine gate_builtin (b := .append) (xs := #[.tmp 122, .tmp 124]) rfl ?_); at_builtin; refine Kd.R_append k54 (w0 := W3) W3.heap.size rfl (.tmp 122) (.tmp 124) 22 54 (.agg #[(.int .i64 0), (.int .i64 0), (.int .i64 0)]) 24 rfl Try.underlying22 info54 rfl (by decide) (by omega) (.slice (some ⟨go, 0, none⟩) o.length co) o (⟨x0, s1, s2⟩ : S54) [.int .i64 x0, .int .i64 s1, .int .i64 s2] (fun _ => True) (fun _ => False) rfl rfl ?aP (fun _ hk => hk.elim) ?aF ?aO ?aB ?aS ?aL ?_; (case aP => exact k54_mkM _ _ _ (⟨x0, s1, s2⟩ : S54)); (case aB => exact (fW HB.out)); (case aF => exact (fun _ _ => trivial)); (case aO => exact (fR HO.out)); (case aS => exact (below_size (fW HB.out))); (case aL => have := LM.out; omega); intro v9 w9 ho hb hg hat; have NEO := Kd.R_ne HO.out KB.out (by decide); have n1 := am (grown_keep hg KB.out NEO); have n2 := am (grown_keep hg KX.out GX.out); have n3 := am (new_ne hat KX.out GX.out); have n4 := am ho; have n5 := am (Kd.R_over' (Kd.R_drewN HU.out nq) (Kd.R_typed (Kd.R_drewN HO.out nq)) (by decide) hg); have n6 := am hb; clear ho hb hg z0 z1 z2 hat NEO KB KX GX HO HU HB kx0 kx1 kx2 ks0 ks1 ks2 ky0 ky1 ky2 ko0; have KB := n1; have KX := n2; have GX := n3; have HO := n4; have HU := n5; have HB := n6; clear n1 n2 n3 n4 n5 n6; have ko0 := (bc KB.out 0).trans rfl; have kf0 := bf KB.out 0; obtain ⟨A9, c9, rfl⟩ := slice_one HO.out))
        go_roundg k6
        case measure => have := HK1.out; have := HK2.out; omega
        case rel => exact ⟨_, .slice A9 (o.length + 1) c9, _, rfl, H', ⟨by have := HK1.out; have := HK2.out; omega⟩, ⟨blk_far KX.out (p := ⟨gO, 0, none⟩) (blk_ne KX.out KB.out (by decide)) _⟩, GX, ⟨blk_set KB.out 0 _⟩, ⟨Kd.R_mono (Kd.R_set HO.out KB.out (by decide) 0 _) (fun _ _ => trivial)⟩, ⟨Kd.R_mono (Kd.R_set HU.out KB.out (by decide) 0 _) (fun _ _ => trivial)⟩, ⟨HB.out.setCell (p := ⟨gO, 0, none⟩) GE5.out _⟩⟩
       rw [if_pos f0] at H
       have f1 : (p0 == x0) = true := beq_iff_eq.2 f0
       have f2 : (p0 != x0) = false := by simpa using f0
       clear f0
       by_cases f0 : p2 = s1
       case neg =>
        rw [if_neg f0] at H
        obtain ⟨e1, H⟩ := if_some H
        have LM := am e1
        have H' := am H
        have f3 : (p2 == s1) = false := beq_eq_false_iff_ne.2 f0
        have f4 : (p2 != s1) = true := bne_iff_ne.2 f0
        clear H e1 f0 SG
        go_wp2_with fail
        go_quiet (fail)
        go_wp2_with (first | ((with_reducible refine gate_builtin (b := .append) (xs := #[.tmp 122, .tmp 124]) rfl ?_); at_builtin; refine Kd.R_append k54 (w0 := W3) W3.heap.size rfl (.tmp 122) (.tmp 124) 22 54 (.agg #[(.int .i64 0), (.int .i64 0), (.int .i64 0)]) 24 rfl Try.underlying22 info54 rfl (by decide) (by omega) (.slice (some ⟨go, 0, none⟩) o.length co) o (⟨x0, s1, s2⟩ : S54) [.int .i64 x0, .int .i64 s1, .int .i64 s2] (fun _ => True) (fun _ => False) rfl rfl ?aP (fun _ hk => hk.elim) ?aF ?aO ?aB ?aS ?aL ?_; (case aP => exact k54_mkM _ _ _ (⟨x0, s1, s2⟩ : S54)); (case aB => exact (fW HB.out)); (case aF => exact (fun _ _ => trivial)); (case aO => exact (fR HO.out)); (case aS => exact (below_size (fW HB.out))); (case aL => have := LM.out; omega); intro v9 w9 ho hb hg hat; have NEO := Kd.R_ne HO.out KB.out (by decide); have n1 := am (grown_keep hg KB.out NEO); have n2 := am (grown_keep hg KX.out GX.out); have n3 := am (new_ne hat KX.out GX.out); have n4 := am ho; have n5 := am (Kd.R_over' (Kd.R_drewN HU.out nq) (Kd.R_typed (Kd.R_drewN HO.out nq)) (by decide) hg); have n6 := am hb; clear ho hb hg z0 z1 z2 hat NEO KB KX GX HO HU HB kx0 kx1 kx2 ks0 ks1 ks2 ky0 ky1 ky2 ko0; have KB := n1; have KX := n2; have GX := n3; have HO := n4; have HU := n5; have HB := n6; clear n1 n2 n3 n4 n5 n6; have ko0 := (bc KB.out 0).trans rfl; have kf0 := bf KB.out 0; obtain ⟨A9, c9, rfl⟩ := slice_one HO.out))
        go_roundg k6
        case measure => have := HK1.out; have := HK2.out; omega
        case rel => exact ⟨_, .slice A9 (o.length + 1) c9, _, rfl, H', ⟨by have := HK1.out; have := HK2.out; omega⟩, ⟨blk_far KX.out (p := ⟨gO, 0, none⟩) (blk_ne KX.out KB.out (by decide)) _⟩, GX, ⟨blk_set KB.out 0 _⟩, ⟨Kd.R_mono (Kd.R_set HO.out KB.out (by decide) 0 _) (fun _ _ => trivial)⟩, ⟨Kd.R_mono (Kd.R_set HU.out KB.out (by decide) 0 _) (fun _ _ => trivial)⟩, ⟨HB.out.setCell (p := ⟨gO, 0, none⟩) GE5.out _⟩⟩
       rw [if_pos f0] at H
       have f3 : (p2 == s1) = true := beq_iff_eq.2 f0
       have f4 : (p2 != s1) = false := by simpa using f0
       have H' := am H
       clear f0 H
       go_wp2_with fail
       go_quiet (fail)
       go_wp2_with fail
       have SG2 : Kd.R k54 54 ((ws.drewN nq).setCell ⟨go, q.toNat * 3 + 2, none⟩ (.int .i64 s2)) W3.heap.size (fun _ => True) (.slice (some ⟨go, 0, none⟩) o.length co) (o.set q.toNat ⟨p0, p1, s2⟩) ∧ (ws.drewN nq).grownBy ((ws.drewN nq).setCell ⟨go, q.toNat * 3 + 2, none⟩ (.int .i64 s2)) (some go) := by
        have h := Kd.R_seg (Kd.R_drewN HO.out nq) q c4 c5 (seg := [.int .i64 s2]) (j := 2) SG.out.1 SG.out.2.1 (show 3 ≤ 3 from by decide) (x' := (⟨p0, p1, s2⟩ : S54)) (okp := fun _ => False) SG.out.2.2 (fun _ hk => hk.elim)
        exact h
       go_roundg k6
       case measure => have := HK1.out; have := HK2.out; omega
       case rel => exact ⟨_, .slice (some ⟨go, 0, none⟩) o.length co, _, rfl, H', ⟨by have := HK1.out; have := HK2.out; omega⟩, ⟨grown_keep SG2.2 KX.out GX.out⟩, GX, ⟨grown_keep SG2.2 KB.out (Kd.R_ne HO.out KB.out (by decide))⟩, ⟨SG2.1⟩, ⟨Kd.R_over' (Kd.R_drewN HU.out nq) (Kd.R_typed (Kd.R_drewN HO.out nq)) (by decide) SG2.2⟩, ⟨(pw_below_drewN HB.out nq).setCell (p := ⟨go, q.toNat * 3 + 2, none⟩) hgo _⟩⟩
theorem shift_Common.calls (k : Nat) (P0_0_ : Nat → Prop) (A0_0 : Option Addr) (c0_0 : Nat) (l0_0 : List (S54)) (P0_1_ : Nat → Prop) (A0_1 : Option Addr) (c0_1 : Nat) (l0_1 : List Int) (P1_0_ : Nat → Prop) (A1_0 : Option Addr) (c1_0 : Nat) (l1_0 : List (S54)) (P1_1_ : Nat → Prop) (A1_1 : Option Addr) (c1_1 : Nat) (l1_1 : List Int) (r1 : List (S54)) (r2 : List Int) (r3 : Int) (w : World) (hs0_0 : Kd.V k54 54 w w.heap.size (fun k_ => P0_0_ k_) (.slice A0_0 l0_0.length c0_0) l0_0) (hs0_1 : Kd.V (Kd.int .i64) 3 w w.heap.size (fun k_ => P0_1_ k_) (.slice A0_1 l0_1.length c0_1) l0_1) (hs1_0 : Kd.V k54 54 w w.heap.size (fun k_ => P1_0_ k_) (.slice A1_0 l1_0.length c1_0) l1_0) (hs1_1 : Kd.V (Kd.int .i64) 3 w w.heap.size (fun k_ => P1_1_ k_) (.slice A1_1 l1_1.length c1_1) l1_1) (h : shift_Common.f k l0_0 l0_1 l1_0 l1_1 = some (r1, r2, r3)) :
  Calls Try.prog 32 #[.agg #[.slice A0_0 l0_0.length c0_0, .slice A0_1 l0_1.length c0_1], .agg #[.slice A1_0 l1_0.length c1_0, .slice A1_1 l1_1.length c1_1]] w fun e w' => ∃ v0_ v1_ : Value, e = .returned (.tuple #[.agg #[v0_, v1_], .int .i64 r3]) ∧ Kd.R k54 54 w' w.heap.size (fun k_ => (w.heap.size ≤ k_)) v0_ r1 ∧ Kd.R (Kd.int .i64) 3 w' w.heap.size (fun k_ => (w.heap.size ≤ k_)) v1_ r2 ∧ Below w.heap.size w w' := by
 obtain ⟨_, q0, g0⟩ := Kd.V_reads' hs0_0
 obtain ⟨_, q1, g1⟩ := Kd.V_reads' hs0_1
 obtain ⟨_, q2, g2⟩ := Kd.V_reads' hs1_0
 obtain ⟨_, q3, g3⟩ := Kd.V_reads' hs1_1
 refine (common_walk k A0_0 c0_0 l0_0 A0_1 c0_1 l0_1 A1_0 c1_0 l1_0 A1_1 c1_1 l1_1 (r1, r2, r3) w g0 q0 g1 q1 g2 q2 g3 q3 h).mono ?_
 rintro e w' ⟨v0, v1, he, h0, h1, hb⟩
 exact ⟨v0, v1, he, Kd.R_mono (Kd.R_bound h0) (fun _ hk => hk.2.1), Kd.R_mono (Kd.R_bound h1) (fun _ hk => hk.2.1), hb⟩
end Go.Proofs.Ytpjgmlnnhcnelaa.QA
