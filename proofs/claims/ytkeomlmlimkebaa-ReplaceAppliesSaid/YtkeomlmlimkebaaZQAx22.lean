import Derived.Test.YtkeomlmlimkebaaZQAx0
import Derived.Test.YtkeomlmlimkebaaZQAy
import Derived.Test.YtkeomlmlimkebaaZQAx3
import Derived.Test.YtkeomlmlimkebaaZQAx4
import Derived.Test.YtkeomlmlimkebaaZQAx5
import Derived.Test.YtkeomlmlimkebaaZQAx6
import Derived.Test.YtkeomlmlimkebaaZQAx7
import Derived.Test.YtkeomlmlimkebaaZEvKit
import Derived.Test.YtkeomlmlimkebaaZMapKit
import Derived.Test.YtkeomlmlimkebaaZRowOne
import Derived.Test.YtkeomlmlimkebaaZSortRow
import Derived.Carry
import Derived.Deep.RegionHeld3
import Derived.LoopN
import Derived.RegionTactic
import Derived.StillTailTactics
import Derived.WalkSpells
namespace Go.Proofs.Ytkeomlmlimkebaa.QA
open Go.RowKit Go.Proofs.YtkeomlmlimkebaaW.PrintWords Go.Proofs.YtkeomlmlimkebaaW.PrintLast Go.Proofs.YtkeomlmlimkebaaW.PrintMore
open Go.Proofs.YtkeomlmlimkebaaW.PrintWords renaming pw_below_drewN → wN, blk_frozen → bf
open Aside0 renaming mk → am
attribute [local go_sem] max2_int min2_int max_two min_two max_three min_three max_four min_four
set_option linter.unusedVariables false
set_option linter.unusedSimpArgs false

section
open Go.Proofs.Ytkeomlmlimkebaa.EvKit Go.Proofs.Ytkeomlmlimkebaa.MapKit
attribute [local go_sem] max2_int min2_int max_two min_two Oper.semAt_some
set_option linter.unusedVariables false
set_option linter.unusedSimpArgs false
def aplL (F : List (List Int)) (U : List Int) (X : List Bool) : List S52 → List Int → List Int → Sum Int (List Int)
 | [], D, V => .inr V
 | c :: L, D, V =>
  if c.f0 < 0 ∨ c.f0 ≥ (F.length : Int) then .inl 6
  else if U.getD c.f0.toNat 0 ≠ c.f1 ∨ c.f0 ∈ D then .inl 10
  else if X.getD c.f0.toNat false = true then .inl 8
  else if ¬ c.f2 ∈ F.getD c.f0.toNat [] then .inl 1
  else aplL F U X L (D ++ [c.f0]) (V.set c.f0.toNat c.f2)
def aplR (F : List (List Int)) (p : Int) (X : List Bool) : Sum Int (List Int) → Option (List (List Int) × Int × List Int × List Bool × Int)
 | .inl z => some ([], 0, [], [], z)
 | .inr V => (replace_Check.f F p V X).bind fun e2 => if e2 = 0 then some (F, p, V, X, 0) else some ([], 0, [], [], 5)
def replace_Apply.f (l0_0 : List (List Int)) (a0_1 : Int) (l0_2 : List Int) (l0_3 : List Bool) (l1 : List S52) : Option (List (List Int) × Int × List Int × List Bool × Int) :=
 (replace_Check.f l0_0 a0_1 l0_2 l0_3).bind fun e => if e = 0 then (if l1.length < 1000000 then aplR l0_0 a0_1 l0_3 (aplL l0_0 l0_2 l0_3 l1 [] l0_2) else none) else some ([], 0, [], [], e)
theorem row_eq (F : List (List Int)) (s : Nat) : rd_L1 F (s : Int) = F.getD s [] := by simp [rd_L1]
theorem row_len {F : List (List Int)} (h : ∀ j, j < F.length → (F.getD j []).length < 1000000) {s : Nat} (hs : s < F.length) : (rd_L1 F (s : Int)).length < 1099511627776 := by
 rw [row_eq]; have := h s hs; omega
theorem R_ne_set {α : Type} {d : Kd α} {e : Nat} {w : World} {base : Nat} {ok : Nat → Prop} {v : Value} {xs : List α} {P : Program} {k' e' : TypeId} {b n : Nat} {M : List Int} (h : Kd.R d e w base ok v xs) (hm : SetI P k' e' w b n M) : some b ≠ v.ownBlock := fun eq => by
 obtain ⟨cells, hc⟩ := Kd.R_typed h b eq.symm
 obtain ⟨D, ⟨es, clock, h1, _⟩, _⟩ := hm
 rw [hc] at h1
 cases h1
set_option maxHeartbeats 8000000 in
set_option maxRecDepth 100000 in
theorem replace_Apply.calls (A0_0 : Option Addr) (c0_0 : Nat) (l0_0 : List (List Int)) (a0_1 : Int) (A0_2 : Option Addr) (c0_2 : Nat) (l0_2 : List Int) (A0_3 : Option Addr) (c0_3 : Nat) (l0_3 : List Bool) (A1 : Option Addr) (c1 : Nat) (l1 : List S52) (r1 : List (List Int)) (r2 : Int) (r3 : List Int) (r4 : List Bool) (r5 : Int) (w : World) (hr0_0 : Kd.C (Kd.slice 3 (Kd.int .i64)) w A0_0 l0_0.length l0_0) (hc0_0 : l0_0.length ≤ c0_0) (hr0_2 : Kd.C (Kd.int .i64) w A0_2 l0_2.length l0_2) (hc0_2 : l0_2.length ≤ c0_2) (hr0_3 : Kd.C Kd.bool w A0_3 l0_3.length l0_3) (hc0_3 : l0_3.length ≤ c0_3) (hr1 : Kd.C k52 w A1 l1.length l1) (hc1 : l1.length ≤ c1) (h : replace_Apply.f l0_0 a0_1 l0_2 l0_3 l1 = some (r1, r2, r3, r4, r5)) :
  Calls Try.prog 31 #[.agg #[.slice A0_0 l0_0.length c0_0, .int .i64 a0_1, .slice A0_2 l0_2.length c0_2, .slice A0_3 l0_3.length c0_3], .slice A1 l1.length c1] w fun e w' => BPost w e w' r1 r2 r3 r4 r5 := by
 have hu33 := Try.underlying33
 have hu52 := Try.underlying52
 have hu80 := Try.underlying80
 have hmm := @run_makeMap Try.prog
 obtain ⟨e, he, hr⟩ := Option.bind_eq_some_iff.1 h
 obtain ⟨W3, hW3⟩ : ∃ W3, W3 = (w.alloc (.cells #[.slice A0_0 l0_0.length c0_0, .int .i64 a0_1, .slice A0_2 l0_2.length c0_2, .slice A0_3 l0_3.length c0_3] 33)).alloc (.cells #[.slice none 0 0, .int .i64 0, .slice none 0 0, .slice none 0 0] 33) := ⟨_, rfl⟩
 have hb3 : Below w.heap.size w W3 := by rw [hW3]; exact below_alloc (below_alloc (Below.refl _ _) _) _
 have b1 : W3.heap[w.heap.size]? = some (.cells #[.slice A0_0 l0_0.length c0_0, .int .i64 a0_1, .slice A0_2 l0_2.length c0_2, .slice A0_3 l0_3.length c0_3] 33 (0, 0)) := by rw [hW3]; exact blk_alloc (blk_new w _) _
 have b4 : W3.heap[w.heap.size + 1]? = some (.cells #[.slice none 0 0, .int .i64 0, .slice none 0 0, .slice none 0 0] 33 (0, 0)) := by
  rw [hW3]; have := blk_new (w.alloc (.cells #[.slice A0_0 l0_0.length c0_0, .int .i64 a0_1, .slice A0_2 l0_2.length c0_2, .slice A0_3 l0_3.length c0_3] 33)) (.cells #[.slice none 0 0, .int .i64 0, .slice none 0 0, .slice none 0 0] 33); rw [World.size_alloc] at this; exact this
 have hz : w.heap.size < W3.heap.size := by rw [hW3]; simp; omega
 have hz4 : w.heap.size + 1 < W3.heap.size := by rw [hW3]; simp
 have HE := am he
 have HR0 := am hr0_0
 have HR2 := am hr0_2
 have HR3 := am hr0_3
 have HR1 := am hr1
 have HB3 := am hb3
 have HBX := am b1
 have HB4 := am b4
 have HZ := am hz
 have HZ4 := am hz4
 have HB := am (Below.refl W3.heap.size W3)
 have HW := am hW3
 clear hr0_0 hr0_2 hr0_3 hr1 hb3 b1 b4 hz hz4 hW3 he h
 by_cases he0 : e = 0
 case neg =>
  rw [if_neg he0] at hr
  obtain ⟨rfl, rfl, rfl, rfl, rfl⟩ : r1 = [] ∧ r2 = 0 ∧ r3 = [] ∧ r4 = [] ∧ r5 = e := by
   have := Option.some.inj hr; simp only [Prod.mk.injEq] at this; exact ⟨this.1.symm, this.2.1.symm, this.2.2.1.symm, this.2.2.2.1.symm, this.2.2.2.2.symm⟩
  have e1 : (r5 == 0) = false := beq_eq_false_iff_ne.2 he0
  have e2 : (r5 != 0) = true := by simpa using he0
  clear he0 hr
  go_enter Try.func31, Try.ntmps31
  go_wp2_with ((go_at_call 24; rw [← HW.out]; (with_reducible refine (replace_Check.calls _ c0_0 l0_0 a0_1 _ c0_2 l0_2 _ c0_3 l0_3 _ _ ?q0 hc0_0 ?q2 hc0_2 ?q3 hc0_3 HE.out).mono ?_); (case q0 => exact Kd.C_below HR0.out HB3.out); (case q2 => exact Kd.C_below HR2.out HB3.out); (case q3 => exact Kd.C_below HR3.out HB3.out); rintro e' w' ⟨rfl, hb⟩; have n1 := am (HB.out.trans hb); clear HB hb; have HB := n1; clear n1; obtain ⟨g0, g1, g2, g3⟩ := box4 HB.out HZ.out HBX.out; obtain ⟨k0, k1, k2, k3⟩ := box4 HB.out HZ4.out HB4.out; have kf0 := bf ((HB.out.block _ HZ4.out).trans HB4.out) 0; have kf1 := bf ((HB.out.block _ HZ4.out).trans HB4.out) 1; have kf2 := bf ((HB.out.block _ HZ4.out).trans HB4.out) 2; have kf3 := bf ((HB.out.block _ HZ4.out).trans HB4.out) 3))
  exact bodyPost_ret (v := .tuple #[.agg #[.slice none 0 0, .int .i64 0, .slice none 0 0, .slice none 0 0], .int .i64 r5]) (by simp [results, Try.results31, go_sem, k0, k1, k2, k3]) rfl (BPost.zero ((((((HB3.out.trans (HB.out.mono (Nat.le_of_lt HZ.out)))).setCell (p := ⟨w.heap.size + 1, 0, none⟩) (by show w.heap.size ≤ w.heap.size + 1; omega) _).setCell (p := ⟨w.heap.size + 1, 1, none⟩) (by show w.heap.size ≤ w.heap.size + 1; omega) _).setCell (p := ⟨w.heap.size + 1, 2, none⟩) (by show w.heap.size ≤ w.heap.size + 1; omega) _).setCell (p := ⟨w.heap.size + 1, 3, none⟩) (by show w.heap.size ≤ w.heap.size + 1; omega) _))
 subst he0
 rw [if_pos rfl] at hr
 have hl1 : l1.length < 1000000 := by
  by_cases hq : l1.length < 1000000
  ·exact hq
  rw [if_neg hq] at hr; cases hr
 rw [if_pos hl1] at hr
 have H := am hr
 clear hr
 obtain ⟨z1, z2, z3, z4, z5, z6, z7, z8⟩ := check_ok HE.out
 have HZ1 := am z1
 have HZ2e := am z2
 have z9 : l0_0.length ≤ l0_2.length := Nat.le_of_eq z1.symm
 have z10 : l0_0.length ≤ l0_3.length := Nat.le_of_eq z2.symm
 have z11 : l0_2.length ≤ 64 := by omega
 have z12 : l0_3.length ≤ 64 := by omega
 have HZ6 := am z6
 have HG := am (And.intro z7 z8)
 clear z1 z2 z6 z7 z8
 obtain ⟨K, hK⟩ := clone_ev l0_0 a0_1 l0_2 l0_3 z3 HZ6.out z11 z12
 have HCL := am (hK K (Nat.le_refl _))
 clear hK
 go_enter Try.func31, Try.ntmps31
 go_wp2_with (first | (go_at_call 24; rw [← HW.out]; (with_reducible refine (replace_Check.calls _ c0_0 l0_0 a0_1 _ c0_2 l0_2 _ c0_3 l0_3 _ _ ?q0 hc0_0 ?q2 hc0_2 ?q3 hc0_3 HE.out).mono ?_); (case q0 => exact Kd.C_below HR0.out HB3.out); (case q2 => exact Kd.C_below HR2.out HB3.out); (case q3 => exact Kd.C_below HR3.out HB3.out); rintro e' w' ⟨rfl, hb⟩; have n1 := am (HB.out.trans hb); clear HB hb; have HB := n1; clear n1; obtain ⟨g0, g1, g2, g3⟩ := box4 HB.out HZ.out HBX.out; obtain ⟨k0, k1, k2, k3⟩ := box4 HB.out HZ4.out HB4.out; have kf0 := bf ((HB.out.block _ HZ4.out).trans HB4.out) 0; have kf1 := bf ((HB.out.block _ HZ4.out).trans HB4.out) 1; have kf2 := bf ((HB.out.block _ HZ4.out).trans HB4.out) 2; have kf3 := bf ((HB.out.block _ HZ4.out).trans HB4.out) 3) | (go_at_call 48; (with_reducible refine (replace_clone.calls K _ c0_0 l0_0 a0_1 _ c0_2 l0_2 _ c0_3 l0_3 l0_0 a0_1 l0_2 l0_3 _ ?p0 hc0_0 ?p2 hc0_2 ?p3 hc0_3 HCL.out).mono ?_); (case p0 => exact Kd.C_below (Kd.C_below HR0.out HB3.out) HB.out); (case p2 => exact Kd.C_below (Kd.C_below HR2.out HB3.out) HB.out); (case p3 => exact Kd.C_below (Kd.C_below HR3.out HB3.out) HB.out); rintro e' w8 ⟨v0, v2, v3, rfl, hs, h2, h3, hb⟩; obtain ⟨V0, q0, rfl⟩ := Kd.S_slice hs; obtain ⟨V2, q2, rfl⟩ := Kd.R_slice h2; obtain ⟨V3, q3, rfl⟩ := Kd.R_slice h3; have S8 := am (Kd.S_lower hs HB.out.size); have U8 := am (Kd.R_lower h2 HB.out.size); have F8 := am (Kd.R_lower h3 HB.out.size); have HB8 := am (HB.out.trans (hb.mono HB.out.size)); clear hs h2 h3 hb g0 g1 g2 g3 k0 k1 k2 k3 kf0 kf1 kf2 kf3))
 have hb9 : Below w8.heap.size w8 ((w8.alloc (.cells #[.slice V0 l0_0.length q0, .int .i64 a0_1, .slice V2 l0_2.length q2, .slice V3 l0_3.length q3] 33)).alloc (Obj.map #[] 0)) := below_alloc (below_alloc (Below.refl _ _) _) _
 have b7 : ((w8.alloc (.cells #[.slice V0 l0_0.length q0, .int .i64 a0_1, .slice V2 l0_2.length q2, .slice V3 l0_3.length q3] 33)).alloc (Obj.map #[] 0)).heap[w8.heap.size]? = some (.cells #[.slice V0 l0_0.length q0, .int .i64 a0_1, .slice V2 l0_2.length q2, .slice V3 l0_3.length q3] 33 (0, 0)) := blk_alloc (blk_new w8 _) _
 have hs9 : SetI Try.prog 3 4 ((w8.alloc (.cells #[.slice V0 l0_0.length q0, .int .i64 a0_1, .slice V2 l0_2.length q2, .slice V3 l0_3.length q3] 33)).alloc (Obj.map #[] 0)) (w8.heap.size + 1) 0 [] := by have := SetI.made (w8.alloc (.cells #[.slice V0 l0_0.length q0, .int .i64 a0_1, .slice V2 l0_2.length q2, .slice V3 l0_3.length q3] 33)) Try.prog 3 4; rw [World.size_alloc] at this; exact this
 have hz9 : w8.heap.size + 1 < ((w8.alloc (.cells #[.slice V0 l0_0.length q0, .int .i64 a0_1, .slice V2 l0_2.length q2, .slice V3 l0_3.length q3] 33)).alloc (Obj.map #[] 0)).heap.size := by simp
 generalize hW9 : (w8.alloc (.cells #[.slice V0 l0_0.length q0, .int .i64 a0_1, .slice V2 l0_2.length q2, .slice V3 l0_3.length q3] 33)).alloc (Obj.map #[] 0) = W9 at hb9 b7 hs9 hz9 ⊢
 clear hW9
 have S9 := am (Kd.S_below (Kd.S_mono (ok' := (fun k_ => some k_ ≠ (.slice V2 l0_2.length q2 : Value).ownBlock ∧ k_ < w8.heap.size)) (Kd.S_bound S8.out) (fun k hk => ⟨hk.1, hk.2.2.1⟩)) hb9)
 have U9 := am (Kd.R_below U8.out hb9)
 have F9 := am (Kd.R_below F8.out hb9)
 have HB9 := am (HB8.out.trans (hb9.mono HB8.out.size))
 have BX9 := am b7
 have HS9 := am hs9
 have HZ9 := am hz9
 have H98 := am HB8.out.size
 clear hb9 b7 hs9 hz9
 go_loopw [22] (fun i wr => ∃ (k : Nat) (D V : List Int), k ≤ l1.length ∧ i = .int .i64 k ∧ V.length = l0_2.length ∧ Aside0 (SetI Try.prog 3 4 wr (w8.heap.size + 1) k D) ∧ Aside0 (Kd.S (Kd.slice 3 (Kd.int .i64)) 23 wr W3.heap.size (fun k_ => some k_ ≠ (.slice V2 l0_2.length q2 : Value).ownBlock ∧ k_ < w8.heap.size) (.slice V0 l0_0.length q0) l0_0) ∧ Aside0 (Kd.R (Kd.int .i64) 3 wr W3.heap.size (fun _ => True) (.slice V2 l0_2.length q2) V) ∧ Aside0 (Kd.R Kd.bool 4 wr W3.heap.size (fun _ => True) (.slice V3 l0_3.length q3) l0_3) ∧ Aside0 (wr.heap[w8.heap.size]? = some (.cells #[.slice V0 l0_0.length q0, .int .i64 a0_1, .slice V2 l0_2.length q2, .slice V3 l0_3.length q3] 33 (0, 0))) ∧ Aside0 (Below W3.heap.size W3 wr) ∧ Aside0 (aplR l0_0 a0_1 l0_3 (aplL l0_0 l0_2 l0_3 (l1.drop k) D V) = some (r1, r2, r3, r4, r5)))
   (fun i _ => l1.length - (intOf i).toNat)
 case atStart => exact ⟨0, [], l0_2, Nat.zero_le _, rfl, rfl, HS9, S9, U9, F9, BX9, HB9, H⟩
 case round =>
  clear S9 U9 F9 BX9 HB9 HS9 H
  obtain ⟨k, D, V, hk, rfl, hV, HS, HSS, HU, HF, HBB, HBr, HA⟩ := hrel
  by_cases hlt : k < l1.length
  rotate_left
  ·obtain rfl : k = l1.length := by omega
   have hA := HA.out
   rw [List.drop_eq_nil_of_le (Nat.le_refl _)] at hA
   obtain ⟨e2, he2, hr2⟩ := Option.bind_eq_some_iff.1 (show (replace_Check.f l0_0 a0_1 V l0_3).bind _ = _ from hA)
   have hUn := HU.out
   have hBn := HBB.out
   rw [← hV] at hUn hBn
   rw [← hV]
   clear HA hA HU HBB
   have HU := am hUn
   have HBB := am hBn
   have HE2 := am he2
   have HQ0 := am (Kd.S_reads' HSS.out).2.1
   have HQ2 := am (Kd.R_reads' HU.out).2.1
   have HQ3 := am (Kd.R_reads' HF.out).2.1
   have t0 := (blk_cell HBB.out 0).trans rfl
   have t1 := (blk_cell HBB.out 1).trans rfl
   have t2 := (blk_cell HBB.out 2).trans rfl
   have t3 := (blk_cell HBB.out 3).trans rfl
   have HV := am hV
   clear hUn hBn he2 hlt hk hV
   by_cases c0 : e2 = 0
   ·subst c0
    have hr : some (l0_0, a0_1, V, l0_3, (0 : Int)) = some (r1, r2, r3, r4, r5) := hr2
    obtain ⟨rfl, rfl, rfl, rfl, rfl⟩ : l0_0 = r1 ∧ a0_1 = r2 ∧ V = r3 ∧ l0_3 = r4 ∧ 0 = r5 := by have := Option.some.inj hr; simp only [Prod.mk.injEq] at this; exact this
    clear hr hr2
    go_wp2_with (go_at_call 24; (with_reducible refine (replace_Check.calls _ q0 l0_0 a0_1 _ q2 V _ q3 l0_3 _ _ ?q0 HQ0.out ?q2 HQ2.out ?q3 HQ3.out HE2.out).mono ?_); (case q0 => exact (Kd.S_reads' HSS.out).2.2); (case q2 => exact (Kd.R_reads' HU.out).2.2); (case q3 => exact (Kd.R_reads' HF.out).2.2); rintro e' w9 ⟨rfl, hb⟩; have SX := am (Kd.S_below HSS.out hb); have UX := am (Kd.R_below HU.out hb); have FX := am (Kd.R_below HF.out hb); have BXX := am (blk_below HBB.out hb); have HB9 := am (HBr.out.trans (hb.mono HBr.out.size)); clear hb t0 t1 t2 t3; obtain ⟨k0, k1, k2, k3⟩ := box4 HB9.out HZ4.out HB4.out; have kf0 := bf ((HB9.out.block _ HZ4.out).trans HB4.out) 0; have kf1 := bf ((HB9.out.block _ HZ4.out).trans HB4.out) 1; have kf2 := bf ((HB9.out.block _ HZ4.out).trans HB4.out) 2; have kf3 := bf ((HB9.out.block _ HZ4.out).trans HB4.out) 3; have t0 := (blk_cell BXX.out 0).trans rfl; have t1 := (blk_cell BXX.out 1).trans rfl; have t2 := (blk_cell BXX.out 2).trans rfl; have t3 := (blk_cell BXX.out 3).trans rfl)
    exact bodyPost_ret (v := .tuple #[.agg #[.slice V0 l0_0.length q0, .int .i64 a0_1, .slice V2 V.length q2, .slice V3 l0_3.length q3], .int .i64 0]) (by simp [results, Try.results31, go_sem, k0, k1, k2, k3]) rfl (by
     refine ⟨_, _, _, rfl, Kd.S_lower (Kd.S_mono (Kd.S_step (Kd.S_bound SX.out) (fun j hj _ => st4_heap w9 _ _ _ _ (by have h1 := hj.2.1; have h2 := HZ4.out; omega))) (fun j hj => by have h5 := hj.1.1; rw [← HV.out] at h5; exact h5)) (Nat.le_of_lt HZ.out), Kd.R_lower (Kd.R_mono (Kd.R_step (Kd.R_bound UX.out) (fun j hj _ => st4_heap w9 _ _ _ _ (by have h1 := hj.2.1; have h2 := HZ4.out; omega))) (fun _ _ => trivial)) (Nat.le_of_lt HZ.out), Kd.R_lower (Kd.R_mono (Kd.R_step (Kd.R_bound FX.out) (fun j hj _ => st4_heap w9 _ _ _ _ (by have h1 := hj.2.1; have h2 := HZ4.out; omega))) (fun _ _ => trivial)) (Nat.le_of_lt HZ.out), ?_⟩
     exact (((((HB3.out.trans (HB9.out.mono (Nat.le_of_lt HZ.out))).setCell (p := ⟨w.heap.size + 1, 0, none⟩) (by show w.heap.size ≤ w.heap.size + 1; omega) _).setCell (p := ⟨w.heap.size + 1, 1, none⟩) (by show w.heap.size ≤ w.heap.size + 1; omega) _).setCell (p := ⟨w.heap.size + 1, 2, none⟩) (by show w.heap.size ≤ w.heap.size + 1; omega) _).setCell (p := ⟨w.heap.size + 1, 3, none⟩) (by show w.heap.size ≤ w.heap.size + 1; omega) _))
   have e1 : (e2 == 0) = false := beq_eq_false_iff_ne.2 c0
   have e3 : (e2 != 0) = true := by simpa using c0
   have hA : some (([] : List (List Int)), (0 : Int), ([] : List Int), ([] : List Bool), (5 : Int)) = some (r1, r2, r3, r4, r5) := by rw [← hr2]; exact (if_neg c0).symm
   have hr : some (([] : List (List Int)), (0 : Int), ([] : List Int), ([] : List Bool), (5 : Int)) = some (r1, r2, r3, r4, r5) := hA
   obtain ⟨rfl, rfl, rfl, rfl, rfl⟩ : r1 = [] ∧ r2 = 0 ∧ r3 = [] ∧ r4 = [] ∧ r5 = 5 := by have := Option.some.inj hr; simp only [Prod.mk.injEq] at this; exact ⟨this.1.symm, this.2.1.symm, this.2.2.1.symm, this.2.2.2.1.symm, this.2.2.2.2.symm⟩
   clear hr hA hr2 c0
   go_wp2_with (go_at_call 24; (with_reducible refine (replace_Check.calls _ q0 l0_0 a0_1 _ q2 V _ q3 l0_3 _ _ ?q0 HQ0.out ?q2 HQ2.out ?q3 HQ3.out HE2.out).mono ?_); (case q0 => exact (Kd.S_reads' HSS.out).2.2); (case q2 => exact (Kd.R_reads' HU.out).2.2); (case q3 => exact (Kd.R_reads' HF.out).2.2); rintro e' w9 ⟨rfl, hb⟩; have SX := am (Kd.S_below HSS.out hb); have UX := am (Kd.R_below HU.out hb); have FX := am (Kd.R_below HF.out hb); have BXX := am (blk_below HBB.out hb); have HB9 := am (HBr.out.trans (hb.mono HBr.out.size)); clear hb t0 t1 t2 t3; obtain ⟨k0, k1, k2, k3⟩ := box4 HB9.out HZ4.out HB4.out; have kf0 := bf ((HB9.out.block _ HZ4.out).trans HB4.out) 0; have kf1 := bf ((HB9.out.block _ HZ4.out).trans HB4.out) 1; have kf2 := bf ((HB9.out.block _ HZ4.out).trans HB4.out) 2; have kf3 := bf ((HB9.out.block _ HZ4.out).trans HB4.out) 3; have t0 := (blk_cell BXX.out 0).trans rfl; have t1 := (blk_cell BXX.out 1).trans rfl; have t2 := (blk_cell BXX.out 2).trans rfl; have t3 := (blk_cell BXX.out 3).trans rfl)
   exact bodyPost_ret (v := .tuple #[.agg #[.slice none 0 0, .int .i64 0, .slice none 0 0, .slice none 0 0], .int .i64 5]) (by simp [results, Try.results31, go_sem, k0, k1, k2, k3]) rfl (BPost.zero ((((((HB3.out.trans (HB9.out.mono (Nat.le_of_lt HZ.out)))).setCell (p := ⟨w.heap.size + 1, 0, none⟩) (by show w.heap.size ≤ w.heap.size + 1; omega) _).setCell (p := ⟨w.heap.size + 1, 1, none⟩) (by show w.heap.size ≤ w.heap.size + 1; omega) _).setCell (p := ⟨w.heap.size + 1, 2, none⟩) (by show w.heap.size ≤ w.heap.size + 1; omega) _).setCell (p := ⟨w.heap.size + 1, 3, none⟩) (by show w.heap.size ≤ w.heap.size + 1; omega) _))
  obtain ⟨c, hc⟩ : ∃ c, c = l1.getD k z52 := ⟨_, rfl⟩
  have ed : l1.drop k = c :: l1.drop (k + 1) := by rw [hc]; exact EvKit.drop_cons l1 k z52 hlt
  have hA := HA.out
  rw [ed] at hA
  have erd : rd_T52 l1 (k : Int) = c := by rw [hc]; unfold rd_T52; rw [Int.toNat_natCast]
  obtain ⟨ad, eA, q0_, q1_, q2_⟩ := at_T52 (Kd.C_below (Kd.C_below HR1.out HB3.out) HBr.out) (k : Int) (by omega) (by omega)
  rw [erd] at q0_ q1_ q2_
  rw [Int.toNat_natCast] at q0_ q1_ q2_
  subst eA
  clear HA ed erd hc
  have HA := am hA
  clear hA
  obtain ⟨f0, f1, f2⟩ := c
  dsimp only at q0_ q1_ q2_
  go_upto_region 9 with fail
  have hb1 : Below wr.heap.size wr (wr.alloc (.cells #[.int .i64 f0, .int .i64 f1, .int .i64 f2] 52)) := below_alloc (Below.refl _ _) _
  have hba : Below W3.heap.size W3 (wr.alloc (.cells #[.int .i64 f0, .int .i64 f1, .int .i64 f2] 52)) := below_alloc HBr.out _
  have bc : (wr.alloc (.cells #[.int .i64 f0, .int .i64 f1, .int .i64 f2] 52)).heap[wr.heap.size]? = some (.cells #[.int .i64 f0, .int .i64 f1, .int .i64 f2] 52 (0, 0)) := blk_new wr _
  have hsa := HS.out.alloc (.cells #[.int .i64 f0, .int .i64 f1, .int .i64 f2] 52)
  have hSa := Kd.S_below HSS.out hb1
  have hUa := Kd.R_below HU.out hb1
  have hFa := Kd.R_below HF.out hb1
  have hBa : (wr.alloc (.cells #[.int .i64 f0, .int .i64 f1, .int .i64 f2] 52)).heap[w8.heap.size]? = some (.cells #[.slice V0 l0_0.length q0, .int .i64 a0_1, .slice V2 l0_2.length q2, .slice V3 l0_3.length q3] 33 (0, 0)) := blk_below HBB.out hb1
  have hga : W3.heap.size ≤ wr.heap.size := HBr.out.size
  have hgs : w8.heap.size + 1 < wr.heap.size := HS.out.lt
  generalize wr.alloc (.cells #[.int .i64 f0, .int .i64 f1, .int .i64 f2] 52) = wa at hb1 hba bc hsa hSa hUa hFa hBa ⊢
  generalize wr.heap.size = gc at bc hga hgs ⊢
  clear hb1 HS HSS HU HF HBB HBr
  have HBr := am hba
  have BC := am bc
  have HS := am hsa
  have HSS := am hSa
  have HU := am hUa
  have HF := am hFa
  have HBB := am hBa
  have HGA := am (And.intro hga hgs)
  clear hba bc hsa hSa hUa hFa hBa hga hgs
  obtain ⟨g0, g1, g2, g3⟩ := box4 HBr.out HZ.out HBX.out
  obtain ⟨k0, k1, k2, k3⟩ := box4 HBr.out HZ4.out HB4.out
  have kf0 := bf ((HBr.out.block _ HZ4.out).trans HB4.out) 0
  have kf1 := bf ((HBr.out.block _ HZ4.out).trans HB4.out) 1
  have kf2 := bf ((HBr.out.block _ HZ4.out).trans HB4.out) 2
  have kf3 := bf ((HBr.out.block _ HZ4.out).trans HB4.out) 3
  have x0 : wa.cell? ⟨gc, 0, none⟩ = some (.int .i64 f0) := (blk_cell BC.out 0).trans rfl
  have x1 : wa.cell? ⟨gc, 1, none⟩ = some (.int .i64 f1) := (blk_cell BC.out 1).trans rfl
  have x2 : wa.cell? ⟨gc, 2, none⟩ = some (.int .i64 f2) := (blk_cell BC.out 2).trans rfl
  have hA := HA.out
  clear HA q0_ q1_ q2_
  by_cases h1 : f0 < 0
  ·rw [aplL, if_pos (Or.inl h1)] at hA
   have hr : some (([] : List (List Int)), (0 : Int), ([] : List Int), ([] : List Bool), (6 : Int)) = some (r1, r2, r3, r4, r5) := hA
   obtain ⟨rfl, rfl, rfl, rfl, rfl⟩ : r1 = [] ∧ r2 = 0 ∧ r3 = [] ∧ r4 = [] ∧ r5 = 6 := by have := Option.some.inj hr; simp only [Prod.mk.injEq] at this; exact ⟨this.1.symm, this.2.1.symm, this.2.2.1.symm, this.2.2.2.1.symm, this.2.2.2.2.symm⟩
   clear hr hA
   go_wp2_with fail
   exact bodyPost_ret (v := .tuple #[.agg #[.slice none 0 0, .int .i64 0, .slice none 0 0, .slice none 0 0], .int .i64 6]) (by simp [results, Try.results31, go_sem, k0, k1, k2, k3]) rfl (BPost.zero ((((((HB3.out.trans (HBr.out.mono (Nat.le_of_lt HZ.out)))).setCell (p := ⟨w.heap.size + 1, 0, none⟩) (by show w.heap.size ≤ w.heap.size + 1; omega) _).setCell (p := ⟨w.heap.size + 1, 1, none⟩) (by show w.heap.size ≤ w.heap.size + 1; omega) _).setCell (p := ⟨w.heap.size + 1, 2, none⟩) (by show w.heap.size ≤ w.heap.size + 1; omega) _).setCell (p := ⟨w.heap.size + 1, 3, none⟩) (by show w.heap.size ≤ w.heap.size + 1; omega) _))
  by_cases h2 : f0 ≥ (l0_0.length : Int)
  ·rw [aplL, if_pos (Or.inr h2)] at hA
   have hr : some (([] : List (List Int)), (0 : Int), ([] : List Int), ([] : List Bool), (6 : Int)) = some (r1, r2, r3, r4, r5) := hA
   obtain ⟨rfl, rfl, rfl, rfl, rfl⟩ : r1 = [] ∧ r2 = 0 ∧ r3 = [] ∧ r4 = [] ∧ r5 = 6 := by have := Option.some.inj hr; simp only [Prod.mk.injEq] at this; exact ⟨this.1.symm, this.2.1.symm, this.2.2.1.symm, this.2.2.2.1.symm, this.2.2.2.2.symm⟩
   clear hr hA
   have h3 : 0 ≤ f0 := by omega
   have h4 : (l0_0.length : Int) ≤ f0 := h2
   clear h1 h2
   go_wp2_with fail
   exact bodyPost_ret (v := .tuple #[.agg #[.slice none 0 0, .int .i64 0, .slice none 0 0, .slice none 0 0], .int .i64 6]) (by simp [results, Try.results31, go_sem, k0, k1, k2, k3]) rfl (BPost.zero ((((((HB3.out.trans (HBr.out.mono (Nat.le_of_lt HZ.out)))).setCell (p := ⟨w.heap.size + 1, 0, none⟩) (by show w.heap.size ≤ w.heap.size + 1; omega) _).setCell (p := ⟨w.heap.size + 1, 1, none⟩) (by show w.heap.size ≤ w.heap.size + 1; omega) _).setCell (p := ⟨w.heap.size + 1, 2, none⟩) (by show w.heap.size ≤ w.heap.size + 1; omega) _).setCell (p := ⟨w.heap.size + 1, 3, none⟩) (by show w.heap.size ≤ w.heap.size + 1; omega) _))
  obtain ⟨s, rfl⟩ : ∃ s : Nat, f0 = (s : Int) := ⟨f0.toNat, by omega⟩
  have hs : s < l0_0.length := by omega
  rw [aplL, if_neg (show ¬ ((s : Int) < 0 ∨ (s : Int) ≥ (l0_0.length : Int)) by omega), Int.toNat_natCast] at hA
  clear h1 h2
  obtain ⟨adu, eAu, hcu⟩ := at_I (Kd.C_below (Kd.C_below HR2.out HB3.out) HBr.out) s (by omega)
  subst eAu
  obtain ⟨u, hu⟩ : ∃ u, u = l0_2.getD s 0 := ⟨_, rfl⟩
  rw [← hu] at hcu hA
  have HUU := am hu
  clear hu
  have hsl2 : s < l0_2.length := by omega
  have hwf : wfi (s : Int) := wf64.2 (by omega)
  have hrun := fun q => (HS.out.drewN q).run_get Try.underlying3 Try.underlying80 Try.underlying4 (zeroB _) hwf
  by_cases h3 : u = f1
  rotate_left
  ·have e1 : (u == f1) = false := beq_eq_false_iff_ne.2 h3
   have e2 : (u != f1) = true := by simpa using h3
   rw [if_pos (Or.inl h3)] at hA
   have hr : some (([] : List (List Int)), (0 : Int), ([] : List Int), ([] : List Bool), (10 : Int)) = some (r1, r2, r3, r4, r5) := hA
   obtain ⟨rfl, rfl, rfl, rfl, rfl⟩ : r1 = [] ∧ r2 = 0 ∧ r3 = [] ∧ r4 = [] ∧ r5 = 10 := by have := Option.some.inj hr; simp only [Prod.mk.injEq] at this; exact ⟨this.1.symm, this.2.1.symm, this.2.2.1.symm, this.2.2.2.1.symm, this.2.2.2.2.symm⟩
   clear hr hA h3 hrun
   go_wp2_with fail
   go_quiet (fail)
   go_wp2_with fail
   exact bodyPost_ret (v := .tuple #[.agg #[.slice none 0 0, .int .i64 0, .slice none 0 0, .slice none 0 0], .int .i64 10]) (by simp [results, Try.results31, go_sem, k0, k1, k2, k3]) rfl (BPost.zero ((((((HB3.out.trans ((wN HBr.out _).mono (Nat.le_of_lt HZ.out)))).setCell (p := ⟨w.heap.size + 1, 0, none⟩) (by show w.heap.size ≤ w.heap.size + 1; omega) _).setCell (p := ⟨w.heap.size + 1, 1, none⟩) (by show w.heap.size ≤ w.heap.size + 1; omega) _).setCell (p := ⟨w.heap.size + 1, 2, none⟩) (by show w.heap.size ≤ w.heap.size + 1; omega) _).setCell (p := ⟨w.heap.size + 1, 3, none⟩) (by show w.heap.size ≤ w.heap.size + 1; omega) _))
  subst h3
  by_cases hD : (s : Int) ∈ D
  ·rw [if_pos (Or.inr hD)] at hA
   have hr : some (([] : List (List Int)), (0 : Int), ([] : List Int), ([] : List Bool), (10 : Int)) = some (r1, r2, r3, r4, r5) := hA
   obtain ⟨rfl, rfl, rfl, rfl, rfl⟩ : r1 = [] ∧ r2 = 0 ∧ r3 = [] ∧ r4 = [] ∧ r5 = 10 := by have := Option.some.inj hr; simp only [Prod.mk.injEq] at this; exact ⟨this.1.symm, this.2.1.symm, this.2.2.1.symm, this.2.2.2.1.symm, this.2.2.2.2.symm⟩
   clear hr hA
   have hrn : ∀ q, (Instr.lookup 80 (.map (some (w8.heap.size + 1))) (.int .i64 (s : Int)) false).run Try.prog (wa.drewN q) = .ok (.bool true) (wa.drewN q) := fun q => by rw [hrun q, decide_eq_true hD]
   clear hrun hD
   go_wp2_with fail
   go_quiet (fail)
   go_wp2_with fail
   exact bodyPost_ret (v := .tuple #[.agg #[.slice none 0 0, .int .i64 0, .slice none 0 0, .slice none 0 0], .int .i64 10]) (by simp [results, Try.results31, go_sem, k0, k1, k2, k3]) rfl (BPost.zero ((((((HB3.out.trans ((wN HBr.out _).mono (Nat.le_of_lt HZ.out)))).setCell (p := ⟨w.heap.size + 1, 0, none⟩) (by show w.heap.size ≤ w.heap.size + 1; omega) _).setCell (p := ⟨w.heap.size + 1, 1, none⟩) (by show w.heap.size ≤ w.heap.size + 1; omega) _).setCell (p := ⟨w.heap.size + 1, 2, none⟩) (by show w.heap.size ≤ w.heap.size + 1; omega) _).setCell (p := ⟨w.heap.size + 1, 3, none⟩) (by show w.heap.size ≤ w.heap.size + 1; omega) _))
  rw [if_neg (fun h => h.elim (fun h => h rfl) hD)] at hA
  have hrn : ∀ q, (Instr.lookup 80 (.map (some (w8.heap.size + 1))) (.int .i64 (s : Int)) false).run Try.prog (wa.drewN q) = .ok (.bool false) (wa.drewN q) := fun q => by rw [hrun q, decide_eq_false hD]
  clear hrun hD
  obtain ⟨adf, eAf, hcf⟩ := at_B (Kd.C_below (Kd.C_below HR3.out HB3.out) HBr.out) s (by omega)
  subst eAf
  cases hf : l0_3.getD s false with
  | true =>
   rw [hf] at hcf hA
   rw [if_pos rfl] at hA
   clear hf
   have hr : some (([] : List (List Int)), (0 : Int), ([] : List Int), ([] : List Bool), (8 : Int)) = some (r1, r2, r3, r4, r5) := hA
   obtain ⟨rfl, rfl, rfl, rfl, rfl⟩ : r1 = [] ∧ r2 = 0 ∧ r3 = [] ∧ r4 = [] ∧ r5 = 8 := by have := Option.some.inj hr; simp only [Prod.mk.injEq] at this; exact ⟨this.1.symm, this.2.1.symm, this.2.2.1.symm, this.2.2.2.1.symm, this.2.2.2.2.symm⟩
   clear hr hA
   go_wp2_with fail
   go_quiet (fail)
   go_wp2_with fail
   exact bodyPost_ret (v := .tuple #[.agg #[.slice none 0 0, .int .i64 0, .slice none 0 0, .slice none 0 0], .int .i64 8]) (by simp [results, Try.results31, go_sem, k0, k1, k2, k3]) rfl (BPost.zero ((((((HB3.out.trans ((wN HBr.out _).mono (Nat.le_of_lt HZ.out)))).setCell (p := ⟨w.heap.size + 1, 0, none⟩) (by show w.heap.size ≤ w.heap.size + 1; omega) _).setCell (p := ⟨w.heap.size + 1, 1, none⟩) (by show w.heap.size ≤ w.heap.size + 1; omega) _).setCell (p := ⟨w.heap.size + 1, 2, none⟩) (by show w.heap.size ≤ w.heap.size + 1; omega) _).setCell (p := ⟨w.heap.size + 1, 3, none⟩) (by show w.heap.size ≤ w.heap.size + 1; omega) _))
  | false =>
   rw [hf] at hcf hA
   rw [if_neg (by decide)] at hA
   clear hf
   obtain ⟨adr, Ar, cr, eAr, hcr, hcl, hCr⟩ := at_L1 (Kd.C_below (Kd.C_below HR0.out HB3.out) HBr.out) (s : Int) (by omega) (by omega)
   subst eAr
   rw [Int.toNat_natCast] at hcr
   have HRL := am (row_len HZ6.out hs)
   have HCR := am hCr
   clear hCr
   cases hm : decide (f2 ∈ rd_L1 l0_0 (s : Int)) with
   | false =>
    have hm2 : ¬ f2 ∈ l0_0.getD s [] := by rw [row_eq] at hm; exact of_decide_eq_false hm
    rw [if_pos hm2] at hA
    have hr : some (([] : List (List Int)), (0 : Int), ([] : List Int), ([] : List Bool), (1 : Int)) = some (r1, r2, r3, r4, r5) := hA
    obtain ⟨rfl, rfl, rfl, rfl, rfl⟩ : r1 = [] ∧ r2 = 0 ∧ r3 = [] ∧ r4 = [] ∧ r5 = 1 := by have := Option.some.inj hr; simp only [Prod.mk.injEq] at this; exact ⟨this.1.symm, this.2.1.symm, this.2.2.1.symm, this.2.2.2.1.symm, this.2.2.2.2.symm⟩
    clear hr hA
    have HM := am hm
    clear hm hm2
    go_wp2_with fail
    go_quiet (fail)
    go_wp2_with fail
    go_quiet ((go_at_call 44; refine (contains_is f2 _ (Kd.C_below HCR.out (by repeat (first | (with_reducible first | exact Below.refl _ _ | apply below_alloc | apply wN | apply below_drew1) | exact Below.refl _ _))) hcl HRL.out).mono ?_; rintro e w' ⟨rfl, nd, rfl⟩; rw [HM.out]; first | exact ⟨rfl, _, World.drewN_drewN _ _ _⟩ | exact ⟨rfl, _, Eq.trans (World.drewN_drewN _ _ _) (congrArg (World.drewN _) (Nat.add_assoc _ _ _))⟩))
    go_wp2_with fail
    exact bodyPost_ret (v := .tuple #[.agg #[.slice none 0 0, .int .i64 0, .slice none 0 0, .slice none 0 0], .int .i64 1]) (by simp [results, Try.results31, go_sem, k0, k1, k2, k3]) rfl (BPost.zero ((((((HB3.out.trans ((wN HBr.out _).mono (Nat.le_of_lt HZ.out)))).setCell (p := ⟨w.heap.size + 1, 0, none⟩) (by show w.heap.size ≤ w.heap.size + 1; omega) _).setCell (p := ⟨w.heap.size + 1, 1, none⟩) (by show w.heap.size ≤ w.heap.size + 1; omega) _).setCell (p := ⟨w.heap.size + 1, 2, none⟩) (by show w.heap.size ≤ w.heap.size + 1; omega) _).setCell (p := ⟨w.heap.size + 1, 3, none⟩) (by show w.heap.size ≤ w.heap.size + 1; omega) _))
   | true =>
    have hm2 : f2 ∈ l0_0.getD s [] := by rw [row_eq] at hm; exact of_decide_eq_true hm
    rw [if_neg (fun hn => hn hm2)] at hA
    have HM := am hm
    have HA := am hA
    have HMX := am (show k < maxLen by unfold maxLen; omega)
    have HWF := am hwf
    obtain ⟨gu, cu, eu, hgu, hgl, cellsu, hcu⟩ := Kd.R_form HU.out (by omega)
    rw [hV] at eu
    cases eu
    obtain ⟨cc, hccl, hcM, hcc, hfr⟩ := Kd.R_elem HU.out (0 : Int) (s : Int) (by omega) (by omega)
    obtain rfl := hcM
    have y0 := hcc 0 _ rfl
    simp only [Kd.int, Kd.scalar, Nat.mul_one, Nat.add_zero, Int.toNat_natCast] at y0
    have Y0 := am y0
    have HCU := am hcu
    have HGU := am hgu
    have NBU := am (R_ne_set HU.out HS.out)
    have NBF := am (R_ne_set HF.out HS.out)
    clear hm hm2 hA y0 hcc hfr hccl hcu hgu hgl
    go_wp2_with fail
    go_quiet (fail)
    go_wp2_with fail
    go_quiet ((go_at_call 44; refine (contains_is f2 _ (Kd.C_below HCR.out (by repeat (first | (with_reducible first | exact Below.refl _ _ | apply below_alloc | apply wN | apply below_drew1) | exact Below.refl _ _))) hcl HRL.out).mono ?_; rintro e w' ⟨rfl, nd, rfl⟩; rw [HM.out]; first | exact ⟨rfl, _, World.drewN_drewN _ _ _⟩ | exact ⟨rfl, _, Eq.trans (World.drewN_drewN _ _ _) (congrArg (World.drewN _) (Nat.add_assoc _ _ _))⟩))
    go_wp2_with (at_mapUpdate; (refine wpList_set_put _ rfl _ _ _ 80 rfl 3 4 Try.underlying3 Try.underlying80 Try.underlying4 _ k D rfl (HS.out.drewN _) HMX.out (s : Int) rfl rfl HWF.out ?_; intro w1 hs1 ht1; have HS1 := am hs1; have HT1 := am ht1.grown; clear hs1 ht1; have U1 := am (Kd.R_grown1 (Kd.R_drewN HU.out _) rfl HT1.out NBU.out); have F1 := am (Kd.R_grown1 (Kd.R_drewN HF.out _) rfl HT1.out NBF.out); have S1 := am (Kd.S_grown (Kd.S_drewN HSS.out _) HT1.out (fun j hj e => by have h5 := hj.2; injection e; omega)); have BX1 := am (blk_grown (blk_drewN HBB.out _) HT1.out (fun e => by injection e; omega)); have BC1 := blk_grown (blk_drewN BC.out _) HT1.out (fun e => by have h5 := HGA.out.2; injection e; omega); have BU1 := blk_grown (blk_drewN HCU.out _) HT1.out (fun e => NBU.out e.symm); have y0 := (blk_cell BU1 s).trans ((blk_cell HCU.out s).symm.trans Y0.out); have y1 := bf BU1 s; have x0 := (blk_cell BC1 0).trans rfl; have x2 := (blk_cell BC1 2).trans rfl; have t2 := (blk_cell BX1.out 2).trans rfl; have NGU := am (blk_ne BX1.out BU1 (by decide)); have HBr1 := am ((wN HBr.out _).grown HT1.out (Nat.le_trans HBr.out.size (Nat.le_refl _)) (fun j e => by have h5 := H98.out; cases e; omega)); clear BC1 BU1))
    have hp0 := Kd.R_putg U1.out (s : Int) f2
    rw [Int.toNat_natCast] at hp0
    go_roundw
    case rel =>
     exact ⟨k + 1, D ++ [(s : Int)], V.set s f2, by omega, by go_num, by rw [List.length_set]; exact hV, ⟨HS1.out.setCell (fun e => NBU.out (by rw [e]; rfl)) _⟩, ⟨Kd.S_grown S1.out hp0.2 (fun j hj => hj.1)⟩, ⟨hp0.1⟩, ⟨Kd.R_over' F1.out (Kd.R_typed U1.out) (by decide) hp0.2⟩, ⟨blk_grown BX1.out hp0.2 (fun e => NGU.out (by injection e))⟩, ⟨HBr1.out.grown hp0.2 HBr1.out.size (fun j e => by cases e; exact HGU.out)⟩, HA⟩
    case measure => simp [intOf]; omega
end

def w_back.l0 : Nat → List (S69) → List (S52) → Int → Option ((List (S52)))
 | 0, _, _, _ => none
 | k + 1, x0, x3, x4 => if x4 < (x0.length : Int) then (if 0 ≤ x4 then (if x3.length < 5864062014805 then (w_back.l0 k x0 (x3 ++ [(⟨(rd_T69 x0 x4).f0, (rd_T69 x0 x4).f1, (rd_T69 x0 x4).f2⟩ : S52)]) (wrap64 (x4 + 1))) else (none)) else (none)) else (some x3)
def w_back.f (k : Nat) (l0 : List (S69)) : Option ((List (S52))) := w_back.l0 k l0 (([] : List (S52))) 0
set_option maxHeartbeats 8000000 in
set_option maxRecDepth 100000 in
theorem w_back.calls (k : Nat) (A0 : Option Addr) (c0 : Nat) (l0 : List (S69)) (r : List (S52)) (w : World) (hr0 : Kd.C k69 w A0 l0.length l0) (hc0 : l0.length ≤ c0) (h : w_back.f k l0 = some r) :
  Calls Try.prog 32 #[.slice A0 l0.length c0] w fun e w' => ∃ v0_ : Value, e = .returned (v0_) ∧ Kd.R k52 52 w' w.heap.size (fun _ => True) v0_ r ∧ Below w.heap.size w w' := by
 have hu69 := Try.underlying69
 have HR0 := am hr0
 have HC0 := am hc0
 clear hr0 hc0
 have HB := am (Below.refl w.heap.size w)
 have H : (w_back.l0 k l0 (([] : List (S52))) 0) = some r := h
 clear h
 obtain ⟨y626, hy626⟩ : ∃ y_ : List (S52), y_ = (([] : List (S52))) := ⟨_, rfl⟩
 replace H : (w_back.l0 k l0 y626 0) = some r := by first | (rw [hy626]; with_reducible exact H) | (have H2_ := (Option.bind_some _ _).symm.trans H; rw [hy626]; with_reducible exact H2_) | (have H2_ := (Option.bind_some _ _).symm.trans H; with_reducible exact H2_) | with_reducible exact H | (rw [hy626]; exact H) | exact H
 have Ny626 := am hy626
 clear hy626
 have H' := am H
 clear H
 go_enter Try.func32, Try.ntmps32
 go_wp2_with (first | ((with_reducible refine gate_dst (N := 5) rfl ?_); refine Kd.R_lit k52 _ 52 ?hg (N := 5) ?hd (xs := ([] : List (S52))) (inner := []) (ok := fun _ => True) (okp := fun _ => True) ?hr ?hp (fun _ hk => hk) trivial (Below.refl _ _) (Nat.le_refl _) (by simp) ?_; (case hd | hg => rfl); (case hr => first | (go_simp; done) | (go_simp; rfl)); (case hp => exact (Reps.none _ _)); intro v627 w2 ho3 hb hg_ hnew_; clear hg_ hnew_; (first | rw [← Ny626.out] at ho3 | (simp only [Int.reduceToNat] at ho3; rw [← Ny626.out] at ho3)); have HO628 := am (Kd.R_lower ho3 (below_size (fW HB.out))); replace HB := bS HB hb; clear hb ho3))
 go_loopg [3, 4] k (fun kq v3 v4 w' => ∃ (x3_1 : List (S52)) (x4_1 : Int), v4 = .int .i64 x4_1 ∧ Aside0 (w_back.l0 kq l0 x3_1 x4_1 = some r) ∧ Aside0 (kq ≤ k) ∧ Aside0 (Kd.R k52 52 w' w.heap.size (fun _ => True) v3 x3_1) ∧ Aside0 (Below w.heap.size w w'))
 case atStart => exact ⟨(y626), (0), sqD, H', ⟨Nat.le_refl _⟩, ⟨fR HO628.out⟩, ⟨fW HB.out⟩⟩
 case round =>
  clear H'
  try clear p2;try clear c3
  obtain ⟨x3_1, x4_1, rfl, HA, HK1, HO_3, HB⟩ := hrel
  cases gk with
  | zero => exact absurd HA.out (by simp [w_back.l0])
  | succ k1 =>
   have H := HA.out
   clear HA
   simp only [w_back.l0] at H
   by_cases c4 : x4_1 < (l0.length : Int)
   ·rw [if_pos c4] at H
    have c4b0 : decide (x4_1 < (l0.length : Int)) = true := decide_eq_true c4
    clear c4
    by_cases c5 : 0 ≤ x4_1
    rotate_left
    ·rw [if_neg c5] at H
     exact absurd H (by simp)
    rw [if_pos c5] at H
    have c5b0 : decide (0 ≤ x4_1) = true := decide_eq_true c5
    clear c5
    by_cases c6 : x3_1.length < 5864062014805
    rotate_left
    ·rw [if_neg c6] at H
     exact absurd H (by simp)
    rw [if_pos c6] at H
    have LMc6 := am c6
    clear c6
    obtain ⟨y630, hy630⟩ : ∃ y_ : List (S52), y_ = (x3_1 ++ [(⟨(rd_T69 l0 x4_1).f0, (rd_T69 l0 x4_1).f1, (rd_T69 l0 x4_1).f2⟩ : S52)]) := ⟨_, rfl⟩
    replace H : (w_back.l0 k1 l0 y630 (wrap64 (x4_1 + 1))) = some r := by first | (rw [hy630]; with_reducible exact H) | (have H2_ := (Option.bind_some _ _).symm.trans H; rw [hy630]; with_reducible exact H2_) | (have H2_ := (Option.bind_some _ _).symm.trans H; with_reducible exact H2_) | with_reducible exact H | (rw [hy630]; exact H) | exact H
    have Ny630 := am hy630
    clear hy630
    have H' := am H
    clear H
    have p629 : 0 ≤ (x4_1 : Int) := of_decide_eq_true (by assumption)
    have q629 : x4_1 < (l0.length : Int) := of_decide_eq_true (by assumption)
    obtain ⟨ad629, e629, hx629_0, hx629_1, hx629_2⟩ := at_T69 HR0.out x4_1 p629 q629
    cases e629
    replace hx629_0 := cl HB hx629_0
    replace hx629_1 := cl HB hx629_1
    replace hx629_2 := cl HB hx629_2
    replace p629 := eq_true p629
    replace q629 := eq_true q629
    go_wp2_with (first | ((with_reducible refine gate_builtin (b := .append) (xs := #[.tmp 12, .tmp 17]) rfl ?_); at_builtin; refine Kd.R_append k52 (w0 := w) w.heap.size rfl (.tmp 12) (.tmp 17) 29 52 (.agg #[(.int .i64 0), (.int .i64 0), (.int .i64 0)]) 24 rfl Try.underlying29 info52 rfl (by decide) (by omega) u3 x3_1 (⟨(rd_T69 l0 x4_1).f0, (rd_T69 l0 x4_1).f1, (rd_T69 l0 x4_1).f2⟩ : S52) [.int .i64 ((rd_T69 l0 x4_1).f0), .int .i64 ((rd_T69 l0 x4_1).f1), .int .i64 ((rd_T69 l0 x4_1).f2)] (fun _ => True) (fun _ => False) rfl rfl ?aP (fun _ hk => hk.elim) ?aF ?aO ?aB ?aS ?aL ?_; (case aP => exact k52_mkM _ _ _ (⟨(rd_T69 l0 x4_1).f0, (rd_T69 l0 x4_1).f1, (rd_T69 l0 x4_1).f2⟩ : S52)); (case aB => exact (fW HB.out)); (case aF => exact (fun _ _ => trivial)); (case aO => exact (fR HO_3.out)); (case aS => exact (below_size (fW HB.out))); (case aL => have := LMc6.out; omega); intro v631 w7 ho hb hg hat; rw [← Ny630.out] at ho; replace HB := am (hb); have HO632 := am (ho); clear HO_3 ho hb hg hat))
    go_roundg k1
    case measure => have := HK1.out; omega
    case rel => exact ⟨(y630), (wrap64 (x4_1 + 1)), sqD, H', ⟨by have := HK1.out; omega⟩, ⟨fR HO632.out⟩, ⟨fW HB.out⟩⟩
   ·rw [if_neg c4] at H
    have c4b0 : decide (x4_1 < (l0.length : Int)) = false := decide_eq_false c4
    clear c4
    obtain rfl := Option.some.inj H
    go_wp2
    go_ret
    exact ⟨_, sqE, fR HO_3.out, fW HB.out⟩

end Go.Proofs.Ytkeomlmlimkebaa.QA
