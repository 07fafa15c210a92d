import Derived.Test.YtmmdikhmlmoolaaZQAx0
import Derived.Test.YtmmdikhmlmoolaaZQAx16
namespace Go.Proofs.Ytmmdikhmlmoolaa.QA
open Go.RowKit Go.Proofs.YtmmdikhmlmoolaaW.PrintWords Go.Proofs.YtmmdikhmlmoolaaW.PrintLast Go.Proofs.YtmmdikhmlmoolaaW.PrintMore
open Go.Proofs.YtmmdikhmlmoolaaW.PrintWords renaming blk_frozen → bf, gate_dst → gd, gate_callee → gc, box_event → be
open Aside0 renaming mk → am
attribute [local go_sem] max2_int min2_int max_two min_two max_three min_three max_four min_four
set_option linter.unusedVariables false
set_option linter.unusedSimpArgs false

def r_Volume.f (a0_0 : Int) (a0_1 : Int) (a0_2 : Int) (a0_3 : Int) (a0_4 : Int) (a0_5 : Int) : Option (Int) := (r_Size.f a0_0 a0_1 a0_2 a0_3 a0_4 a0_5).bind fun bt398 => (some (wrap64 ((wrap64 (bt398.1 * bt398.2.1)) * bt398.2.2)))
set_option maxHeartbeats 8000000 in
set_option maxRecDepth 100000 in
theorem r_Volume.calls (a0_0 : Int) (a0_1 : Int) (a0_2 : Int) (a0_3 : Int) (a0_4 : Int) (a0_5 : Int) (r : Int) (w : World) (h : r_Volume.f a0_0 a0_1 a0_2 a0_3 a0_4 a0_5 = some r) :
  Calls Try.prog 24 #[.agg #[.int .i64 a0_0, .int .i64 a0_1, .int .i64 a0_2, .int .i64 a0_3, .int .i64 a0_4, .int .i64 a0_5]] w fun e w' => e = .returned (.int .i64 r) ∧ Below w.heap.size w w' := by
 have hu25 := Try.underlying25
 have hu23 := Try.underlying23
 have HB := am (Below.refl w.heap.size w)
 have H : ((r_Size.f a0_0 a0_1 a0_2 a0_3 a0_4 a0_5).bind fun bt398 => (some (wrap64 ((wrap64 (bt398.1 * bt398.2.1)) * bt398.2.2)))) = some r := h
 clear h
 replace H := Option.bind_eq_some_iff.mp H
 obtain ⟨⟨t398, t399, t400⟩, A20, H⟩ := H
 replace H : (some (wrap64 ((wrap64 (t398 * t399)) * t400))) = some r := H
 have A2 := am A20
 clear A20
 obtain rfl := Option.some.inj H
 go_enter Try.func24, Try.ntmps24
 go_wp2_with (first | ((with_reducible refine gd (N := 1) rfl ?_); refine be ?hg (N := 1) ?hd (cs := #[.int .i64 a0_0, .int .i64 a0_1, .int .i64 a0_2, .int .i64 a0_3, .int .i64 a0_4, .int .i64 a0_5]) (t := 25) ?hr ?_; (case hd | hg => rfl); (case hr => first | (go_simp; done) | (go_simp; rfl)); intro gb397 hg w3 hbox hb; have BK397 := am hbox; have GW397 := sG HB hg; have GE397 := sG HB hg; replace HB := bS HB hb; clear hb hbox hg; obtain ⟨_, _, _, _, _, _, _, _, _, _, _, _⟩ := zC6 BK397) | ((with_reducible refine gc (f := 22) rfl ?_); refine goesL_ (some 5) rfl rfl Try.func22 (by kernel_rfl) rfl #[.agg #[.int .i64 a0_0, .int .i64 a0_1, .int .i64 a0_2, .int .i64 a0_3, .int .i64 a0_4, .int .i64 a0_5]] rfl (by (try simp only [pml]); first | done | rfl | (simp only [pdt]; rfl)) ?_; (with_reducible refine (r_Size.calls a0_0 a0_1 a0_2 a0_3 a0_4 a0_5 t398 t399 t400 _ A2.out).mono ?_); rintro e w5 ⟨rfl, hb⟩; refine ⟨_, rfl, ?_⟩; replace BK397 := bB BK397 hb; replace HB := bS HB hb; (try clear hb); (try clear hb2); (try clear hk); (try clear hi)) | ((with_reducible refine gd (N := 3) rfl ?_); refine be ?hg (N := 3) ?hd (cs := #[.int .i64 0, .int .i64 0, .int .i64 0]) (t := 23) ?hr ?_; (case hd | hg => rfl); (case hr => first | (go_simp; done) | (go_simp; rfl)); intro gb401 hg w6 hbox hb; have BK401 := am hbox; have GW401 := sG HB hg; have GE401 := sG HB hg; replace HB := bS HB hb; have NB397_401 := nL BK397 hg; have NB401_397 := nG BK397 hg; replace BK397 := bB BK397 hb; clear hb hbox hg; have hnb7 := NB401_397.out; have hnc7 := NB397_401.out; obtain ⟨_, _, _, _, _, _⟩ := zC3 BK401))
 go_ret
 exact ⟨sqE, fW HB.out⟩

def w_both.f (k : Nat) (a0_0 : Int) (a0_1 : Int) (a0_2 : Int) (a0_3 : Int) (a0_4 : Int) (a0_5 : Int) (a1_0 : Int) (a1_1 : Int) (a1_2 : Int) (a1_3 : Int) (a1_4 : Int) (a1_5 : Int) : Option (Int) := (r_Check.f k a0_0 a0_1 a0_2 a0_3 a0_4 a0_5).bind fun t404 => (if t404 = 0 then ((r_Check.f k a1_0 a1_1 a1_2 a1_3 a1_4 a1_5).bind fun t405 => (some t405)) else (some t404))
set_option maxHeartbeats 8000000 in
set_option maxRecDepth 100000 in
theorem w_both.calls (k : Nat) (a0_0 : Int) (a0_1 : Int) (a0_2 : Int) (a0_3 : Int) (a0_4 : Int) (a0_5 : Int) (a1_0 : Int) (a1_1 : Int) (a1_2 : Int) (a1_3 : Int) (a1_4 : Int) (a1_5 : Int) (r : Int) (w : World) (h : w_both.f k a0_0 a0_1 a0_2 a0_3 a0_4 a0_5 a1_0 a1_1 a1_2 a1_3 a1_4 a1_5 = some r) :
  Calls Try.prog 27 #[.agg #[.int .i64 a0_0, .int .i64 a0_1, .int .i64 a0_2, .int .i64 a0_3, .int .i64 a0_4, .int .i64 a0_5], .agg #[.int .i64 a1_0, .int .i64 a1_1, .int .i64 a1_2, .int .i64 a1_3, .int .i64 a1_4, .int .i64 a1_5]] w fun e w' => e = .returned (.int .i64 r) ∧ Below w.heap.size w w' := by
 have hu25 := Try.underlying25
 have HB := am (Below.refl w.heap.size w)
 have H : ((r_Check.f k a0_0 a0_1 a0_2 a0_3 a0_4 a0_5).bind fun t404 => (if t404 = 0 then ((r_Check.f k a1_0 a1_1 a1_2 a1_3 a1_4 a1_5).bind fun t405 => (some t405)) else (some t404))) = some r := h
 clear h
 replace H := Option.bind_eq_some_iff.mp H
 obtain ⟨t404, A30, H⟩ := H
 replace H : (if t404 = 0 then ((r_Check.f k a1_0 a1_1 a1_2 a1_3 a1_4 a1_5).bind fun t405 => (some t405)) else (some t404)) = some r := H
 have A3 := am A30
 clear A30
 by_cases c4 : t404 = 0
 ·rw [if_pos c4] at H
  have c4b0 : (t404 == 0) = true := beq_iff_eq.mpr c4
  have c4b1 : (t404 != 0) = false := bne_eq_false_iff_eq.mpr c4
  clear c4
  replace H := Option.bind_eq_some_iff.mp H
  obtain ⟨t405, A50, H⟩ := H
  replace H : (some t405) = some r := H
  have A5 := am A50
  clear A50
  obtain rfl := Option.some.inj H
  go_enter Try.func27, Try.ntmps27
  go_wp2_with (first | ((with_reducible refine gd (N := 2) rfl ?_); refine be ?hg (N := 2) ?hd (cs := #[.int .i64 a0_0, .int .i64 a0_1, .int .i64 a0_2, .int .i64 a0_3, .int .i64 a0_4, .int .i64 a0_5]) (t := 25) ?hr ?_; (case hd | hg => rfl); (case hr => first | (go_simp; done) | (go_simp; rfl)); intro gb402 hg w6 hbox hb; have BK402 := am hbox; have GW402 := sG HB hg; have GE402 := sG HB hg; replace HB := bS HB hb; clear hb hbox hg) | ((with_reducible refine gd (N := 3) rfl ?_); refine be ?hg (N := 3) ?hd (cs := #[.int .i64 a1_0, .int .i64 a1_1, .int .i64 a1_2, .int .i64 a1_3, .int .i64 a1_4, .int .i64 a1_5]) (t := 25) ?hr ?_; (case hd | hg => rfl); (case hr => first | (go_simp; done) | (go_simp; rfl)); intro gb403 hg w7 hbox hb; have BK403 := am hbox; have GW403 := sG HB hg; have GE403 := sG HB hg; replace HB := bS HB hb; have NB402_403 := nL BK402 hg; have NB403_402 := nG BK402 hg; replace BK402 := bB BK402 hb; clear hb hbox hg; have hnb8 := NB402_403.out; have hnc8 := NB403_402.out; obtain ⟨_, _, _, _, _, _, _, _, _, _, _, _⟩ := zC6 BK402) | ((with_reducible refine gc (f := 19) rfl ?_); refine goesL_ (some 7) rfl rfl Try.func19 (by kernel_rfl) rfl #[.agg #[.int .i64 a0_0, .int .i64 a0_1, .int .i64 a0_2, .int .i64 a0_3, .int .i64 a0_4, .int .i64 a0_5]] rfl (by (try simp only [pml]); first | done | rfl | (simp only [pdt]; rfl)) ?_; (with_reducible refine (r_Check.calls k a0_0 a0_1 a0_2 a0_3 a0_4 a0_5 t404 _ A3.out).mono ?_); rintro e w10 ⟨rfl, hb⟩; refine ⟨_, rfl, ?_⟩; replace BK402 := bB BK402 hb; replace BK403 := bB BK403 hb; replace HB := bS HB hb; (try clear hb); (try clear hb2); (try clear hk); (try clear hi); obtain ⟨_, _, _, _, _, _, _, _, _, _, _, _⟩ := zC6 BK403) | ((with_reducible refine gc (f := 19) rfl ?_); refine goesL_ (some 12) rfl rfl Try.func19 (by kernel_rfl) rfl #[.agg #[.int .i64 a1_0, .int .i64 a1_1, .int .i64 a1_2, .int .i64 a1_3, .int .i64 a1_4, .int .i64 a1_5]] rfl (by (try simp only [pml]); first | done | rfl | (simp only [pdt]; rfl)) ?_; (with_reducible refine (r_Check.calls k a1_0 a1_1 a1_2 a1_3 a1_4 a1_5 t405 _ A5.out).mono ?_); rintro e w12 ⟨rfl, hb⟩; refine ⟨_, rfl, ?_⟩; replace BK402 := bB BK402 hb; replace BK403 := bB BK403 hb; replace HB := bS HB hb; (try clear hb); (try clear hb2); (try clear hk); (try clear hi)))
  go_ret
  exact ⟨sqE, fW HB.out⟩
 ·rw [if_neg c4] at H
  have c4b0 : (t404 == 0) = false := beq_eq_false_iff_ne.mpr c4
  have c4b1 : (t404 != 0) = true := bne_iff_ne.mpr c4
  obtain rfl := Option.some.inj H
  go_enter Try.func27, Try.ntmps27
  go_wp2_with (first | ((with_reducible refine gd (N := 2) rfl ?_); refine be ?hg (N := 2) ?hd (cs := #[.int .i64 a0_0, .int .i64 a0_1, .int .i64 a0_2, .int .i64 a0_3, .int .i64 a0_4, .int .i64 a0_5]) (t := 25) ?hr ?_; (case hd | hg => rfl); (case hr => first | (go_simp; done) | (go_simp; rfl)); intro gb402 hg w13 hbox hb; have BK402 := am hbox; have GW402 := sG HB hg; have GE402 := sG HB hg; replace HB := bS HB hb; clear hb hbox hg) | ((with_reducible refine gd (N := 3) rfl ?_); refine be ?hg (N := 3) ?hd (cs := #[.int .i64 a1_0, .int .i64 a1_1, .int .i64 a1_2, .int .i64 a1_3, .int .i64 a1_4, .int .i64 a1_5]) (t := 25) ?hr ?_; (case hd | hg => rfl); (case hr => first | (go_simp; done) | (go_simp; rfl)); intro gb403 hg w14 hbox hb; have BK403 := am hbox; have GW403 := sG HB hg; have GE403 := sG HB hg; replace HB := bS HB hb; have NB402_403 := nL BK402 hg; have NB403_402 := nG BK402 hg; replace BK402 := bB BK402 hb; clear hb hbox hg; have hnb15 := NB402_403.out; have hnc15 := NB403_402.out; obtain ⟨_, _, _, _, _, _, _, _, _, _, _, _⟩ := zC6 BK402) | ((with_reducible refine gc (f := 19) rfl ?_); refine goesL_ (some 7) rfl rfl Try.func19 (by kernel_rfl) rfl #[.agg #[.int .i64 a0_0, .int .i64 a0_1, .int .i64 a0_2, .int .i64 a0_3, .int .i64 a0_4, .int .i64 a0_5]] rfl (by (try simp only [pml]); first | done | rfl | (simp only [pdt]; rfl)) ?_; (with_reducible refine (r_Check.calls k a0_0 a0_1 a0_2 a0_3 a0_4 a0_5 t404 _ A3.out).mono ?_); rintro e w17 ⟨rfl, hb⟩; refine ⟨_, rfl, ?_⟩; replace BK402 := bB BK402 hb; replace BK403 := bB BK403 hb; replace HB := bS HB hb; (try clear hb); (try clear hb2); (try clear hk); (try clear hi)))
  go_ret
  exact ⟨sqE, fW HB.out⟩

def r_common.f (a0_0 : Int) (a0_1 : Int) (a0_2 : Int) (a0_3 : Int) (a0_4 : Int) (a0_5 : Int) (a1_0 : Int) (a1_1 : Int) (a1_2 : Int) (a1_3 : Int) (a1_4 : Int) (a1_5 : Int) : Option (Int × Int × Int × Int × Int × Int) := some (mx a0_0 a1_0, mx a0_1 a1_1, mx a0_2 a1_2, mn a0_3 a1_3, mn a0_4 a1_4, mn a0_5 a1_5)
set_option maxHeartbeats 8000000 in
set_option maxRecDepth 100000 in
theorem r_common.calls (a0_0 : Int) (a0_1 : Int) (a0_2 : Int) (a0_3 : Int) (a0_4 : Int) (a0_5 : Int) (a1_0 : Int) (a1_1 : Int) (a1_2 : Int) (a1_3 : Int) (a1_4 : Int) (a1_5 : Int) (r1 : Int) (r2 : Int) (r3 : Int) (r4 : Int) (r5 : Int) (r6 : Int) (w : World) (h : r_common.f a0_0 a0_1 a0_2 a0_3 a0_4 a0_5 a1_0 a1_1 a1_2 a1_3 a1_4 a1_5 = some (r1, r2, r3, r4, r5, r6)) :
  Calls Try.prog 61 #[.agg #[.int .i64 a0_0, .int .i64 a0_1, .int .i64 a0_2, .int .i64 a0_3, .int .i64 a0_4, .int .i64 a0_5], .agg #[.int .i64 a1_0, .int .i64 a1_1, .int .i64 a1_2, .int .i64 a1_3, .int .i64 a1_4, .int .i64 a1_5]] w fun e w' => e = .returned (.agg #[.int .i64 r1, .int .i64 r2, .int .i64 r3, .int .i64 r4, .int .i64 r5, .int .i64 r6]) ∧ Below w.heap.size w w' := by
 have hu25 := Try.underlying25
 have hu23 := Try.underlying23
 have HB := am (Below.refl w.heap.size w)
 have H : (some (mx a0_0 a1_0, mx a0_1 a1_1, mx a0_2 a1_2, mn a0_3 a1_3, mn a0_4 a1_4, mn a0_5 a1_5)) = some (r1, r2, r3, r4, r5, r6) := h
 clear h
 obtain ⟨ji3, hji3⟩ : ∃ j_ : Int, (mx a0_0 a1_0) = j_ := ⟨_, rfl⟩
 replace H : (some (ji3, mx a0_1 a1_1, mx a0_2 a1_2, mn a0_3 a1_3, mn a0_4 a1_4, mn a0_5 a1_5)) = some (r1, r2, r3, r4, r5, r6) := by first | (rw [hji3] at H; exact H) | (simp only [hji3] at H ⊢; exact H)
 have hji3_ : (if a0_0 < a1_0 then a1_0 else a0_0) = ji3 := hji3
 obtain ⟨ji4, hji4⟩ : ∃ j_ : Int, (mx a0_1 a1_1) = j_ := ⟨_, rfl⟩
 replace H : (some (ji3, ji4, mx a0_2 a1_2, mn a0_3 a1_3, mn a0_4 a1_4, mn a0_5 a1_5)) = some (r1, r2, r3, r4, r5, r6) := by first | (rw [hji4] at H; exact H) | (simp only [hji4] at H ⊢; exact H)
 have hji4_ : (if a0_1 < a1_1 then a1_1 else a0_1) = ji4 := hji4
 obtain ⟨ji5, hji5⟩ : ∃ j_ : Int, (mx a0_2 a1_2) = j_ := ⟨_, rfl⟩
 replace H : (some (ji3, ji4, ji5, mn a0_3 a1_3, mn a0_4 a1_4, mn a0_5 a1_5)) = some (r1, r2, r3, r4, r5, r6) := by first | (rw [hji5] at H; exact H) | (simp only [hji5] at H ⊢; exact H)
 have hji5_ : (if a0_2 < a1_2 then a1_2 else a0_2) = ji5 := hji5
 obtain ⟨ji6, hji6⟩ : ∃ j_ : Int, (mn a0_3 a1_3) = j_ := ⟨_, rfl⟩
 replace H : (some (ji3, ji4, ji5, ji6, mn a0_4 a1_4, mn a0_5 a1_5)) = some (r1, r2, r3, r4, r5, r6) := by first | (rw [hji6] at H; exact H) | (simp only [hji6] at H ⊢; exact H)
 have hji6_ : (if a1_3 < a0_3 then a1_3 else a0_3) = ji6 := hji6
 obtain ⟨ji7, hji7⟩ : ∃ j_ : Int, (mn a0_4 a1_4) = j_ := ⟨_, rfl⟩
 replace H : (some (ji3, ji4, ji5, ji6, ji7, mn a0_5 a1_5)) = some (r1, r2, r3, r4, r5, r6) := by first | (rw [hji7] at H; exact H) | (simp only [hji7] at H ⊢; exact H)
 have hji7_ : (if a1_4 < a0_4 then a1_4 else a0_4) = ji7 := hji7
 obtain ⟨ji8, hji8⟩ : ∃ j_ : Int, (mn a0_5 a1_5) = j_ := ⟨_, rfl⟩
 replace H : (some (ji3, ji4, ji5, ji6, ji7, ji8)) = some (r1, r2, r3, r4, r5, r6) := by first | (rw [hji8] at H; exact H) | (simp only [hji8] at H ⊢; exact H)
 have hji8_ : (if a1_5 < a0_5 then a1_5 else a0_5) = ji8 := hji8
 simp only [Option.some.injEq, Prod.mk.injEq] at H
 obtain ⟨rfl, rfl, rfl, rfl, rfl, rfl⟩ := H
 go_enter Try.func61, Try.ntmps61
 go_wp2_with (first | ((with_reducible refine gd (N := 2) rfl ?_); refine be ?hg (N := 2) ?hd (cs := #[.int .i64 a0_0, .int .i64 a0_1, .int .i64 a0_2, .int .i64 a0_3, .int .i64 a0_4, .int .i64 a0_5]) (t := 25) ?hr ?_; (case hd | hg => rfl); (case hr => first | (go_simp; done) | (go_simp; rfl)); intro gb406 hg w9 hbox hb; have BK406 := am hbox; have GW406 := sG HB hg; have GE406 := sG HB hg; replace HB := bS HB hb; clear hb hbox hg) | ((with_reducible refine gd (N := 3) rfl ?_); refine be ?hg (N := 3) ?hd (cs := #[.int .i64 a1_0, .int .i64 a1_1, .int .i64 a1_2, .int .i64 a1_3, .int .i64 a1_4, .int .i64 a1_5]) (t := 25) ?hr ?_; (case hd | hg => rfl); (case hr => first | (go_simp; done) | (go_simp; rfl)); intro gb407 hg w10 hbox hb; have BK407 := am hbox; have GW407 := sG HB hg; have GE407 := sG HB hg; replace HB := bS HB hb; have NB406_407 := nL BK406 hg; have NB407_406 := nG BK406 hg; replace BK406 := bB BK406 hb; clear hb hbox hg) | ((with_reducible refine gd (N := 4) rfl ?_); refine be ?hg (N := 4) ?hd (cs := #[.int .i64 0, .int .i64 0, .int .i64 0, .int .i64 0, .int .i64 0, .int .i64 0]) (t := 25) ?hr ?_; (case hd | hg => rfl); (case hr => first | (go_simp; done) | (go_simp; rfl)); intro gb408 hg w11 hbox hb; have BK408 := am hbox; have GW408 := sG HB hg; have GE408 := sG HB hg; replace HB := bS HB hb; have NB406_408 := nL BK406 hg; have NB408_406 := nG BK406 hg; replace BK406 := bB BK406 hb; have NB407_408 := nL BK407 hg; have NB408_407 := nG BK407 hg; replace BK407 := bB BK407 hb; clear hb hbox hg; have hnb12 := NB406_407.out; have hnc12 := NB407_406.out; have hnb13 := NB406_408.out; have hnc13 := NB408_406.out; obtain ⟨_, _, _, _, _, _, _, _, _, _, _, _⟩ := zC6 BK406; have hnb15 := NB407_408.out; have hnc15 := NB408_407.out; obtain ⟨_, _, _, _, _, _, _, _, _, _, _, _⟩ := zC6 BK407; obtain ⟨_, _, _, _, _, _, _, _, _, _, _, _⟩ := zC6 BK408))
 refine bodyPost_ret (results_cell_row rfl _ _ gb408 25 #[.int .i64 ji3, .int .i64 ji4, .int .i64 ji5, .int .i64 ji6, .int .i64 ji7, .int .i64 ji8] (0, 0) _ rfl (kkC BK408.out) Try.underlying25 rfl (by kernel_rfl)) rfl ?_
 exact ⟨by first | rfl | (simp [errW_none, errW_some] <;> rfl) | (simp only [← hji3, ← hji4, ← hji5, ← hji6, ← hji7, ← hji8]; first | rfl | (simp [errW_none, errW_some] <;> rfl)) | (simp [*, errW_none, errW_some] <;> rfl), fW HB.out⟩

def r_full.j0 : Nat → Bool → Option (Bool)
 | 0, _ => none
 | k + 1, x2 => some x2
def r_full.f (k : Nat) (a0_0 : Int) (a0_1 : Int) (a0_2 : Int) (a0_3 : Int) (a0_4 : Int) (a0_5 : Int) : Option (Bool) := if a0_0 < a0_3 then (if a0_1 < a0_4 then (r_full.j0 k (decide (a0_2 < a0_5))) else (r_full.j0 k false)) else (r_full.j0 k false)
set_option maxHeartbeats 8000000 in
set_option maxRecDepth 100000 in
theorem r_full.calls (k : Nat) (a0_0 : Int) (a0_1 : Int) (a0_2 : Int) (a0_3 : Int) (a0_4 : Int) (a0_5 : Int) (r : Bool) (w : World) (h : r_full.f k a0_0 a0_1 a0_2 a0_3 a0_4 a0_5 = some r) :
  Calls Try.prog 62 #[.agg #[.int .i64 a0_0, .int .i64 a0_1, .int .i64 a0_2, .int .i64 a0_3, .int .i64 a0_4, .int .i64 a0_5]] w fun e w' => e = .returned (.bool r) ∧ Below w.heap.size w w' := by
 have hu25 := Try.underlying25
 have HB := am (Below.refl w.heap.size w)
 have H : (if a0_0 < a0_3 then (if a0_1 < a0_4 then (r_full.j0 k (decide (a0_2 < a0_5))) else (r_full.j0 k false)) else (r_full.j0 k false)) = some r := h
 clear h
 have HC2 := am H
 clear H
 go_enter Try.func62, Try.ntmps62
 go_upto_region 1 with (first | ((with_reducible refine gd (N := 1) rfl ?_); refine be ?hg (N := 1) ?hd (cs := #[.int .i64 a0_0, .int .i64 a0_1, .int .i64 a0_2, .int .i64 a0_3, .int .i64 a0_4, .int .i64 a0_5]) (t := 25) ?hr ?_; (case hd | hg => rfl); (case hr => first | (go_simp; done) | (go_simp; rfl)); intro gb409 hg w3 hbox hb; have BK409 := am hbox; have GW409 := sG HB hg; have GE409 := sG HB hg; replace HB := bS HB hb; clear hb hbox hg))
 (try simp only [Act.put, psl])
 go_cut [2] (fun v2 wc => ∃ (kq : Nat) (x2_1 : Bool), v2 = .bool x2_1 ∧ Aside0 (r_full.j0 kq x2_1 = some r) ∧ Aside0 (kq ≤ k) ∧ Aside0 (wc.heap[gb409]? = some (.cells #[.int .i64 a0_0, .int .i64 a0_1, .int .i64 a0_2, .int .i64 a0_3, .int .i64 a0_4, .int .i64 a0_5] 25 (0, 0))) ∧ Aside0 (Below w.heap.size w wc))
 case first =>
  have H := HC2.out
  clear HC2
  by_cases c4 : a0_0 < a0_3
  rotate_left
  ·rw [if_neg c4] at H
   have c4b0 : decide (a0_0 < a0_3) = false := decide_eq_false c4
   clear c4
   (first | rw [c4b0] | (simp only [i64_w, i32_w]; rw [c4b0]) | skip)
   have H' := am H
   clear H
   have := yC1 BK409
   have := kC1 BK409
   have := kC2 BK409
   have := kC3 BK409
   have := kC4 BK409
   have := kC5 BK409
   have := bf BK409.out 0
   have := bf BK409.out 1
   have := bf BK409.out 2
   have := bf BK409.out 3
   have := bf BK409.out 4
   have := bf BK409.out 5
   go_wp2
   go_meet
   case rel => exact ⟨_, (false), sqD, H', ⟨by first | omega | exact Nat.le_refl _⟩, ⟨fb BK409.out⟩, ⟨fW HB.out⟩⟩
  rw [if_pos c4] at H
  have c4b0 : decide (a0_0 < a0_3) = true := decide_eq_true c4
  clear c4
  (first | rw [c4b0] | (simp only [i64_w, i32_w]; rw [c4b0]) | skip)
  by_cases c5 : a0_1 < a0_4
  ·rw [if_pos c5] at H
   have c5b0 : decide (a0_1 < a0_4) = true := decide_eq_true c5
   clear c5
   have H' := am H
   clear H
   have := yC1 BK409
   have := kC1 BK409
   have := kC2 BK409
   have := kC3 BK409
   have := kC4 BK409
   have := kC5 BK409
   have := bf BK409.out 0
   have := bf BK409.out 1
   have := bf BK409.out 2
   have := bf BK409.out 3
   have := bf BK409.out 4
   have := bf BK409.out 5
   go_wp2
   go_meet
   case rel => exact ⟨_, (decide (a0_2 < a0_5)), sqD, H', ⟨by first | omega | exact Nat.le_refl _⟩, ⟨fb BK409.out⟩, ⟨fW HB.out⟩⟩
  rw [if_neg c5] at H
  have c5b0 : decide (a0_1 < a0_4) = false := decide_eq_false c5
  clear c5
  have H' := am H
  clear H
  have := yC1 BK409
  have := kC1 BK409
  have := kC2 BK409
  have := kC3 BK409
  have := kC4 BK409
  have := kC5 BK409
  have := bf BK409.out 0
  have := bf BK409.out 1
  have := bf BK409.out 2
  have := bf BK409.out 3
  have := bf BK409.out 4
  have := bf BK409.out 5
  go_wp2
  go_meet
  case rel => exact ⟨_, (false), sqD, H', ⟨by first | omega | exact Nat.le_refl _⟩, ⟨fb BK409.out⟩, ⟨fW HB.out⟩⟩
 case rest =>
  clear HC2
  try clear p2;try clear c4;try clear c4b0;try clear c5;try clear c5b0;try clear c6
  obtain ⟨kq, x2_1, rfl, HA, HJ1, BK409, HB⟩ := hcut
  cases kq with
  | zero => exact absurd HA.out (by simp [r_full.j0])
  | succ kj1 =>
   have H := HA.out
   clear HA
   simp only [r_full.j0] at H
   obtain rfl := Option.some.inj H
   go_wp2
   go_ret
   exact ⟨sqE, fW HB.out⟩

def r_Intersect.f (k : Nat) (a0_0 : Int) (a0_1 : Int) (a0_2 : Int) (a0_3 : Int) (a0_4 : Int) (a0_5 : Int) (a1_0 : Int) (a1_1 : Int) (a1_2 : Int) (a1_3 : Int) (a1_4 : Int) (a1_5 : Int) : Option (Int × Int × Int × Int × Int × Int × Bool) := (r_common.f a0_0 a0_1 a0_2 a0_3 a0_4 a0_5 a1_0 a1_1 a1_2 a1_3 a1_4 a1_5).bind fun bt413 => ((r_full.f k bt413.1 bt413.2.1 bt413.2.2.1 bt413.2.2.2.1 bt413.2.2.2.2.1 bt413.2.2.2.2.2).bind fun t420 => (if t420 = true then (some (bt413.1, bt413.2.1, bt413.2.2.1, bt413.2.2.2.1, bt413.2.2.2.2.1, bt413.2.2.2.2.2, true)) else (some (0, 0, 0, 0, 0, 0, false))))
set_option maxHeartbeats 8000000 in
set_option maxRecDepth 100000 in
theorem r_Intersect.calls (k : Nat) (a0_0 : Int) (a0_1 : Int) (a0_2 : Int) (a0_3 : Int) (a0_4 : Int) (a0_5 : Int) (a1_0 : Int) (a1_1 : Int) (a1_2 : Int) (a1_3 : Int) (a1_4 : Int) (a1_5 : Int) (r1 : Int) (r2 : Int) (r3 : Int) (r4 : Int) (r5 : Int) (r6 : Int) (r7 : Bool) (w : World) (h : r_Intersect.f k a0_0 a0_1 a0_2 a0_3 a0_4 a0_5 a1_0 a1_1 a1_2 a1_3 a1_4 a1_5 = some (r1, r2, r3, r4, r5, r6, r7)) :
  Calls Try.prog 28 #[.agg #[.int .i64 a0_0, .int .i64 a0_1, .int .i64 a0_2, .int .i64 a0_3, .int .i64 a0_4, .int .i64 a0_5], .agg #[.int .i64 a1_0, .int .i64 a1_1, .int .i64 a1_2, .int .i64 a1_3, .int .i64 a1_4, .int .i64 a1_5]] w fun e w' => e = .returned (.tuple #[.agg #[.int .i64 r1, .int .i64 r2, .int .i64 r3, .int .i64 r4, .int .i64 r5, .int .i64 r6], .bool r7]) ∧ Below w.heap.size w w' := by
 have hu25 := Try.underlying25
 have HB := am (Below.refl w.heap.size w)
 have H : ((r_common.f a0_0 a0_1 a0_2 a0_3 a0_4 a0_5 a1_0 a1_1 a1_2 a1_3 a1_4 a1_5).bind fun bt413 => ((r_full.f k bt413.1 bt413.2.1 bt413.2.2.1 bt413.2.2.2.1 bt413.2.2.2.2.1 bt413.2.2.2.2.2).bind fun t420 => (if t420 = true then (some (bt413.1, bt413.2.1, bt413.2.2.1, bt413.2.2.2.1, bt413.2.2.2.2.1, bt413.2.2.2.2.2, true)) else (some (0, 0, 0, 0, 0, 0, false))))) = some (r1, r2, r3, r4, r5, r6, r7) := h
 clear h
 replace H := Option.bind_eq_some_iff.mp H
 obtain ⟨⟨t413, t414, t415, t416, t417, t418⟩, A30, H⟩ := H
 replace H : ((r_full.f k t413 t414 t415 t416 t417 t418).bind fun t420 => (if t420 = true then (some (t413, t414, t415, t416, t417, t418, true)) else (some (0, 0, 0, 0, 0, 0, false)))) = some (r1, r2, r3, r4, r5, r6, r7) := H
 have A3 := am A30
 clear A30
 replace H := Option.bind_eq_some_iff.mp H
 obtain ⟨t420, A40, H⟩ := H
 replace H : (if t420 = true then (some (t413, t414, t415, t416, t417, t418, true)) else (some (0, 0, 0, 0, 0, 0, false))) = some (r1, r2, r3, r4, r5, r6, r7) := H
 have A4 := am A40
 clear A40
 by_cases c5 : t420 = true
 ·subst c5
  have H1 : (some (t413, t414, t415, t416, t417, t418, true)) = some (r1, r2, r3, r4, r5, r6, r7) := by rw [if_pos rfl] at H; exact H
  clear H
  have H := H1
  clear H1
  simp only [Option.some.injEq, Prod.mk.injEq] at H
  obtain ⟨rfl, rfl, rfl, rfl, rfl, rfl, rfl⟩ := H
  go_enter Try.func28, Try.ntmps28
  go_wp2_with (first | ((with_reducible refine gd (N := 2) rfl ?_); refine be ?hg (N := 2) ?hd (cs := #[.int .i64 a0_0, .int .i64 a0_1, .int .i64 a0_2, .int .i64 a0_3, .int .i64 a0_4, .int .i64 a0_5]) (t := 25) ?hr ?_; (case hd | hg => rfl); (case hr => first | (go_simp; done) | (go_simp; rfl)); intro gb410 hg w6 hbox hb; have BK410 := am hbox; have GW410 := sG HB hg; have GE410 := sG HB hg; replace HB := bS HB hb; clear hb hbox hg) | ((with_reducible refine gd (N := 3) rfl ?_); refine be ?hg (N := 3) ?hd (cs := #[.int .i64 a1_0, .int .i64 a1_1, .int .i64 a1_2, .int .i64 a1_3, .int .i64 a1_4, .int .i64 a1_5]) (t := 25) ?hr ?_; (case hd | hg => rfl); (case hr => first | (go_simp; done) | (go_simp; rfl)); intro gb411 hg w7 hbox hb; have BK411 := am hbox; have GW411 := sG HB hg; have GE411 := sG HB hg; replace HB := bS HB hb; have NB410_411 := nL BK410 hg; have NB411_410 := nG BK410 hg; replace BK410 := bB BK410 hb; clear hb hbox hg) | ((with_reducible refine gd (N := 4) rfl ?_); refine be ?hg (N := 4) ?hd (cs := #[.int .i64 0, .int .i64 0, .int .i64 0, .int .i64 0, .int .i64 0, .int .i64 0]) (t := 25) ?hr ?_; (case hd | hg => rfl); (case hr => first | (go_simp; done) | (go_simp; rfl)); intro gb412 hg w8 hbox hb; have BK412 := am hbox; have GW412 := sG HB hg; have GE412 := sG HB hg; replace HB := bS HB hb; have NB410_412 := nL BK410 hg; have NB412_410 := nG BK410 hg; replace BK410 := bB BK410 hb; have NB411_412 := nL BK411 hg; have NB412_411 := nG BK411 hg; replace BK411 := bB BK411 hb; clear hb hbox hg; have hnb9 := NB410_411.out; have hnc9 := NB411_410.out; have hnb10 := NB410_412.out; have hnc10 := NB412_410.out; obtain ⟨_, _, _, _, _, _, _, _, _, _, _, _⟩ := zC6 BK410; have hnb12 := NB411_412.out; have hnc12 := NB412_411.out; obtain ⟨_, _, _, _, _, _, _, _, _, _, _, _⟩ := zC6 BK411) | ((with_reducible refine gc (f := 61) rfl ?_); refine goesL_ (some 9) rfl rfl Try.func61 (by kernel_rfl) rfl #[.agg #[.int .i64 a0_0, .int .i64 a0_1, .int .i64 a0_2, .int .i64 a0_3, .int .i64 a0_4, .int .i64 a0_5], .agg #[.int .i64 a1_0, .int .i64 a1_1, .int .i64 a1_2, .int .i64 a1_3, .int .i64 a1_4, .int .i64 a1_5]] rfl (by (try simp only [pml]); first | done | rfl | (simp only [pdt]; rfl)) ?_; (with_reducible refine (r_common.calls a0_0 a0_1 a0_2 a0_3 a0_4 a0_5 a1_0 a1_1 a1_2 a1_3 a1_4 a1_5 t413 t414 t415 t416 t417 t418 _ A3.out).mono ?_); rintro e w14 ⟨rfl, hb⟩; refine ⟨_, rfl, ?_⟩; replace BK410 := bB BK410 hb; replace BK411 := bB BK411 hb; replace BK412 := bB BK412 hb; replace HB := bS HB hb; (try clear hb); (try clear hb2); (try clear hk); (try clear hi)) | ((with_reducible refine gd (N := 6) rfl ?_); refine be ?hg (N := 6) ?hd (cs := #[.int .i64 0, .int .i64 0, .int .i64 0, .int .i64 0, .int .i64 0, .int .i64 0]) (t := 25) ?hr ?_; (case hd | hg => rfl); (case hr => first | (go_simp; done) | (go_simp; rfl)); intro gb419 hg w15 hbox hb; have BK419 := am hbox; have GW419 := sG HB hg; have GE419 := sG HB hg; replace HB := bS HB hb; have NB410_419 := nL BK410 hg; have NB419_410 := nG BK410 hg; replace BK410 := bB BK410 hb; have NB411_419 := nL BK411 hg; have NB419_411 := nG BK411 hg; replace BK411 := bB BK411 hb; have NB412_419 := nL BK412 hg; have NB419_412 := nG BK412 hg; replace BK412 := bB BK412 hb; clear hb hbox hg; have hnb16 := NB419_410.out; have hnc16 := NB410_419.out; have hnb17 := NB419_411.out; have hnc17 := NB411_419.out; have hnb18 := NB419_412.out; have hnc18 := NB412_419.out; obtain ⟨_, _, _, _, _, _, _, _, _, _, _, _⟩ := zC6 BK419) | ((with_reducible refine gc (f := 62) rfl ?_); refine goesL_ (some 11) rfl rfl Try.func62 (by kernel_rfl) rfl #[.agg #[.int .i64 t413, .int .i64 t414, .int .i64 t415, .int .i64 t416, .int .i64 t417, .int .i64 t418]] rfl (by (try simp only [pml]); first | done | rfl | (simp only [pdt]; rfl)) ?_; (with_reducible refine (r_full.calls k t413 t414 t415 t416 t417 t418 true _ A4.out).mono ?_); rintro e w20 ⟨rfl, hb⟩; refine ⟨_, rfl, ?_⟩; replace BK410 := xC1 (kfC BK410.out) hb; replace BK411 := xC1 (kfC BK411.out) hb; replace BK412 := xC1 (kfC BK412.out) hb; replace BK419 := xC1 (o := .cells #[.int .i64 t413, .int .i64 t414, .int .i64 t415, .int .i64 t416, .int .i64 t417, .int .i64 t418] 25 (0, 0)) (kkC BK419.out) hb; replace HB := bS HB hb; (try clear hb); (try clear hb2); (try clear hk); (try clear hi); obtain ⟨_, _, _, _, _, _, _, _, _, _, _, _⟩ := zC6 BK419; obtain ⟨_, _, _, _, _, _, _, _, _, _, _, _⟩ := zC6 BK412))
  refine bodyPost_ret (results_ct rfl _ _ gb412 25 #[.int .i64 t413, .int .i64 t414, .int .i64 t415, .int .i64 t416, .int .i64 t417, .int .i64 t418] (0, 0) _ rfl (kkC BK412.out) Try.underlying25 rfl (by kernel_rfl)) rfl ?_
  exact ⟨sqE, fW HB.out⟩
 ·replace c5 := Bool.eq_false_iff.mpr c5
  subst c5
  have H1 : (some (0, 0, 0, 0, 0, 0, false)) = some (r1, r2, r3, r4, r5, r6, r7) := by rw [if_neg (show ¬ (false = true) by decide)] at H; exact H
  clear H
  have H := H1
  clear H1
  simp only [Option.some.injEq, Prod.mk.injEq] at H
  obtain ⟨rfl, rfl, rfl, rfl, rfl, rfl, rfl⟩ := H
  go_enter Try.func28, Try.ntmps28
  go_wp2_with (first | ((with_reducible refine gd (N := 2) rfl ?_); refine be ?hg (N := 2) ?hd (cs := #[.int .i64 a0_0, .int .i64 a0_1, .int .i64 a0_2, .int .i64 a0_3, .int .i64 a0_4, .int .i64 a0_5]) (t := 25) ?hr ?_; (case hd | hg => rfl); (case hr => first | (go_simp; done) | (go_simp; rfl)); intro gb410 hg w23 hbox hb; have BK410 := am hbox; have GW410 := sG HB hg; have GE410 := sG HB hg; replace HB := bS HB hb; clear hb hbox hg) | ((with_reducible refine gd (N := 3) rfl ?_); refine be ?hg (N := 3) ?hd (cs := #[.int .i64 a1_0, .int .i64 a1_1, .int .i64 a1_2, .int .i64 a1_3, .int .i64 a1_4, .int .i64 a1_5]) (t := 25) ?hr ?_; (case hd | hg => rfl); (case hr => first | (go_simp; done) | (go_simp; rfl)); intro gb411 hg w24 hbox hb; have BK411 := am hbox; have GW411 := sG HB hg; have GE411 := sG HB hg; replace HB := bS HB hb; have NB410_411 := nL BK410 hg; have NB411_410 := nG BK410 hg; replace BK410 := bB BK410 hb; clear hb hbox hg) | ((with_reducible refine gd (N := 4) rfl ?_); refine be ?hg (N := 4) ?hd (cs := #[.int .i64 0, .int .i64 0, .int .i64 0, .int .i64 0, .int .i64 0, .int .i64 0]) (t := 25) ?hr ?_; (case hd | hg => rfl); (case hr => first | (go_simp; done) | (go_simp; rfl)); intro gb412 hg w25 hbox hb; have BK412 := am hbox; have GW412 := sG HB hg; have GE412 := sG HB hg; replace HB := bS HB hb; have NB410_412 := nL BK410 hg; have NB412_410 := nG BK410 hg; replace BK410 := bB BK410 hb; have NB411_412 := nL BK411 hg; have NB412_411 := nG BK411 hg; replace BK411 := bB BK411 hb; clear hb hbox hg; have hnb26 := NB410_411.out; have hnc26 := NB411_410.out; have hnb27 := NB410_412.out; have hnc27 := NB412_410.out; obtain ⟨_, _, _, _, _, _, _, _, _, _, _, _⟩ := zC6 BK410; have hnb29 := NB411_412.out; have hnc29 := NB412_411.out; obtain ⟨_, _, _, _, _, _, _, _, _, _, _, _⟩ := zC6 BK411) | ((with_reducible refine gc (f := 61) rfl ?_); refine goesL_ (some 9) rfl rfl Try.func61 (by kernel_rfl) rfl #[.agg #[.int .i64 a0_0, .int .i64 a0_1, .int .i64 a0_2, .int .i64 a0_3, .int .i64 a0_4, .int .i64 a0_5], .agg #[.int .i64 a1_0, .int .i64 a1_1, .int .i64 a1_2, .int .i64 a1_3, .int .i64 a1_4, .int .i64 a1_5]] rfl (by (try simp only [pml]); first | done | rfl | (simp only [pdt]; rfl)) ?_; (with_reducible refine (r_common.calls a0_0 a0_1 a0_2 a0_3 a0_4 a0_5 a1_0 a1_1 a1_2 a1_3 a1_4 a1_5 t413 t414 t415 t416 t417 t418 _ A3.out).mono ?_); rintro e w31 ⟨rfl, hb⟩; refine ⟨_, rfl, ?_⟩; replace BK410 := bB BK410 hb; replace BK411 := bB BK411 hb; replace BK412 := bB BK412 hb; replace HB := bS HB hb; (try clear hb); (try clear hb2); (try clear hk); (try clear hi)) | ((with_reducible refine gd (N := 6) rfl ?_); refine be ?hg (N := 6) ?hd (cs := #[.int .i64 0, .int .i64 0, .int .i64 0, .int .i64 0, .int .i64 0, .int .i64 0]) (t := 25) ?hr ?_; (case hd | hg => rfl); (case hr => first | (go_simp; done) | (go_simp; rfl)); intro gb419 hg w32 hbox hb; have BK419 := am hbox; have GW419 := sG HB hg; have GE419 := sG HB hg; replace HB := bS HB hb; have NB410_419 := nL BK410 hg; have NB419_410 := nG BK410 hg; replace BK410 := bB BK410 hb; have NB411_419 := nL BK411 hg; have NB419_411 := nG BK411 hg; replace BK411 := bB BK411 hb; have NB412_419 := nL BK412 hg; have NB419_412 := nG BK412 hg; replace BK412 := bB BK412 hb; clear hb hbox hg; have hnb33 := NB419_410.out; have hnc33 := NB410_419.out; have hnb34 := NB419_411.out; have hnc34 := NB411_419.out; have hnb35 := NB419_412.out; have hnc35 := NB412_419.out; obtain ⟨_, _, _, _, _, _, _, _, _, _, _, _⟩ := zC6 BK419) | ((with_reducible refine gc (f := 62) rfl ?_); refine goesL_ (some 11) rfl rfl Try.func62 (by kernel_rfl) rfl #[.agg #[.int .i64 t413, .int .i64 t414, .int .i64 t415, .int .i64 t416, .int .i64 t417, .int .i64 t418]] rfl (by (try simp only [pml]); first | done | rfl | (simp only [pdt]; rfl)) ?_; (with_reducible refine (r_full.calls k t413 t414 t415 t416 t417 t418 false _ A4.out).mono ?_); rintro e w37 ⟨rfl, hb⟩; refine ⟨_, rfl, ?_⟩; replace BK410 := xC1 (kfC BK410.out) hb; replace BK411 := xC1 (kfC BK411.out) hb; replace BK412 := xC1 (kfC BK412.out) hb; replace BK419 := xC1 (o := .cells #[.int .i64 t413, .int .i64 t414, .int .i64 t415, .int .i64 t416, .int .i64 t417, .int .i64 t418] 25 (0, 0)) (kkC BK419.out) hb; replace HB := bS HB hb; (try clear hb); (try clear hb2); (try clear hk); (try clear hi); obtain ⟨_, _, _, _, _, _, _, _, _, _, _, _⟩ := zC6 BK412))
  refine bodyPost_ret (results_ct rfl _ _ gb412 25 #[.int .i64 0, .int .i64 0, .int .i64 0, .int .i64 0, .int .i64 0, .int .i64 0] (0, 0) _ rfl (kkC BK412.out) Try.underlying25 rfl (by kernel_rfl)) rfl ?_
  exact ⟨sqE, fW HB.out⟩

def r_Hull.f (a0_0 : Int) (a0_1 : Int) (a0_2 : Int) (a0_3 : Int) (a0_4 : Int) (a0_5 : Int) (a1_0 : Int) (a1_1 : Int) (a1_2 : Int) (a1_3 : Int) (a1_4 : Int) (a1_5 : Int) : Option (Int × Int × Int × Int × Int × Int) := some (mn a0_0 a1_0, mn a0_1 a1_1, mn a0_2 a1_2, mx a0_3 a1_3, mx a0_4 a1_4, mx a0_5 a1_5)
set_option maxHeartbeats 8000000 in
set_option maxRecDepth 100000 in
theorem r_Hull.calls (a0_0 : Int) (a0_1 : Int) (a0_2 : Int) (a0_3 : Int) (a0_4 : Int) (a0_5 : Int) (a1_0 : Int) (a1_1 : Int) (a1_2 : Int) (a1_3 : Int) (a1_4 : Int) (a1_5 : Int) (r1 : Int) (r2 : Int) (r3 : Int) (r4 : Int) (r5 : Int) (r6 : Int) (w : World) (h : r_Hull.f a0_0 a0_1 a0_2 a0_3 a0_4 a0_5 a1_0 a1_1 a1_2 a1_3 a1_4 a1_5 = some (r1, r2, r3, r4, r5, r6)) :
  Calls Try.prog 29 #[.agg #[.int .i64 a0_0, .int .i64 a0_1, .int .i64 a0_2, .int .i64 a0_3, .int .i64 a0_4, .int .i64 a0_5], .agg #[.int .i64 a1_0, .int .i64 a1_1, .int .i64 a1_2, .int .i64 a1_3, .int .i64 a1_4, .int .i64 a1_5]] w fun e w' => e = .returned (.agg #[.int .i64 r1, .int .i64 r2, .int .i64 r3, .int .i64 r4, .int .i64 r5, .int .i64 r6]) ∧ Below w.heap.size w w' := by
 have hu25 := Try.underlying25
 have hu23 := Try.underlying23
 have HB := am (Below.refl w.heap.size w)
 have H : (some (mn a0_0 a1_0, mn a0_1 a1_1, mn a0_2 a1_2, mx a0_3 a1_3, mx a0_4 a1_4, mx a0_5 a1_5)) = some (r1, r2, r3, r4, r5, r6) := h
 clear h
 obtain ⟨ji3, hji3⟩ : ∃ j_ : Int, (mn a0_0 a1_0) = j_ := ⟨_, rfl⟩
 replace H : (some (ji3, mn a0_1 a1_1, mn a0_2 a1_2, mx a0_3 a1_3, mx a0_4 a1_4, mx a0_5 a1_5)) = some (r1, r2, r3, r4, r5, r6) := by first | (rw [hji3] at H; exact H) | (simp only [hji3] at H ⊢; exact H)
 have hji3_ : (if a1_0 < a0_0 then a1_0 else a0_0) = ji3 := hji3
 obtain ⟨ji4, hji4⟩ : ∃ j_ : Int, (mn a0_1 a1_1) = j_ := ⟨_, rfl⟩
 replace H : (some (ji3, ji4, mn a0_2 a1_2, mx a0_3 a1_3, mx a0_4 a1_4, mx a0_5 a1_5)) = some (r1, r2, r3, r4, r5, r6) := by first | (rw [hji4] at H; exact H) | (simp only [hji4] at H ⊢; exact H)
 have hji4_ : (if a1_1 < a0_1 then a1_1 else a0_1) = ji4 := hji4
 obtain ⟨ji5, hji5⟩ : ∃ j_ : Int, (mn a0_2 a1_2) = j_ := ⟨_, rfl⟩
 replace H : (some (ji3, ji4, ji5, mx a0_3 a1_3, mx a0_4 a1_4, mx a0_5 a1_5)) = some (r1, r2, r3, r4, r5, r6) := by first | (rw [hji5] at H; exact H) | (simp only [hji5] at H ⊢; exact H)
 have hji5_ : (if a1_2 < a0_2 then a1_2 else a0_2) = ji5 := hji5
 obtain ⟨ji6, hji6⟩ : ∃ j_ : Int, (mx a0_3 a1_3) = j_ := ⟨_, rfl⟩
 replace H : (some (ji3, ji4, ji5, ji6, mx a0_4 a1_4, mx a0_5 a1_5)) = some (r1, r2, r3, r4, r5, r6) := by first | (rw [hji6] at H; exact H) | (simp only [hji6] at H ⊢; exact H)
 have hji6_ : (if a0_3 < a1_3 then a1_3 else a0_3) = ji6 := hji6
 obtain ⟨ji7, hji7⟩ : ∃ j_ : Int, (mx a0_4 a1_4) = j_ := ⟨_, rfl⟩
 replace H : (some (ji3, ji4, ji5, ji6, ji7, mx a0_5 a1_5)) = some (r1, r2, r3, r4, r5, r6) := by first | (rw [hji7] at H; exact H) | (simp only [hji7] at H ⊢; exact H)
 have hji7_ : (if a0_4 < a1_4 then a1_4 else a0_4) = ji7 := hji7
 obtain ⟨ji8, hji8⟩ : ∃ j_ : Int, (mx a0_5 a1_5) = j_ := ⟨_, rfl⟩
 replace H : (some (ji3, ji4, ji5, ji6, ji7, ji8)) = some (r1, r2, r3, r4, r5, r6) := by first | (rw [hji8] at H; exact H) | (simp only [hji8] at H ⊢; exact H)
 have hji8_ : (if a0_5 < a1_5 then a1_5 else a0_5) = ji8 := hji8
 simp only [Option.some.injEq, Prod.mk.injEq] at H
 obtain ⟨rfl, rfl, rfl, rfl, rfl, rfl⟩ := H
 go_enter Try.func29, Try.ntmps29
 go_wp2_with (first | ((with_reducible refine gd (N := 2) rfl ?_); refine be ?hg (N := 2) ?hd (cs := #[.int .i64 a0_0, .int .i64 a0_1, .int .i64 a0_2, .int .i64 a0_3, .int .i64 a0_4, .int .i64 a0_5]) (t := 25) ?hr ?_; (case hd | hg => rfl); (case hr => first | (go_simp; done) | (go_simp; rfl)); intro gb421 hg w9 hbox hb; have BK421 := am hbox; have GW421 := sG HB hg; have GE421 := sG HB hg; replace HB := bS HB hb; clear hb hbox hg) | ((with_reducible refine gd (N := 3) rfl ?_); refine be ?hg (N := 3) ?hd (cs := #[.int .i64 a1_0, .int .i64 a1_1, .int .i64 a1_2, .int .i64 a1_3, .int .i64 a1_4, .int .i64 a1_5]) (t := 25) ?hr ?_; (case hd | hg => rfl); (case hr => first | (go_simp; done) | (go_simp; rfl)); intro gb422 hg w10 hbox hb; have BK422 := am hbox; have GW422 := sG HB hg; have GE422 := sG HB hg; replace HB := bS HB hb; have NB421_422 := nL BK421 hg; have NB422_421 := nG BK421 hg; replace BK421 := bB BK421 hb; clear hb hbox hg) | ((with_reducible refine gd (N := 4) rfl ?_); refine be ?hg (N := 4) ?hd (cs := #[.int .i64 0, .int .i64 0, .int .i64 0, .int .i64 0, .int .i64 0, .int .i64 0]) (t := 25) ?hr ?_; (case hd | hg => rfl); (case hr => first | (go_simp; done) | (go_simp; rfl)); intro gb423 hg w11 hbox hb; have BK423 := am hbox; have GW423 := sG HB hg; have GE423 := sG HB hg; replace HB := bS HB hb; have NB421_423 := nL BK421 hg; have NB423_421 := nG BK421 hg; replace BK421 := bB BK421 hb; have NB422_423 := nL BK422 hg; have NB423_422 := nG BK422 hg; replace BK422 := bB BK422 hb; clear hb hbox hg; have hnb12 := NB421_422.out; have hnc12 := NB422_421.out; have hnb13 := NB421_423.out; have hnc13 := NB423_421.out; obtain ⟨_, _, _, _, _, _, _, _, _, _, _, _⟩ := zC6 BK421; have hnb15 := NB422_423.out; have hnc15 := NB423_422.out; obtain ⟨_, _, _, _, _, _, _, _, _, _, _, _⟩ := zC6 BK422; obtain ⟨_, _, _, _, _, _, _, _, _, _, _, _⟩ := zC6 BK423))
 refine bodyPost_ret (results_cell_row rfl _ _ gb423 25 #[.int .i64 ji3, .int .i64 ji4, .int .i64 ji5, .int .i64 ji6, .int .i64 ji7, .int .i64 ji8] (0, 0) _ rfl (kkC BK423.out) Try.underlying25 rfl (by kernel_rfl)) rfl ?_
 exact ⟨by first | rfl | (simp [errW_none, errW_some] <;> rfl) | (simp only [← hji3, ← hji4, ← hji5, ← hji6, ← hji7, ← hji8]; first | rfl | (simp [errW_none, errW_some] <;> rfl)) | (simp [*, errW_none, errW_some] <;> rfl), fW HB.out⟩

end Go.Proofs.Ytmmdikhmlmoolaa.QA
