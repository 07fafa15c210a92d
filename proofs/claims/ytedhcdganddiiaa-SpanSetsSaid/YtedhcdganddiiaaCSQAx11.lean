import Derived.Test.YtedhcdganddiiaaCSQAx0
import Derived.Test.YtedhcdganddiiaaCSQAx2
import Derived.Test.YtedhcdganddiiaaCSQAx3
-- Written by a program of this session (wip/tools) out of the translation; Lean checks it.
namespace Go.Proofs.Ytedhcdganddiiaa.QA
open Go.RowKit Go.Proofs.YtedhcdganddiiaaW.PrintWords Go.Proofs.YtedhcdganddiiaaW.PrintLast Go.Proofs.YtedhcdganddiiaaW.PrintMore
attribute [local go_sem] max2_int min2_int max_two min_two max_three min_three max_four min_four
set_option linter.unusedVariables false
set_option linter.unusedSimpArgs false

def span_Union.f (k : Nat) (l0 : List (S23)) (l1 : List (S23)) : Option ((List (S23)) × Int) := (span_lists.f k (([l0, l1] : List (List (S23))))).bind fun t356 => (if t356 = 0 then ((api_Interval_46.f (([l0, l1] : List (List (S23))))).bind fun t360 => ((span_normal.f k t360).bind fun t363 => (some (t363, 0)))) else (some (([] : List (S23)), t356)))
set_option maxHeartbeats 8000000 in
set_option maxRecDepth 100000 in
theorem span_Union.calls (k : Nat) (P0_ : Nat → Prop) (A0 : Option Addr) (c0 : Nat) (l0 : List (S23)) (P1_ : Nat → Prop) (A1 : Option Addr) (c1 : Nat) (l1 : List (S23)) (r1 : List (S23)) (r2 : Int) (w : World) (hs0 : Kd.V k23 23 w w.heap.size (fun k_ => P0_ k_) (.slice A0 l0.length c0) l0) (hs1 : Kd.V k23 23 w w.heap.size (fun k_ => P1_ k_) (.slice A1 l1.length c1) l1) (h : span_Union.f k l0 l1 = some (r1, r2)) :
    Calls Try.prog 31 #[.slice A0 l0.length c0, .slice A1 l1.length c1] w fun e w' => ∃ v0_ : Value, e = .returned (.tuple #[v0_, .int .i64 r2]) ∧ Kd.R k23 23 w' w.heap.size (fun k_ => (w.heap.size ≤ k_)) v0_ r1 ∧ Below w.heap.size w w' := by
  have HO0 := Aside0.mk (show Kd.V k23 23 w w.heap.size (fun k_ => ((P0_ k_ ∨ P1_ k_) ∨ w.heap.size ≤ k_)) (.slice A0 l0.length c0) l0 from Kd.V_mono hs0 (fun k_ hk => .inl (.inl hk)))
  have HO1 := Aside0.mk (show Kd.V k23 23 w w.heap.size (fun k_ => ((P0_ k_ ∨ P1_ k_) ∨ w.heap.size ≤ k_)) (.slice A1 l1.length c1) l1 from Kd.V_mono hs1 (fun k_ hk => .inl (.inr hk)))
  have HB := Aside0.mk (Below.refl w.heap.size w)
  have H : ((span_lists.f k (([l0, l1] : List (List (S23))))).bind fun t356 => (if t356 = 0 then ((api_Interval_46.f (([l0, l1] : List (List (S23))))).bind fun t360 => ((span_normal.f k t360).bind fun t363 => (some (t363, 0)))) else (some (([] : List (S23)), t356)))) = some (r1, r2) := h
  clear h
  obtain ⟨y353, hy353⟩ : ∃ y_ : List (List (S23)), y_ = (([l0, l1] : List (List (S23)))) := ⟨_, rfl⟩
  replace H : ((span_lists.f k y353).bind fun t356 => (if t356 = 0 then ((api_Interval_46.f (([l0, l1] : List (List (S23))))).bind fun t360 => ((span_normal.f k t360).bind fun t363 => (some (t363, 0)))) else (some (([] : List (S23)), t356)))) = some (r1, r2) := by first | (rw [hy353]; with_reducible exact H) | (have H2_ := (Option.bind_some _ _).symm.trans H; rw [hy353]; with_reducible exact H2_) | (have H2_ := (Option.bind_some _ _).symm.trans H; with_reducible exact H2_) | with_reducible exact H | (rw [hy353]; exact H) | exact H
  have Ny353 := Aside0.mk hy353
  clear hy353
  replace H := Option.bind_eq_some_iff.mp H
  obtain ⟨t356, A30, H⟩ := H
  replace H : (if t356 = 0 then ((api_Interval_46.f (([l0, l1] : List (List (S23))))).bind fun t360 => ((span_normal.f k t360).bind fun t363 => (some (t363, 0)))) else (some (([] : List (S23)), t356))) = some (r1, r2) := H
  have A3 := Aside0.mk A30
  clear A30
  by_cases c4 : t356 = 0
  · rw [if_pos c4] at H
    have c4b0 : (t356 == 0) = true := beq_iff_eq.mpr c4
    have c4b1 : (t356 != 0) = false := bne_eq_false_iff_eq.mpr c4
    clear c4
    obtain ⟨y357, hy357⟩ : ∃ y_ : List (List (S23)), y_ = (([l0, l1] : List (List (S23)))) := ⟨_, rfl⟩
    replace H : ((api_Interval_46.f y357).bind fun t360 => ((span_normal.f k t360).bind fun t363 => (some (t363, 0)))) = some (r1, r2) := by first | (rw [hy357]; with_reducible exact H) | (have H2_ := (Option.bind_some _ _).symm.trans H; rw [hy357]; with_reducible exact H2_) | (have H2_ := (Option.bind_some _ _).symm.trans H; with_reducible exact H2_) | with_reducible exact H | (rw [hy357]; exact H) | exact H
    have Ny357 := Aside0.mk hy357
    clear hy357
    replace H := Option.bind_eq_some_iff.mp H
    obtain ⟨t360, A50, H⟩ := H
    replace H : ((span_normal.f k t360).bind fun t363 => (some (t363, 0))) = some (r1, r2) := H
    have A5 := Aside0.mk A50
    clear A50
    replace H := Option.bind_eq_some_iff.mp H
    obtain ⟨t363, A60, H⟩ := H
    replace H : (some (t363, 0)) = some (r1, r2) := H
    have A6 := Aside0.mk A60
    clear A60
    simp only [Option.some.injEq, Prod.mk.injEq] at H
    obtain ⟨rfl, rfl⟩ := H
    go_enter Try.func31, Try.ntmps31
    go_wp2_with (first | ((with_reducible refine gate_dst (N := 9) rfl ?_); refine Kd.N_lit (Kd.slice 23 k23) _ 31 ?hg (N' := 9) ?hd (xs := ([l0, l1] : List (List (S23)))) (inner := [.slice A0 l0.length c0, .slice A1 l1.length c1]) (ok := (fun k_ => ((P0_ k_ ∨ P1_ k_) ∨ w.heap.size ≤ k_))) (okp := (fun k_ => ((P0_ k_ ∨ P1_ k_) ∨ w.heap.size ≤ k_))) ?hr ?hp (fun _ hk => hk) ((show ∀ k_, w.heap.size ≤ k_ → (fun k_ => ((P0_ k_ ∨ P1_ k_) ∨ w.heap.size ≤ k_)) k_ from fun k_ hk => (.inr (Nat.le_trans (below_size (by repeat (first | (with_reducible first | exact HB.out | apply below_alloc | apply pw_below_drewN | apply below_drew1) | exact HB.out))) hk))) _ (Nat.le_refl _)) (Below.refl _ _) (Nat.le_refl _) (by simp) ?_; (case hd => rfl); (case hg => rfl); (case hr => first | (go_simp; done) | (go_simp; rfl)); (case hp => exact (Reps.one (show Kd.FK (Kd.slice 23 k23) _ _ l0 [.slice A0 l0.length c0] from (Kd.FK_slice_mk (Kd.V_reads' (Kd.V_mono (ok' := (fun k_ => ((P0_ k_ ∨ P1_ k_) ∨ w.heap.size ≤ k_))) (HO0.out) (fun k_ hk => hk))).2.1 (Kd.V_F (Kd.V_mono (ok' := (fun k_ => ((P0_ k_ ∨ P1_ k_) ∨ w.heap.size ≤ k_))) (HO0.out) (fun k_ hk => hk))))) (Reps.one (show Kd.FK (Kd.slice 23 k23) _ _ l1 [.slice A1 l1.length c1] from (Kd.FK_slice_mk (Kd.V_reads' (Kd.V_mono (ok' := (fun k_ => ((P0_ k_ ∨ P1_ k_) ∨ w.heap.size ≤ k_))) (HO1.out) (fun k_ hk => hk))).2.1 (Kd.V_F (Kd.V_mono (ok' := (fun k_ => ((P0_ k_ ∨ P1_ k_) ∨ w.heap.size ≤ k_))) (HO1.out) (fun k_ hk => hk))))) (Reps.none _ _)))); intro v354 w7 ho8 hb hg_ hnew_; clear hg_ hnew_; (first | rw [← Ny353.out] at ho8 | (simp only [Int.reduceToNat] at ho8; rw [← Ny353.out] at ho8)); have n0_ := Aside0.mk (Kd.V_elder' (by (with_reducible repeat (first | apply Kd.V_alloc | apply Kd.V_drewN | apply Kd.V_drew)); exact HO0.out) (Kd.N_base ho8) hb); have n1_ := Aside0.mk (Kd.V_elder' (by (with_reducible repeat (first | apply Kd.V_alloc | apply Kd.V_drewN | apply Kd.V_drew)); exact HO1.out) (Kd.N_base ho8) hb); have n2_ := Aside0.mk (Kd.N_lower ho8 (below_size (by repeat (first | (with_reducible first | exact HB.out | apply below_alloc | apply pw_below_drewN | apply below_drew1) | exact HB.out)))); have n3_ := Aside0.mk (below_step (by repeat (first | (with_reducible first | exact HB.out | apply below_alloc | apply pw_below_drewN | apply below_drew1) | exact HB.out)) hb); clear HO0; clear HO1; clear HB; have HO0 := n0_; have HO1 := n1_; have HO355 := n2_; have HB := n3_; clear n0_ n1_ n2_ n3_; clear hb ho8; obtain ⟨Ao9, co9, eo9⟩ := Kd.N_slice HO355.out; subst eo9) | ((with_reducible refine gate_callee (f := 42) rfl ?_); refine goesL_ (some 10) rfl rfl Try.func42 (by kernel_rfl) rfl #[.slice Ao9 y353.length co9] rfl (by (try simp only [List.map_toArray, List.map_cons, List.map_nil]); first | done | rfl | (simp only [List.length_drop, List.length_take]; rfl)) ?_; (with_reducible refine (span_lists.calls k _ _ y353 t356 _ ?side1 ?side2 A3.out).mono ?_); (case side1 => repeat (first | exact (Kd.N_reads' HO355.out).2.2 | (with_reducible refine Kd.C_alloc ?_ _) | (with_reducible refine Kd.C_drewN ?_ _) | (with_reducible refine Kd.C_drew ?_))); (case side2 => exact (Kd.N_reads' HO355.out).2.1); rintro e w10 ⟨rfl, hb⟩; refine ⟨_, rfl, ?_⟩; have n0_ := Aside0.mk (Kd.V_below (by (with_reducible repeat (first | apply Kd.V_alloc | apply Kd.V_drewN | apply Kd.V_drew)); exact HO0.out) hb); have n1_ := Aside0.mk (Kd.V_below (by (with_reducible repeat (first | apply Kd.V_alloc | apply Kd.V_drewN | apply Kd.V_drew)); exact HO1.out) hb); have n2_ := Aside0.mk (Kd.N_below (by (with_reducible repeat (first | apply Kd.N_alloc | apply Kd.N_drewN | apply Kd.N_drew)); exact HO355.out) hb); have n3_ := Aside0.mk (below_step (by repeat (first | (with_reducible first | exact HB.out | apply below_alloc | apply pw_below_drewN | apply below_drew1) | exact HB.out)) hb); clear HO0; clear HO1; clear HO355; clear HB; have HO0 := n0_; have HO1 := n1_; have HO355 := n2_; have HB := n3_; clear n0_ n1_ n2_ n3_; (try clear hb); (try clear hb2); (try clear hk); (try clear hi)) | ((with_reducible refine gate_dst (N := 16) rfl ?_); refine Kd.N_lit (Kd.slice 23 k23) _ 31 ?hg (N' := 16) ?hd (xs := ([l0, l1] : List (List (S23)))) (inner := [.slice A0 l0.length c0, .slice A1 l1.length c1]) (ok := (fun k_ => ((P0_ k_ ∨ P1_ k_) ∨ w.heap.size ≤ k_) ∧ some k_ ≠ (.slice Ao9 y353.length co9 : Value).ownBlock)) (okp := (fun k_ => ((P0_ k_ ∨ P1_ k_) ∨ w.heap.size ≤ k_) ∧ some k_ ≠ (.slice Ao9 y353.length co9 : Value).ownBlock)) ?hr ?hp (fun _ hk => hk) ((show ∀ k_, w10.heap.size ≤ k_ → (fun k_ => ((P0_ k_ ∨ P1_ k_) ∨ w.heap.size ≤ k_) ∧ some k_ ≠ (.slice Ao9 y353.length co9 : Value).ownBlock) k_ from fun k_ hk => ⟨(.inr (Nat.le_trans (below_size (by repeat (first | (with_reducible first | exact HB.out | apply below_alloc | apply pw_below_drewN | apply below_drew1) | exact HB.out))) hk)), Kd.fresh' (Kd.N_lt (by (with_reducible repeat (first | apply Kd.N_alloc | apply Kd.N_drewN | apply Kd.N_drew)); exact HO355.out)) k_ hk⟩) _ (Nat.le_refl _)) (Below.refl _ _) (Nat.le_refl _) (by simp) ?_; (case hd => rfl); (case hg => rfl); (case hr => first | (go_simp; done) | (go_simp; rfl)); (case hp => exact (Reps.one (show Kd.FK (Kd.slice 23 k23) _ _ l0 [.slice A0 l0.length c0] from (Kd.FK_slice_mk (Kd.V_reads' (Kd.V_mono (ok' := (fun k_ => ((P0_ k_ ∨ P1_ k_) ∨ w.heap.size ≤ k_) ∧ some k_ ≠ (.slice Ao9 y353.length co9 : Value).ownBlock)) (HO0.out) (fun k_ hk => ⟨hk.1, hk.2⟩))).2.1 (Kd.V_F (Kd.V_mono (ok' := (fun k_ => ((P0_ k_ ∨ P1_ k_) ∨ w.heap.size ≤ k_) ∧ some k_ ≠ (.slice Ao9 y353.length co9 : Value).ownBlock)) (HO0.out) (fun k_ hk => ⟨hk.1, hk.2⟩))))) (Reps.one (show Kd.FK (Kd.slice 23 k23) _ _ l1 [.slice A1 l1.length c1] from (Kd.FK_slice_mk (Kd.V_reads' (Kd.V_mono (ok' := (fun k_ => ((P0_ k_ ∨ P1_ k_) ∨ w.heap.size ≤ k_) ∧ some k_ ≠ (.slice Ao9 y353.length co9 : Value).ownBlock)) (HO1.out) (fun k_ hk => ⟨hk.1, hk.2⟩))).2.1 (Kd.V_F (Kd.V_mono (ok' := (fun k_ => ((P0_ k_ ∨ P1_ k_) ∨ w.heap.size ≤ k_) ∧ some k_ ≠ (.slice Ao9 y353.length co9 : Value).ownBlock)) (HO1.out) (fun k_ hk => ⟨hk.1, hk.2⟩))))) (Reps.none _ _)))); intro v358 w11 ho12 hb hg_ hnew_; clear hg_ hnew_; (first | rw [← Ny357.out] at ho12 | (simp only [Int.reduceToNat] at ho12; rw [← Ny357.out] at ho12)); have n0_ := Aside0.mk (Kd.V_elder' (by (with_reducible repeat (first | apply Kd.V_alloc | apply Kd.V_drewN | apply Kd.V_drew)); exact HO0.out) (Kd.N_base ho12) hb); have n1_ := Aside0.mk (Kd.V_elder' (by (with_reducible repeat (first | apply Kd.V_alloc | apply Kd.V_drewN | apply Kd.V_drew)); exact HO1.out) (Kd.N_base ho12) hb); have n2_ := Aside0.mk (Kd.N_elder' (by (with_reducible repeat (first | apply Kd.N_alloc | apply Kd.N_drewN | apply Kd.N_drew)); exact HO355.out) (Kd.N_base ho12) hb); have n3_ := Aside0.mk (Kd.N_lower ho12 (below_size (by repeat (first | (with_reducible first | exact HB.out | apply below_alloc | apply pw_below_drewN | apply below_drew1) | exact HB.out)))); have n4_ := Aside0.mk (below_step (by repeat (first | (with_reducible first | exact HB.out | apply below_alloc | apply pw_below_drewN | apply below_drew1) | exact HB.out)) hb); clear HO0; clear HO1; clear HO355; clear HB; have HO0 := n0_; have HO1 := n1_; have HO355 := n2_; have HO359 := n3_; have HB := n4_; clear n0_ n1_ n2_ n3_ n4_; clear hb ho12; obtain ⟨Ao13, co13, eo13⟩ := Kd.N_slice HO359.out; subst eo13) | ((with_reducible refine gate_callee (f := 46) rfl ?_); refine goesL_ (some 17) rfl rfl Try.func46 (by kernel_rfl) rfl #[.slice Ao13 y357.length co13] rfl (by (try simp only [List.map_toArray, List.map_cons, List.map_nil]); first | done | rfl | (simp only [List.length_drop, List.length_take]; rfl)) ?_; (with_reducible refine (api_Interval_46.calls _ _ y357 t360 _ ?side1 ?side2 A5.out).mono ?_); (case side1 => repeat (first | exact (Kd.N_reads' HO359.out).2.2 | (with_reducible refine Kd.C_alloc ?_ _) | (with_reducible refine Kd.C_drewN ?_ _) | (with_reducible refine Kd.C_drew ?_))); (case side2 => exact (Kd.N_reads' HO359.out).2.1); rintro e w14 ⟨v361, rfl, ho0, hb⟩; refine ⟨_, rfl, ?_⟩; have n0_ := Aside0.mk (Kd.V_elder' (by (with_reducible repeat (first | apply Kd.V_alloc | apply Kd.V_drewN | apply Kd.V_drew)); exact HO0.out) (Kd.R_base ho0) hb); have n1_ := Aside0.mk (Kd.V_elder' (by (with_reducible repeat (first | apply Kd.V_alloc | apply Kd.V_drewN | apply Kd.V_drew)); exact HO1.out) (Kd.R_base ho0) hb); have n2_ := Aside0.mk (Kd.N_elder' (by (with_reducible repeat (first | apply Kd.N_alloc | apply Kd.N_drewN | apply Kd.N_drew)); exact HO355.out) (Kd.R_base ho0) hb); have n3_ := Aside0.mk (Kd.N_elder' (by (with_reducible repeat (first | apply Kd.N_alloc | apply Kd.N_drewN | apply Kd.N_drew)); exact HO359.out) (Kd.R_base ho0) hb); have n4_ := Aside0.mk (Kd.R_lower (Kd.R_newM (M := fun k_ => (w.heap.size ≤ k_)) ho0 (below_size (by repeat (first | (with_reducible first | exact HB.out | apply below_alloc | apply pw_below_drewN | apply below_drew1) | exact HB.out))) (fun k_ h_ => h_)) (below_size (by repeat (first | (with_reducible first | exact HB.out | apply below_alloc | apply pw_below_drewN | apply below_drew1) | exact HB.out)))); have n5_ := Aside0.mk (below_step (by repeat (first | (with_reducible first | exact HB.out | apply below_alloc | apply pw_below_drewN | apply below_drew1) | exact HB.out)) hb); clear HO0; clear HO1; clear HO355; clear HO359; clear HB; have HO0 := n0_; have HO1 := n1_; have HO355 := n2_; have HO359 := n3_; have HO362 := n4_; have HB := n5_; clear n0_ n1_ n2_ n3_ n4_ n5_; (try clear hb); (try clear hb2); (try clear hk); (try clear hi); (try clear ho0); obtain ⟨Ao15, co15, eo15⟩ := Kd.R_slice HO362.out; subst eo15) | ((with_reducible refine gate_callee (f := 45) rfl ?_); refine goesL_ (some 18) rfl rfl Try.func45 (by kernel_rfl) rfl #[.slice Ao15 t360.length co15] rfl (by (try simp only [List.map_toArray, List.map_cons, List.map_nil]); first | done | rfl | (simp only [List.length_drop, List.length_take]; rfl)) ?_; (with_reducible refine (span_normal.calls k _ _ t360 t363 _ ?side1 ?side2 A6.out).mono ?_); (case side1 => repeat (first | exact (Kd.R_reads' HO362.out).2.2 | (with_reducible refine Kd.C_alloc ?_ _) | (with_reducible refine Kd.C_drewN ?_ _) | (with_reducible refine Kd.C_drew ?_))); (case side2 => exact (Kd.R_reads' HO362.out).2.1); rintro e w16 ⟨v364, rfl, ho0, hb⟩; refine ⟨_, rfl, ?_⟩; have n0_ := Aside0.mk (Kd.V_elder' (by (with_reducible repeat (first | apply Kd.V_alloc | apply Kd.V_drewN | apply Kd.V_drew)); exact HO0.out) (Kd.R_base ho0) hb); have n1_ := Aside0.mk (Kd.V_elder' (by (with_reducible repeat (first | apply Kd.V_alloc | apply Kd.V_drewN | apply Kd.V_drew)); exact HO1.out) (Kd.R_base ho0) hb); have n2_ := Aside0.mk (Kd.N_elder' (by (with_reducible repeat (first | apply Kd.N_alloc | apply Kd.N_drewN | apply Kd.N_drew)); exact HO355.out) (Kd.R_base ho0) hb); have n3_ := Aside0.mk (Kd.N_elder' (by (with_reducible repeat (first | apply Kd.N_alloc | apply Kd.N_drewN | apply Kd.N_drew)); exact HO359.out) (Kd.R_base ho0) hb); have n4_ := Aside0.mk (Kd.R_elder' (by (with_reducible repeat (first | apply Kd.R_alloc | apply Kd.R_drewN | apply Kd.R_drew)); exact HO362.out) (Kd.R_base ho0) hb); have n5_ := Aside0.mk (Kd.R_lower (Kd.R_new' (Kd.R_newM (M := fun k_ => (w.heap.size ≤ k_)) ho0 (below_size (by repeat (first | (with_reducible first | exact HB.out | apply below_alloc | apply pw_below_drewN | apply below_drew1) | exact HB.out))) (fun k_ h_ => h_)) (Kd.R_lt (by (with_reducible repeat (first | apply Kd.R_alloc | apply Kd.R_drewN | apply Kd.R_drew)); exact HO362.out))) (below_size (by repeat (first | (with_reducible first | exact HB.out | apply below_alloc | apply pw_below_drewN | apply below_drew1) | exact HB.out)))); have n6_ := Aside0.mk (below_step (by repeat (first | (with_reducible first | exact HB.out | apply below_alloc | apply pw_below_drewN | apply below_drew1) | exact HB.out)) hb); clear HO0; clear HO1; clear HO355; clear HO359; clear HO362; clear HB; have HO0 := n0_; have HO1 := n1_; have HO355 := n2_; have HO359 := n3_; have HO362 := n4_; have HO365 := n5_; have HB := n6_; clear n0_ n1_ n2_ n3_ n4_ n5_ n6_; (try clear hb); (try clear hb2); (try clear hk); (try clear hi); (try clear ho0)))
    go_ret2
    exact ⟨_, by first | rfl | (simp [errW_none, errW_some] <;> rfl) | (simp [*, errW_none, errW_some] <;> rfl), by (with_reducible repeat (first | apply Kd.R_alloc | apply Kd.R_drewN | apply Kd.R_drew)); exact Kd.R_mono HO365.out (fun _ hk => hk.1.1), by repeat (first | (with_reducible first | exact HB.out | apply below_alloc | apply pw_below_drewN | apply below_drew1) | exact HB.out)⟩
  · rw [if_neg c4] at H
    have c4b0 : (t356 == 0) = false := beq_eq_false_iff_ne.mpr c4
    have c4b1 : (t356 != 0) = true := bne_iff_ne.mpr c4
    simp only [Option.some.injEq, Prod.mk.injEq] at H
    obtain ⟨rfl, rfl⟩ := H
    go_enter Try.func31, Try.ntmps31
    go_wp2_with (first | ((with_reducible refine gate_dst (N := 9) rfl ?_); refine Kd.N_lit (Kd.slice 23 k23) _ 31 ?hg (N' := 9) ?hd (xs := ([l0, l1] : List (List (S23)))) (inner := [.slice A0 l0.length c0, .slice A1 l1.length c1]) (ok := (fun k_ => ((P0_ k_ ∨ P1_ k_) ∨ w.heap.size ≤ k_))) (okp := (fun k_ => ((P0_ k_ ∨ P1_ k_) ∨ w.heap.size ≤ k_))) ?hr ?hp (fun _ hk => hk) ((show ∀ k_, w.heap.size ≤ k_ → (fun k_ => ((P0_ k_ ∨ P1_ k_) ∨ w.heap.size ≤ k_)) k_ from fun k_ hk => (.inr (Nat.le_trans (below_size (by repeat (first | (with_reducible first | exact HB.out | apply below_alloc | apply pw_below_drewN | apply below_drew1) | exact HB.out))) hk))) _ (Nat.le_refl _)) (Below.refl _ _) (Nat.le_refl _) (by simp) ?_; (case hd => rfl); (case hg => rfl); (case hr => first | (go_simp; done) | (go_simp; rfl)); (case hp => exact (Reps.one (show Kd.FK (Kd.slice 23 k23) _ _ l0 [.slice A0 l0.length c0] from (Kd.FK_slice_mk (Kd.V_reads' (Kd.V_mono (ok' := (fun k_ => ((P0_ k_ ∨ P1_ k_) ∨ w.heap.size ≤ k_))) (HO0.out) (fun k_ hk => hk))).2.1 (Kd.V_F (Kd.V_mono (ok' := (fun k_ => ((P0_ k_ ∨ P1_ k_) ∨ w.heap.size ≤ k_))) (HO0.out) (fun k_ hk => hk))))) (Reps.one (show Kd.FK (Kd.slice 23 k23) _ _ l1 [.slice A1 l1.length c1] from (Kd.FK_slice_mk (Kd.V_reads' (Kd.V_mono (ok' := (fun k_ => ((P0_ k_ ∨ P1_ k_) ∨ w.heap.size ≤ k_))) (HO1.out) (fun k_ hk => hk))).2.1 (Kd.V_F (Kd.V_mono (ok' := (fun k_ => ((P0_ k_ ∨ P1_ k_) ∨ w.heap.size ≤ k_))) (HO1.out) (fun k_ hk => hk))))) (Reps.none _ _)))); intro v354 w17 ho18 hb hg_ hnew_; clear hg_ hnew_; (first | rw [← Ny353.out] at ho18 | (simp only [Int.reduceToNat] at ho18; rw [← Ny353.out] at ho18)); have n0_ := Aside0.mk (Kd.V_elder' (by (with_reducible repeat (first | apply Kd.V_alloc | apply Kd.V_drewN | apply Kd.V_drew)); exact HO0.out) (Kd.N_base ho18) hb); have n1_ := Aside0.mk (Kd.V_elder' (by (with_reducible repeat (first | apply Kd.V_alloc | apply Kd.V_drewN | apply Kd.V_drew)); exact HO1.out) (Kd.N_base ho18) hb); have n2_ := Aside0.mk (Kd.N_lower ho18 (below_size (by repeat (first | (with_reducible first | exact HB.out | apply below_alloc | apply pw_below_drewN | apply below_drew1) | exact HB.out)))); have n3_ := Aside0.mk (below_step (by repeat (first | (with_reducible first | exact HB.out | apply below_alloc | apply pw_below_drewN | apply below_drew1) | exact HB.out)) hb); clear HO0; clear HO1; clear HB; have HO0 := n0_; have HO1 := n1_; have HO355 := n2_; have HB := n3_; clear n0_ n1_ n2_ n3_; clear hb ho18; obtain ⟨Ao19, co19, eo19⟩ := Kd.N_slice HO355.out; subst eo19) | ((with_reducible refine gate_callee (f := 42) rfl ?_); refine goesL_ (some 10) rfl rfl Try.func42 (by kernel_rfl) rfl #[.slice Ao19 y353.length co19] rfl (by (try simp only [List.map_toArray, List.map_cons, List.map_nil]); first | done | rfl | (simp only [List.length_drop, List.length_take]; rfl)) ?_; (with_reducible refine (span_lists.calls k _ _ y353 t356 _ ?side1 ?side2 A3.out).mono ?_); (case side1 => repeat (first | exact (Kd.N_reads' HO355.out).2.2 | (with_reducible refine Kd.C_alloc ?_ _) | (with_reducible refine Kd.C_drewN ?_ _) | (with_reducible refine Kd.C_drew ?_))); (case side2 => exact (Kd.N_reads' HO355.out).2.1); rintro e w20 ⟨rfl, hb⟩; refine ⟨_, rfl, ?_⟩; have n0_ := Aside0.mk (Kd.V_below (by (with_reducible repeat (first | apply Kd.V_alloc | apply Kd.V_drewN | apply Kd.V_drew)); exact HO0.out) hb); have n1_ := Aside0.mk (Kd.V_below (by (with_reducible repeat (first | apply Kd.V_alloc | apply Kd.V_drewN | apply Kd.V_drew)); exact HO1.out) hb); have n2_ := Aside0.mk (Kd.N_below (by (with_reducible repeat (first | apply Kd.N_alloc | apply Kd.N_drewN | apply Kd.N_drew)); exact HO355.out) hb); have n3_ := Aside0.mk (below_step (by repeat (first | (with_reducible first | exact HB.out | apply below_alloc | apply pw_below_drewN | apply below_drew1) | exact HB.out)) hb); clear HO0; clear HO1; clear HO355; clear HB; have HO0 := n0_; have HO1 := n1_; have HO355 := n2_; have HB := n3_; clear n0_ n1_ n2_ n3_; (try clear hb); (try clear hb2); (try clear hk); (try clear hi)))
    go_ret2
    exact ⟨_, by first | rfl | (simp [errW_none, errW_some] <;> rfl) | (simp [*, errW_none, errW_some] <;> rfl), by first | exact Kd.R_nil _ _ _ _ _ | exact Kd.N_nil _ _ _ _ _ | exact Kd.V_nil _ _ _ _ _ | exact Kd.Q_nil _ _ _ _ _ | exact Kd.S_nil _ _ _ _ _, by repeat (first | (with_reducible first | exact HB.out | apply below_alloc | apply pw_below_drewN | apply below_drew1) | exact HB.out)⟩

mutual
def span_common.l0 : Nat → List (S23) → List (S23) → List (S23) → Option ((List (S23)))
  | 0, _, _, _ => none
  | k + 1, x0, x1, x5 => if (x0.length : Int) > 0 then (span_common.j1 k x0 x1 x5 (decide ((x1.length : Int) > 0))) else (span_common.j1 k x0 x1 x5 false)
def span_common.j1 : Nat → List (S23) → List (S23) → List (S23) → Bool → Option ((List (S23)))
  | 0, _, _, _, _ => none
  | k + 1, x0, x1, x5, x15 => if x15 = true then (if 0 < (x0.length : Int) then (if 0 < (x1.length : Int) then (if (mx ((rd_T23 x0 0).f0) ((rd_T23 x1 0).f0)) ≤ (mn ((rd_T23 x0 0).f1) ((rd_T23 x1 0).f1)) then (if x5.length < 8796093022208 then ((some (x5 ++ [(⟨mx ((rd_T23 x0 0).f0) ((rd_T23 x1 0).f0), mn ((rd_T23 x0 0).f1) ((rd_T23 x1 0).f1)⟩ : S23)] : List (S23))).bind fun y370 => (if ((rd_T23 x0 0).f1) < ((rd_T23 x1 0).f1) then (if 1 ≤ (x0.length : Int) then (span_common.l0 k (x0.drop 1) x1 y370) else (none)) else (if 1 ≤ (x1.length : Int) then (span_common.l0 k x0 (x1.drop 1) y370) else (none)))) else (none)) else (if ((rd_T23 x0 0).f1) < ((rd_T23 x1 0).f1) then (if 1 ≤ (x0.length : Int) then (span_common.l0 k (x0.drop 1) x1 x5) else (none)) else (if 1 ≤ (x1.length : Int) then (span_common.l0 k x0 (x1.drop 1) x5) else (none)))) else (none)) else (none)) else (some x5)
end
def span_common.f (k : Nat) (l0 : List (S23)) (l1 : List (S23)) : Option ((List (S23))) := span_common.l0 k l0 l1 ([] : List (S23))
set_option maxHeartbeats 8000000 in
set_option maxRecDepth 100000 in
theorem span_common.calls (k : Nat) (P0_ : Nat → Prop) (A0 : Option Addr) (c0 : Nat) (l0 : List (S23)) (P1_ : Nat → Prop) (A1 : Option Addr) (c1 : Nat) (l1 : List (S23)) (r : List (S23)) (w : World) (hs0 : Kd.V k23 23 w w.heap.size (fun k_ => P0_ k_) (.slice A0 l0.length c0) l0) (hs1 : Kd.V k23 23 w w.heap.size (fun k_ => P1_ k_) (.slice A1 l1.length c1) l1) (h : span_common.f k l0 l1 = some r) :
    Calls Try.prog 47 #[.slice A0 l0.length c0, .slice A1 l1.length c1] w fun e w' => ∃ v0_ : Value, e = .returned (v0_) ∧ Kd.R k23 23 w' w.heap.size (fun k_ => (w.heap.size ≤ k_)) v0_ r ∧ Below w.heap.size w w' := by
  have hu23 := Try.underlying23
  have HO0 := Aside0.mk (show Kd.V k23 23 w w.heap.size (fun k_ => ((P0_ k_ ∨ P1_ k_) ∨ w.heap.size ≤ k_)) (.slice A0 l0.length c0) l0 from Kd.V_mono hs0 (fun k_ hk => .inl (.inl hk)))
  have HO1 := Aside0.mk (show Kd.V k23 23 w w.heap.size (fun k_ => ((P0_ k_ ∨ P1_ k_) ∨ w.heap.size ≤ k_)) (.slice A1 l1.length c1) l1 from Kd.V_mono hs1 (fun k_ hk => .inl (.inr hk)))
  have HB := Aside0.mk (Below.refl w.heap.size w)
  have H : (span_common.l0 k l0 l1 ([] : List (S23))) = some r := h
  clear h
  have H' := Aside0.mk H
  clear H
  go_enter Try.func47, Try.ntmps47
  go_wp2
  repeat (go_quiet (fail); try go_wp2)
  go_loopg [0, 1, 5] k (fun kq v0 v1 v5 w' => ∃ (x0_1 : List (S23)) (x1_1 : List (S23)) (x5_1 : List (S23)), Aside0 (span_common.l0 kq x0_1 x1_1 x5_1 = some r) ∧ Aside0 (kq ≤ k) ∧ Aside0 (Kd.V k23 23 w' w.heap.size (fun k_ => ((P0_ k_ ∨ P1_ k_) ∨ w.heap.size ≤ k_) ∧ some k_ ≠ (v5 : Value).ownBlock) v0 x0_1) ∧ Aside0 (Kd.V k23 23 w' w.heap.size (fun k_ => ((P0_ k_ ∨ P1_ k_) ∨ w.heap.size ≤ k_) ∧ some k_ ≠ (v5 : Value).ownBlock) v1 x1_1) ∧ Aside0 (Kd.R k23 23 w' w.heap.size (fun k_ => (w.heap.size ≤ k_)) v5 x5_1) ∧ Aside0 (Below w.heap.size w w'))
  case atStart => exact ⟨(l0), (l1), (([] : List (S23))), H', ⟨Nat.le_refl _⟩, ⟨by (with_reducible repeat (first | apply Kd.V_alloc | apply Kd.V_drewN | apply Kd.V_drew)); exact Kd.V_mono HO0.out (fun _ hk => ⟨hk, (by simp [Value.ownBlock])⟩)⟩, ⟨by (with_reducible repeat (first | apply Kd.V_alloc | apply Kd.V_drewN | apply Kd.V_drew)); exact Kd.V_mono HO1.out (fun _ hk => ⟨hk, (by simp [Value.ownBlock])⟩)⟩, ⟨by first | exact Kd.R_nil _ _ _ _ _ | exact Kd.N_nil _ _ _ _ _ | exact Kd.V_nil _ _ _ _ _ | exact Kd.Q_nil _ _ _ _ _ | exact Kd.S_nil _ _ _ _ _⟩, ⟨by repeat (first | (with_reducible first | exact HB.out | apply below_alloc | apply pw_below_drewN | apply below_drew1) | exact HB.out)⟩⟩
  case round =>
    clear H'
    try clear c1
    try clear p2
    obtain ⟨x0_1, x1_1, x5_1, HA, HK1, HO_0, HO_1, HO_5, HB⟩ := hrel
    cases gk with
    | zero => exact absurd HA.out (by simp [span_common.l0])
    | succ k1 =>
      have H := HA.out
      clear HA
      simp only [span_common.l0] at H
      have HC3 := Aside0.mk H
      clear H
      go_upto_region 2 with (fail)
      repeat (go_quiet (fail); go_upto_region 2 with (fail))
      go_cut [15] (fun v15 wc => ∃ (kq : Nat) (x15_2 : Bool), v15 = .bool x15_2 ∧ Aside0 (span_common.j1 kq x0_1 x1_1 x5_1 x15_2 = some r) ∧ Aside0 (kq ≤ k1) ∧ Aside0 (Kd.V k23 23 wc w.heap.size (fun k_ => ((P0_ k_ ∨ P1_ k_) ∨ w.heap.size ≤ k_) ∧ some k_ ≠ (u5 : Value).ownBlock) u0 x0_1) ∧ Aside0 (Kd.V k23 23 wc w.heap.size (fun k_ => ((P0_ k_ ∨ P1_ k_) ∨ w.heap.size ≤ k_) ∧ some k_ ≠ (u5 : Value).ownBlock) u1 x1_1) ∧ Aside0 (Kd.R k23 23 wc w.heap.size (fun k_ => (w.heap.size ≤ k_)) u5 x5_1) ∧ Aside0 (Below w.heap.size w wc))
      case first =>
        have H := HC3.out
        clear HC3
        by_cases c4 : (x0_1.length : Int) > 0
        · rw [if_pos c4] at H
          have c4b0 : decide (0 < (x0_1.length : Int)) = true := decide_eq_true c4
          have c4b1 : decide (0 < x0_1.length) = true := decide_eq_true (by omega)
          clear c4
          (first | rw [c4b0] | (simp only [i64_w, i32_w]; rw [c4b0]) | skip)
          have H' := Aside0.mk H
          clear H
          obtain ⟨Ao5, co5, eo5⟩ := Kd.V_slice HO_0.out
          subst eo5
          obtain ⟨Ao6, co6, eo6⟩ := Kd.V_slice HO_1.out
          subst eo6
          go_wp2
          repeat (go_quiet (fail); try go_wp2)
          go_meet
          case rel => exact ⟨_, (decide ((x1_1.length : Int) > 0)), (by first | rfl | (simp; done) | (simp [*]; done)), H', ⟨by have := HK1.out; first | omega | exact Nat.le_refl _⟩, ⟨by (with_reducible repeat (first | apply Kd.V_alloc | apply Kd.V_drewN | apply Kd.V_drew)); exact HO_0.out⟩, ⟨by (with_reducible repeat (first | apply Kd.V_alloc | apply Kd.V_drewN | apply Kd.V_drew)); exact HO_1.out⟩, ⟨by (with_reducible repeat (first | apply Kd.R_alloc | apply Kd.R_drewN | apply Kd.R_drew)); exact HO_5.out⟩, ⟨by repeat (first | (with_reducible first | exact HB.out | apply below_alloc | apply pw_below_drewN | apply below_drew1) | exact HB.out)⟩⟩
        · rw [if_neg c4] at H
          have c4b0 : decide (0 < (x0_1.length : Int)) = false := decide_eq_false c4
          have c4b1 : decide (0 < x0_1.length) = false := decide_eq_false (by omega)
          clear c4
          (first | rw [c4b0] | (simp only [i64_w, i32_w]; rw [c4b0]) | skip)
          have H' := Aside0.mk H
          clear H
          obtain ⟨Ao7, co7, eo7⟩ := Kd.V_slice HO_0.out
          subst eo7
          go_wp2
          repeat (go_quiet (fail); try go_wp2)
          go_meet
          case rel => exact ⟨_, (false), (by first | rfl | (simp; done) | (simp [*]; done)), H', ⟨by have := HK1.out; first | omega | exact Nat.le_refl _⟩, ⟨by (with_reducible repeat (first | apply Kd.V_alloc | apply Kd.V_drewN | apply Kd.V_drew)); exact HO_0.out⟩, ⟨by (with_reducible repeat (first | apply Kd.V_alloc | apply Kd.V_drewN | apply Kd.V_drew)); exact HO_1.out⟩, ⟨by (with_reducible repeat (first | apply Kd.R_alloc | apply Kd.R_drewN | apply Kd.R_drew)); exact HO_5.out⟩, ⟨by repeat (first | (with_reducible first | exact HB.out | apply below_alloc | apply pw_below_drewN | apply below_drew1) | exact HB.out)⟩⟩
      case rest =>
        clear HC3
        try clear c1
        try clear p2
        try clear c4
        try clear c4b0
        try clear c4b1
        try clear p2
        obtain ⟨kq, x15_2, rfl, HA, HJ2, HO_0, HO_1, HO_5, HB⟩ := hcut
        cases kq with
        | zero => exact absurd HA.out (by simp [span_common.j1])
        | succ kj2 =>
          have H := HA.out
          clear HA
          simp only [span_common.j1] at H
          by_cases c8 : x15_2 = true
          · subst c8
            have H1 : (if 0 < (x0_1.length : Int) then (if 0 < (x1_1.length : Int) then (if (mx ((rd_T23 x0_1 0).f0) ((rd_T23 x1_1 0).f0)) ≤ (mn ((rd_T23 x0_1 0).f1) ((rd_T23 x1_1 0).f1)) then (if x5_1.length < 8796093022208 then ((some (x5_1 ++ [(⟨mx ((rd_T23 x0_1 0).f0) ((rd_T23 x1_1 0).f0), mn ((rd_T23 x0_1 0).f1) ((rd_T23 x1_1 0).f1)⟩ : S23)] : List (S23))).bind fun y370 => (if ((rd_T23 x0_1 0).f1) < ((rd_T23 x1_1 0).f1) then (if 1 ≤ (x0_1.length : Int) then (span_common.l0 kj2 (x0_1.drop 1) x1_1 y370) else (none)) else (if 1 ≤ (x1_1.length : Int) then (span_common.l0 kj2 x0_1 (x1_1.drop 1) y370) else (none)))) else (none)) else (if ((rd_T23 x0_1 0).f1) < ((rd_T23 x1_1 0).f1) then (if 1 ≤ (x0_1.length : Int) then (span_common.l0 kj2 (x0_1.drop 1) x1_1 x5_1) else (none)) else (if 1 ≤ (x1_1.length : Int) then (span_common.l0 kj2 x0_1 (x1_1.drop 1) x5_1) else (none)))) else (none)) else (none)) = some r := by rw [if_pos rfl] at H; exact H
            clear H
            have H := H1
            clear H1
            by_cases c9 : 0 < (x0_1.length : Int)
            · rw [if_pos c9] at H
              have c9b0 : decide (0 < (x0_1.length : Int)) = true := decide_eq_true c9
              have c9b1 : decide (0 < x0_1.length) = true := decide_eq_true (by omega)
              clear c9
              by_cases c10 : 0 < (x1_1.length : Int)
              · rw [if_pos c10] at H
                have c10b0 : decide (0 < (x1_1.length : Int)) = true := decide_eq_true c10
                have c10b1 : decide (0 < x1_1.length) = true := decide_eq_true (by omega)
                clear c10
                obtain ⟨ji11, hji11⟩ : ∃ j_ : Int, (mx ((rd_T23 x0_1 0).f0) ((rd_T23 x1_1 0).f0)) = j_ := ⟨_, rfl⟩
                replace H : (if (ji11) ≤ (mn ((rd_T23 x0_1 0).f1) ((rd_T23 x1_1 0).f1)) then (if x5_1.length < 8796093022208 then ((some (x5_1 ++ [(⟨ji11, mn ((rd_T23 x0_1 0).f1) ((rd_T23 x1_1 0).f1)⟩ : S23)] : List (S23))).bind fun y370 => (if ((rd_T23 x0_1 0).f1) < ((rd_T23 x1_1 0).f1) then (if 1 ≤ (x0_1.length : Int) then (span_common.l0 kj2 (x0_1.drop 1) x1_1 y370) else (none)) else (if 1 ≤ (x1_1.length : Int) then (span_common.l0 kj2 x0_1 (x1_1.drop 1) y370) else (none)))) else (none)) else (if ((rd_T23 x0_1 0).f1) < ((rd_T23 x1_1 0).f1) then (if 1 ≤ (x0_1.length : Int) then (span_common.l0 kj2 (x0_1.drop 1) x1_1 x5_1) else (none)) else (if 1 ≤ (x1_1.length : Int) then (span_common.l0 kj2 x0_1 (x1_1.drop 1) x5_1) else (none)))) = some r := by first | (rw [hji11] at H; exact H) | (simp only [hji11] at H ⊢; exact H)
                have hji11_ : (if ((rd_T23 x0_1 0).f0) < ((rd_T23 x1_1 0).f0) then ((rd_T23 x1_1 0).f0) else ((rd_T23 x0_1 0).f0)) = ji11 := hji11
                obtain ⟨ji12, hji12⟩ : ∃ j_ : Int, (mn ((rd_T23 x0_1 0).f1) ((rd_T23 x1_1 0).f1)) = j_ := ⟨_, rfl⟩
                replace H : (if (ji11) ≤ (ji12) then (if x5_1.length < 8796093022208 then ((some (x5_1 ++ [(⟨ji11, ji12⟩ : S23)] : List (S23))).bind fun y370 => (if ((rd_T23 x0_1 0).f1) < ((rd_T23 x1_1 0).f1) then (if 1 ≤ (x0_1.length : Int) then (span_common.l0 kj2 (x0_1.drop 1) x1_1 y370) else (none)) else (if 1 ≤ (x1_1.length : Int) then (span_common.l0 kj2 x0_1 (x1_1.drop 1) y370) else (none)))) else (none)) else (if ((rd_T23 x0_1 0).f1) < ((rd_T23 x1_1 0).f1) then (if 1 ≤ (x0_1.length : Int) then (span_common.l0 kj2 (x0_1.drop 1) x1_1 x5_1) else (none)) else (if 1 ≤ (x1_1.length : Int) then (span_common.l0 kj2 x0_1 (x1_1.drop 1) x5_1) else (none)))) = some r := by first | (rw [hji12] at H; exact H) | (simp only [hji12] at H ⊢; exact H)
                have hji12_ : (if ((rd_T23 x1_1 0).f1) < ((rd_T23 x0_1 0).f1) then ((rd_T23 x1_1 0).f1) else ((rd_T23 x0_1 0).f1)) = ji12 := hji12
                by_cases c13 : (ji11) ≤ (ji12)
                · rw [if_pos c13] at H
                  have c13b0 : decide ((ji11) ≤ (ji12)) = true := decide_eq_true c13
                  clear c13
                  by_cases c14 : x5_1.length < 8796093022208
                  · rw [if_pos c14] at H
                    have LMc14 := Aside0.mk c14
                    clear c14
                    obtain ⟨y370, hy370⟩ : ∃ y_ : List (S23), y_ = (x5_1 ++ [(⟨ji11, ji12⟩ : S23)]) := ⟨_, rfl⟩
                    replace H : (if ((rd_T23 x0_1 0).f1) < ((rd_T23 x1_1 0).f1) then (if 1 ≤ (x0_1.length : Int) then (span_common.l0 kj2 (x0_1.drop 1) x1_1 y370) else (none)) else (if 1 ≤ (x1_1.length : Int) then (span_common.l0 kj2 x0_1 (x1_1.drop 1) y370) else (none))) = some r := by first | (rw [hy370]; with_reducible exact H) | (have H2_ := (Option.bind_some _ _).symm.trans H; rw [hy370]; with_reducible exact H2_) | (have H2_ := (Option.bind_some _ _).symm.trans H; with_reducible exact H2_) | with_reducible exact H | (rw [hy370]; exact H) | exact H
                    have Ny370 := Aside0.mk hy370
                    clear hy370
                    by_cases c15 : ((rd_T23 x0_1 0).f1) < ((rd_T23 x1_1 0).f1)
                    · rw [if_pos c15] at H
                      have c15b0 : decide (((rd_T23 x0_1 0).f1) < ((rd_T23 x1_1 0).f1)) = true := decide_eq_true c15
                      clear c15
                      by_cases c16 : 1 ≤ (x0_1.length : Int)
                      · rw [if_pos c16] at H
                        have c16b0 := eq_true c16
                        have c16b1 : decide (1 ≤ (x0_1.length : Int)) = true := decide_eq_true c16
                        clear c16
                        obtain ⟨y375, hy375⟩ : ∃ y_ : List (S23), y_ = (x0_1.drop 1) := ⟨_, rfl⟩
                        replace H : (span_common.l0 kj2 y375 x1_1 y370) = some r := by first | (rw [hy375]; with_reducible exact H) | (have H2_ := (Option.bind_some _ _).symm.trans H; rw [hy375]; with_reducible exact H2_) | (have H2_ := (Option.bind_some _ _).symm.trans H; with_reducible exact H2_) | with_reducible exact H | (rw [hy375]; exact H) | exact H
                        have Ny375 := Aside0.mk hy375
                        clear hy375
                        have H' := Aside0.mk H
                        clear H
                        obtain ⟨Ao17, co17, eo17⟩ := Kd.V_slice HO_0.out
                        subst eo17
                        have p366 : 0 ≤ (0 : Int) := (by omega)
                        have q366 : 0 < (x0_1.length : Int) := of_decide_eq_true (by first | (with_reducible assumption) | assumption)
                        obtain ⟨ad366, e366, hx366_0, hx366_1⟩ := at_T23 (Kd.V_reads' HO_0.out).2.2 0 p366 q366
                        cases e366
                        have qi366 : (0 < x0_1.length) = True := eq_true (by omega)
                        (try rw [show ((0 : Int)).toNat = 0 from rfl] at hx366_0)
                        (try rw [show 0 * 2 = 0 from rfl] at hx366_0)
                        (try rw [Addr.add_zero'] at hx366_0)
                        (try rw [show ((0 : Int)).toNat = 0 from rfl] at hx366_1)
                        (try rw [show 0 * 2 = 0 from rfl] at hx366_1)
                        (try rw [Addr.add_zero'] at hx366_1)
                        replace p366 := eq_true p366
                        replace q366 := eq_true q366
                        obtain ⟨Ao18, co18, eo18⟩ := Kd.V_slice HO_1.out
                        subst eo18
                        have p367 : 0 ≤ (0 : Int) := (by omega)
                        have q367 : 0 < (x1_1.length : Int) := of_decide_eq_true (by first | (with_reducible assumption) | assumption)
                        obtain ⟨ad367, e367, hx367_0, hx367_1⟩ := at_T23 (Kd.V_reads' HO_1.out).2.2 0 p367 q367
                        cases e367
                        have qi367 : (0 < x1_1.length) = True := eq_true (by omega)
                        (try rw [show ((0 : Int)).toNat = 0 from rfl] at hx367_0)
                        (try rw [show 0 * 2 = 0 from rfl] at hx367_0)
                        (try rw [Addr.add_zero'] at hx367_0)
                        (try rw [show ((0 : Int)).toNat = 0 from rfl] at hx367_1)
                        (try rw [show 0 * 2 = 0 from rfl] at hx367_1)
                        (try rw [Addr.add_zero'] at hx367_1)
                        replace p367 := eq_true p367
                        replace q367 := eq_true q367
                        have p368 : 0 ≤ (0 : Int) := (by omega)
                        have q368 : 0 < (x0_1.length : Int) := of_decide_eq_true (by first | (with_reducible assumption) | assumption)
                        obtain ⟨ad368, e368, hx368_0, hx368_1⟩ := at_T23 (Kd.V_reads' HO_0.out).2.2 0 p368 q368
                        obtain rfl : ad366 = ad368 := (by injection e368)
                        have qi368 : (0 < x0_1.length) = True := eq_true (by omega)
                        (try rw [show ((0 : Int)).toNat = 0 from rfl] at hx368_0)
                        (try rw [show 0 * 2 = 0 from rfl] at hx368_0)
                        (try rw [Addr.add_zero'] at hx368_0)
                        (try rw [show ((0 : Int)).toNat = 0 from rfl] at hx368_1)
                        (try rw [show 0 * 2 = 0 from rfl] at hx368_1)
                        (try rw [Addr.add_zero'] at hx368_1)
                        replace p368 := eq_true p368
                        replace q368 := eq_true q368
                        have p369 : 0 ≤ (0 : Int) := (by omega)
                        have q369 : 0 < (x1_1.length : Int) := of_decide_eq_true (by first | (with_reducible assumption) | assumption)
                        obtain ⟨ad369, e369, hx369_0, hx369_1⟩ := at_T23 (Kd.V_reads' HO_1.out).2.2 0 p369 q369
                        obtain rfl : ad367 = ad369 := (by injection e369)
                        have qi369 : (0 < x1_1.length) = True := eq_true (by omega)
                        (try rw [show ((0 : Int)).toNat = 0 from rfl] at hx369_0)
                        (try rw [show 0 * 2 = 0 from rfl] at hx369_0)
                        (try rw [Addr.add_zero'] at hx369_0)
                        (try rw [show ((0 : Int)).toNat = 0 from rfl] at hx369_1)
                        (try rw [show 0 * 2 = 0 from rfl] at hx369_1)
                        (try rw [Addr.add_zero'] at hx369_1)
                        replace p369 := eq_true p369
                        replace q369 := eq_true q369
                        go_wp2_with (first | ((with_reducible refine gate_builtin (b := .append) (xs := #[.tmp 37, .tmp 41]) rfl ?_); (try (refine gate_guard (by rfl) ?_; dsimp only)); at_builtin; refine Kd.R_append k23 (w0 := w) w.heap.size rfl (.tmp 37) (.tmp 41) 31 23 (.agg #[(.int .i64 0), (.int .i64 0)]) 16 rfl Try.underlying31 info23 rfl (by decide) (by omega) u5 x5_1 (⟨ji11, ji12⟩ : S23) [.int .i64 ji11, .int .i64 ji12] (fun k_ => (w.heap.size ≤ k_)) (fun _ => False) rfl rfl ?aP (fun _ hk => hk.elim) ?aF ?aO ?aB ?aS ?aL ?_; (case aP => exact k23_mkM _ _ _ (⟨ji11, ji12⟩ : S23)); (case aB => exact (by repeat (first | (with_reducible first | exact HB.out | apply below_alloc | apply pw_below_drewN | apply below_drew1) | exact HB.out))); (case aF => exact (fun k_ hk => (Nat.le_trans (below_size (by repeat (first | (with_reducible first | exact HB.out | apply below_alloc | apply pw_below_drewN | apply below_drew1) | exact HB.out))) hk))); (case aO => exact (by (with_reducible repeat (first | apply Kd.R_alloc | apply Kd.R_drewN | apply Kd.R_drew)); exact HO_5.out)); (case aS => exact (below_size (by repeat (first | (with_reducible first | exact HB.out | apply below_alloc | apply pw_below_drewN | apply below_drew1) | exact HB.out)))); (case aL => have := LMc14.out; omega); intro v371 w19 ho hb hg hat; rw [← Ny370.out] at ho; have n0_ := Aside0.mk (Kd.V_afterv (ok := (fun k_ => ((P0_ k_ ∨ P1_ k_) ∨ w.heap.size ≤ k_))) (by (with_reducible repeat (first | apply Kd.V_alloc | apply Kd.V_drewN | apply Kd.V_drew)); exact HO_0.out) hg hat); have n1_ := Aside0.mk (Kd.V_afterv (ok := (fun k_ => ((P0_ k_ ∨ P1_ k_) ∨ w.heap.size ≤ k_))) (by (with_reducible repeat (first | apply Kd.V_alloc | apply Kd.V_drewN | apply Kd.V_drew)); exact HO_1.out) hg hat); have n2_ := Aside0.mk (hb); have n3_ := Aside0.mk (ho); clear HO_0; clear HO_1; clear HB; clear HO_5; have HO_0 := n0_; have HO_1 := n1_; have HB := n2_; have HO372 := n3_; clear n0_ n1_ n2_ n3_; clear ho hb hg hat; have p373 : 0 ≤ (0 : Int) := (by omega); have q373 : 0 < (x0_1.length : Int) := of_decide_eq_true (by first | (with_reducible assumption) | assumption); obtain ⟨ad373, e373, hx373_0, hx373_1⟩ := at_T23 (Kd.V_reads' HO_0.out).2.2 0 p373 q373; obtain rfl : ad366 = ad373 := (by injection e373); have qi373 : (0 < x0_1.length) = True := eq_true (by omega); (try rw [show ((0 : Int)).toNat = 0 from rfl] at hx373_0); (try rw [show 0 * 2 = 0 from rfl] at hx373_0); (try rw [Addr.add_zero'] at hx373_0); (try rw [show ((0 : Int)).toNat = 0 from rfl] at hx373_1); (try rw [show 0 * 2 = 0 from rfl] at hx373_1); (try rw [Addr.add_zero'] at hx373_1); replace p373 := eq_true p373; replace q373 := eq_true q373; have p374 : 0 ≤ (0 : Int) := (by omega); have q374 : 0 < (x1_1.length : Int) := of_decide_eq_true (by first | (with_reducible assumption) | assumption); obtain ⟨ad374, e374, hx374_0, hx374_1⟩ := at_T23 (Kd.V_reads' HO_1.out).2.2 0 p374 q374; obtain rfl : ad367 = ad374 := (by injection e374); have qi374 : (0 < x1_1.length) = True := eq_true (by omega); (try rw [show ((0 : Int)).toNat = 0 from rfl] at hx374_0); (try rw [show 0 * 2 = 0 from rfl] at hx374_0); (try rw [Addr.add_zero'] at hx374_0); (try rw [show ((0 : Int)).toNat = 0 from rfl] at hx374_1); (try rw [show 0 * 2 = 0 from rfl] at hx374_1); (try rw [Addr.add_zero'] at hx374_1); replace p374 := eq_true p374; replace q374 := eq_true q374; have q20 : (1 : Int) ≤ ((x0_1.length : Int) : Int) := of_decide_eq_true (by first | (with_reducible assumption) | assumption); obtain ⟨i020, hi020, _, hsz20, _⟩ := info_parts info23; have hroom20 : x0_1.length ≤ co17 := (Kd.V_reads' HO_0.out).2.1; have hC20 : Kd.F k23 _ _ (some ad366) x0_1.length x0_1 := (Kd.V_at (base := w.heap.size) HO_0.out).2.2; have hcut20 := cut_from (P := Try.prog) 31 23 .i64 Try.underlying31 hi020 2 hsz20 (some ad366) x0_1.length co17 1 (by omega) q20; have hr20 := Kd.F_cut (m := (1 : Int).toNat) (c := co17) hC20 (by omega) hroom20; obtain ⟨A20, hA20⟩ : ∃ A1, A1 = (if co17 = (1 : Int).toNat then (some ad366) else ((some ad366) : Option Addr).map (·.add ((1 : Int).toNat * 2))) := ⟨_, rfl⟩; obtain ⟨c20, hc20⟩ : ∃ c1, c1 = co17 - (1 : Int).toNat := ⟨_, rfl⟩; have hy20 : y375.length = x0_1.length - (1 : Int).toNat := (by rw [Ny375.out, List.length_drop] <;> omega); rw [show (x0_1).drop (1 : Int).toNat = y375 from Ny375.out.symm] at hr20; replace hr20 : Kd.F k23 _ _ A20 y375.length y375 := (by rw [hA20]; exact hr20); rw [← hy20, ← hA20, ← hc20] at hcut20; have HO379 := Aside0.mk (show Kd.V k23 23 _ w.heap.size _ (.slice A20 y375.length c20) y375 from Kd.V_mk (by rw [hy20, hc20]; exact Nat.sub_le_sub_right hroom20 _) hr20); have HC379 := Aside0.mk (show y375.length ≤ c20 from by rw [hy20, hc20]; exact Nat.sub_le_sub_right hroom20 _); clear hr20 hC20 hroom20 hi020 hsz20 hc20; have KY20 := Aside0.mk hy20; have KA20 := Aside0.mk hA20; clear hy20 hA20; replace q20 := eq_true q20))
                        repeat (go_quiet (first | ((with_reducible refine gate_builtin (b := .append) (xs := #[.tmp 37, .tmp 41]) rfl ?_); (try (refine gate_guard (by rfl) ?_; dsimp only)); at_builtin; refine Kd.R_append k23 (w0 := w) w.heap.size rfl (.tmp 37) (.tmp 41) 31 23 (.agg #[(.int .i64 0), (.int .i64 0)]) 16 rfl Try.underlying31 info23 rfl (by decide) (by omega) u5 x5_1 (⟨ji11, ji12⟩ : S23) [.int .i64 ji11, .int .i64 ji12] (fun k_ => (w.heap.size ≤ k_)) (fun _ => False) rfl rfl ?aP (fun _ hk => hk.elim) ?aF ?aO ?aB ?aS ?aL ?_; (case aP => exact k23_mkM _ _ _ (⟨ji11, ji12⟩ : S23)); (case aB => exact (by repeat (first | (with_reducible first | exact HB.out | apply below_alloc | apply pw_below_drewN | apply below_drew1) | exact HB.out))); (case aF => exact (fun k_ hk => (Nat.le_trans (below_size (by repeat (first | (with_reducible first | exact HB.out | apply below_alloc | apply pw_below_drewN | apply below_drew1) | exact HB.out))) hk))); (case aO => exact (by (with_reducible repeat (first | apply Kd.R_alloc | apply Kd.R_drewN | apply Kd.R_drew)); exact HO_5.out)); (case aS => exact (below_size (by repeat (first | (with_reducible first | exact HB.out | apply below_alloc | apply pw_below_drewN | apply below_drew1) | exact HB.out)))); (case aL => have := LMc14.out; omega); intro v371 w19 ho hb hg hat; rw [← Ny370.out] at ho; have n0_ := Aside0.mk (Kd.V_afterv (ok := (fun k_ => ((P0_ k_ ∨ P1_ k_) ∨ w.heap.size ≤ k_))) (by (with_reducible repeat (first | apply Kd.V_alloc | apply Kd.V_drewN | apply Kd.V_drew)); exact HO_0.out) hg hat); have n1_ := Aside0.mk (Kd.V_afterv (ok := (fun k_ => ((P0_ k_ ∨ P1_ k_) ∨ w.heap.size ≤ k_))) (by (with_reducible repeat (first | apply Kd.V_alloc | apply Kd.V_drewN | apply Kd.V_drew)); exact HO_1.out) hg hat); have n2_ := Aside0.mk (hb); have n3_ := Aside0.mk (ho); clear HO_0; clear HO_1; clear HB; clear HO_5; have HO_0 := n0_; have HO_1 := n1_; have HB := n2_; have HO372 := n3_; clear n0_ n1_ n2_ n3_; clear ho hb hg hat; have p373 : 0 ≤ (0 : Int) := (by omega); have q373 : 0 < (x0_1.length : Int) := of_decide_eq_true (by first | (with_reducible assumption) | assumption); obtain ⟨ad373, e373, hx373_0, hx373_1⟩ := at_T23 (Kd.V_reads' HO_0.out).2.2 0 p373 q373; obtain rfl : ad366 = ad373 := (by injection e373); have qi373 : (0 < x0_1.length) = True := eq_true (by omega); (try rw [show ((0 : Int)).toNat = 0 from rfl] at hx373_0); (try rw [show 0 * 2 = 0 from rfl] at hx373_0); (try rw [Addr.add_zero'] at hx373_0); (try rw [show ((0 : Int)).toNat = 0 from rfl] at hx373_1); (try rw [show 0 * 2 = 0 from rfl] at hx373_1); (try rw [Addr.add_zero'] at hx373_1); replace p373 := eq_true p373; replace q373 := eq_true q373; have p374 : 0 ≤ (0 : Int) := (by omega); have q374 : 0 < (x1_1.length : Int) := of_decide_eq_true (by first | (with_reducible assumption) | assumption); obtain ⟨ad374, e374, hx374_0, hx374_1⟩ := at_T23 (Kd.V_reads' HO_1.out).2.2 0 p374 q374; obtain rfl : ad367 = ad374 := (by injection e374); have qi374 : (0 < x1_1.length) = True := eq_true (by omega); (try rw [show ((0 : Int)).toNat = 0 from rfl] at hx374_0); (try rw [show 0 * 2 = 0 from rfl] at hx374_0); (try rw [Addr.add_zero'] at hx374_0); (try rw [show ((0 : Int)).toNat = 0 from rfl] at hx374_1); (try rw [show 0 * 2 = 0 from rfl] at hx374_1); (try rw [Addr.add_zero'] at hx374_1); replace p374 := eq_true p374; replace q374 := eq_true q374; have q20 : (1 : Int) ≤ ((x0_1.length : Int) : Int) := of_decide_eq_true (by first | (with_reducible assumption) | assumption); obtain ⟨i020, hi020, _, hsz20, _⟩ := info_parts info23; have hroom20 : x0_1.length ≤ co17 := (Kd.V_reads' HO_0.out).2.1; have hC20 : Kd.F k23 _ _ (some ad366) x0_1.length x0_1 := (Kd.V_at (base := w.heap.size) HO_0.out).2.2; have hcut20 := cut_from (P := Try.prog) 31 23 .i64 Try.underlying31 hi020 2 hsz20 (some ad366) x0_1.length co17 1 (by omega) q20; have hr20 := Kd.F_cut (m := (1 : Int).toNat) (c := co17) hC20 (by omega) hroom20; obtain ⟨A20, hA20⟩ : ∃ A1, A1 = (if co17 = (1 : Int).toNat then (some ad366) else ((some ad366) : Option Addr).map (·.add ((1 : Int).toNat * 2))) := ⟨_, rfl⟩; obtain ⟨c20, hc20⟩ : ∃ c1, c1 = co17 - (1 : Int).toNat := ⟨_, rfl⟩; have hy20 : y375.length = x0_1.length - (1 : Int).toNat := (by rw [Ny375.out, List.length_drop] <;> omega); rw [show (x0_1).drop (1 : Int).toNat = y375 from Ny375.out.symm] at hr20; replace hr20 : Kd.F k23 _ _ A20 y375.length y375 := (by rw [hA20]; exact hr20); rw [← hy20, ← hA20, ← hc20] at hcut20; have HO379 := Aside0.mk (show Kd.V k23 23 _ w.heap.size _ (.slice A20 y375.length c20) y375 from Kd.V_mk (by rw [hy20, hc20]; exact Nat.sub_le_sub_right hroom20 _) hr20); have HC379 := Aside0.mk (show y375.length ≤ c20 from by rw [hy20, hc20]; exact Nat.sub_le_sub_right hroom20 _); clear hr20 hC20 hroom20 hi020 hsz20 hc20; have KY20 := Aside0.mk hy20; have KA20 := Aside0.mk hA20; clear hy20 hA20; replace q20 := eq_true q20)); try go_wp2_with (first | ((with_reducible refine gate_builtin (b := .append) (xs := #[.tmp 37, .tmp 41]) rfl ?_); (try (refine gate_guard (by rfl) ?_; dsimp only)); at_builtin; refine Kd.R_append k23 (w0 := w) w.heap.size rfl (.tmp 37) (.tmp 41) 31 23 (.agg #[(.int .i64 0), (.int .i64 0)]) 16 rfl Try.underlying31 info23 rfl (by decide) (by omega) u5 x5_1 (⟨ji11, ji12⟩ : S23) [.int .i64 ji11, .int .i64 ji12] (fun k_ => (w.heap.size ≤ k_)) (fun _ => False) rfl rfl ?aP (fun _ hk => hk.elim) ?aF ?aO ?aB ?aS ?aL ?_; (case aP => exact k23_mkM _ _ _ (⟨ji11, ji12⟩ : S23)); (case aB => exact (by repeat (first | (with_reducible first | exact HB.out | apply below_alloc | apply pw_below_drewN | apply below_drew1) | exact HB.out))); (case aF => exact (fun k_ hk => (Nat.le_trans (below_size (by repeat (first | (with_reducible first | exact HB.out | apply below_alloc | apply pw_below_drewN | apply below_drew1) | exact HB.out))) hk))); (case aO => exact (by (with_reducible repeat (first | apply Kd.R_alloc | apply Kd.R_drewN | apply Kd.R_drew)); exact HO_5.out)); (case aS => exact (below_size (by repeat (first | (with_reducible first | exact HB.out | apply below_alloc | apply pw_below_drewN | apply below_drew1) | exact HB.out)))); (case aL => have := LMc14.out; omega); intro v371 w19 ho hb hg hat; rw [← Ny370.out] at ho; have n0_ := Aside0.mk (Kd.V_afterv (ok := (fun k_ => ((P0_ k_ ∨ P1_ k_) ∨ w.heap.size ≤ k_))) (by (with_reducible repeat (first | apply Kd.V_alloc | apply Kd.V_drewN | apply Kd.V_drew)); exact HO_0.out) hg hat); have n1_ := Aside0.mk (Kd.V_afterv (ok := (fun k_ => ((P0_ k_ ∨ P1_ k_) ∨ w.heap.size ≤ k_))) (by (with_reducible repeat (first | apply Kd.V_alloc | apply Kd.V_drewN | apply Kd.V_drew)); exact HO_1.out) hg hat); have n2_ := Aside0.mk (hb); have n3_ := Aside0.mk (ho); clear HO_0; clear HO_1; clear HB; clear HO_5; have HO_0 := n0_; have HO_1 := n1_; have HB := n2_; have HO372 := n3_; clear n0_ n1_ n2_ n3_; clear ho hb hg hat; have p373 : 0 ≤ (0 : Int) := (by omega); have q373 : 0 < (x0_1.length : Int) := of_decide_eq_true (by first | (with_reducible assumption) | assumption); obtain ⟨ad373, e373, hx373_0, hx373_1⟩ := at_T23 (Kd.V_reads' HO_0.out).2.2 0 p373 q373; obtain rfl : ad366 = ad373 := (by injection e373); have qi373 : (0 < x0_1.length) = True := eq_true (by omega); (try rw [show ((0 : Int)).toNat = 0 from rfl] at hx373_0); (try rw [show 0 * 2 = 0 from rfl] at hx373_0); (try rw [Addr.add_zero'] at hx373_0); (try rw [show ((0 : Int)).toNat = 0 from rfl] at hx373_1); (try rw [show 0 * 2 = 0 from rfl] at hx373_1); (try rw [Addr.add_zero'] at hx373_1); replace p373 := eq_true p373; replace q373 := eq_true q373; have p374 : 0 ≤ (0 : Int) := (by omega); have q374 : 0 < (x1_1.length : Int) := of_decide_eq_true (by first | (with_reducible assumption) | assumption); obtain ⟨ad374, e374, hx374_0, hx374_1⟩ := at_T23 (Kd.V_reads' HO_1.out).2.2 0 p374 q374; obtain rfl : ad367 = ad374 := (by injection e374); have qi374 : (0 < x1_1.length) = True := eq_true (by omega); (try rw [show ((0 : Int)).toNat = 0 from rfl] at hx374_0); (try rw [show 0 * 2 = 0 from rfl] at hx374_0); (try rw [Addr.add_zero'] at hx374_0); (try rw [show ((0 : Int)).toNat = 0 from rfl] at hx374_1); (try rw [show 0 * 2 = 0 from rfl] at hx374_1); (try rw [Addr.add_zero'] at hx374_1); replace p374 := eq_true p374; replace q374 := eq_true q374; have q20 : (1 : Int) ≤ ((x0_1.length : Int) : Int) := of_decide_eq_true (by first | (with_reducible assumption) | assumption); obtain ⟨i020, hi020, _, hsz20, _⟩ := info_parts info23; have hroom20 : x0_1.length ≤ co17 := (Kd.V_reads' HO_0.out).2.1; have hC20 : Kd.F k23 _ _ (some ad366) x0_1.length x0_1 := (Kd.V_at (base := w.heap.size) HO_0.out).2.2; have hcut20 := cut_from (P := Try.prog) 31 23 .i64 Try.underlying31 hi020 2 hsz20 (some ad366) x0_1.length co17 1 (by omega) q20; have hr20 := Kd.F_cut (m := (1 : Int).toNat) (c := co17) hC20 (by omega) hroom20; obtain ⟨A20, hA20⟩ : ∃ A1, A1 = (if co17 = (1 : Int).toNat then (some ad366) else ((some ad366) : Option Addr).map (·.add ((1 : Int).toNat * 2))) := ⟨_, rfl⟩; obtain ⟨c20, hc20⟩ : ∃ c1, c1 = co17 - (1 : Int).toNat := ⟨_, rfl⟩; have hy20 : y375.length = x0_1.length - (1 : Int).toNat := (by rw [Ny375.out, List.length_drop] <;> omega); rw [show (x0_1).drop (1 : Int).toNat = y375 from Ny375.out.symm] at hr20; replace hr20 : Kd.F k23 _ _ A20 y375.length y375 := (by rw [hA20]; exact hr20); rw [← hy20, ← hA20, ← hc20] at hcut20; have HO379 := Aside0.mk (show Kd.V k23 23 _ w.heap.size _ (.slice A20 y375.length c20) y375 from Kd.V_mk (by rw [hy20, hc20]; exact Nat.sub_le_sub_right hroom20 _) hr20); have HC379 := Aside0.mk (show y375.length ≤ c20 from by rw [hy20, hc20]; exact Nat.sub_le_sub_right hroom20 _); clear hr20 hC20 hroom20 hi020 hsz20 hc20; have KY20 := Aside0.mk hy20; have KA20 := Aside0.mk hA20; clear hy20 hA20; replace q20 := eq_true q20)))
                        go_roundg kj2
                        case measure => have := HK1.out; have := HJ2.out; omega
                        case rel => exact ⟨(y375), (x1_1), (y370), H', ⟨by have := HK1.out; have := HJ2.out; omega⟩, ⟨by (with_reducible repeat (first | apply Kd.V_alloc | apply Kd.V_drewN | apply Kd.V_drew)); exact HO379.out⟩, ⟨by (with_reducible repeat (first | apply Kd.V_alloc | apply Kd.V_drewN | apply Kd.V_drew)); exact HO_1.out⟩, ⟨by (with_reducible repeat (first | apply Kd.R_alloc | apply Kd.R_drewN | apply Kd.R_drew)); exact HO372.out⟩, ⟨by repeat (first | (with_reducible first | exact HB.out | apply below_alloc | apply pw_below_drewN | apply below_drew1) | exact HB.out)⟩⟩
                      · rw [if_neg c16] at H
                        exact absurd H (by simp)
                    · rw [if_neg c15] at H
                      have c15b0 : decide (((rd_T23 x0_1 0).f1) < ((rd_T23 x1_1 0).f1)) = false := decide_eq_false c15
                      clear c15
                      by_cases c21 : 1 ≤ (x1_1.length : Int)
                      · rw [if_pos c21] at H
                        have c21b0 := eq_true c21
                        have c21b1 : decide (1 ≤ (x1_1.length : Int)) = true := decide_eq_true c21
                        clear c21
                        obtain ⟨y380, hy380⟩ : ∃ y_ : List (S23), y_ = (x1_1.drop 1) := ⟨_, rfl⟩
                        replace H : (span_common.l0 kj2 x0_1 y380 y370) = some r := by first | (rw [hy380]; with_reducible exact H) | (have H2_ := (Option.bind_some _ _).symm.trans H; rw [hy380]; with_reducible exact H2_) | (have H2_ := (Option.bind_some _ _).symm.trans H; with_reducible exact H2_) | with_reducible exact H | (rw [hy380]; exact H) | exact H
                        have Ny380 := Aside0.mk hy380
                        clear hy380
                        have H' := Aside0.mk H
                        clear H
                        obtain ⟨Ao22, co22, eo22⟩ := Kd.V_slice HO_0.out
                        subst eo22
                        have p366 : 0 ≤ (0 : Int) := (by omega)
                        have q366 : 0 < (x0_1.length : Int) := of_decide_eq_true (by first | (with_reducible assumption) | assumption)
                        obtain ⟨ad366, e366, hx366_0, hx366_1⟩ := at_T23 (Kd.V_reads' HO_0.out).2.2 0 p366 q366
                        cases e366
                        have qi366 : (0 < x0_1.length) = True := eq_true (by omega)
                        (try rw [show ((0 : Int)).toNat = 0 from rfl] at hx366_0)
                        (try rw [show 0 * 2 = 0 from rfl] at hx366_0)
                        (try rw [Addr.add_zero'] at hx366_0)
                        (try rw [show ((0 : Int)).toNat = 0 from rfl] at hx366_1)
                        (try rw [show 0 * 2 = 0 from rfl] at hx366_1)
                        (try rw [Addr.add_zero'] at hx366_1)
                        replace p366 := eq_true p366
                        replace q366 := eq_true q366
                        obtain ⟨Ao23, co23, eo23⟩ := Kd.V_slice HO_1.out
                        subst eo23
                        have p367 : 0 ≤ (0 : Int) := (by omega)
                        have q367 : 0 < (x1_1.length : Int) := of_decide_eq_true (by first | (with_reducible assumption) | assumption)
                        obtain ⟨ad367, e367, hx367_0, hx367_1⟩ := at_T23 (Kd.V_reads' HO_1.out).2.2 0 p367 q367
                        cases e367
                        have qi367 : (0 < x1_1.length) = True := eq_true (by omega)
                        (try rw [show ((0 : Int)).toNat = 0 from rfl] at hx367_0)
                        (try rw [show 0 * 2 = 0 from rfl] at hx367_0)
                        (try rw [Addr.add_zero'] at hx367_0)
                        (try rw [show ((0 : Int)).toNat = 0 from rfl] at hx367_1)
                        (try rw [show 0 * 2 = 0 from rfl] at hx367_1)
                        (try rw [Addr.add_zero'] at hx367_1)
                        replace p367 := eq_true p367
                        replace q367 := eq_true q367
                        have p368 : 0 ≤ (0 : Int) := (by omega)
                        have q368 : 0 < (x0_1.length : Int) := of_decide_eq_true (by first | (with_reducible assumption) | assumption)
                        obtain ⟨ad368, e368, hx368_0, hx368_1⟩ := at_T23 (Kd.V_reads' HO_0.out).2.2 0 p368 q368
                        obtain rfl : ad366 = ad368 := (by injection e368)
                        have qi368 : (0 < x0_1.length) = True := eq_true (by omega)
                        (try rw [show ((0 : Int)).toNat = 0 from rfl] at hx368_0)
                        (try rw [show 0 * 2 = 0 from rfl] at hx368_0)
                        (try rw [Addr.add_zero'] at hx368_0)
                        (try rw [show ((0 : Int)).toNat = 0 from rfl] at hx368_1)
                        (try rw [show 0 * 2 = 0 from rfl] at hx368_1)
                        (try rw [Addr.add_zero'] at hx368_1)
                        replace p368 := eq_true p368
                        replace q368 := eq_true q368
                        have p369 : 0 ≤ (0 : Int) := (by omega)
                        have q369 : 0 < (x1_1.length : Int) := of_decide_eq_true (by first | (with_reducible assumption) | assumption)
                        obtain ⟨ad369, e369, hx369_0, hx369_1⟩ := at_T23 (Kd.V_reads' HO_1.out).2.2 0 p369 q369
                        obtain rfl : ad367 = ad369 := (by injection e369)
                        have qi369 : (0 < x1_1.length) = True := eq_true (by omega)
                        (try rw [show ((0 : Int)).toNat = 0 from rfl] at hx369_0)
                        (try rw [show 0 * 2 = 0 from rfl] at hx369_0)
                        (try rw [Addr.add_zero'] at hx369_0)
                        (try rw [show ((0 : Int)).toNat = 0 from rfl] at hx369_1)
                        (try rw [show 0 * 2 = 0 from rfl] at hx369_1)
                        (try rw [Addr.add_zero'] at hx369_1)
                        replace p369 := eq_true p369
                        replace q369 := eq_true q369
                        go_wp2_with (first | ((with_reducible refine gate_builtin (b := .append) (xs := #[.tmp 37, .tmp 41]) rfl ?_); (try (refine gate_guard (by rfl) ?_; dsimp only)); at_builtin; refine Kd.R_append k23 (w0 := w) w.heap.size rfl (.tmp 37) (.tmp 41) 31 23 (.agg #[(.int .i64 0), (.int .i64 0)]) 16 rfl Try.underlying31 info23 rfl (by decide) (by omega) u5 x5_1 (⟨ji11, ji12⟩ : S23) [.int .i64 ji11, .int .i64 ji12] (fun k_ => (w.heap.size ≤ k_)) (fun _ => False) rfl rfl ?aP (fun _ hk => hk.elim) ?aF ?aO ?aB ?aS ?aL ?_; (case aP => exact k23_mkM _ _ _ (⟨ji11, ji12⟩ : S23)); (case aB => exact (by repeat (first | (with_reducible first | exact HB.out | apply below_alloc | apply pw_below_drewN | apply below_drew1) | exact HB.out))); (case aF => exact (fun k_ hk => (Nat.le_trans (below_size (by repeat (first | (with_reducible first | exact HB.out | apply below_alloc | apply pw_below_drewN | apply below_drew1) | exact HB.out))) hk))); (case aO => exact (by (with_reducible repeat (first | apply Kd.R_alloc | apply Kd.R_drewN | apply Kd.R_drew)); exact HO_5.out)); (case aS => exact (below_size (by repeat (first | (with_reducible first | exact HB.out | apply below_alloc | apply pw_below_drewN | apply below_drew1) | exact HB.out)))); (case aL => have := LMc14.out; omega); intro v371 w24 ho hb hg hat; rw [← Ny370.out] at ho; have n0_ := Aside0.mk (Kd.V_afterv (ok := (fun k_ => ((P0_ k_ ∨ P1_ k_) ∨ w.heap.size ≤ k_))) (by (with_reducible repeat (first | apply Kd.V_alloc | apply Kd.V_drewN | apply Kd.V_drew)); exact HO_0.out) hg hat); have n1_ := Aside0.mk (Kd.V_afterv (ok := (fun k_ => ((P0_ k_ ∨ P1_ k_) ∨ w.heap.size ≤ k_))) (by (with_reducible repeat (first | apply Kd.V_alloc | apply Kd.V_drewN | apply Kd.V_drew)); exact HO_1.out) hg hat); have n2_ := Aside0.mk (hb); have n3_ := Aside0.mk (ho); clear HO_0; clear HO_1; clear HB; clear HO_5; have HO_0 := n0_; have HO_1 := n1_; have HB := n2_; have HO372 := n3_; clear n0_ n1_ n2_ n3_; clear ho hb hg hat; have p373 : 0 ≤ (0 : Int) := (by omega); have q373 : 0 < (x0_1.length : Int) := of_decide_eq_true (by first | (with_reducible assumption) | assumption); obtain ⟨ad373, e373, hx373_0, hx373_1⟩ := at_T23 (Kd.V_reads' HO_0.out).2.2 0 p373 q373; obtain rfl : ad366 = ad373 := (by injection e373); have qi373 : (0 < x0_1.length) = True := eq_true (by omega); (try rw [show ((0 : Int)).toNat = 0 from rfl] at hx373_0); (try rw [show 0 * 2 = 0 from rfl] at hx373_0); (try rw [Addr.add_zero'] at hx373_0); (try rw [show ((0 : Int)).toNat = 0 from rfl] at hx373_1); (try rw [show 0 * 2 = 0 from rfl] at hx373_1); (try rw [Addr.add_zero'] at hx373_1); replace p373 := eq_true p373; replace q373 := eq_true q373; have p374 : 0 ≤ (0 : Int) := (by omega); have q374 : 0 < (x1_1.length : Int) := of_decide_eq_true (by first | (with_reducible assumption) | assumption); obtain ⟨ad374, e374, hx374_0, hx374_1⟩ := at_T23 (Kd.V_reads' HO_1.out).2.2 0 p374 q374; obtain rfl : ad367 = ad374 := (by injection e374); have qi374 : (0 < x1_1.length) = True := eq_true (by omega); (try rw [show ((0 : Int)).toNat = 0 from rfl] at hx374_0); (try rw [show 0 * 2 = 0 from rfl] at hx374_0); (try rw [Addr.add_zero'] at hx374_0); (try rw [show ((0 : Int)).toNat = 0 from rfl] at hx374_1); (try rw [show 0 * 2 = 0 from rfl] at hx374_1); (try rw [Addr.add_zero'] at hx374_1); replace p374 := eq_true p374; replace q374 := eq_true q374; have q25 : (1 : Int) ≤ ((x1_1.length : Int) : Int) := of_decide_eq_true (by first | (with_reducible assumption) | assumption); obtain ⟨i025, hi025, _, hsz25, _⟩ := info_parts info23; have hroom25 : x1_1.length ≤ co23 := (Kd.V_reads' HO_1.out).2.1; have hC25 : Kd.F k23 _ _ (some ad367) x1_1.length x1_1 := (Kd.V_at (base := w.heap.size) HO_1.out).2.2; have hcut25 := cut_from (P := Try.prog) 31 23 .i64 Try.underlying31 hi025 2 hsz25 (some ad367) x1_1.length co23 1 (by omega) q25; have hr25 := Kd.F_cut (m := (1 : Int).toNat) (c := co23) hC25 (by omega) hroom25; obtain ⟨A25, hA25⟩ : ∃ A1, A1 = (if co23 = (1 : Int).toNat then (some ad367) else ((some ad367) : Option Addr).map (·.add ((1 : Int).toNat * 2))) := ⟨_, rfl⟩; obtain ⟨c25, hc25⟩ : ∃ c1, c1 = co23 - (1 : Int).toNat := ⟨_, rfl⟩; have hy25 : y380.length = x1_1.length - (1 : Int).toNat := (by rw [Ny380.out, List.length_drop] <;> omega); rw [show (x1_1).drop (1 : Int).toNat = y380 from Ny380.out.symm] at hr25; replace hr25 : Kd.F k23 _ _ A25 y380.length y380 := (by rw [hA25]; exact hr25); rw [← hy25, ← hA25, ← hc25] at hcut25; have HO384 := Aside0.mk (show Kd.V k23 23 _ w.heap.size _ (.slice A25 y380.length c25) y380 from Kd.V_mk (by rw [hy25, hc25]; exact Nat.sub_le_sub_right hroom25 _) hr25); have HC384 := Aside0.mk (show y380.length ≤ c25 from by rw [hy25, hc25]; exact Nat.sub_le_sub_right hroom25 _); clear hr25 hC25 hroom25 hi025 hsz25 hc25; have KY25 := Aside0.mk hy25; have KA25 := Aside0.mk hA25; clear hy25 hA25; replace q25 := eq_true q25))
                        repeat (go_quiet (first | ((with_reducible refine gate_builtin (b := .append) (xs := #[.tmp 37, .tmp 41]) rfl ?_); (try (refine gate_guard (by rfl) ?_; dsimp only)); at_builtin; refine Kd.R_append k23 (w0 := w) w.heap.size rfl (.tmp 37) (.tmp 41) 31 23 (.agg #[(.int .i64 0), (.int .i64 0)]) 16 rfl Try.underlying31 info23 rfl (by decide) (by omega) u5 x5_1 (⟨ji11, ji12⟩ : S23) [.int .i64 ji11, .int .i64 ji12] (fun k_ => (w.heap.size ≤ k_)) (fun _ => False) rfl rfl ?aP (fun _ hk => hk.elim) ?aF ?aO ?aB ?aS ?aL ?_; (case aP => exact k23_mkM _ _ _ (⟨ji11, ji12⟩ : S23)); (case aB => exact (by repeat (first | (with_reducible first | exact HB.out | apply below_alloc | apply pw_below_drewN | apply below_drew1) | exact HB.out))); (case aF => exact (fun k_ hk => (Nat.le_trans (below_size (by repeat (first | (with_reducible first | exact HB.out | apply below_alloc | apply pw_below_drewN | apply below_drew1) | exact HB.out))) hk))); (case aO => exact (by (with_reducible repeat (first | apply Kd.R_alloc | apply Kd.R_drewN | apply Kd.R_drew)); exact HO_5.out)); (case aS => exact (below_size (by repeat (first | (with_reducible first | exact HB.out | apply below_alloc | apply pw_below_drewN | apply below_drew1) | exact HB.out)))); (case aL => have := LMc14.out; omega); intro v371 w24 ho hb hg hat; rw [← Ny370.out] at ho; have n0_ := Aside0.mk (Kd.V_afterv (ok := (fun k_ => ((P0_ k_ ∨ P1_ k_) ∨ w.heap.size ≤ k_))) (by (with_reducible repeat (first | apply Kd.V_alloc | apply Kd.V_drewN | apply Kd.V_drew)); exact HO_0.out) hg hat); have n1_ := Aside0.mk (Kd.V_afterv (ok := (fun k_ => ((P0_ k_ ∨ P1_ k_) ∨ w.heap.size ≤ k_))) (by (with_reducible repeat (first | apply Kd.V_alloc | apply Kd.V_drewN | apply Kd.V_drew)); exact HO_1.out) hg hat); have n2_ := Aside0.mk (hb); have n3_ := Aside0.mk (ho); clear HO_0; clear HO_1; clear HB; clear HO_5; have HO_0 := n0_; have HO_1 := n1_; have HB := n2_; have HO372 := n3_; clear n0_ n1_ n2_ n3_; clear ho hb hg hat; have p373 : 0 ≤ (0 : Int) := (by omega); have q373 : 0 < (x0_1.length : Int) := of_decide_eq_true (by first | (with_reducible assumption) | assumption); obtain ⟨ad373, e373, hx373_0, hx373_1⟩ := at_T23 (Kd.V_reads' HO_0.out).2.2 0 p373 q373; obtain rfl : ad366 = ad373 := (by injection e373); have qi373 : (0 < x0_1.length) = True := eq_true (by omega); (try rw [show ((0 : Int)).toNat = 0 from rfl] at hx373_0); (try rw [show 0 * 2 = 0 from rfl] at hx373_0); (try rw [Addr.add_zero'] at hx373_0); (try rw [show ((0 : Int)).toNat = 0 from rfl] at hx373_1); (try rw [show 0 * 2 = 0 from rfl] at hx373_1); (try rw [Addr.add_zero'] at hx373_1); replace p373 := eq_true p373; replace q373 := eq_true q373; have p374 : 0 ≤ (0 : Int) := (by omega); have q374 : 0 < (x1_1.length : Int) := of_decide_eq_true (by first | (with_reducible assumption) | assumption); obtain ⟨ad374, e374, hx374_0, hx374_1⟩ := at_T23 (Kd.V_reads' HO_1.out).2.2 0 p374 q374; obtain rfl : ad367 = ad374 := (by injection e374); have qi374 : (0 < x1_1.length) = True := eq_true (by omega); (try rw [show ((0 : Int)).toNat = 0 from rfl] at hx374_0); (try rw [show 0 * 2 = 0 from rfl] at hx374_0); (try rw [Addr.add_zero'] at hx374_0); (try rw [show ((0 : Int)).toNat = 0 from rfl] at hx374_1); (try rw [show 0 * 2 = 0 from rfl] at hx374_1); (try rw [Addr.add_zero'] at hx374_1); replace p374 := eq_true p374; replace q374 := eq_true q374; have q25 : (1 : Int) ≤ ((x1_1.length : Int) : Int) := of_decide_eq_true (by first | (with_reducible assumption) | assumption); obtain ⟨i025, hi025, _, hsz25, _⟩ := info_parts info23; have hroom25 : x1_1.length ≤ co23 := (Kd.V_reads' HO_1.out).2.1; have hC25 : Kd.F k23 _ _ (some ad367) x1_1.length x1_1 := (Kd.V_at (base := w.heap.size) HO_1.out).2.2; have hcut25 := cut_from (P := Try.prog) 31 23 .i64 Try.underlying31 hi025 2 hsz25 (some ad367) x1_1.length co23 1 (by omega) q25; have hr25 := Kd.F_cut (m := (1 : Int).toNat) (c := co23) hC25 (by omega) hroom25; obtain ⟨A25, hA25⟩ : ∃ A1, A1 = (if co23 = (1 : Int).toNat then (some ad367) else ((some ad367) : Option Addr).map (·.add ((1 : Int).toNat * 2))) := ⟨_, rfl⟩; obtain ⟨c25, hc25⟩ : ∃ c1, c1 = co23 - (1 : Int).toNat := ⟨_, rfl⟩; have hy25 : y380.length = x1_1.length - (1 : Int).toNat := (by rw [Ny380.out, List.length_drop] <;> omega); rw [show (x1_1).drop (1 : Int).toNat = y380 from Ny380.out.symm] at hr25; replace hr25 : Kd.F k23 _ _ A25 y380.length y380 := (by rw [hA25]; exact hr25); rw [← hy25, ← hA25, ← hc25] at hcut25; have HO384 := Aside0.mk (show Kd.V k23 23 _ w.heap.size _ (.slice A25 y380.length c25) y380 from Kd.V_mk (by rw [hy25, hc25]; exact Nat.sub_le_sub_right hroom25 _) hr25); have HC384 := Aside0.mk (show y380.length ≤ c25 from by rw [hy25, hc25]; exact Nat.sub_le_sub_right hroom25 _); clear hr25 hC25 hroom25 hi025 hsz25 hc25; have KY25 := Aside0.mk hy25; have KA25 := Aside0.mk hA25; clear hy25 hA25; replace q25 := eq_true q25)); try go_wp2_with (first | ((with_reducible refine gate_builtin (b := .append) (xs := #[.tmp 37, .tmp 41]) rfl ?_); (try (refine gate_guard (by rfl) ?_; dsimp only)); at_builtin; refine Kd.R_append k23 (w0 := w) w.heap.size rfl (.tmp 37) (.tmp 41) 31 23 (.agg #[(.int .i64 0), (.int .i64 0)]) 16 rfl Try.underlying31 info23 rfl (by decide) (by omega) u5 x5_1 (⟨ji11, ji12⟩ : S23) [.int .i64 ji11, .int .i64 ji12] (fun k_ => (w.heap.size ≤ k_)) (fun _ => False) rfl rfl ?aP (fun _ hk => hk.elim) ?aF ?aO ?aB ?aS ?aL ?_; (case aP => exact k23_mkM _ _ _ (⟨ji11, ji12⟩ : S23)); (case aB => exact (by repeat (first | (with_reducible first | exact HB.out | apply below_alloc | apply pw_below_drewN | apply below_drew1) | exact HB.out))); (case aF => exact (fun k_ hk => (Nat.le_trans (below_size (by repeat (first | (with_reducible first | exact HB.out | apply below_alloc | apply pw_below_drewN | apply below_drew1) | exact HB.out))) hk))); (case aO => exact (by (with_reducible repeat (first | apply Kd.R_alloc | apply Kd.R_drewN | apply Kd.R_drew)); exact HO_5.out)); (case aS => exact (below_size (by repeat (first | (with_reducible first | exact HB.out | apply below_alloc | apply pw_below_drewN | apply below_drew1) | exact HB.out)))); (case aL => have := LMc14.out; omega); intro v371 w24 ho hb hg hat; rw [← Ny370.out] at ho; have n0_ := Aside0.mk (Kd.V_afterv (ok := (fun k_ => ((P0_ k_ ∨ P1_ k_) ∨ w.heap.size ≤ k_))) (by (with_reducible repeat (first | apply Kd.V_alloc | apply Kd.V_drewN | apply Kd.V_drew)); exact HO_0.out) hg hat); have n1_ := Aside0.mk (Kd.V_afterv (ok := (fun k_ => ((P0_ k_ ∨ P1_ k_) ∨ w.heap.size ≤ k_))) (by (with_reducible repeat (first | apply Kd.V_alloc | apply Kd.V_drewN | apply Kd.V_drew)); exact HO_1.out) hg hat); have n2_ := Aside0.mk (hb); have n3_ := Aside0.mk (ho); clear HO_0; clear HO_1; clear HB; clear HO_5; have HO_0 := n0_; have HO_1 := n1_; have HB := n2_; have HO372 := n3_; clear n0_ n1_ n2_ n3_; clear ho hb hg hat; have p373 : 0 ≤ (0 : Int) := (by omega); have q373 : 0 < (x0_1.length : Int) := of_decide_eq_true (by first | (with_reducible assumption) | assumption); obtain ⟨ad373, e373, hx373_0, hx373_1⟩ := at_T23 (Kd.V_reads' HO_0.out).2.2 0 p373 q373; obtain rfl : ad366 = ad373 := (by injection e373); have qi373 : (0 < x0_1.length) = True := eq_true (by omega); (try rw [show ((0 : Int)).toNat = 0 from rfl] at hx373_0); (try rw [show 0 * 2 = 0 from rfl] at hx373_0); (try rw [Addr.add_zero'] at hx373_0); (try rw [show ((0 : Int)).toNat = 0 from rfl] at hx373_1); (try rw [show 0 * 2 = 0 from rfl] at hx373_1); (try rw [Addr.add_zero'] at hx373_1); replace p373 := eq_true p373; replace q373 := eq_true q373; have p374 : 0 ≤ (0 : Int) := (by omega); have q374 : 0 < (x1_1.length : Int) := of_decide_eq_true (by first | (with_reducible assumption) | assumption); obtain ⟨ad374, e374, hx374_0, hx374_1⟩ := at_T23 (Kd.V_reads' HO_1.out).2.2 0 p374 q374; obtain rfl : ad367 = ad374 := (by injection e374); have qi374 : (0 < x1_1.length) = True := eq_true (by omega); (try rw [show ((0 : Int)).toNat = 0 from rfl] at hx374_0); (try rw [show 0 * 2 = 0 from rfl] at hx374_0); (try rw [Addr.add_zero'] at hx374_0); (try rw [show ((0 : Int)).toNat = 0 from rfl] at hx374_1); (try rw [show 0 * 2 = 0 from rfl] at hx374_1); (try rw [Addr.add_zero'] at hx374_1); replace p374 := eq_true p374; replace q374 := eq_true q374; have q25 : (1 : Int) ≤ ((x1_1.length : Int) : Int) := of_decide_eq_true (by first | (with_reducible assumption) | assumption); obtain ⟨i025, hi025, _, hsz25, _⟩ := info_parts info23; have hroom25 : x1_1.length ≤ co23 := (Kd.V_reads' HO_1.out).2.1; have hC25 : Kd.F k23 _ _ (some ad367) x1_1.length x1_1 := (Kd.V_at (base := w.heap.size) HO_1.out).2.2; have hcut25 := cut_from (P := Try.prog) 31 23 .i64 Try.underlying31 hi025 2 hsz25 (some ad367) x1_1.length co23 1 (by omega) q25; have hr25 := Kd.F_cut (m := (1 : Int).toNat) (c := co23) hC25 (by omega) hroom25; obtain ⟨A25, hA25⟩ : ∃ A1, A1 = (if co23 = (1 : Int).toNat then (some ad367) else ((some ad367) : Option Addr).map (·.add ((1 : Int).toNat * 2))) := ⟨_, rfl⟩; obtain ⟨c25, hc25⟩ : ∃ c1, c1 = co23 - (1 : Int).toNat := ⟨_, rfl⟩; have hy25 : y380.length = x1_1.length - (1 : Int).toNat := (by rw [Ny380.out, List.length_drop] <;> omega); rw [show (x1_1).drop (1 : Int).toNat = y380 from Ny380.out.symm] at hr25; replace hr25 : Kd.F k23 _ _ A25 y380.length y380 := (by rw [hA25]; exact hr25); rw [← hy25, ← hA25, ← hc25] at hcut25; have HO384 := Aside0.mk (show Kd.V k23 23 _ w.heap.size _ (.slice A25 y380.length c25) y380 from Kd.V_mk (by rw [hy25, hc25]; exact Nat.sub_le_sub_right hroom25 _) hr25); have HC384 := Aside0.mk (show y380.length ≤ c25 from by rw [hy25, hc25]; exact Nat.sub_le_sub_right hroom25 _); clear hr25 hC25 hroom25 hi025 hsz25 hc25; have KY25 := Aside0.mk hy25; have KA25 := Aside0.mk hA25; clear hy25 hA25; replace q25 := eq_true q25)))
                        go_roundg kj2
                        case measure => have := HK1.out; have := HJ2.out; omega
                        case rel => exact ⟨(x0_1), (y380), (y370), H', ⟨by have := HK1.out; have := HJ2.out; omega⟩, ⟨by (with_reducible repeat (first | apply Kd.V_alloc | apply Kd.V_drewN | apply Kd.V_drew)); exact HO_0.out⟩, ⟨by (with_reducible repeat (first | apply Kd.V_alloc | apply Kd.V_drewN | apply Kd.V_drew)); exact HO384.out⟩, ⟨by (with_reducible repeat (first | apply Kd.R_alloc | apply Kd.R_drewN | apply Kd.R_drew)); exact HO372.out⟩, ⟨by repeat (first | (with_reducible first | exact HB.out | apply below_alloc | apply pw_below_drewN | apply below_drew1) | exact HB.out)⟩⟩
                      · rw [if_neg c21] at H
                        exact absurd H (by simp)
                  · rw [if_neg c14] at H
                    exact absurd H (by simp)
                · rw [if_neg c13] at H
                  have c13b0 : decide ((ji11) ≤ (ji12)) = false := decide_eq_false c13
                  clear c13
                  by_cases c26 : ((rd_T23 x0_1 0).f1) < ((rd_T23 x1_1 0).f1)
                  · rw [if_pos c26] at H
                    have c26b0 : decide (((rd_T23 x0_1 0).f1) < ((rd_T23 x1_1 0).f1)) = true := decide_eq_true c26
                    clear c26
                    by_cases c27 : 1 ≤ (x0_1.length : Int)
                    · rw [if_pos c27] at H
                      have c27b0 := eq_true c27
                      have c27b1 : decide (1 ≤ (x0_1.length : Int)) = true := decide_eq_true c27
                      clear c27
                      obtain ⟨y387, hy387⟩ : ∃ y_ : List (S23), y_ = (x0_1.drop 1) := ⟨_, rfl⟩
                      replace H : (span_common.l0 kj2 y387 x1_1 x5_1) = some r := by first | (rw [hy387]; with_reducible exact H) | (have H2_ := (Option.bind_some _ _).symm.trans H; rw [hy387]; with_reducible exact H2_) | (have H2_ := (Option.bind_some _ _).symm.trans H; with_reducible exact H2_) | with_reducible exact H | (rw [hy387]; exact H) | exact H
                      have Ny387 := Aside0.mk hy387
                      clear hy387
                      have H' := Aside0.mk H
                      clear H
                      obtain ⟨Ao28, co28, eo28⟩ := Kd.V_slice HO_0.out
                      subst eo28
                      have p366 : 0 ≤ (0 : Int) := (by omega)
                      have q366 : 0 < (x0_1.length : Int) := of_decide_eq_true (by first | (with_reducible assumption) | assumption)
                      obtain ⟨ad366, e366, hx366_0, hx366_1⟩ := at_T23 (Kd.V_reads' HO_0.out).2.2 0 p366 q366
                      cases e366
                      have qi366 : (0 < x0_1.length) = True := eq_true (by omega)
                      (try rw [show ((0 : Int)).toNat = 0 from rfl] at hx366_0)
                      (try rw [show 0 * 2 = 0 from rfl] at hx366_0)
                      (try rw [Addr.add_zero'] at hx366_0)
                      (try rw [show ((0 : Int)).toNat = 0 from rfl] at hx366_1)
                      (try rw [show 0 * 2 = 0 from rfl] at hx366_1)
                      (try rw [Addr.add_zero'] at hx366_1)
                      replace p366 := eq_true p366
                      replace q366 := eq_true q366
                      obtain ⟨Ao29, co29, eo29⟩ := Kd.V_slice HO_1.out
                      subst eo29
                      have p367 : 0 ≤ (0 : Int) := (by omega)
                      have q367 : 0 < (x1_1.length : Int) := of_decide_eq_true (by first | (with_reducible assumption) | assumption)
                      obtain ⟨ad367, e367, hx367_0, hx367_1⟩ := at_T23 (Kd.V_reads' HO_1.out).2.2 0 p367 q367
                      cases e367
                      have qi367 : (0 < x1_1.length) = True := eq_true (by omega)
                      (try rw [show ((0 : Int)).toNat = 0 from rfl] at hx367_0)
                      (try rw [show 0 * 2 = 0 from rfl] at hx367_0)
                      (try rw [Addr.add_zero'] at hx367_0)
                      (try rw [show ((0 : Int)).toNat = 0 from rfl] at hx367_1)
                      (try rw [show 0 * 2 = 0 from rfl] at hx367_1)
                      (try rw [Addr.add_zero'] at hx367_1)
                      replace p367 := eq_true p367
                      replace q367 := eq_true q367
                      have p368 : 0 ≤ (0 : Int) := (by omega)
                      have q368 : 0 < (x0_1.length : Int) := of_decide_eq_true (by first | (with_reducible assumption) | assumption)
                      obtain ⟨ad368, e368, hx368_0, hx368_1⟩ := at_T23 (Kd.V_reads' HO_0.out).2.2 0 p368 q368
                      obtain rfl : ad366 = ad368 := (by injection e368)
                      have qi368 : (0 < x0_1.length) = True := eq_true (by omega)
                      (try rw [show ((0 : Int)).toNat = 0 from rfl] at hx368_0)
                      (try rw [show 0 * 2 = 0 from rfl] at hx368_0)
                      (try rw [Addr.add_zero'] at hx368_0)
                      (try rw [show ((0 : Int)).toNat = 0 from rfl] at hx368_1)
                      (try rw [show 0 * 2 = 0 from rfl] at hx368_1)
                      (try rw [Addr.add_zero'] at hx368_1)
                      replace p368 := eq_true p368
                      replace q368 := eq_true q368
                      have p369 : 0 ≤ (0 : Int) := (by omega)
                      have q369 : 0 < (x1_1.length : Int) := of_decide_eq_true (by first | (with_reducible assumption) | assumption)
                      obtain ⟨ad369, e369, hx369_0, hx369_1⟩ := at_T23 (Kd.V_reads' HO_1.out).2.2 0 p369 q369
                      obtain rfl : ad367 = ad369 := (by injection e369)
                      have qi369 : (0 < x1_1.length) = True := eq_true (by omega)
                      (try rw [show ((0 : Int)).toNat = 0 from rfl] at hx369_0)
                      (try rw [show 0 * 2 = 0 from rfl] at hx369_0)
                      (try rw [Addr.add_zero'] at hx369_0)
                      (try rw [show ((0 : Int)).toNat = 0 from rfl] at hx369_1)
                      (try rw [show 0 * 2 = 0 from rfl] at hx369_1)
                      (try rw [Addr.add_zero'] at hx369_1)
                      replace p369 := eq_true p369
                      replace q369 := eq_true q369
                      have p385 : 0 ≤ (0 : Int) := (by omega)
                      have q385 : 0 < (x0_1.length : Int) := of_decide_eq_true (by first | (with_reducible assumption) | assumption)
                      obtain ⟨ad385, e385, hx385_0, hx385_1⟩ := at_T23 (Kd.V_reads' HO_0.out).2.2 0 p385 q385
                      obtain rfl : ad366 = ad385 := (by injection e385)
                      have qi385 : (0 < x0_1.length) = True := eq_true (by omega)
                      (try rw [show ((0 : Int)).toNat = 0 from rfl] at hx385_0)
                      (try rw [show 0 * 2 = 0 from rfl] at hx385_0)
                      (try rw [Addr.add_zero'] at hx385_0)
                      (try rw [show ((0 : Int)).toNat = 0 from rfl] at hx385_1)
                      (try rw [show 0 * 2 = 0 from rfl] at hx385_1)
                      (try rw [Addr.add_zero'] at hx385_1)
                      replace p385 := eq_true p385
                      replace q385 := eq_true q385
                      have p386 : 0 ≤ (0 : Int) := (by omega)
                      have q386 : 0 < (x1_1.length : Int) := of_decide_eq_true (by first | (with_reducible assumption) | assumption)
                      obtain ⟨ad386, e386, hx386_0, hx386_1⟩ := at_T23 (Kd.V_reads' HO_1.out).2.2 0 p386 q386
                      obtain rfl : ad367 = ad386 := (by injection e386)
                      have qi386 : (0 < x1_1.length) = True := eq_true (by omega)
                      (try rw [show ((0 : Int)).toNat = 0 from rfl] at hx386_0)
                      (try rw [show 0 * 2 = 0 from rfl] at hx386_0)
                      (try rw [Addr.add_zero'] at hx386_0)
                      (try rw [show ((0 : Int)).toNat = 0 from rfl] at hx386_1)
                      (try rw [show 0 * 2 = 0 from rfl] at hx386_1)
                      (try rw [Addr.add_zero'] at hx386_1)
                      replace p386 := eq_true p386
                      replace q386 := eq_true q386
                      have q30 : (1 : Int) ≤ ((x0_1.length : Int) : Int) := of_decide_eq_true (by first | (with_reducible assumption) | assumption)
                      obtain ⟨i030, hi030, _, hsz30, _⟩ := info_parts info23
                      have hroom30 : x0_1.length ≤ co28 := (Kd.V_reads' HO_0.out).2.1
                      have hC30 : Kd.F k23 _ _ (some ad366) x0_1.length x0_1 := (Kd.V_at (base := w.heap.size) HO_0.out).2.2
                      have hcut30 := cut_from (P := Try.prog) 31 23 .i64 Try.underlying31 hi030 2 hsz30 (some ad366) x0_1.length co28 1 (by omega) q30
                      have hr30 := Kd.F_cut (m := (1 : Int).toNat) (c := co28) hC30 (by omega) hroom30
                      obtain ⟨A30, hA30⟩ : ∃ A1, A1 = (if co28 = (1 : Int).toNat then (some ad366) else ((some ad366) : Option Addr).map (·.add ((1 : Int).toNat * 2))) := ⟨_, rfl⟩
                      obtain ⟨c30, hc30⟩ : ∃ c1, c1 = co28 - (1 : Int).toNat := ⟨_, rfl⟩
                      have hy30 : y387.length = x0_1.length - (1 : Int).toNat := (by rw [Ny387.out, List.length_drop] <;> omega)
                      rw [show (x0_1).drop (1 : Int).toNat = y387 from Ny387.out.symm] at hr30
                      replace hr30 : Kd.F k23 _ _ A30 y387.length y387 := (by rw [hA30]; exact hr30)
                      rw [← hy30, ← hA30, ← hc30] at hcut30
                      have HO391 := Aside0.mk (show Kd.V k23 23 _ w.heap.size _ (.slice A30 y387.length c30) y387 from Kd.V_mk (by rw [hy30, hc30]; exact Nat.sub_le_sub_right hroom30 _) hr30)
                      have HC391 := Aside0.mk (show y387.length ≤ c30 from by rw [hy30, hc30]; exact Nat.sub_le_sub_right hroom30 _)
                      clear hr30 hC30 hroom30 hi030 hsz30 hc30
                      have KY30 := Aside0.mk hy30
                      have KA30 := Aside0.mk hA30
                      clear hy30 hA30
                      replace q30 := eq_true q30
                      go_wp2
                      repeat (go_quiet (fail); try go_wp2)
                      go_roundg kj2
                      case measure => have := HK1.out; have := HJ2.out; omega
                      case rel => exact ⟨(y387), (x1_1), (x5_1), H', ⟨by have := HK1.out; have := HJ2.out; omega⟩, ⟨by (with_reducible repeat (first | apply Kd.V_alloc | apply Kd.V_drewN | apply Kd.V_drew)); exact HO391.out⟩, ⟨by (with_reducible repeat (first | apply Kd.V_alloc | apply Kd.V_drewN | apply Kd.V_drew)); exact HO_1.out⟩, ⟨by (with_reducible repeat (first | apply Kd.R_alloc | apply Kd.R_drewN | apply Kd.R_drew)); exact HO_5.out⟩, ⟨by repeat (first | (with_reducible first | exact HB.out | apply below_alloc | apply pw_below_drewN | apply below_drew1) | exact HB.out)⟩⟩
                    · rw [if_neg c27] at H
                      exact absurd H (by simp)
                  · rw [if_neg c26] at H
                    have c26b0 : decide (((rd_T23 x0_1 0).f1) < ((rd_T23 x1_1 0).f1)) = false := decide_eq_false c26
                    clear c26
                    by_cases c31 : 1 ≤ (x1_1.length : Int)
                    · rw [if_pos c31] at H
                      have c31b0 := eq_true c31
                      have c31b1 : decide (1 ≤ (x1_1.length : Int)) = true := decide_eq_true c31
                      clear c31
                      obtain ⟨y392, hy392⟩ : ∃ y_ : List (S23), y_ = (x1_1.drop 1) := ⟨_, rfl⟩
                      replace H : (span_common.l0 kj2 x0_1 y392 x5_1) = some r := by first | (rw [hy392]; with_reducible exact H) | (have H2_ := (Option.bind_some _ _).symm.trans H; rw [hy392]; with_reducible exact H2_) | (have H2_ := (Option.bind_some _ _).symm.trans H; with_reducible exact H2_) | with_reducible exact H | (rw [hy392]; exact H) | exact H
                      have Ny392 := Aside0.mk hy392
                      clear hy392
                      have H' := Aside0.mk H
                      clear H
                      obtain ⟨Ao32, co32, eo32⟩ := Kd.V_slice HO_0.out
                      subst eo32
                      have p366 : 0 ≤ (0 : Int) := (by omega)
                      have q366 : 0 < (x0_1.length : Int) := of_decide_eq_true (by first | (with_reducible assumption) | assumption)
                      obtain ⟨ad366, e366, hx366_0, hx366_1⟩ := at_T23 (Kd.V_reads' HO_0.out).2.2 0 p366 q366
                      cases e366
                      have qi366 : (0 < x0_1.length) = True := eq_true (by omega)
                      (try rw [show ((0 : Int)).toNat = 0 from rfl] at hx366_0)
                      (try rw [show 0 * 2 = 0 from rfl] at hx366_0)
                      (try rw [Addr.add_zero'] at hx366_0)
                      (try rw [show ((0 : Int)).toNat = 0 from rfl] at hx366_1)
                      (try rw [show 0 * 2 = 0 from rfl] at hx366_1)
                      (try rw [Addr.add_zero'] at hx366_1)
                      replace p366 := eq_true p366
                      replace q366 := eq_true q366
                      obtain ⟨Ao33, co33, eo33⟩ := Kd.V_slice HO_1.out
                      subst eo33
                      have p367 : 0 ≤ (0 : Int) := (by omega)
                      have q367 : 0 < (x1_1.length : Int) := of_decide_eq_true (by first | (with_reducible assumption) | assumption)
                      obtain ⟨ad367, e367, hx367_0, hx367_1⟩ := at_T23 (Kd.V_reads' HO_1.out).2.2 0 p367 q367
                      cases e367
                      have qi367 : (0 < x1_1.length) = True := eq_true (by omega)
                      (try rw [show ((0 : Int)).toNat = 0 from rfl] at hx367_0)
                      (try rw [show 0 * 2 = 0 from rfl] at hx367_0)
                      (try rw [Addr.add_zero'] at hx367_0)
                      (try rw [show ((0 : Int)).toNat = 0 from rfl] at hx367_1)
                      (try rw [show 0 * 2 = 0 from rfl] at hx367_1)
                      (try rw [Addr.add_zero'] at hx367_1)
                      replace p367 := eq_true p367
                      replace q367 := eq_true q367
                      have p368 : 0 ≤ (0 : Int) := (by omega)
                      have q368 : 0 < (x0_1.length : Int) := of_decide_eq_true (by first | (with_reducible assumption) | assumption)
                      obtain ⟨ad368, e368, hx368_0, hx368_1⟩ := at_T23 (Kd.V_reads' HO_0.out).2.2 0 p368 q368
                      obtain rfl : ad366 = ad368 := (by injection e368)
                      have qi368 : (0 < x0_1.length) = True := eq_true (by omega)
                      (try rw [show ((0 : Int)).toNat = 0 from rfl] at hx368_0)
                      (try rw [show 0 * 2 = 0 from rfl] at hx368_0)
                      (try rw [Addr.add_zero'] at hx368_0)
                      (try rw [show ((0 : Int)).toNat = 0 from rfl] at hx368_1)
                      (try rw [show 0 * 2 = 0 from rfl] at hx368_1)
                      (try rw [Addr.add_zero'] at hx368_1)
                      replace p368 := eq_true p368
                      replace q368 := eq_true q368
                      have p369 : 0 ≤ (0 : Int) := (by omega)
                      have q369 : 0 < (x1_1.length : Int) := of_decide_eq_true (by first | (with_reducible assumption) | assumption)
                      obtain ⟨ad369, e369, hx369_0, hx369_1⟩ := at_T23 (Kd.V_reads' HO_1.out).2.2 0 p369 q369
                      obtain rfl : ad367 = ad369 := (by injection e369)
                      have qi369 : (0 < x1_1.length) = True := eq_true (by omega)
                      (try rw [show ((0 : Int)).toNat = 0 from rfl] at hx369_0)
                      (try rw [show 0 * 2 = 0 from rfl] at hx369_0)
                      (try rw [Addr.add_zero'] at hx369_0)
                      (try rw [show ((0 : Int)).toNat = 0 from rfl] at hx369_1)
                      (try rw [show 0 * 2 = 0 from rfl] at hx369_1)
                      (try rw [Addr.add_zero'] at hx369_1)
                      replace p369 := eq_true p369
                      replace q369 := eq_true q369
                      have p385 : 0 ≤ (0 : Int) := (by omega)
                      have q385 : 0 < (x0_1.length : Int) := of_decide_eq_true (by first | (with_reducible assumption) | assumption)
                      obtain ⟨ad385, e385, hx385_0, hx385_1⟩ := at_T23 (Kd.V_reads' HO_0.out).2.2 0 p385 q385
                      obtain rfl : ad366 = ad385 := (by injection e385)
                      have qi385 : (0 < x0_1.length) = True := eq_true (by omega)
                      (try rw [show ((0 : Int)).toNat = 0 from rfl] at hx385_0)
                      (try rw [show 0 * 2 = 0 from rfl] at hx385_0)
                      (try rw [Addr.add_zero'] at hx385_0)
                      (try rw [show ((0 : Int)).toNat = 0 from rfl] at hx385_1)
                      (try rw [show 0 * 2 = 0 from rfl] at hx385_1)
                      (try rw [Addr.add_zero'] at hx385_1)
                      replace p385 := eq_true p385
                      replace q385 := eq_true q385
                      have p386 : 0 ≤ (0 : Int) := (by omega)
                      have q386 : 0 < (x1_1.length : Int) := of_decide_eq_true (by first | (with_reducible assumption) | assumption)
                      obtain ⟨ad386, e386, hx386_0, hx386_1⟩ := at_T23 (Kd.V_reads' HO_1.out).2.2 0 p386 q386
                      obtain rfl : ad367 = ad386 := (by injection e386)
                      have qi386 : (0 < x1_1.length) = True := eq_true (by omega)
                      (try rw [show ((0 : Int)).toNat = 0 from rfl] at hx386_0)
                      (try rw [show 0 * 2 = 0 from rfl] at hx386_0)
                      (try rw [Addr.add_zero'] at hx386_0)
                      (try rw [show ((0 : Int)).toNat = 0 from rfl] at hx386_1)
                      (try rw [show 0 * 2 = 0 from rfl] at hx386_1)
                      (try rw [Addr.add_zero'] at hx386_1)
                      replace p386 := eq_true p386
                      replace q386 := eq_true q386
                      have q34 : (1 : Int) ≤ ((x1_1.length : Int) : Int) := of_decide_eq_true (by first | (with_reducible assumption) | assumption)
                      obtain ⟨i034, hi034, _, hsz34, _⟩ := info_parts info23
                      have hroom34 : x1_1.length ≤ co33 := (Kd.V_reads' HO_1.out).2.1
                      have hC34 : Kd.F k23 _ _ (some ad367) x1_1.length x1_1 := (Kd.V_at (base := w.heap.size) HO_1.out).2.2
                      have hcut34 := cut_from (P := Try.prog) 31 23 .i64 Try.underlying31 hi034 2 hsz34 (some ad367) x1_1.length co33 1 (by omega) q34
                      have hr34 := Kd.F_cut (m := (1 : Int).toNat) (c := co33) hC34 (by omega) hroom34
                      obtain ⟨A34, hA34⟩ : ∃ A1, A1 = (if co33 = (1 : Int).toNat then (some ad367) else ((some ad367) : Option Addr).map (·.add ((1 : Int).toNat * 2))) := ⟨_, rfl⟩
                      obtain ⟨c34, hc34⟩ : ∃ c1, c1 = co33 - (1 : Int).toNat := ⟨_, rfl⟩
                      have hy34 : y392.length = x1_1.length - (1 : Int).toNat := (by rw [Ny392.out, List.length_drop] <;> omega)
                      rw [show (x1_1).drop (1 : Int).toNat = y392 from Ny392.out.symm] at hr34
                      replace hr34 : Kd.F k23 _ _ A34 y392.length y392 := (by rw [hA34]; exact hr34)
                      rw [← hy34, ← hA34, ← hc34] at hcut34
                      have HO396 := Aside0.mk (show Kd.V k23 23 _ w.heap.size _ (.slice A34 y392.length c34) y392 from Kd.V_mk (by rw [hy34, hc34]; exact Nat.sub_le_sub_right hroom34 _) hr34)
                      have HC396 := Aside0.mk (show y392.length ≤ c34 from by rw [hy34, hc34]; exact Nat.sub_le_sub_right hroom34 _)
                      clear hr34 hC34 hroom34 hi034 hsz34 hc34
                      have KY34 := Aside0.mk hy34
                      have KA34 := Aside0.mk hA34
                      clear hy34 hA34
                      replace q34 := eq_true q34
                      go_wp2
                      repeat (go_quiet (fail); try go_wp2)
                      go_roundg kj2
                      case measure => have := HK1.out; have := HJ2.out; omega
                      case rel => exact ⟨(x0_1), (y392), (x5_1), H', ⟨by have := HK1.out; have := HJ2.out; omega⟩, ⟨by (with_reducible repeat (first | apply Kd.V_alloc | apply Kd.V_drewN | apply Kd.V_drew)); exact HO_0.out⟩, ⟨by (with_reducible repeat (first | apply Kd.V_alloc | apply Kd.V_drewN | apply Kd.V_drew)); exact HO396.out⟩, ⟨by (with_reducible repeat (first | apply Kd.R_alloc | apply Kd.R_drewN | apply Kd.R_drew)); exact HO_5.out⟩, ⟨by repeat (first | (with_reducible first | exact HB.out | apply below_alloc | apply pw_below_drewN | apply below_drew1) | exact HB.out)⟩⟩
                    · rw [if_neg c31] at H
                      exact absurd H (by simp)
              · rw [if_neg c10] at H
                exact absurd H (by simp)
            · rw [if_neg c9] at H
              exact absurd H (by simp)
          · replace c8 := Bool.eq_false_iff.mpr c8
            subst c8
            have H1 : (some x5_1) = some r := by rw [if_neg (show ¬ (false = true) by decide)] at H; exact H
            clear H
            have H := H1
            clear H1
            obtain rfl := Option.some.inj H
            go_wp2
            repeat (go_quiet (fail); try go_wp2)
            go_ret
            exact ⟨_, by first | rfl | (simp [errW_none, errW_some] <;> rfl) | (simp [*, errW_none, errW_some] <;> rfl), by (with_reducible repeat (first | apply Kd.R_alloc | apply Kd.R_drewN | apply Kd.R_drew)); exact HO_5.out, by repeat (first | (with_reducible first | exact HB.out | apply below_alloc | apply pw_below_drewN | apply below_drew1) | exact HB.out)⟩

end Go.Proofs.Ytedhcdganddiiaa.QA
