import Derived.Test.YtcofgnbopodahaaJQAx0
import Derived.Test.YtcofgnbopodahaaJQAx1
import Derived.Test.YtcofgnbopodahaaJQAx2
import Derived.Test.YtcofgnbopodahaaJQAx4
import Derived.Test.YtcofgnbopodahaaJQAx6
import Derived.Test.YtcofgnbopodahaaJQAx8
import Derived.Test.YtcofgnbopodahaaJQAx9
import Derived.Test.YtcofgnbopodahaaJQAx10
import Derived.Test.YtcofgnbopodahaaJRegInv
namespace Go.Proofs.Ytcofgnbopodahaa.QA
open Go.RowKit Go.Proofs.YtcofgnbopodahaaW.PrintWords Go.Proofs.YtcofgnbopodahaaW.PrintLast Go.Proofs.YtcofgnbopodahaaW.PrintMore
open Go.Proofs.YtcofgnbopodahaaW.PrintWords renaming below_alloc → wa, pw_below_drewN → wN, below_drew1 → wd, below_set → ws, blk_cell → bc, below_step → wt, gate_callee → gc
open Aside0 renaming mk → am
attribute [local go_sem] max2_int min2_int max_two min_two max_three min_three max_four min_four
set_option linter.unusedVariables false
set_option linter.unusedSimpArgs false

attribute [local go_sem high] eqA24 eqA65
section
open Go.Proofs.Ytcofgnbopodahaa.RegInv
def w_awake.f : Option Bool := some true
def awE : List S68 := [(⟨(⟨#[97]⟩ : ByteArray), ⟨⟨0, 0, 0⟩, ⟨10, 10, 10⟩⟩, 1⟩ : S68), (⟨(⟨#[98]⟩ : ByteArray), ⟨⟨5, 5, 5⟩, ⟨15, 15, 15⟩⟩, 2⟩ : S68)]
def awE3 : List S68 := [(⟨(⟨#[97]⟩ : ByteArray), ⟨⟨0, 0, 0⟩, ⟨10, 10, 10⟩⟩, 1⟩ : S68), (⟨(⟨#[98]⟩ : ByteArray), ⟨⟨5, 5, 5⟩, ⟨15, 15, 15⟩⟩, 2⟩ : S68), (⟨(⟨#[97]⟩ : ByteArray), ⟨⟨0, 0, 0⟩, ⟨10, 10, 10⟩⟩, 1⟩ : S68)]
def awC : List S65 := [(⟨0, 1⟩ : S65)]
def awN : List ByteArray := [(⟨#[97]⟩ : ByteArray), (⟨#[98]⟩ : ByteArray)]
theorem awc0 (W : World) : Calls Try.prog 34 #[.int .i64 0, .int .i64 10] W fun e w' => e = .returned (.agg #[.int .i64 0, .int .i64 0, .int .i64 0, .int .i64 10, .int .i64 10, .int .i64 10]) ∧ Below W.heap.size W w' := w_cube.calls 0 10 0 0 0 10 10 10 W (by kernel_rfl)
theorem awc1 (W : World) : Calls Try.prog 34 #[.int .i64 5, .int .i64 10] W fun e w' => e = .returned (.agg #[.int .i64 5, .int .i64 5, .int .i64 5, .int .i64 15, .int .i64 15, .int .i64 15]) ∧ Below W.heap.size W w' := w_cube.calls 5 10 5 5 5 15 15 15 W (by kernel_rfl)
theorem aw13 (W : World) (A_ : Option Addr) (c_ : Nat) (hr : Kd.C k68 W A_ 2 awE) (hc : 2 ≤ c_) : Calls Try.prog 13 #[.slice A_ 2 c_, .agg #[.int .i64 4, .int .i64 5, .int .i64 5]] W fun e w' => e = .returned (.tuple #[.int .i64 1, .int .i64 0]) ∧ Below W.heap.size W w' := model_State.calls 40 A_ c_ awE 4 5 5 1 0 W hr hc (by kernel_rfl)
theorem aw21 (W : World) (A_ : Option Addr) (c_ : Nat) (hr : Kd.C k68 W A_ 2 awE) (hc : 2 ≤ c_) : Calls Try.prog 21 #[.slice A_ 2 c_, .agg #[.int .i64 0, .int .i64 0, .int .i64 0, .int .i64 10, .int .i64 10, .int .i64 10], .int .i64 3] W fun e w' => e = .returned (.tuple #[.int .i64 125, .int .i64 0]) ∧ Below W.heap.size W w' := model_Volume.calls 40 A_ c_ awE 0 0 0 10 10 10 3 125 0 W hr hc (by kernel_rfl)
theorem aw22 (W : World) (A_ : Option Addr) (c_ : Nat) (hr : Kd.C k68 W A_ 2 awE) (hc : 2 ≤ c_) : Calls Try.prog 22 #[.slice A_ 2 c_, .agg #[.int .i64 0, .int .i64 0, .int .i64 0, .int .i64 10, .int .i64 10, .int .i64 10], .int .i64 3] W fun e w' => e = .returned (.tuple #[.agg #[.int .i64 5, .int .i64 5, .int .i64 5], .int .i64 0]) ∧ Below W.heap.size W w' := model_First.calls 40 A_ c_ awE 0 0 0 10 10 10 3 5 5 5 0 W hr hc (by kernel_rfl)
theorem aw29 (W : World) (A_ : Option Addr) (c_ : Nat) (hr : Kd.C k68 W A_ 3 awE3) (hc : 3 ≤ c_) : Calls Try.prog 29 #[.slice A_ 3 c_, .int .i64 0] W fun e w' => e = .returned (.tuple #[.bool true, .int .i64 0]) ∧ Below W.heap.size W w' := model_Useless.calls 40 A_ c_ awE3 0 true 0 W hr hc (by kernel_rfl)
theorem aw27 (W : World) (A_ : Option Addr) (c_ : Nat) (hr : Kd.C k68 W A_ 2 awE) (hc : 2 ≤ c_) : Calls Try.prog 27 #[.slice A_ 2 c_] W fun e w' => ∃ a8 c8, e = .returned (.tuple #[.slice a8 1 c8, .int .i64 0]) ∧ Kd.R k65 65 w' W.heap.size (fun _ => True) (.slice a8 1 c8) awC ∧ Below W.heap.size W w' := by
 refine (model_Clashes.calls 40 A_ c_ awE awC 0 W hr hc (by kernel_rfl)).mono ?_
 rintro e w2 ⟨v, rfl, hr2, hb⟩
 obtain ⟨a8, c8, rfl⟩ := Kd.R_slice hr2
 exact ⟨a8, c8, rfl, hr2, hb⟩
theorem aw14 (W : World) (A_ : Option Addr) (c_ : Nat) (hr : Kd.C k68 W A_ 2 awE) (hc : 2 ≤ c_) : Calls Try.prog 14 #[.slice A_ 2 c_, .agg #[.int .i64 5, .int .i64 5, .int .i64 5]] W fun e w' => ∃ a8 c8, e = .returned (.tuple #[.slice a8 2 c8, .int .i64 0]) ∧ Kd.R Kd.string 9 w' W.heap.size (fun _ => True) (.slice a8 2 c8) awN ∧ Below W.heap.size W w' := by
 refine (model_Sources.calls 40 A_ c_ awE 5 5 5 awN 0 W hr hc (by kernel_rfl)).mono ?_
 rintro e w2 ⟨v, rfl, hr2, hb⟩
 obtain ⟨a8, c8, rfl⟩ := Kd.R_slice hr2
 exact ⟨a8, c8, rfl, hr2, hb⟩
theorem aw19 (W : World) : Calls Try.prog 19 #[.int .i64 1, .int .i64 2] W fun e w' => e = .returned (.tuple #[.int .i64 3, .int .i64 0]) ∧ Drawn0 W w' := model_Join.calls 40 1 2 3 0 W (by kernel_rfl)
theorem awgen {P : Program} {c : Code} {Q : Exit → Act → World → Prop} {a : Act} {W : World} (φ : World → Prop) (h : φ W) (k : ∀ V, φ V → Code.wp P c Q a V) : Code.wp P c Q a W := k W h
theorem at_T68' {w : World} {A : Option Addr} {n : Nat} {xs : List S68} (h : Kd.C k68 w A n xs) (hn : 0 < n) : ∃ ad, A = some ad ∧ w.cell? ad = some (.string (rd_T68 xs 0).f0) ∧ w.cell? ⟨ad.block, ad.off + 1, none⟩ = some (.int .i64 (rd_T68 xs 0).f1.f0.f0) ∧ w.cell? ⟨ad.block, ad.off + 2, none⟩ = some (.int .i64 (rd_T68 xs 0).f1.f0.f1) ∧ w.cell? ⟨ad.block, ad.off + 3, none⟩ = some (.int .i64 (rd_T68 xs 0).f1.f0.f2) ∧ w.cell? ⟨ad.block, ad.off + 4, none⟩ = some (.int .i64 (rd_T68 xs 0).f1.f1.f0) ∧ w.cell? ⟨ad.block, ad.off + 5, none⟩ = some (.int .i64 (rd_T68 xs 0).f1.f1.f1) ∧ w.cell? ⟨ad.block, ad.off + 6, none⟩ = some (.int .i64 (rd_T68 xs 0).f1.f1.f2) ∧ w.cell? ⟨ad.block, ad.off + 7, none⟩ = some (.int .i64 (rd_T68 xs 0).f2) := by
 obtain ⟨ad, e, h0, h1, h2, h3, h4, h5, h6, h7⟩ := at_T68 h 0 (Int.le_refl 0) (by omega)
 rw [show ((0 : Int)).toNat = 0 from rfl, show 0 * 8 = 0 from rfl, Addr.add_zero'] at h0 h1 h2 h3 h4 h5 h6 h7
 exact ⟨ad, e, h0, h1, h2, h3, h4, h5, h6, h7⟩
set_option maxHeartbeats 20000000 in
set_option maxRecDepth 100000 in
theorem w_awake.calls (r : Bool) (w : World) (h : w_awake.f = some r) : Calls Try.prog 10 #[] w fun e w' => e = .returned (.bool r) ∧ Below w.heap.size w w' := by
 obtain rfl := Option.some.inj h
 have hu68 := Try.underlying68
 have hu24 := Try.underlying24
 have hu65 := Try.underlying65
 have HB := am (Below.refl w.heap.size w)
 clear h
 go_enter Try.func10, Try.ntmps10
 go_upto_region 2 with (first | ((with_reducible refine gc (f := 34) rfl ?_); refine goesL_ (some 16) rfl rfl Try.func34 (by kernel_rfl) rfl #[.int .i64 0, .int .i64 10] rfl (by (try simp only [pml]); first | done | rfl) ?_; (with_reducible refine (awc0 _).mono ?_); rintro e w2 ⟨rfl, hb⟩; refine ⟨_, rfl, ?_⟩; have n_HB := am (wt (by repeat (first | (with_reducible first | exact HB.out | apply wa | apply wN | apply wd | refine ws ?_ G6.out) | exact HB.out)) hb); clear HB; have HB := n_HB; clear n_HB hb) | ((with_reducible refine gc (f := 34) rfl ?_); refine goesL_ (some 18) rfl rfl Try.func34 (by kernel_rfl) rfl #[.int .i64 5, .int .i64 10] rfl (by (try simp only [pml]); first | done | rfl) ?_; (with_reducible refine (awc1 _).mono ?_); rintro e w2 ⟨rfl, hb⟩; refine ⟨_, rfl, ?_⟩; have n_HB := am (wt (by repeat (first | (with_reducible first | exact HB.out | apply wa | apply wN | apply wd | refine ws ?_ G6.out) | exact HB.out)) hb); clear HB; have HB := n_HB; clear n_HB hb) | ((with_reducible refine gate_dst (N := 20) rfl ?_); (try (refine gate_guard (by rfl) ?_; dsimp only)); refine Kd.R_lit k68 _ 68 ?hg (N := 20) ?hd (xs := awE) (inner := [.string (⟨#[97]⟩ : ByteArray), .int .i64 0, .int .i64 0, .int .i64 0, .int .i64 10, .int .i64 10, .int .i64 10, .int .i64 1, .string (⟨#[98]⟩ : ByteArray), .int .i64 5, .int .i64 5, .int .i64 5, .int .i64 15, .int .i64 15, .int .i64 15, .int .i64 2]) (ok := fun _ => True) (okp := fun _ => True) ?hr ?hp (fun _ hk => hk) trivial (Below.refl _ _) (Nat.le_refl _) (by decide) ?_; (case hd | hg => rfl); (case hr => first | (go_simp; done) | (go_simp; rfl)); (case hp => exact (Reps.c8 (show Kd.M k68 _ _ _ (⟨(⟨#[97]⟩ : ByteArray), ⟨⟨0, 0, 0⟩, ⟨10, 10, 10⟩⟩, 1⟩ : S68) [.string (⟨#[97]⟩ : ByteArray), .int .i64 0, .int .i64 0, .int .i64 0, .int .i64 10, .int .i64 10, .int .i64 10, .int .i64 1] from (k68_mkM _ _ _ (⟨(⟨#[97]⟩ : ByteArray), ⟨⟨0, 0, 0⟩, ⟨10, 10, 10⟩⟩, 1⟩ : S68))) (Reps.c8 (show Kd.M k68 _ _ _ (⟨(⟨#[98]⟩ : ByteArray), ⟨⟨5, 5, 5⟩, ⟨15, 15, 15⟩⟩, 2⟩ : S68) [.string (⟨#[98]⟩ : ByteArray), .int .i64 5, .int .i64 5, .int .i64 5, .int .i64 15, .int .i64 15, .int .i64 15, .int .i64 2] from (k68_mkM _ _ _ (⟨(⟨#[98]⟩ : ByteArray), ⟨⟨5, 5, 5⟩, ⟨15, 15, 15⟩⟩, 2⟩ : S68))) (Reps.none _ _)))); intro v192 w17 ho hb hg_ hnew_; clear hg_ hnew_; have HO := am (Kd.R_lower ho (below_size (by repeat (first | (with_reducible first | exact HB.out | apply wa | apply wN | apply wd | refine ws ?_ G6.out) | exact HB.out)))); have n_HB := am (wt (by repeat (first | (with_reducible first | exact HB.out | apply wa | apply wN | apply wd | refine ws ?_ G6.out) | exact HB.out)) hb); clear HB; have HB := n_HB; clear n_HB hb ho; obtain ⟨Ao, co, eo⟩ := Kd.R_slice HO.out; have eo2 : v192 = .slice Ao 2 co := eo; clear eo; subst eo2))
 go_upto_region 3 with (((with_reducible refine gc (f := 13) rfl ?_); refine goesL_ (some 24) rfl rfl Try.func13 (by kernel_rfl) rfl #[.slice Ao 2 co, .agg #[.int .i64 4, .int .i64 5, .int .i64 5]] rfl (by (try simp only [pml]); first | done | rfl) ?_; (with_reducible refine (aw13 _ _ _ ?s1 ?s2).mono ?_); (case s1 => repeat (first | exact (Kd.R_reads' HO.out).2.2 | (with_reducible refine Kd.C_alloc ?_ _) | (with_reducible refine Kd.C_drewN ?_ _) | (with_reducible refine Kd.C_drew ?_))); (case s2 => exact (Kd.R_reads' HO.out).2.1); rintro e w2 ⟨rfl, hb⟩; refine ⟨_, rfl, ?_⟩; have n_HO := dR HO hb; have n_HB := am (wt (by repeat (first | (with_reducible first | exact HB.out | apply wa | apply wN | apply wd | refine ws ?_ G6.out) | exact HB.out)) hb); clear HO HB; have HO := n_HO; have HB := n_HB; clear n_HO n_HB hb))
 go_upto_region 4 with (first | ((with_reducible refine gc (f := 34) rfl ?_); refine goesL_ (some 29) rfl rfl Try.func34 (by kernel_rfl) rfl #[.int .i64 0, .int .i64 10] rfl (by (try simp only [pml]); first | done | rfl) ?_; (with_reducible refine (awc0 _).mono ?_); rintro e w2 ⟨rfl, hb⟩; refine ⟨_, rfl, ?_⟩; have n_HO := dR HO hb; have n_HB := am (wt (by repeat (first | (with_reducible first | exact HB.out | apply wa | apply wN | apply wd | refine ws ?_ G6.out) | exact HB.out)) hb); clear HO HB; have HO := n_HO; have HB := n_HB; clear n_HO n_HB hb) | ((with_reducible refine gc (f := 21) rfl ?_); refine goesL_ (some 30) rfl rfl Try.func21 (by kernel_rfl) rfl #[.slice Ao 2 co, .agg #[.int .i64 0, .int .i64 0, .int .i64 0, .int .i64 10, .int .i64 10, .int .i64 10], .int .i64 3] rfl (by (try simp only [pml]); first | done | rfl) ?_; (with_reducible refine (aw21 _ _ _ ?s1 ?s2).mono ?_); (case s1 => repeat (first | exact (Kd.R_reads' HO.out).2.2 | (with_reducible refine Kd.C_alloc ?_ _) | (with_reducible refine Kd.C_drewN ?_ _) | (with_reducible refine Kd.C_drew ?_))); (case s2 => exact (Kd.R_reads' HO.out).2.1); rintro e w2 ⟨rfl, hb⟩; refine ⟨_, rfl, ?_⟩; have n_HO := dR HO hb; have n_HB := am (wt (by repeat (first | (with_reducible first | exact HB.out | apply wa | apply wN | apply wd | refine ws ?_ G6.out) | exact HB.out)) hb); clear HO HB; have HO := n_HO; have HB := n_HB; clear n_HO n_HB hb))
 go_upto_region 5 with (first | ((with_reducible refine gc (f := 34) rfl ?_); refine goesL_ (some 35) rfl rfl Try.func34 (by kernel_rfl) rfl #[.int .i64 0, .int .i64 10] rfl (by (try simp only [pml]); first | done | rfl) ?_; (with_reducible refine (awc0 _).mono ?_); rintro e w2 ⟨rfl, hb⟩; refine ⟨_, rfl, ?_⟩; have n_HO := dR HO hb; have n_HB := am (wt (by repeat (first | (with_reducible first | exact HB.out | apply wa | apply wN | apply wd | refine ws ?_ G6.out) | exact HB.out)) hb); clear HO HB; have HO := n_HO; have HB := n_HB; clear n_HO n_HB hb) | ((with_reducible refine gc (f := 22) rfl ?_); refine goesL_ (some 36) rfl rfl Try.func22 (by kernel_rfl) rfl #[.slice Ao 2 co, .agg #[.int .i64 0, .int .i64 0, .int .i64 0, .int .i64 10, .int .i64 10, .int .i64 10], .int .i64 3] rfl (by (try simp only [pml]); first | done | rfl) ?_; (with_reducible refine (aw22 _ _ _ ?s1 ?s2).mono ?_); (case s1 => repeat (first | exact (Kd.R_reads' HO.out).2.2 | (with_reducible refine Kd.C_alloc ?_ _) | (with_reducible refine Kd.C_drewN ?_ _) | (with_reducible refine Kd.C_drew ?_))); (case s2 => exact (Kd.R_reads' HO.out).2.1); rintro e w2 ⟨rfl, hb⟩; refine ⟨_, rfl, ?_⟩; have n_HO := dR HO hb; have n_HB := am (wt (by repeat (first | (with_reducible first | exact HB.out | apply wa | apply wN | apply wd | refine ws ?_ G6.out) | exact HB.out)) hb); clear HO HB; have HO := n_HO; have HB := n_HB; clear n_HO n_HB hb) | ((with_reducible refine gate_dst (N := 6) rfl ?_); (try (refine gate_guard (by rfl) ?_; dsimp only)); refine box_event ?hg (N := 6) ?hd (cs := #[.int .i64 0, .int .i64 0, .int .i64 0]) (t := 24) ?hr ?_; (case hd | hg => rfl); (case hr => first | (go_simp; done) | (go_simp; rfl)); intro g6 hg w25 hbox hb; have G6 := am ((by rw [hg]; exact (below_size (fW HB.out))) : w.heap.size ≤ g6); have n_HO := dR HO hb; have n_HB := bS HB hb; have B6 := am hbox; clear HO HB; have HO := n_HO; have HB := n_HB; clear n_HO n_HB hb hbox hg; have hcz_0 := kC0 B6; have hcz_1 := kC1 B6; have hcz_2 := kC2 B6; have hfz_0 := blk_frozen B6.out 0; have hfz_1 := blk_frozen B6.out 1; have hfz_2 := blk_frozen B6.out 2))
 clear hcz_0 hcz_1 hcz_2 hfz_0 hfz_1 hfz_2
 refine awgen (fun V => (Kd.R k68 68 V w.heap.size (fun _ => True) (.slice Ao 2 co) awE) ∧ V.heap[g6]? = some (Obj.cells #[.int .i64 5, .int .i64 5, .int .i64 5] 24 (0, 0)) ∧ Below w.heap.size w V) ⟨(Kd.R_mono (Kd.R_far (p := ⟨g6, 2, none⟩) (Kd.R_far (p := ⟨g6, 1, none⟩) (Kd.R_far (p := ⟨g6, 0, none⟩) (Kd.R_types HO.out B6.out (by decide)) (fun _ hk => hk.2) _) (fun _ hk => hk.2) _) (fun _ hk => hk.2) _) (fun _ h_ => h_.1)), blk_put (blk_put (blk_put B6.out 0 _ rfl) 1 _ rfl) 2 _ rfl, ws (ws (ws HB.out G6.out) G6.out) G6.out⟩ ?_
 clear HO HB B6
 rintro V ⟨ho, hb6, hb⟩
 have HO := am ho
 have B6 := am hb6
 have HB := am hb
 clear ho hb6 hb
 go_upto_region 6 with (((with_reducible refine gc (f := 27) rfl ?_); refine goesL_ (some 41) rfl rfl Try.func27 (by kernel_rfl) rfl #[.slice Ao 2 co] rfl (by (try simp only [pml]); first | done | rfl) ?_; (with_reducible refine (aw27 _ _ _ ?s1 ?s2).mono ?_); (case s1 => repeat (first | exact (Kd.R_reads' HO.out).2.2 | (with_reducible refine Kd.C_alloc ?_ _) | (with_reducible refine Kd.C_drewN ?_ _) | (with_reducible refine Kd.C_drew ?_))); (case s2 => exact (Kd.R_reads' HO.out).2.1); rintro e w2 ⟨a8, c8, rfl, ho0, hb⟩; refine ⟨_, rfl, ?_⟩; have HC := am (Kd.R_lower ho0 (below_size (by repeat (first | (with_reducible first | exact HB.out | apply wa | apply wN | apply wd | refine ws ?_ G6.out) | exact HB.out)))); clear ho0; have n_HO := dR HO hb; have n_B6 := bB B6 hb; have n_HB := am (wt (by repeat (first | (with_reducible first | exact HB.out | apply wa | apply wN | apply wd | refine ws ?_ G6.out) | exact HB.out)) hb); clear HO B6 HB; have HO := n_HO; have B6 := n_B6; have HB := n_HB; clear n_HO n_B6 n_HB hb))
 go_upto_region 7 with (((with_reducible refine gc (f := 14) rfl ?_); refine goesL_ (some 47) rfl rfl Try.func14 (by kernel_rfl) rfl #[.slice Ao 2 co, .agg #[.int .i64 5, .int .i64 5, .int .i64 5]] rfl (by (try simp only [pml]); first | done | rfl) ?_; (with_reducible refine (aw14 _ _ _ ?s1 ?s2).mono ?_); (case s1 => repeat (first | exact (Kd.R_reads' HO.out).2.2 | (with_reducible refine Kd.C_alloc ?_ _) | (with_reducible refine Kd.C_drewN ?_ _) | (with_reducible refine Kd.C_drew ?_))); (case s2 => exact (Kd.R_reads' HO.out).2.1); rintro e w2 ⟨a10, c10, rfl, ho0, hb⟩; refine ⟨_, rfl, ?_⟩; have HN := am (Kd.R_lower ho0 (below_size (by repeat (first | (with_reducible first | exact HB.out | apply wa | apply wN | apply wd | refine ws ?_ G6.out) | exact HB.out)))); clear ho0; have n_HO := dR HO hb; have n_HC := dR HC hb; have n_B6 := bB B6 hb; have n_HB := am (wt (by repeat (first | (with_reducible first | exact HB.out | apply wa | apply wN | apply wd | refine ws ?_ G6.out) | exact HB.out)) hb); clear HO HC B6 HB; have HO := n_HO; have HC := n_HC; have B6 := n_B6; have HB := n_HB; clear n_HO n_HC n_B6 n_HB hb))
 go_upto_region 8 with (((with_reducible refine gc (f := 19) rfl ?_); refine goesL_ (some 51) rfl rfl Try.func19 (by kernel_rfl) rfl #[.int .i64 1, .int .i64 2] rfl (by (try simp only [pml]); first | done | rfl) ?_; (with_reducible refine (aw19 _).mono ?_); rintro e w' ⟨rfl, hd0⟩; refine ⟨_, rfl, ?_⟩; have hb := Drawn0.below hd0; clear hd0; have n_HO := dR HO hb; have n_HC := dR HC hb; have n_HN := dR HN hb; have n_B6 := bB B6 hb; have n_HB := am (wt (by repeat (first | (with_reducible first | exact HB.out | apply wa | apply wN | apply wd | refine ws ?_ G6.out) | exact HB.out)) hb); clear HO HC HN B6 HB; have HO := n_HO; have HC := n_HC; have HN := n_HN; have B6 := n_B6; have HB := n_HB; clear n_HO n_HC n_HN n_B6 n_HB hb))
 obtain ⟨ad, ea, hx_0, hx_1, hx_2, hx_3, hx_4, hx_5, hx_6, hx_7⟩ := at_T68' (Kd.R_reads' HO.out).2.2 (by decide)
 cases ea
 replace hx_0 : _ = some (Value.string (⟨#[97]⟩ : ByteArray)) := hx_0
 replace hx_1 : _ = some (Value.int .i64 0) := hx_1
 replace hx_2 : _ = some (Value.int .i64 0) := hx_2
 replace hx_3 : _ = some (Value.int .i64 0) := hx_3
 replace hx_4 : _ = some (Value.int .i64 10) := hx_4
 replace hx_5 : _ = some (Value.int .i64 10) := hx_5
 replace hx_6 : _ = some (Value.int .i64 10) := hx_6
 replace hx_7 : _ = some (Value.int .i64 1) := hx_7
 go_upto_region 9 with (first | ((with_reducible refine gate_builtin (b := .append) (xs := #[.tmp 55, .tmp 59]) rfl ?_); (try (refine gate_guard (by rfl) ?_; dsimp only)); at_builtin; refine Kd.R_append k68 (w0 := w) w.heap.size rfl (.tmp 55) (.tmp 59) 22 68 (.agg #[(.string ⟨#[]⟩), (.int .i64 0), (.int .i64 0), (.int .i64 0), (.int .i64 0), (.int .i64 0), (.int .i64 0), (.int .i64 0)]) 72 rfl Try.underlying22 info68 rfl (by decide) (by omega) (.slice (some ad) 2 co) awE (⟨(⟨#[97]⟩ : ByteArray), ⟨⟨0, 0, 0⟩, ⟨10, 10, 10⟩⟩, 1⟩ : S68) [.string (⟨#[97]⟩ : ByteArray), .int .i64 0, .int .i64 0, .int .i64 0, .int .i64 10, .int .i64 10, .int .i64 10, .int .i64 1] (fun _ => True) (fun _ => False) rfl rfl ?aP (fun _ hk => hk.elim) ?aF ?aO ?aB ?aS ?aL ?_; (case aP => exact k68_mkM _ _ _ (⟨(⟨#[97]⟩ : ByteArray), ⟨⟨0, 0, 0⟩, ⟨10, 10, 10⟩⟩, 1⟩ : S68)); (case aB => exact (by repeat (first | (with_reducible first | exact HB.out | apply wa | apply wN | apply wd | refine ws ?_ G6.out) | exact HB.out))); (case aF => exact (fun _ _ => trivial)); (case aO => exact (fR HO.out)); (case aS => exact (below_size (by repeat (first | (with_reducible first | exact HB.out | apply wa | apply wN | apply wd | refine ws ?_ G6.out) | exact HB.out)))); (case aL => first | decide | (show 2 < _; decide) | (simp [awE]; done)); intro v227 w29 ho hb hg hat; have n_B6 := am (blk_grown (g := g6) (o := .cells #[.int .i64 5, .int .i64 5, .int .i64 5] 24 (0, 0)) (fb B6.out) hg (Kd.R_ne HO.out B6.out (by decide))); have n_HC := am (Kd.R_over' (fR HC.out) (Kd.R_typed (fR HO.out)) (by decide) hg); have n_HN := am (Kd.R_over' (fR HN.out) (Kd.R_typed (fR HO.out)) (by decide) hg); have n_HB := am hb; have ho2 : Kd.R k68 68 w29 w.heap.size (fun _ => True) v227 awE3 := ho; have HO3 := am ho2; clear B6 HC HN HB HO; have B6 := n_B6; have HC := n_HC; have HN := n_HN; have HB := n_HB; clear n_B6 n_HC n_HN n_HB ho ho2 hb hg hat; obtain ⟨A3, c3, eo⟩ := Kd.R_slice HO3.out; have eo2 : v227 = .slice A3 3 c3 := eo; clear eo; subst eo2) | ((with_reducible refine gc (f := 29) rfl ?_); refine goesL_ (some 61) rfl rfl Try.func29 (by kernel_rfl) rfl #[.slice A3 3 c3, .int .i64 0] rfl (by (try simp only [pml]); first | done | rfl) ?_; (with_reducible refine (aw29 _ _ _ ?s1 ?s2).mono ?_); (case s1 => repeat (first | exact (Kd.R_reads' HO3.out).2.2 | (with_reducible refine Kd.C_alloc ?_ _) | (with_reducible refine Kd.C_drewN ?_ _) | (with_reducible refine Kd.C_drew ?_))); (case s2 => exact (Kd.R_reads' HO3.out).2.1); rintro e w2 ⟨rfl, hb⟩; refine ⟨_, rfl, ?_⟩; have n_HC := dR HC hb; have n_HN := dR HN hb; have n_B6 := bB B6 hb; have n_HB := am (wt (by repeat (first | (with_reducible first | exact HB.out | apply wa | apply wN | apply wd | refine ws ?_ G6.out) | exact HB.out)) hb); clear HC HN B6 HB; have HC := n_HC; have HN := n_HN; have B6 := n_B6; have HB := n_HB; clear n_HC n_HN n_B6 n_HB hb))
 try clear hx_0 hx_1 hx_2 hx_3 hx_4 hx_5 hx_6 hx_7;try clear HO3
 have p6_0 := (bc B6.out 0).trans (show _ = some (Value.int .i64 5) from rfl)
 have p6_1 := (bc B6.out 1).trans (show _ = some (Value.int .i64 5) from rfl)
 have p6_2 := (bc B6.out 2).trans (show _ = some (Value.int .i64 5) from rfl)
 obtain ⟨ac, ec, hc_0, hc_1⟩ := at_T65 (Kd.R_reads' HC.out).2.2 0 (by decide) (by decide)
 cases ec
 rw [show ((0 : Int)).toNat = 0 from rfl, show 0 * 2 = 0 from rfl, Addr.add_zero'] at hc_0 hc_1
 replace hc_0 : _ = some (Value.int .i64 0) := hc_0
 replace hc_1 : _ = some (Value.int .i64 1) := hc_1
 obtain ⟨an, en, hn_0⟩ := Kd.at_string (Kd.R_reads' HN.out).2.2 0 (by decide) (by decide)
 cases en
 rw [show ((0 : Int)).toNat = 0 from rfl, Addr.add_zero'] at hn_0
 replace hn_0 : _ = some (Value.string (⟨#[97]⟩ : ByteArray)) := hn_0
 obtain ⟨an2, en, hn_1⟩ := Kd.at_string (Kd.R_reads' HN.out).2.2 1 (by decide) (by decide)
 cases en
 simp only [show (1 : Int).toNat = 1 from rfl, Nat.reduceMul, Nat.reduceEqDiff, Go.Addr.add, ↓reduceIte] at hn_1
 replace hn_1 : _ = some (Value.string (⟨#[98]⟩ : ByteArray)) := hn_1
 go_wp2
 go_ret
 exact ⟨rfl, HB.out⟩
end

def r_Small.l0 : Nat → List (S68) → Int → Option (Bool)
 | 0, _, _ => none
 | k + 1, x0, x5 => if x5 < (x0.length : Int) then (if 0 ≤ x5 then (if (((rd_T68 x0 x5).f0).size : Int) > 60 then (some false) else (r_Small.l0 k x0 (wrap64 (x5 + 1)))) else (none)) else (some true)
def r_Small.f (k : Nat) (l0 : List (S68)) (a1 : Int) : Option (Bool) := if (l0.length : Int) > a1 then (some false) else (r_Small.l0 k l0 0)
set_option maxHeartbeats 8000000 in
set_option maxRecDepth 100000 in
theorem r_Small.calls (k : Nat) (A0 : Option Addr) (c0 : Nat) (l0 : List (S68)) (a1 : Int) (r : Bool) (w : World) (hr0 : Kd.C k68 w A0 l0.length l0) (hc0 : l0.length ≤ c0) (h : r_Small.f k l0 a1 = some r) :
  Calls Try.prog 11 #[.slice A0 l0.length c0, .int .i64 a1] w fun e w' => e = .returned (.bool r) ∧ Drawn0 w w' := by
 have HR0 := am hr0
 have HC0 := am hc0
 clear hr0 hc0
 have H : (if (l0.length : Int) > a1 then (some false) else (r_Small.l0 k l0 0)) = some r := h
 clear h
 by_cases c3 : (l0.length : Int) > a1
 ·rw [if_pos c3] at H
  have c3b0 : decide (a1 < (l0.length : Int)) = true := decide_eq_true c3
  clear c3
  obtain rfl := Option.some.inj H
  go_enter Try.func11, Try.ntmps11
  go_wp2
  go_ret
  exact ⟨by first | rfl | (simp; done) | (simp [*]; done), by repeat (first | exact Drawn0.refl _ | apply Drawn0.step)⟩
 ·rw [if_neg c3] at H
  have c3b0 : decide (a1 < (l0.length : Int)) = false := decide_eq_false c3
  clear c3
  have H' := am H
  clear H
  go_enter Try.func11, Try.ntmps11
  go_wp2
  go_loopg [5] k (fun kq v5 w' => ∃ (x5_1 : Int), v5 = .int .i64 x5_1 ∧ Aside0 (r_Small.l0 kq l0 x5_1 = some r) ∧ Aside0 (kq ≤ k) ∧ Drawn0 w w')
  case atStart => exact ⟨(0), sqD, H', ⟨Nat.le_refl _⟩, by repeat (first | exact Drawn0.refl _ | apply Drawn0.step)⟩
  case round =>
   clear H'
   try clear c1;try clear p2;try clear c3;try clear c3b0
   obtain ⟨x5_1, rfl, HA, HK1, ⟨m1, rfl⟩⟩ := hrel
   cases gk with
   | zero => exact absurd HA.out (by simp [r_Small.l0])
   | succ k1 =>
    have H := HA.out
    clear HA
    simp only [r_Small.l0] at H
    by_cases c4 : x5_1 < (l0.length : Int)
    ·rw [if_pos c4] at H
     have c4b0 : decide (x5_1 < (l0.length : Int)) = true := decide_eq_true c4
     clear c4
     by_cases c5 : 0 ≤ x5_1
     rotate_left
     ·rw [if_neg c5] at H
      exact absurd H (by simp)
     rw [if_pos c5] at H
     have c5b0 : decide (0 ≤ x5_1) = true := decide_eq_true c5
     clear c5
     by_cases c6 : (((rd_T68 l0 x5_1).f0).size : Int) > 60
     ·rw [if_pos c6] at H
      have c6b0 : decide (60 < (((rd_T68 l0 x5_1).f0).size : Int)) = true := decide_eq_true c6
      have c6b1 : decide (60 < ((rd_T68 l0 x5_1).f0).size) = true := decide_eq_true (by omega)
      clear c6
      obtain rfl := Option.some.inj H
      have p179 : 0 ≤ (x5_1 : Int) := of_decide_eq_true (by assumption)
      have q179 : x5_1 < (l0.length : Int) := of_decide_eq_true (by assumption)
      obtain ⟨ad179, e179, hx179_0, hx179_1, hx179_2, hx179_3, hx179_4, hx179_5, hx179_6, hx179_7⟩ := at_T68 HR0.out x5_1 p179 q179
      cases e179
      replace p179 := eq_true p179
      replace q179 := eq_true q179
      go_wp2
      go_ret
      exact ⟨by first | rfl | (simp; done) | (simp [*]; done), by repeat (first | exact Drawn0.refl _ | apply Drawn0.step)⟩
     rw [if_neg c6] at H
     have c6b0 : decide (60 < (((rd_T68 l0 x5_1).f0).size : Int)) = false := decide_eq_false c6
     have c6b1 : decide (60 < ((rd_T68 l0 x5_1).f0).size) = false := decide_eq_false (by omega)
     clear c6
     have H' := am H
     clear H
     have p179 : 0 ≤ (x5_1 : Int) := of_decide_eq_true (by assumption)
     have q179 : x5_1 < (l0.length : Int) := of_decide_eq_true (by assumption)
     obtain ⟨ad179, e179, hx179_0, hx179_1, hx179_2, hx179_3, hx179_4, hx179_5, hx179_6, hx179_7⟩ := at_T68 HR0.out x5_1 p179 q179
     cases e179
     replace p179 := eq_true p179
     replace q179 := eq_true q179
     go_wp2
     go_roundg k1
     case measure => have := HK1.out; omega
     case rel => exact ⟨(wrap64 (x5_1 + 1)), sqD, H', ⟨by have := HK1.out; omega⟩, by repeat (first | exact Drawn0.refl _ | apply Drawn0.step)⟩
    ·rw [if_neg c4] at H
     have c4b0 : decide (x5_1 < (l0.length : Int)) = false := decide_eq_false c4
     clear c4
     obtain rfl := Option.some.inj H
     go_wp2
     go_ret
     exact ⟨by first | rfl | (simp; done) | (simp [*]; done), by repeat (first | exact Drawn0.refl _ | apply Drawn0.step)⟩

def r06_At.f (a0_0 : Int) (a0_1 : Int) (a0_2 : Int) (a1 : Int) : Option (Int) := if a1 = 0 then (some a0_0) else (if a1 = 1 then (some a0_1) else (some a0_2))
set_option maxHeartbeats 8000000 in
set_option maxRecDepth 100000 in
theorem r06_At.calls (a0_0 : Int) (a0_1 : Int) (a0_2 : Int) (a1 : Int) (r : Int) (w : World) (h : r06_At.f a0_0 a0_1 a0_2 a1 = some r) :
  Calls Try.prog 56 #[.agg #[.int .i64 a0_0, .int .i64 a0_1, .int .i64 a0_2], .int .i64 a1] w fun e w' => e = .returned (.int .i64 r) ∧ Below w.heap.size w w' := by
 have hu24 := Try.underlying24
 have HB := am (Below.refl w.heap.size w)
 have H : (if a1 = 0 then (some a0_0) else (if a1 = 1 then (some a0_1) else (some a0_2))) = some r := h
 clear h
 by_cases c3 : a1 = 0
 ·rw [if_pos c3] at H
  have c3b0 : (a1 == 0) = true := beq_iff_eq.mpr c3
  have c3b1 : (a1 != 0) = false := bne_eq_false_iff_eq.mpr c3
  clear c3
  obtain rfl := Option.some.inj H
  go_enter Try.func56, Try.ntmps56
  go_wp2_with (first | ((with_reducible refine gate_dst (N := 2) rfl ?_); refine box_event ?hg (N := 2) ?hd (cs := #[.int .i64 a0_0, .int .i64 a0_1, .int .i64 a0_2]) (t := 24) ?hr ?_; (case hd | hg => rfl); (case hr => first | (go_simp; done) | (go_simp; rfl)); intro gb180 hg w4 hbox hb; have BK180 := am hbox; have GW180 := sG HB hg; have GE180 := sG HB hg; replace HB := bS HB hb; clear hb hbox hg; obtain ⟨_, _, _, _, _, _⟩ := zC3 BK180))
  go_ret
  exact ⟨sqE, fW HB.out⟩
 ·rw [if_neg c3] at H
  have c3b0 : (a1 == 0) = false := beq_eq_false_iff_ne.mpr c3
  have c3b1 : (a1 != 0) = true := bne_iff_ne.mpr c3
  by_cases c6 : a1 = 1
  ·rw [if_pos c6] at H
   have c6b0 : (a1 == 1) = true := beq_iff_eq.mpr c6
   have c6b1 : (a1 != 1) = false := bne_eq_false_iff_eq.mpr c6
   clear c6
   obtain rfl := Option.some.inj H
   go_enter Try.func56, Try.ntmps56
   go_wp2_with (first | ((with_reducible refine gate_dst (N := 2) rfl ?_); refine box_event ?hg (N := 2) ?hd (cs := #[.int .i64 a0_0, .int .i64 a0_1, .int .i64 a0_2]) (t := 24) ?hr ?_; (case hd | hg => rfl); (case hr => first | (go_simp; done) | (go_simp; rfl)); intro gb180 hg w7 hbox hb; have BK180 := am hbox; have GW180 := sG HB hg; have GE180 := sG HB hg; replace HB := bS HB hb; clear hb hbox hg; obtain ⟨_, _, _, _, _, _⟩ := zC3 BK180))
   go_ret
   exact ⟨sqE, fW HB.out⟩
  ·rw [if_neg c6] at H
   have c6b0 : (a1 == 1) = false := beq_eq_false_iff_ne.mpr c6
   have c6b1 : (a1 != 1) = true := bne_iff_ne.mpr c6
   obtain rfl := Option.some.inj H
   go_enter Try.func56, Try.ntmps56
   go_wp2_with (first | ((with_reducible refine gate_dst (N := 2) rfl ?_); refine box_event ?hg (N := 2) ?hd (cs := #[.int .i64 a0_0, .int .i64 a0_1, .int .i64 a0_2]) (t := 24) ?hr ?_; (case hd | hg => rfl); (case hr => first | (go_simp; done) | (go_simp; rfl)); intro gb180 hg w9 hbox hb; have BK180 := am hbox; have GW180 := sG HB hg; have GE180 := sG HB hg; replace HB := bS HB hb; clear hb hbox hg; obtain ⟨_, _, _, _, _, _⟩ := zC3 BK180))
   go_ret
   exact ⟨sqE, fW HB.out⟩

mutual
def r06_Check.l0 : Nat → Int → Int → Int → Int → Int → Int → Int → Option (Int)
 | 0, _, _, _, _, _, _, _ => none
 | k + 1, x3, x182000, x182001, x182002, x182003, x182004, x182005 => if x3 < 3 then ((r06_At.f x182000 x182001 x182002 x3).bind fun t182 => ((r06_At.f x182003 x182004 x182005 x3).bind fun t183 => (if t182 < (-1000000) then (r06_Check.j1 k x3 true x182000 x182001 x182002 x182003 x182004 x182005) else (if t182 > 1000000 then (r06_Check.j1 k x3 true x182000 x182001 x182002 x182003 x182004 x182005) else (if t183 < (-1000000) then (r06_Check.j1 k x3 true x182000 x182001 x182002 x182003 x182004 x182005) else (r06_Check.j1 k x3 (decide (t183 > 1000000)) x182000 x182001 x182002 x182003 x182004 x182005)))))) else (r06_Check.l1 k 0 x182000 x182001 x182002 x182003 x182004 x182005)
def r06_Check.j1 : Nat → Int → Bool → Int → Int → Int → Int → Int → Int → Option (Int)
 | 0, _, _, _, _, _, _, _, _ => none
 | k + 1, x3, x32, x182000, x182001, x182002, x182003, x182004, x182005 => if x32 = true then (some 6) else (r06_Check.l0 k (wrap64 (x3 + 1)) x182000 x182001 x182002 x182003 x182004 x182005)
def r06_Check.l1 : Nat → Int → Int → Int → Int → Int → Int → Int → Option (Int)
 | 0, _, _, _, _, _, _, _ => none
 | k + 1, x6, x182000, x182001, x182002, x182003, x182004, x182005 => if x6 < 3 then ((r06_At.f x182000 x182001 x182002 x6).bind fun t184 => ((r06_At.f x182003 x182004 x182005 x6).bind fun t185 => (if t184 ≥ t185 then (some 1) else (r06_Check.l1 k (wrap64 (x6 + 1)) x182000 x182001 x182002 x182003 x182004 x182005)))) else (some 0)
end
def r06_Check.f (k : Nat) (a0_0 : Int) (a0_1 : Int) (a0_2 : Int) (a0_3 : Int) (a0_4 : Int) (a0_5 : Int) : Option (Int) := r06_Check.l0 k 0 a0_0 a0_1 a0_2 a0_3 a0_4 a0_5
def r06_Check.T4 : Bool × List (List Nat × List Nat) := (true, [([], []), ([0], [0]), ([], []), ([1, 2], [1, 2]), ([], []), ([4], [4]), ([], []), ([5, 6, 3], [5, 6]), ([3, 7, 0, 1, 2, 3], [3]), ([7, 8, 0, 1, 2, 3, 4, 5, 6, 7, 8], [7])])
def r06_Check.B4 : List Nat := [0, 1, 0, 7, 0, 16, 0, 127, 255, 511]
theorem r06_Check.tab4 : rtab .any (opsOf Try.f24 4) = r06_Check.T4 := by kernel_rfl
theorem r06_Check.bits4 : waitsOk r06_Check.T4.2 r06_Check.B4 = true := by kernel_rfl
def r06_Check.T10 : Bool × List (List Nat × List Nat) := (true, [([], []), ([0], [0]), ([], []), ([1, 2], [1, 2]), ([], []), ([4], [4]), ([], []), ([5, 6, 3], [5, 6]), ([3, 7], [3, 7])])
def r06_Check.B10 : List Nat := [0, 1, 0, 7, 0, 16, 0, 127, 255]
theorem r06_Check.tab10 : rtab .any (opsOf Try.f24 10) = r06_Check.T10 := by kernel_rfl
theorem r06_Check.bits10 : waitsOk r06_Check.T10.2 r06_Check.B10 = true := by kernel_rfl
set_option maxHeartbeats 8000000 in
set_option maxRecDepth 100000 in
theorem r06_Check.calls (k : Nat) (a0_0 : Int) (a0_1 : Int) (a0_2 : Int) (a0_3 : Int) (a0_4 : Int) (a0_5 : Int) (r : Int) (w : World) (h : r06_Check.f k a0_0 a0_1 a0_2 a0_3 a0_4 a0_5 = some r) :
  Calls Try.prog 24 #[.agg #[.int .i64 a0_0, .int .i64 a0_1, .int .i64 a0_2, .int .i64 a0_3, .int .i64 a0_4, .int .i64 a0_5]] w fun e w' => e = .returned (.int .i64 r) ∧ Below w.heap.size w w' := by
 have hu43 := Try.underlying43
 have hu24 := Try.underlying24
 have HB := am (Below.refl w.heap.size w)
 have H : (r06_Check.l0 k 0 a0_0 a0_1 a0_2 a0_3 a0_4 a0_5) = some r := h
 clear h
 have H' := am H
 clear H
 go_enter Try.func24, Try.ntmps24
 go_wp2_with (first | ((with_reducible refine gate_dst (N := 1) rfl ?_); refine box_event ?hg (N := 1) ?hd (cs := #[.int .i64 a0_0, .int .i64 a0_1, .int .i64 a0_2, .int .i64 a0_3, .int .i64 a0_4, .int .i64 a0_5]) (t := 43) ?hr ?_; (case hd | hg => rfl); (case hr => first | (go_simp; done) | (go_simp; rfl)); intro gb181 hg w2 hbox hb; have BK181 := am hbox; have GW181 := sG HB hg; have GE181 := sG HB hg; replace HB := bS HB hb; clear hb hbox hg))
 go_loopg [3] k (fun kq v3 w' => ∃ (x3_1 : Int), v3 = .int .i64 x3_1 ∧ Aside0 (r06_Check.l0 kq x3_1 a0_0 a0_1 a0_2 a0_3 a0_4 a0_5 = some r) ∧ Aside0 (kq ≤ k) ∧ Aside0 (w'.heap[gb181]? = some (.cells #[.int .i64 a0_0, .int .i64 a0_1, .int .i64 a0_2, .int .i64 a0_3, .int .i64 a0_4, .int .i64 a0_5] 43 (0, 0))) ∧ Aside0 (Below w.heap.size w w'))
 case atStart => exact ⟨(0), sqD, H', ⟨Nat.le_refl _⟩, ⟨fb BK181.out⟩, ⟨fW HB.out⟩⟩
 case round =>
  clear H'
  try clear c2;try clear p2
  obtain ⟨x3_1, rfl, HA, HK1, BK181, HB⟩ := hrel
  cases gk with
  | zero => exact absurd HA.out (by simp [r06_Check.l0])
  | succ k1 =>
   have H := HA.out
   clear HA
   simp only [r06_Check.l0] at H
   by_cases c3 : x3_1 < 3
   ·rw [if_pos c3] at H
    have c3b0 : decide (x3_1 < 3) = true := decide_eq_true c3
    clear c3
    replace H := Option.bind_eq_some_iff.mp H
    obtain ⟨t182, A40, H⟩ := H
    replace H : ((r06_At.f a0_3 a0_4 a0_5 x3_1).bind fun t183 => (if t182 < (-1000000) then (r06_Check.j1 k1 x3_1 true a0_0 a0_1 a0_2 a0_3 a0_4 a0_5) else (if t182 > 1000000 then (r06_Check.j1 k1 x3_1 true a0_0 a0_1 a0_2 a0_3 a0_4 a0_5) else (if t183 < (-1000000) then (r06_Check.j1 k1 x3_1 true a0_0 a0_1 a0_2 a0_3 a0_4 a0_5) else (r06_Check.j1 k1 x3_1 (decide (t183 > 1000000)) a0_0 a0_1 a0_2 a0_3 a0_4 a0_5))))) = some r := H
    have A4 := am A40
    clear A40
    replace H := Option.bind_eq_some_iff.mp H
    obtain ⟨t183, A50, H⟩ := H
    replace H : (if t182 < (-1000000) then (r06_Check.j1 k1 x3_1 true a0_0 a0_1 a0_2 a0_3 a0_4 a0_5) else (if t182 > 1000000 then (r06_Check.j1 k1 x3_1 true a0_0 a0_1 a0_2 a0_3 a0_4 a0_5) else (if t183 < (-1000000) then (r06_Check.j1 k1 x3_1 true a0_0 a0_1 a0_2 a0_3 a0_4 a0_5) else (r06_Check.j1 k1 x3_1 (decide (t183 > 1000000)) a0_0 a0_1 a0_2 a0_3 a0_4 a0_5)))) = some r := H
    have A5 := am A50
    clear A50
    have HC6 := am H
    clear H
    try go_wp2
    have n0_ := am (blk_drew BK181.out)
    have n1_ := am (wd HB.out)
    clear BK181 HB
    have BK181 := n0_
    have HB := n1_
    clear n0_ n1_
    refine start_ (n := 10) (S := fun w' => w'.cell? ⟨gb181, 0, none⟩ = some (.int .i64 a0_0) ∧ w'.cell? ⟨gb181, 1, none⟩ = some (.int .i64 a0_1) ∧ w'.cell? ⟨gb181, 2, none⟩ = some (.int .i64 a0_2) ∧ w'.cell? ⟨gb181, 3, none⟩ = some (.int .i64 a0_3) ∧ w'.cell? ⟨gb181, 4, none⟩ = some (.int .i64 a0_4) ∧ w'.cell? ⟨gb181, 5, none⟩ = some (.int .i64 a0_5)) (ds := []) #[F,F,F,F,F,F,F,F,F,F] (by kernel_rfl) rfl rfl ⟨(bc BK181.out 0).trans rfl, (bc BK181.out 1).trans rfl, (bc BK181.out 2).trans rfl, (bc BK181.out 3).trans rfl, (bc BK181.out 4).trans rfl, (bc BK181.out 5).trans rfl⟩ (fun hHeld => ?_); refine with_tabW r06_Check.tab4 r06_Check.bits4 (fun HT_ HW_ => ?_)
    generalize wr.drew = w7 at BK181 HB hHeld ⊢
    refine pu (i := 0) (N := some 11) (fl 10 1 []) HT_ ?_
    refine pu (i := 2) (N := some 13) (fl 10 1 [2]) HT_ ?_
    refine pu (i := 4) (N := some 15) (fl 10 1 [2, 4]) HT_ ?_
    refine pu (i := 6) (N := some 17) (fl 10 1 [2, 4, 6]) HT_ ?_
    refine tk (i := 1) (N := some 12) (fl 10 3 [4, 6]) HT_ HW_ hHeld ?_
    refine tk (i := 5) (N := some 16) (fl 10 3 [4, 5, 6]) HT_ HW_ hHeld ?_
    refine one_ (i := 3) (N := some 14) (fl 10 7 []) rfl rfl (one_of HT_.out (by kernel_rfl)) (by decide) (fun K hK => ?_)
    refine goes_ Try.func56 (by kernel_rfl) rfl #[.agg #[.int .i64 a0_0, .int .i64 a0_1, .int .i64 a0_2], .int .i64 x3_1] (by rfl) rfl rfl (by (try simp only [pml]); first | done | rfl | (simp only [pdt]; rfl)) ?_
    with_reducible refine (r06_At.calls a0_0 a0_1 a0_2 x3_1 t182 _ A4.out).mono ?_
    rintro e w8 ⟨rfl, hb⟩
    refine ⟨_, rfl, ?_⟩
    have n0_ := bB BK181 hb
    have n1_ := bS HB hb
    clear BK181 HB
    have BK181 := n0_
    have HB := n1_
    clear n0_ n1_
    (try clear hb)
    (try clear hb2)
    (try clear hk)
    (try clear hi)
    refine hK.out _ _ ⟨(bc BK181.out 0).trans rfl, (bc BK181.out 1).trans rfl, (bc BK181.out 2).trans rfl, (bc BK181.out 3).trans rfl, (bc BK181.out 4).trans rfl, (bc BK181.out 5).trans rfl⟩ (fun hHeld => ?_)
    clear hK K
    refine norm_ (a' := ?_) ?_ ?_
    rotate_left
    ·show Act.put _ (some 14) _ = _
     simp only [Act.put, psl, i64_w, i32_w]
     rfl
    refine one_ (i := 7) (N := some 18) (fl 10 8 []) rfl rfl (one_of HT_.out (by kernel_rfl)) (by decide) (fun K hK => ?_)
    refine goes_ Try.func56 (by kernel_rfl) rfl #[.agg #[.int .i64 a0_3, .int .i64 a0_4, .int .i64 a0_5], .int .i64 x3_1] (by rfl) rfl rfl (by (try simp only [pml]); first | done | rfl | (simp only [pdt]; rfl)) ?_
    with_reducible refine (r06_At.calls a0_3 a0_4 a0_5 x3_1 t183 _ A5.out).mono ?_
    rintro e w9 ⟨rfl, hb⟩
    refine ⟨_, rfl, ?_⟩
    have n0_ := bB BK181 hb
    have n1_ := bS HB hb
    clear BK181 HB
    have BK181 := n0_
    have HB := n1_
    clear n0_ n1_
    (try clear hb)
    (try clear hb2)
    (try clear hk)
    (try clear hi)
    refine hK.out _ _ ⟨(bc BK181.out 0).trans rfl, (bc BK181.out 1).trans rfl, (bc BK181.out 2).trans rfl, (bc BK181.out 3).trans rfl, (bc BK181.out 4).trans rfl, (bc BK181.out 5).trans rfl⟩ (fun hHeld => ?_)
    clear hK K
    refine norm_ (a' := ?_) ?_ ?_
    rotate_left
    ·show Act.put _ (some 18) _ = _
     simp only [Act.put, psl, i64_w, i32_w]
     rfl
    refine pu (i := 8) (N := some 4) (fl 10 9 []) HT_ ?_
    refine pu (i := 9) (N := some 5) (fl 10 10 []) HT_ ?_
    refine done_ (done_of HT_.out (by kernel_rfl)) ?_
    go_upto_region 5 with (fail)
    go_cut [32] (fun v32 wc => ∃ (kq : Nat) (x32_5 : Bool), v32 = .bool x32_5 ∧ Aside0 (r06_Check.j1 kq x3_1 x32_5 a0_0 a0_1 a0_2 a0_3 a0_4 a0_5 = some r) ∧ Aside0 (kq ≤ k1) ∧ Aside0 (wc.heap[gb181]? = some (.cells #[.int .i64 a0_0, .int .i64 a0_1, .int .i64 a0_2, .int .i64 a0_3, .int .i64 a0_4, .int .i64 a0_5] 43 (0, 0))) ∧ Aside0 (Below w.heap.size w wc))
    case first =>
     have H := HC6.out
     clear HC6
     by_cases c10 : t182 < (-1000000)
     ·rw [if_pos c10] at H
      have c10b0 : decide (t182 < (-1000000)) = true := decide_eq_true c10
      clear c10
      (first | rw [c10b0] | (simp only [i64_w, i32_w]; rw [c10b0]) | skip)
      have H' := am H
      clear H
      go_wp2
      go_meet
      case rel => exact ⟨_, (true), sqD, H', ⟨by have := HK1.out; first | omega | exact Nat.le_refl _⟩, ⟨fb BK181.out⟩, ⟨fW HB.out⟩⟩
     rw [if_neg c10] at H
     have c10b0 : decide (t182 < (-1000000)) = false := decide_eq_false c10
     clear c10
     (first | rw [c10b0] | (simp only [i64_w, i32_w]; rw [c10b0]) | skip)
     by_cases c11 : t182 > 1000000
     ·rw [if_pos c11] at H
      have c11b0 : decide (1000000 < t182) = true := decide_eq_true c11
      clear c11
      have H' := am H
      clear H
      go_wp2
      go_meet
      case rel => exact ⟨_, (true), sqD, H', ⟨by have := HK1.out; first | omega | exact Nat.le_refl _⟩, ⟨fb BK181.out⟩, ⟨fW HB.out⟩⟩
     rw [if_neg c11] at H
     have c11b0 : decide (1000000 < t182) = false := decide_eq_false c11
     clear c11
     by_cases c12 : t183 < (-1000000)
     ·rw [if_pos c12] at H
      have c12b0 : decide (t183 < (-1000000)) = true := decide_eq_true c12
      clear c12
      have H' := am H
      clear H
      go_wp2
      go_meet
      case rel => exact ⟨_, (true), sqD, H', ⟨by have := HK1.out; first | omega | exact Nat.le_refl _⟩, ⟨fb BK181.out⟩, ⟨fW HB.out⟩⟩
     rw [if_neg c12] at H
     have c12b0 : decide (t183 < (-1000000)) = false := decide_eq_false c12
     clear c12
     have H' := am H
     clear H
     go_wp2
     go_meet
     case rel => exact ⟨_, (decide (t183 > 1000000)), sqD, H', ⟨by have := HK1.out; first | omega | exact Nat.le_refl _⟩, ⟨fb BK181.out⟩, ⟨fW HB.out⟩⟩
    case rest =>
     clear HC6
     try clear c1;try clear c2;try clear p2;try clear c3;try clear c3b0;try clear c5;try clear c10;try clear c10b0;try clear c11;try clear c11b0;try clear c12;try clear c12b0;try clear p2
     obtain ⟨kq, x32_5, rfl, HA, HJ5, BK181, HB⟩ := hcut
     cases kq with
     | zero => exact absurd HA.out (by simp [r06_Check.j1])
     | succ kj5 =>
      have H := HA.out
      clear HA
      simp only [r06_Check.j1] at H
      by_cases c13 : x32_5 = true
      ·subst c13
       have H1 : (some 6) = some r := by rw [if_pos rfl] at H; exact H
       clear H
       have H := H1
       clear H1
       obtain rfl := Option.some.inj H
       go_wp2
       go_ret
       exact ⟨sqE, fW HB.out⟩
      replace c13 := Bool.eq_false_iff.mpr c13
      subst c13
      have H1 : (r06_Check.l0 kj5 (wrap64 (x3_1 + 1)) a0_0 a0_1 a0_2 a0_3 a0_4 a0_5) = some r := by rw [if_neg (show ¬ (false = true) by decide)] at H; exact H
      clear H
      have H := H1
      clear H1
      have H' := am H
      clear H
      go_wp2
      go_roundg kj5
      case measure => have := HK1.out; have := HJ5.out; omega
      case rel => exact ⟨(wrap64 (x3_1 + 1)), sqD, H', ⟨by have := HK1.out; have := HJ5.out; omega⟩, ⟨fb BK181.out⟩, ⟨fW HB.out⟩⟩
   ·rw [if_neg c3] at H
    have c3b0 : decide (x3_1 < 3) = false := decide_eq_false c3
    clear c3
    have H' := am H
    clear H
    go_wp2
    go_loopg [6] k1 (fun kq v6 w' => ∃ (x6_2 : Int), v6 = .int .i64 x6_2 ∧ Aside0 (r06_Check.l1 kq x6_2 a0_0 a0_1 a0_2 a0_3 a0_4 a0_5 = some r) ∧ Aside0 (kq ≤ k1) ∧ Aside0 (w'.heap[gb181]? = some (.cells #[.int .i64 a0_0, .int .i64 a0_1, .int .i64 a0_2, .int .i64 a0_3, .int .i64 a0_4, .int .i64 a0_5] 43 (0, 0))) ∧ Aside0 (Below w.heap.size w w'))
    case atStart => exact ⟨(0), sqD, H', ⟨Nat.le_refl _⟩, ⟨fb BK181.out⟩, ⟨fW HB.out⟩⟩
    case round =>
     clear H'
     try clear c1;try clear c2;try clear p2;try clear c3;try clear c3b0;try clear c5;try clear p6;try clear c10;try clear c10b0;try clear c11;try clear c11b0;try clear c12;try clear c12b0;try clear c13;try clear p2
     obtain ⟨x6_2, rfl, HA, HK2, BK181, HB⟩ := hrel
     cases gk with
     | zero => exact absurd HA.out (by simp [r06_Check.l1])
     | succ k2 =>
      have H := HA.out
      clear HA
      simp only [r06_Check.l1] at H
      by_cases c14 : x6_2 < 3
      ·rw [if_pos c14] at H
       have c14b0 : decide (x6_2 < 3) = true := decide_eq_true c14
       clear c14
       replace H := Option.bind_eq_some_iff.mp H
       obtain ⟨t184, A150, H⟩ := H
       replace H : ((r06_At.f a0_3 a0_4 a0_5 x6_2).bind fun t185 => (if t184 ≥ t185 then (some 1) else (r06_Check.l1 k2 (wrap64 (x6_2 + 1)) a0_0 a0_1 a0_2 a0_3 a0_4 a0_5))) = some r := H
       have A15 := am A150
       clear A150
       replace H := Option.bind_eq_some_iff.mp H
       obtain ⟨t185, A160, H⟩ := H
       replace H : (if t184 ≥ t185 then (some 1) else (r06_Check.l1 k2 (wrap64 (x6_2 + 1)) a0_0 a0_1 a0_2 a0_3 a0_4 a0_5)) = some r := H
       have A16 := am A160
       clear A160
       by_cases c17 : t184 ≥ t185
       ·rw [if_pos c17] at H
        have c17b0 : decide (t185 ≤ t184) = true := decide_eq_true c17
        clear c17
        obtain rfl := Option.some.inj H
        try go_wp2
        have n0_ := am (blk_drew BK181.out)
        have n1_ := am (wd HB.out)
        clear BK181 HB
        have BK181 := n0_
        have HB := n1_
        clear n0_ n1_
        refine start_ (n := 9) (S := fun w' => w'.cell? ⟨gb181, 0, none⟩ = some (.int .i64 a0_0) ∧ w'.cell? ⟨gb181, 1, none⟩ = some (.int .i64 a0_1) ∧ w'.cell? ⟨gb181, 2, none⟩ = some (.int .i64 a0_2) ∧ w'.cell? ⟨gb181, 3, none⟩ = some (.int .i64 a0_3) ∧ w'.cell? ⟨gb181, 4, none⟩ = some (.int .i64 a0_4) ∧ w'.cell? ⟨gb181, 5, none⟩ = some (.int .i64 a0_5)) (ds := []) #[F,F,F,F,F,F,F,F,F] (by kernel_rfl) rfl rfl ⟨(bc BK181.out 0).trans rfl, (bc BK181.out 1).trans rfl, (bc BK181.out 2).trans rfl, (bc BK181.out 3).trans rfl, (bc BK181.out 4).trans rfl, (bc BK181.out 5).trans rfl⟩ (fun hHeld => ?_); refine with_tabW r06_Check.tab10 r06_Check.bits10 (fun HT_ HW_ => ?_)
        generalize wr.drew = w18 at BK181 HB hHeld ⊢
        refine pu (i := 0) (N := some 37) (fl 9 1 []) HT_ ?_
        refine pu (i := 2) (N := some 39) (fl 9 1 [2]) HT_ ?_
        refine pu (i := 4) (N := some 41) (fl 9 1 [2, 4]) HT_ ?_
        refine pu (i := 6) (N := some 43) (fl 9 1 [2, 4, 6]) HT_ ?_
        refine tk (i := 1) (N := some 38) (fl 9 3 [4, 6]) HT_ HW_ hHeld ?_
        refine tk (i := 5) (N := some 42) (fl 9 3 [4, 5, 6]) HT_ HW_ hHeld ?_
        refine one_ (i := 3) (N := some 40) (fl 9 7 []) rfl rfl (one_of HT_.out (by kernel_rfl)) (by decide) (fun K hK => ?_)
        refine goes_ Try.func56 (by kernel_rfl) rfl #[.agg #[.int .i64 a0_0, .int .i64 a0_1, .int .i64 a0_2], .int .i64 x6_2] (by rfl) rfl rfl (by (try simp only [pml]); first | done | rfl | (simp only [pdt]; rfl)) ?_
        with_reducible refine (r06_At.calls a0_0 a0_1 a0_2 x6_2 t184 _ A15.out).mono ?_
        rintro e w19 ⟨rfl, hb⟩
        refine ⟨_, rfl, ?_⟩
        have n0_ := bB BK181 hb
        have n1_ := bS HB hb
        clear BK181 HB
        have BK181 := n0_
        have HB := n1_
        clear n0_ n1_
        (try clear hb)
        (try clear hb2)
        (try clear hk)
        (try clear hi)
        refine hK.out _ _ ⟨(bc BK181.out 0).trans rfl, (bc BK181.out 1).trans rfl, (bc BK181.out 2).trans rfl, (bc BK181.out 3).trans rfl, (bc BK181.out 4).trans rfl, (bc BK181.out 5).trans rfl⟩ (fun hHeld => ?_)
        clear hK K
        refine norm_ (a' := ?_) ?_ ?_
        rotate_left
        ·show Act.put _ (some 40) _ = _
         simp only [Act.put, psl, i64_w, i32_w]
         rfl
        refine one_ (i := 7) (N := some 44) (fl 9 8 []) rfl rfl (one_of HT_.out (by kernel_rfl)) (by decide) (fun K hK => ?_)
        refine goes_ Try.func56 (by kernel_rfl) rfl #[.agg #[.int .i64 a0_3, .int .i64 a0_4, .int .i64 a0_5], .int .i64 x6_2] (by rfl) rfl rfl (by (try simp only [pml]); first | done | rfl | (simp only [pdt]; rfl)) ?_
        with_reducible refine (r06_At.calls a0_3 a0_4 a0_5 x6_2 t185 _ A16.out).mono ?_
        rintro e w20 ⟨rfl, hb⟩
        refine ⟨_, rfl, ?_⟩
        have n0_ := bB BK181 hb
        have n1_ := bS HB hb
        clear BK181 HB
        have BK181 := n0_
        have HB := n1_
        clear n0_ n1_
        (try clear hb)
        (try clear hb2)
        (try clear hk)
        (try clear hi)
        refine hK.out _ _ ⟨(bc BK181.out 0).trans rfl, (bc BK181.out 1).trans rfl, (bc BK181.out 2).trans rfl, (bc BK181.out 3).trans rfl, (bc BK181.out 4).trans rfl, (bc BK181.out 5).trans rfl⟩ (fun hHeld => ?_)
        clear hK K
        refine norm_ (a' := ?_) ?_ ?_
        rotate_left
        ·show Act.put _ (some 44) _ = _
         simp only [Act.put, psl, i64_w, i32_w]
         rfl
        refine pu (i := 8) (N := some 45) (fl 9 9 []) HT_ ?_
        refine done_ (done_of HT_.out (by kernel_rfl)) ?_
        try go_wp2
        go_ret
        exact ⟨sqE, fW HB.out⟩
       rw [if_neg c17] at H
       have c17b0 : decide (t185 ≤ t184) = false := decide_eq_false c17
       clear c17
       have H' := am H
       clear H
       try go_wp2
       have n0_ := am (blk_drew BK181.out)
       have n1_ := am (wd HB.out)
       clear BK181 HB
       have BK181 := n0_
       have HB := n1_
       clear n0_ n1_
       refine start_ (n := 9) (S := fun w' => w'.cell? ⟨gb181, 0, none⟩ = some (.int .i64 a0_0) ∧ w'.cell? ⟨gb181, 1, none⟩ = some (.int .i64 a0_1) ∧ w'.cell? ⟨gb181, 2, none⟩ = some (.int .i64 a0_2) ∧ w'.cell? ⟨gb181, 3, none⟩ = some (.int .i64 a0_3) ∧ w'.cell? ⟨gb181, 4, none⟩ = some (.int .i64 a0_4) ∧ w'.cell? ⟨gb181, 5, none⟩ = some (.int .i64 a0_5)) (ds := []) #[F,F,F,F,F,F,F,F,F] (by kernel_rfl) rfl rfl ⟨(bc BK181.out 0).trans rfl, (bc BK181.out 1).trans rfl, (bc BK181.out 2).trans rfl, (bc BK181.out 3).trans rfl, (bc BK181.out 4).trans rfl, (bc BK181.out 5).trans rfl⟩ (fun hHeld => ?_); refine with_tabW r06_Check.tab10 r06_Check.bits10 (fun HT_ HW_ => ?_)
       generalize wr.drew = w21 at BK181 HB hHeld ⊢
       refine pu (i := 0) (N := some 37) (fl 9 1 []) HT_ ?_
       refine pu (i := 2) (N := some 39) (fl 9 1 [2]) HT_ ?_
       refine pu (i := 4) (N := some 41) (fl 9 1 [2, 4]) HT_ ?_
       refine pu (i := 6) (N := some 43) (fl 9 1 [2, 4, 6]) HT_ ?_
       refine tk (i := 1) (N := some 38) (fl 9 3 [4, 6]) HT_ HW_ hHeld ?_
       refine tk (i := 5) (N := some 42) (fl 9 3 [4, 5, 6]) HT_ HW_ hHeld ?_
       refine one_ (i := 3) (N := some 40) (fl 9 7 []) rfl rfl (one_of HT_.out (by kernel_rfl)) (by decide) (fun K hK => ?_)
       refine goes_ Try.func56 (by kernel_rfl) rfl #[.agg #[.int .i64 a0_0, .int .i64 a0_1, .int .i64 a0_2], .int .i64 x6_2] (by rfl) rfl rfl (by (try simp only [pml]); first | done | rfl | (simp only [pdt]; rfl)) ?_
       with_reducible refine (r06_At.calls a0_0 a0_1 a0_2 x6_2 t184 _ A15.out).mono ?_
       rintro e w22 ⟨rfl, hb⟩
       refine ⟨_, rfl, ?_⟩
       have n0_ := bB BK181 hb
       have n1_ := bS HB hb
       clear BK181 HB
       have BK181 := n0_
       have HB := n1_
       clear n0_ n1_
       (try clear hb)
       (try clear hb2)
       (try clear hk)
       (try clear hi)
       refine hK.out _ _ ⟨(bc BK181.out 0).trans rfl, (bc BK181.out 1).trans rfl, (bc BK181.out 2).trans rfl, (bc BK181.out 3).trans rfl, (bc BK181.out 4).trans rfl, (bc BK181.out 5).trans rfl⟩ (fun hHeld => ?_)
       clear hK K
       refine norm_ (a' := ?_) ?_ ?_
       rotate_left
       ·show Act.put _ (some 40) _ = _
        simp only [Act.put, psl, i64_w, i32_w]
        rfl
       refine one_ (i := 7) (N := some 44) (fl 9 8 []) rfl rfl (one_of HT_.out (by kernel_rfl)) (by decide) (fun K hK => ?_)
       refine goes_ Try.func56 (by kernel_rfl) rfl #[.agg #[.int .i64 a0_3, .int .i64 a0_4, .int .i64 a0_5], .int .i64 x6_2] (by rfl) rfl rfl (by (try simp only [pml]); first | done | rfl | (simp only [pdt]; rfl)) ?_
       with_reducible refine (r06_At.calls a0_3 a0_4 a0_5 x6_2 t185 _ A16.out).mono ?_
       rintro e w23 ⟨rfl, hb⟩
       refine ⟨_, rfl, ?_⟩
       have n0_ := bB BK181 hb
       have n1_ := bS HB hb
       clear BK181 HB
       have BK181 := n0_
       have HB := n1_
       clear n0_ n1_
       (try clear hb)
       (try clear hb2)
       (try clear hk)
       (try clear hi)
       refine hK.out _ _ ⟨(bc BK181.out 0).trans rfl, (bc BK181.out 1).trans rfl, (bc BK181.out 2).trans rfl, (bc BK181.out 3).trans rfl, (bc BK181.out 4).trans rfl, (bc BK181.out 5).trans rfl⟩ (fun hHeld => ?_)
       clear hK K
       refine norm_ (a' := ?_) ?_ ?_
       rotate_left
       ·show Act.put _ (some 44) _ = _
        simp only [Act.put, psl, i64_w, i32_w]
        rfl
       refine pu (i := 8) (N := some 45) (fl 9 9 []) HT_ ?_
       refine done_ (done_of HT_.out (by kernel_rfl)) ?_
       try go_wp2
       go_roundg k2
       case measure => have := HK1.out; have := HK2.out; omega
       case rel => exact ⟨(wrap64 (x6_2 + 1)), sqD, H', ⟨by have := HK1.out; have := HK2.out; omega⟩, ⟨fb BK181.out⟩, ⟨fW HB.out⟩⟩
      ·rw [if_neg c14] at H
       have c14b0 : decide (x6_2 < 3) = false := decide_eq_false c14
       clear c14
       obtain rfl := Option.some.inj H
       go_wp2
       go_ret
       exact ⟨sqE, fW HB.out⟩

end Go.Proofs.Ytcofgnbopodahaa.QA
