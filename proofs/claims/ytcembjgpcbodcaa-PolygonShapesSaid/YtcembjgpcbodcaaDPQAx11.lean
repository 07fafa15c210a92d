import Derived.Test.YtcembjgpcbodcaaDPQAx0
import Derived.Test.YtcembjgpcbodcaaDPQAx6
import Derived.Test.YtcembjgpcbodcaaDPQAx9
import Derived.Test.YtcembjgpcbodcaaDPQAx10
namespace Go.Proofs.Ytcembjgpcbodcaa.QA
open Go.RowKit Go.Proofs.YtcembjgpcbodcaaW.PrintWords Go.Proofs.YtcembjgpcbodcaaW.PrintLast Go.Proofs.YtcembjgpcbodcaaW.PrintMore
open Go.Proofs.YtcembjgpcbodcaaW.PrintWords renaming blk_drewN → bN, blk_drew → bd, blk_alloc → ba, below_alloc → wa, pw_below_drewN → wN, below_drew1 → wd, below_set → ws, blk_frozen → bf, blk_cell → bc, blk_below → bb, below_size → wz, below_step → wt, gate_dst → gd, gate_callee → gc, box_event → be, blk_lt → bl
open Aside0 renaming mk → am
attribute [local go_sem] max2_int min2_int max_two min_two max_three min_three max_four min_four
set_option linter.unusedVariables false
set_option linter.unusedSimpArgs false

def w_awake.j0 : Nat → Bool → Option (Bool)
 | 0, _ => none
 | k + 1, x0 => some x0
def w_awake.f (k : Nat)  : Option (Bool) := (w_square.f).bind fun t237 => ((p_Area2.f k t237).bind fun bt240 => ((w_square.f).bind fun t242 => ((p_Convex.f k t242).bind fun bt245 => ((w_square.f).bind fun t247 => ((p_Side.f k t247 5 5).bind fun bt250 => ((p_Hull.f k (([(⟨0, 0⟩ : S23), (⟨4, 0⟩ : S23), (⟨2, 0⟩ : S23), (⟨2, 1⟩ : S23), (⟨2, 5⟩ : S23)] : List (S23)))).bind fun bt255 => (if bt240.2 = 0 then (if bt240.1 = 200 then (if bt245.2 = 0 then (if bt245.1 = true then (if bt250.2 = 0 then (if bt250.1 = 1 then (if bt255.2 = 0 then ((r_Same.f k bt255.1 (([(⟨0, 0⟩ : S23), (⟨4, 0⟩ : S23), (⟨2, 5⟩ : S23)] : List (S23)))).bind fun t262 => (w_awake.j0 k t262)) else (w_awake.j0 k false)) else (w_awake.j0 k false)) else (w_awake.j0 k false)) else (w_awake.j0 k false)) else (w_awake.j0 k false)) else (w_awake.j0 k false)) else (w_awake.j0 k false))))))))
theorem w_awake.mono_l : ∀ k, (∀ y0, LeO (w_awake.j0 k y0) (w_awake.j0 (k + 1) y0))
 | 0 => fun _ r h => by simp [w_awake.j0] at h
 | k + 1 => by
  have ih0 := w_awake.mono_l k
  intro y0
  unfold w_awake.j0
  repeat' first
  | (with_reducible exact ih0 _)
  | (with_reducible exact r_Same.mono _ _ _)
  | (with_reducible exact p_Area2.mono _ _)
  | (with_reducible exact p_Convex.mono _ _)
  | (with_reducible exact p_Hull.mono _ _)
  | (with_reducible exact p_Side.mono _ _ _ _)
  | (with_reducible exact LeO.refl _)
  | (with_reducible exact LeO.none _)
  | (with_reducible refine LeO.ite ?_ ?_)
  | (with_reducible refine LeO.bind ?_ (fun _ => ?_))
  | exact ih0 _
  | exact r_Same.mono _ _ _
  | exact p_Area2.mono _ _
  | exact p_Convex.mono _ _
  | exact p_Hull.mono _ _
  | exact p_Side.mono _ _ _ _
  | exact LeO.none _
  | refine LeO.ite ?_ ?_
  | refine LeO.bind ?_ (fun _ => ?_)
theorem w_awake.mono : ∀ k, LeO (w_awake.f k ) (w_awake.f (k + 1) ) := by
 intro  k
 have ih0 := w_awake.mono_l k
 unfold w_awake.f
 repeat' first
   | (with_reducible exact ih0 _)
   | (with_reducible exact r_Same.mono _ _ _)
   | (with_reducible exact p_Area2.mono _ _)
   | (with_reducible exact p_Convex.mono _ _)
   | (with_reducible exact p_Hull.mono _ _)
   | (with_reducible exact p_Side.mono _ _ _ _)
   | (with_reducible exact LeO.refl _)
   | (with_reducible exact LeO.none _)
   | (with_reducible refine LeO.ite ?_ ?_)
   | (with_reducible refine LeO.bind ?_ (fun _ => ?_))
   | exact ih0 _
   | exact r_Same.mono _ _ _
   | exact p_Area2.mono _ _
   | exact p_Convex.mono _ _
   | exact p_Hull.mono _ _
   | exact p_Side.mono _ _ _ _
   | exact LeO.none _
   | refine LeO.ite ?_ ?_
   | refine LeO.bind ?_ (fun _ => ?_)
set_option maxHeartbeats 8000000 in
set_option maxRecDepth 100000 in
theorem w_awake.calls (k : Nat)  (r : Bool) (w : World) (h : w_awake.f k  = some r) :
  Calls Try.prog 11 #[] w fun e w' => e = .returned (.bool r) ∧ Below w.heap.size w w' := by
 have hu23 := Try.underlying23
 have HB := am (Below.refl w.heap.size w)
 have H : ((w_square.f).bind fun t237 => ((p_Area2.f k t237).bind fun bt240 => ((w_square.f).bind fun t242 => ((p_Convex.f k t242).bind fun bt245 => ((w_square.f).bind fun t247 => ((p_Side.f k t247 5 5).bind fun bt250 => ((p_Hull.f k (([(⟨0, 0⟩ : S23), (⟨4, 0⟩ : S23), (⟨2, 0⟩ : S23), (⟨2, 1⟩ : S23), (⟨2, 5⟩ : S23)] : List (S23)))).bind fun bt255 => (if bt240.2 = 0 then (if bt240.1 = 200 then (if bt245.2 = 0 then (if bt245.1 = true then (if bt250.2 = 0 then (if bt250.1 = 1 then (if bt255.2 = 0 then ((r_Same.f k bt255.1 (([(⟨0, 0⟩ : S23), (⟨4, 0⟩ : S23), (⟨2, 5⟩ : S23)] : List (S23)))).bind fun t262 => (w_awake.j0 k t262)) else (w_awake.j0 k false)) else (w_awake.j0 k false)) else (w_awake.j0 k false)) else (w_awake.j0 k false)) else (w_awake.j0 k false)) else (w_awake.j0 k false)) else (w_awake.j0 k false))))))))) = some r := h
 clear h
 replace H := Option.bind_eq_some_iff.mp H
 obtain ⟨t237, A10, H⟩ := H
 replace H : ((p_Area2.f k t237).bind fun bt240 => ((w_square.f).bind fun t242 => ((p_Convex.f k t242).bind fun bt245 => ((w_square.f).bind fun t247 => ((p_Side.f k t247 5 5).bind fun bt250 => ((p_Hull.f k (([(⟨0, 0⟩ : S23), (⟨4, 0⟩ : S23), (⟨2, 0⟩ : S23), (⟨2, 1⟩ : S23), (⟨2, 5⟩ : S23)] : List (S23)))).bind fun bt255 => (if bt240.2 = 0 then (if bt240.1 = 200 then (if bt245.2 = 0 then (if bt245.1 = true then (if bt250.2 = 0 then (if bt250.1 = 1 then (if bt255.2 = 0 then ((r_Same.f k bt255.1 (([(⟨0, 0⟩ : S23), (⟨4, 0⟩ : S23), (⟨2, 5⟩ : S23)] : List (S23)))).bind fun t262 => (w_awake.j0 k t262)) else (w_awake.j0 k false)) else (w_awake.j0 k false)) else (w_awake.j0 k false)) else (w_awake.j0 k false)) else (w_awake.j0 k false)) else (w_awake.j0 k false)) else (w_awake.j0 k false)))))))) = some r := H
 have A1 := am A10
 clear A10
 replace H := Option.bind_eq_some_iff.mp H
 obtain ⟨⟨t240, t241⟩, A20, H⟩ := H
 replace H : ((w_square.f).bind fun t242 => ((p_Convex.f k t242).bind fun bt245 => ((w_square.f).bind fun t247 => ((p_Side.f k t247 5 5).bind fun bt250 => ((p_Hull.f k (([(⟨0, 0⟩ : S23), (⟨4, 0⟩ : S23), (⟨2, 0⟩ : S23), (⟨2, 1⟩ : S23), (⟨2, 5⟩ : S23)] : List (S23)))).bind fun bt255 => (if t241 = 0 then (if t240 = 200 then (if bt245.2 = 0 then (if bt245.1 = true then (if bt250.2 = 0 then (if bt250.1 = 1 then (if bt255.2 = 0 then ((r_Same.f k bt255.1 (([(⟨0, 0⟩ : S23), (⟨4, 0⟩ : S23), (⟨2, 5⟩ : S23)] : List (S23)))).bind fun t262 => (w_awake.j0 k t262)) else (w_awake.j0 k false)) else (w_awake.j0 k false)) else (w_awake.j0 k false)) else (w_awake.j0 k false)) else (w_awake.j0 k false)) else (w_awake.j0 k false)) else (w_awake.j0 k false))))))) = some r := H
 have A2 := am A20
 clear A20
 replace H := Option.bind_eq_some_iff.mp H
 obtain ⟨t242, A30, H⟩ := H
 replace H : ((p_Convex.f k t242).bind fun bt245 => ((w_square.f).bind fun t247 => ((p_Side.f k t247 5 5).bind fun bt250 => ((p_Hull.f k (([(⟨0, 0⟩ : S23), (⟨4, 0⟩ : S23), (⟨2, 0⟩ : S23), (⟨2, 1⟩ : S23), (⟨2, 5⟩ : S23)] : List (S23)))).bind fun bt255 => (if t241 = 0 then (if t240 = 200 then (if bt245.2 = 0 then (if bt245.1 = true then (if bt250.2 = 0 then (if bt250.1 = 1 then (if bt255.2 = 0 then ((r_Same.f k bt255.1 (([(⟨0, 0⟩ : S23), (⟨4, 0⟩ : S23), (⟨2, 5⟩ : S23)] : List (S23)))).bind fun t262 => (w_awake.j0 k t262)) else (w_awake.j0 k false)) else (w_awake.j0 k false)) else (w_awake.j0 k false)) else (w_awake.j0 k false)) else (w_awake.j0 k false)) else (w_awake.j0 k false)) else (w_awake.j0 k false)))))) = some r := H
 have A3 := am A30
 clear A30
 replace H := Option.bind_eq_some_iff.mp H
 obtain ⟨⟨t245, t246⟩, A40, H⟩ := H
 replace H : ((w_square.f).bind fun t247 => ((p_Side.f k t247 5 5).bind fun bt250 => ((p_Hull.f k (([(⟨0, 0⟩ : S23), (⟨4, 0⟩ : S23), (⟨2, 0⟩ : S23), (⟨2, 1⟩ : S23), (⟨2, 5⟩ : S23)] : List (S23)))).bind fun bt255 => (if t241 = 0 then (if t240 = 200 then (if t246 = 0 then (if t245 = true then (if bt250.2 = 0 then (if bt250.1 = 1 then (if bt255.2 = 0 then ((r_Same.f k bt255.1 (([(⟨0, 0⟩ : S23), (⟨4, 0⟩ : S23), (⟨2, 5⟩ : S23)] : List (S23)))).bind fun t262 => (w_awake.j0 k t262)) else (w_awake.j0 k false)) else (w_awake.j0 k false)) else (w_awake.j0 k false)) else (w_awake.j0 k false)) else (w_awake.j0 k false)) else (w_awake.j0 k false)) else (w_awake.j0 k false))))) = some r := H
 have A4 := am A40
 clear A40
 replace H := Option.bind_eq_some_iff.mp H
 obtain ⟨t247, A50, H⟩ := H
 replace H : ((p_Side.f k t247 5 5).bind fun bt250 => ((p_Hull.f k (([(⟨0, 0⟩ : S23), (⟨4, 0⟩ : S23), (⟨2, 0⟩ : S23), (⟨2, 1⟩ : S23), (⟨2, 5⟩ : S23)] : List (S23)))).bind fun bt255 => (if t241 = 0 then (if t240 = 200 then (if t246 = 0 then (if t245 = true then (if bt250.2 = 0 then (if bt250.1 = 1 then (if bt255.2 = 0 then ((r_Same.f k bt255.1 (([(⟨0, 0⟩ : S23), (⟨4, 0⟩ : S23), (⟨2, 5⟩ : S23)] : List (S23)))).bind fun t262 => (w_awake.j0 k t262)) else (w_awake.j0 k false)) else (w_awake.j0 k false)) else (w_awake.j0 k false)) else (w_awake.j0 k false)) else (w_awake.j0 k false)) else (w_awake.j0 k false)) else (w_awake.j0 k false)))) = some r := H
 have A5 := am A50
 clear A50
 replace H := Option.bind_eq_some_iff.mp H
 obtain ⟨⟨t250, t251⟩, A60, H⟩ := H
 replace H : ((p_Hull.f k (([(⟨0, 0⟩ : S23), (⟨4, 0⟩ : S23), (⟨2, 0⟩ : S23), (⟨2, 1⟩ : S23), (⟨2, 5⟩ : S23)] : List (S23)))).bind fun bt255 => (if t241 = 0 then (if t240 = 200 then (if t246 = 0 then (if t245 = true then (if t251 = 0 then (if t250 = 1 then (if bt255.2 = 0 then ((r_Same.f k bt255.1 (([(⟨0, 0⟩ : S23), (⟨4, 0⟩ : S23), (⟨2, 5⟩ : S23)] : List (S23)))).bind fun t262 => (w_awake.j0 k t262)) else (w_awake.j0 k false)) else (w_awake.j0 k false)) else (w_awake.j0 k false)) else (w_awake.j0 k false)) else (w_awake.j0 k false)) else (w_awake.j0 k false)) else (w_awake.j0 k false))) = some r := H
 have A6 := am A60
 clear A60
 obtain ⟨y252, hy252⟩ : ∃ y_ : List (S23), y_ = (([(⟨0, 0⟩ : S23), (⟨4, 0⟩ : S23), (⟨2, 0⟩ : S23), (⟨2, 1⟩ : S23), (⟨2, 5⟩ : S23)] : List (S23))) := ⟨_, rfl⟩
 replace H : ((p_Hull.f k y252).bind fun bt255 => (if t241 = 0 then (if t240 = 200 then (if t246 = 0 then (if t245 = true then (if t251 = 0 then (if t250 = 1 then (if bt255.2 = 0 then ((r_Same.f k bt255.1 (([(⟨0, 0⟩ : S23), (⟨4, 0⟩ : S23), (⟨2, 5⟩ : S23)] : List (S23)))).bind fun t262 => (w_awake.j0 k t262)) else (w_awake.j0 k false)) else (w_awake.j0 k false)) else (w_awake.j0 k false)) else (w_awake.j0 k false)) else (w_awake.j0 k false)) else (w_awake.j0 k false)) else (w_awake.j0 k false))) = some r := by first | (rw [hy252]; with_reducible exact H) | (have H2_ := (Option.bind_some _ _).symm.trans H; rw [hy252]; with_reducible exact H2_) | (have H2_ := (Option.bind_some _ _).symm.trans H; with_reducible exact H2_) | with_reducible exact H | (rw [hy252]; exact H) | exact H
 have Ny252 := am hy252
 clear hy252
 replace H := Option.bind_eq_some_iff.mp H
 obtain ⟨⟨t255, t256⟩, A70, H⟩ := H
 replace H : (if t241 = 0 then (if t240 = 200 then (if t246 = 0 then (if t245 = true then (if t251 = 0 then (if t250 = 1 then (if t256 = 0 then ((r_Same.f k t255 (([(⟨0, 0⟩ : S23), (⟨4, 0⟩ : S23), (⟨2, 5⟩ : S23)] : List (S23)))).bind fun t262 => (w_awake.j0 k t262)) else (w_awake.j0 k false)) else (w_awake.j0 k false)) else (w_awake.j0 k false)) else (w_awake.j0 k false)) else (w_awake.j0 k false)) else (w_awake.j0 k false)) else (w_awake.j0 k false)) = some r := H
 have A7 := am A70
 clear A70
 have HC8 := am H
 clear H
 go_enter Try.func11, Try.ntmps11
 go_upto_region 5 with (first | ((with_reducible refine gc (f := 36) rfl ?_); refine goesL_ (some 10) rfl rfl Try.func36 (by kernel_rfl) rfl #[] rfl (by (try simp only [pml]); first | done | rfl | (simp only [pdt]; rfl)) ?_; (with_reducible refine (w_square.calls  t237 _ A1.out).mono ?_); rintro e w9 ⟨v238, rfl, ho0, hb⟩; refine ⟨_, rfl, ?_⟩; have n0_ := am (Kd.R_lower ho0 (wz (by repeat (first | (with_reducible first | exact HB.out | apply wa | apply wN | apply wd) | exact HB.out)))); have n1_ := am (wt (by repeat (first | (with_reducible first | exact HB.out | apply wa | apply wN | apply wd) | exact HB.out)) hb); clear HB; have HO239 := n0_; have HB := n1_; clear n0_ n1_; (try clear hb); (try clear hb2); (try clear hk); (try clear hi); (try clear ho0); obtain ⟨Ao10, co10, eo10⟩ := Kd.R_slice HO239.out; subst eo10) | ((with_reducible refine gc (f := 25) rfl ?_); refine goesL_ (some 11) rfl rfl Try.func25 (by kernel_rfl) rfl #[.slice Ao10 t237.length co10] rfl (by (try simp only [pml]); first | done | rfl | (simp only [pdt]; rfl)) ?_; (with_reducible refine (p_Area2.calls k _ _ t237 t240 t241 _ ?side1 ?side2 A2.out).mono ?_); (case side1 => repeat (first | exact (Kd.R_reads' HO239.out).2.2 | (with_reducible refine Kd.C_alloc ?_ _) | (with_reducible refine Kd.C_drewN ?_ _) | (with_reducible refine Kd.C_drew ?_))); (case side2 => exact (Kd.R_reads' HO239.out).2.1); rintro e w11 ⟨rfl, hb⟩; refine ⟨_, rfl, ?_⟩; have n0_ := am (Kd.R_below (by (with_reducible repeat (first | apply Kd.R_alloc | apply Kd.R_drewN | apply Kd.R_drew)); exact HO239.out) hb); have n1_ := am (wt (by repeat (first | (with_reducible first | exact HB.out | apply wa | apply wN | apply wd) | exact HB.out)) hb); clear HO239 HB; have HO239 := n0_; have HB := n1_; clear n0_ n1_; (try clear hb); (try clear hb2); (try clear hk); (try clear hi)) | ((with_reducible refine gc (f := 36) rfl ?_); refine goesL_ (some 15) rfl rfl Try.func36 (by kernel_rfl) rfl #[] rfl (by (try simp only [pml]); first | done | rfl | (simp only [pdt]; rfl)) ?_; (with_reducible refine (w_square.calls  t242 _ A3.out).mono ?_); rintro e w12 ⟨v243, rfl, ho0, hb⟩; refine ⟨_, rfl, ?_⟩; have n0_ := am (Kd.R_elder' (by (with_reducible repeat (first | apply Kd.R_alloc | apply Kd.R_drewN | apply Kd.R_drew)); exact HO239.out) (Kd.R_base ho0) hb); have n1_ := am (Kd.R_lower (Kd.R_new' ho0 (Kd.R_lt (by (with_reducible repeat (first | apply Kd.R_alloc | apply Kd.R_drewN | apply Kd.R_drew)); exact HO239.out))) (wz (by repeat (first | (with_reducible first | exact HB.out | apply wa | apply wN | apply wd) | exact HB.out)))); have n2_ := am (wt (by repeat (first | (with_reducible first | exact HB.out | apply wa | apply wN | apply wd) | exact HB.out)) hb); clear HO239 HB; have HO239 := n0_; have HO244 := n1_; have HB := n2_; clear n0_ n1_ n2_; (try clear hb); (try clear hb2); (try clear hk); (try clear hi); (try clear ho0); obtain ⟨Ao13, co13, eo13⟩ := Kd.R_slice HO244.out; subst eo13) | ((with_reducible refine gc (f := 24) rfl ?_); refine goesL_ (some 16) rfl rfl Try.func24 (by kernel_rfl) rfl #[.slice Ao13 t242.length co13] rfl (by (try simp only [pml]); first | done | rfl | (simp only [pdt]; rfl)) ?_; (with_reducible refine (p_Convex.calls k _ _ t242 t245 t246 _ ?side1 ?side2 A4.out).mono ?_); (case side1 => repeat (first | exact (Kd.R_reads' HO244.out).2.2 | (with_reducible refine Kd.C_alloc ?_ _) | (with_reducible refine Kd.C_drewN ?_ _) | (with_reducible refine Kd.C_drew ?_))); (case side2 => exact (Kd.R_reads' HO244.out).2.1); rintro e w14 ⟨rfl, hb⟩; refine ⟨_, rfl, ?_⟩; have n0_ := am (Kd.R_below (by (with_reducible repeat (first | apply Kd.R_alloc | apply Kd.R_drewN | apply Kd.R_drew)); exact HO239.out) hb); have n1_ := am (Kd.R_below (by (with_reducible repeat (first | apply Kd.R_alloc | apply Kd.R_drewN | apply Kd.R_drew)); exact HO244.out) hb); have n2_ := am (wt (by repeat (first | (with_reducible first | exact HB.out | apply wa | apply wN | apply wd) | exact HB.out)) hb); clear HO239 HO244 HB; have HO239 := n0_; have HO244 := n1_; have HB := n2_; clear n0_ n1_ n2_; (try clear hb); (try clear hb2); (try clear hk); (try clear hi)) | ((with_reducible refine gc (f := 36) rfl ?_); refine goesL_ (some 20) rfl rfl Try.func36 (by kernel_rfl) rfl #[] rfl (by (try simp only [pml]); first | done | rfl | (simp only [pdt]; rfl)) ?_; (with_reducible refine (w_square.calls  t247 _ A5.out).mono ?_); rintro e w15 ⟨v248, rfl, ho0, hb⟩; refine ⟨_, rfl, ?_⟩; have n0_ := am (Kd.R_elder' (by (with_reducible repeat (first | apply Kd.R_alloc | apply Kd.R_drewN | apply Kd.R_drew)); exact HO239.out) (Kd.R_base ho0) hb); have n1_ := am (Kd.R_elder' (by (with_reducible repeat (first | apply Kd.R_alloc | apply Kd.R_drewN | apply Kd.R_drew)); exact HO244.out) (Kd.R_base ho0) hb); have n2_ := am (Kd.R_lower (Kd.R_new' (Kd.R_new' ho0 (Kd.R_lt (by (with_reducible repeat (first | apply Kd.R_alloc | apply Kd.R_drewN | apply Kd.R_drew)); exact HO239.out))) (Kd.R_lt (by (with_reducible repeat (first | apply Kd.R_alloc | apply Kd.R_drewN | apply Kd.R_drew)); exact HO244.out))) (wz (by repeat (first | (with_reducible first | exact HB.out | apply wa | apply wN | apply wd) | exact HB.out)))); have n3_ := am (wt (by repeat (first | (with_reducible first | exact HB.out | apply wa | apply wN | apply wd) | exact HB.out)) hb); clear HO239 HO244 HB; have HO239 := n0_; have HO244 := n1_; have HO249 := n2_; have HB := n3_; clear n0_ n1_ n2_ n3_; (try clear hb); (try clear hb2); (try clear hk); (try clear hi); (try clear ho0); obtain ⟨Ao16, co16, eo16⟩ := Kd.R_slice HO249.out; subst eo16) | ((with_reducible refine gc (f := 16) rfl ?_); refine goesL_ (some 22) rfl rfl Try.func16 (by kernel_rfl) rfl #[.slice Ao16 t247.length co16, .agg #[.int .i64 5, .int .i64 5]] rfl (by (try simp only [pml]); first | done | rfl | (simp only [pdt]; rfl)) ?_; (with_reducible refine (p_Side.calls k _ _ t247 5 5 t250 t251 _ ?side1 ?side2 A6.out).mono ?_); (case side1 => repeat (first | exact (Kd.R_reads' HO249.out).2.2 | (with_reducible refine Kd.C_alloc ?_ _) | (with_reducible refine Kd.C_drewN ?_ _) | (with_reducible refine Kd.C_drew ?_))); (case side2 => exact (Kd.R_reads' HO249.out).2.1); rintro e w17 ⟨rfl, hb⟩; refine ⟨_, rfl, ?_⟩; have n0_ := am (Kd.R_below (by (with_reducible repeat (first | apply Kd.R_alloc | apply Kd.R_drewN | apply Kd.R_drew)); exact HO239.out) hb); have n1_ := am (Kd.R_below (by (with_reducible repeat (first | apply Kd.R_alloc | apply Kd.R_drewN | apply Kd.R_drew)); exact HO244.out) hb); have n2_ := am (Kd.R_below (by (with_reducible repeat (first | apply Kd.R_alloc | apply Kd.R_drewN | apply Kd.R_drew)); exact HO249.out) hb); have n3_ := am (wt (by repeat (first | (with_reducible first | exact HB.out | apply wa | apply wN | apply wd) | exact HB.out)) hb); clear HO239 HO244 HO249 HB; have HO239 := n0_; have HO244 := n1_; have HO249 := n2_; have HB := n3_; clear n0_ n1_ n2_ n3_; (try clear hb); (try clear hb2); (try clear hk); (try clear hi)) | ((with_reducible refine gd (N := 31) rfl ?_); (try (refine gate_guard (by rfl) ?_; dsimp only)); refine Kd.R_lit k23 _ 23 ?hg (N := 31) ?hd (xs := ([(⟨0, 0⟩ : S23), (⟨4, 0⟩ : S23), (⟨2, 0⟩ : S23), (⟨2, 1⟩ : S23), (⟨2, 5⟩ : S23)] : List (S23))) (inner := [.int .i64 0, .int .i64 0, .int .i64 4, .int .i64 0, .int .i64 2, .int .i64 0, .int .i64 2, .int .i64 1, .int .i64 2, .int .i64 5]) (ok := fun _ => True) (okp := fun _ => True) ?hr ?hp (fun _ hk => hk) trivial (Below.refl _ _) (Nat.le_refl _) (by simp) ?_; (case hd | hg => rfl); (case hr => first | (go_simp; done) | (go_simp; rfl)); (case hp => exact (Reps.c2 (show Kd.M k23 _ _ _ (⟨0, 0⟩ : S23) [.int .i64 0, .int .i64 0] from (k23_mkM _ _ _ (⟨0, 0⟩ : S23) )) (Reps.c2 (show Kd.M k23 _ _ _ (⟨4, 0⟩ : S23) [.int .i64 4, .int .i64 0] from (k23_mkM _ _ _ (⟨4, 0⟩ : S23) )) (Reps.c2 (show Kd.M k23 _ _ _ (⟨2, 0⟩ : S23) [.int .i64 2, .int .i64 0] from (k23_mkM _ _ _ (⟨2, 0⟩ : S23) )) (Reps.c2 (show Kd.M k23 _ _ _ (⟨2, 1⟩ : S23) [.int .i64 2, .int .i64 1] from (k23_mkM _ _ _ (⟨2, 1⟩ : S23) )) (Reps.c2 (show Kd.M k23 _ _ _ (⟨2, 5⟩ : S23) [.int .i64 2, .int .i64 5] from (k23_mkM _ _ _ (⟨2, 5⟩ : S23) )) (Reps.none _ _))))))); intro v253 w18 ho19 hb hg_ hnew_; clear hg_ hnew_; (first | rw [← Ny252.out] at ho19 | (simp only [Int.reduceToNat] at ho19; rw [← Ny252.out] at ho19)); have n0_ := am (Kd.R_elder' (by (with_reducible repeat (first | apply Kd.R_alloc | apply Kd.R_drewN | apply Kd.R_drew)); exact HO239.out) (Kd.R_base ho19) hb); have n1_ := am (Kd.R_elder' (by (with_reducible repeat (first | apply Kd.R_alloc | apply Kd.R_drewN | apply Kd.R_drew)); exact HO244.out) (Kd.R_base ho19) hb); have n2_ := am (Kd.R_elder' (by (with_reducible repeat (first | apply Kd.R_alloc | apply Kd.R_drewN | apply Kd.R_drew)); exact HO249.out) (Kd.R_base ho19) hb); have n3_ := am (Kd.R_lower (Kd.R_new' (Kd.R_new' (Kd.R_new' ho19 (Kd.R_lt (by (with_reducible repeat (first | apply Kd.R_alloc | apply Kd.R_drewN | apply Kd.R_drew)); exact HO239.out))) (Kd.R_lt (by (with_reducible repeat (first | apply Kd.R_alloc | apply Kd.R_drewN | apply Kd.R_drew)); exact HO244.out))) (Kd.R_lt (by (with_reducible repeat (first | apply Kd.R_alloc | apply Kd.R_drewN | apply Kd.R_drew)); exact HO249.out))) (wz (by repeat (first | (with_reducible first | exact HB.out | apply wa | apply wN | apply wd) | exact HB.out)))); have n4_ := am (wt (by repeat (first | (with_reducible first | exact HB.out | apply wa | apply wN | apply wd) | exact HB.out)) hb); clear HO239 HO244 HO249 HB; have HO239 := n0_; have HO244 := n1_; have HO249 := n2_; have HO254 := n3_; have HB := n4_; clear n0_ n1_ n2_ n3_ n4_ hb ho19; obtain ⟨Ao20, co20, eo20⟩ := Kd.R_slice HO254.out; subst eo20) | ((with_reducible refine gc (f := 20) rfl ?_); refine goesL_ (some 32) rfl rfl Try.func20 (by kernel_rfl) rfl #[.slice Ao20 y252.length co20] rfl (by (try simp only [pml]); first | done | rfl | (simp only [pdt]; rfl)) ?_; (with_reducible refine (p_Hull.calls k _ _ y252 t255 t256 _ ?side1 ?side2 A7.out).mono ?_); (case side1 => repeat (first | exact (Kd.R_reads' HO254.out).2.2 | (with_reducible refine Kd.C_alloc ?_ _) | (with_reducible refine Kd.C_drewN ?_ _) | (with_reducible refine Kd.C_drew ?_))); (case side2 => exact (Kd.R_reads' HO254.out).2.1); rintro e w21 ⟨v257, rfl, ho0, hb⟩; refine ⟨_, rfl, ?_⟩; have n0_ := am (Kd.R_elder' (by (with_reducible repeat (first | apply Kd.R_alloc | apply Kd.R_drewN | apply Kd.R_drew)); exact HO239.out) (Kd.R_base ho0) hb); have n1_ := am (Kd.R_elder' (by (with_reducible repeat (first | apply Kd.R_alloc | apply Kd.R_drewN | apply Kd.R_drew)); exact HO244.out) (Kd.R_base ho0) hb); have n2_ := am (Kd.R_elder' (by (with_reducible repeat (first | apply Kd.R_alloc | apply Kd.R_drewN | apply Kd.R_drew)); exact HO249.out) (Kd.R_base ho0) hb); have n3_ := am (Kd.R_elder' (by (with_reducible repeat (first | apply Kd.R_alloc | apply Kd.R_drewN | apply Kd.R_drew)); exact HO254.out) (Kd.R_base ho0) hb); have n4_ := am (Kd.R_lower (Kd.R_new' (Kd.R_new' (Kd.R_new' (Kd.R_new' ho0 (Kd.R_lt (by (with_reducible repeat (first | apply Kd.R_alloc | apply Kd.R_drewN | apply Kd.R_drew)); exact HO239.out))) (Kd.R_lt (by (with_reducible repeat (first | apply Kd.R_alloc | apply Kd.R_drewN | apply Kd.R_drew)); exact HO244.out))) (Kd.R_lt (by (with_reducible repeat (first | apply Kd.R_alloc | apply Kd.R_drewN | apply Kd.R_drew)); exact HO249.out))) (Kd.R_lt (by (with_reducible repeat (first | apply Kd.R_alloc | apply Kd.R_drewN | apply Kd.R_drew)); exact HO254.out))) (wz (by repeat (first | (with_reducible first | exact HB.out | apply wa | apply wN | apply wd) | exact HB.out)))); have n5_ := am (wt (by repeat (first | (with_reducible first | exact HB.out | apply wa | apply wN | apply wd) | exact HB.out)) hb); clear HO239 HO244 HO249 HO254 HB; have HO239 := n0_; have HO244 := n1_; have HO249 := n2_; have HO254 := n3_; have HO258 := n4_; have HB := n5_; clear n0_ n1_ n2_ n3_ n4_ n5_; (try clear hb); (try clear hb2); (try clear hk); (try clear hi); (try clear ho0)))
 (try simp only [Act.put, psl])
 go_cut [0] (fun v0 wc => ∃ (kq : Nat) (x0_7 : Bool), v0 = .bool x0_7 ∧ Aside0 (w_awake.j0 kq x0_7 = some r) ∧ Aside0 (kq ≤ k) ∧ Aside0 (Below w.heap.size w wc))
 case first =>
  have H := HC8.out
  clear HC8
  by_cases c22 : t241 = 0
  rotate_left
  ·rw [if_neg c22] at H
   have c22b0 : (t241 == 0) = false := beq_eq_false_iff_ne.mpr c22
   have c22b1 : (t241 != 0) = true := bne_iff_ne.mpr c22
   (first | rw [c22b0] | (simp only [i64_w, i32_w]; rw [c22b0]) | skip)
   have H' := am H
   clear H
   go_wp2
   go_meet
   case rel => exact ⟨_, (false), (by first | rfl | (simp; done) | (simp [*]; done)), H', ⟨by first | omega | exact Nat.le_refl _⟩, ⟨by repeat (first | (with_reducible first | exact HB.out | apply wa | apply wN | apply wd) | exact HB.out)⟩⟩
  rw [if_pos c22] at H
  have c22b0 : (t241 == 0) = true := beq_iff_eq.mpr c22
  have c22b1 : (t241 != 0) = false := bne_eq_false_iff_eq.mpr c22
  clear c22
  (first | rw [c22b0] | (simp only [i64_w, i32_w]; rw [c22b0]) | skip)
  by_cases c23 : t240 = 200
  rotate_left
  ·rw [if_neg c23] at H
   have c23b0 : (t240 == 200) = false := beq_eq_false_iff_ne.mpr c23
   have c23b1 : (t240 != 200) = true := bne_iff_ne.mpr c23
   have H' := am H
   clear H
   go_wp2
   go_meet
   case rel => exact ⟨_, (false), (by first | rfl | (simp; done) | (simp [*]; done)), H', ⟨by first | omega | exact Nat.le_refl _⟩, ⟨by repeat (first | (with_reducible first | exact HB.out | apply wa | apply wN | apply wd) | exact HB.out)⟩⟩
  rw [if_pos c23] at H
  have c23b0 : (t240 == 200) = true := beq_iff_eq.mpr c23
  have c23b1 : (t240 != 200) = false := bne_eq_false_iff_eq.mpr c23
  clear c23
  by_cases c24 : t246 = 0
  rotate_left
  ·rw [if_neg c24] at H
   have c24b0 : (t246 == 0) = false := beq_eq_false_iff_ne.mpr c24
   have c24b1 : (t246 != 0) = true := bne_iff_ne.mpr c24
   have H' := am H
   clear H
   go_wp2
   go_meet
   case rel => exact ⟨_, (false), (by first | rfl | (simp; done) | (simp [*]; done)), H', ⟨by first | omega | exact Nat.le_refl _⟩, ⟨by repeat (first | (with_reducible first | exact HB.out | apply wa | apply wN | apply wd) | exact HB.out)⟩⟩
  rw [if_pos c24] at H
  have c24b0 : (t246 == 0) = true := beq_iff_eq.mpr c24
  have c24b1 : (t246 != 0) = false := bne_eq_false_iff_eq.mpr c24
  clear c24
  by_cases c25 : t245 = true
  rotate_left
  ·replace c25 := Bool.eq_false_iff.mpr c25
   subst c25
   have H1 : (w_awake.j0 k false) = some r := by rw [if_neg (show ¬ (false = true) by decide)] at H; exact H
   clear H
   have H := H1
   clear H1
   have H' := am H
   clear H
   go_wp2
   go_meet
   case rel => exact ⟨_, (false), (by first | rfl | (simp; done) | (simp [*]; done)), H', ⟨by first | omega | exact Nat.le_refl _⟩, ⟨by repeat (first | (with_reducible first | exact HB.out | apply wa | apply wN | apply wd) | exact HB.out)⟩⟩
  subst c25
  have H1 : (if t251 = 0 then (if t250 = 1 then (if t256 = 0 then ((r_Same.f k t255 (([(⟨0, 0⟩ : S23), (⟨4, 0⟩ : S23), (⟨2, 5⟩ : S23)] : List (S23)))).bind fun t262 => (w_awake.j0 k t262)) else (w_awake.j0 k false)) else (w_awake.j0 k false)) else (w_awake.j0 k false)) = some r := by rw [if_pos rfl] at H; exact H
  clear H
  have H := H1
  clear H1
  by_cases c26 : t251 = 0
  rotate_left
  ·rw [if_neg c26] at H
   have c26b0 : (t251 == 0) = false := beq_eq_false_iff_ne.mpr c26
   have c26b1 : (t251 != 0) = true := bne_iff_ne.mpr c26
   have H' := am H
   clear H
   go_wp2
   go_meet
   case rel => exact ⟨_, (false), (by first | rfl | (simp; done) | (simp [*]; done)), H', ⟨by first | omega | exact Nat.le_refl _⟩, ⟨by repeat (first | (with_reducible first | exact HB.out | apply wa | apply wN | apply wd) | exact HB.out)⟩⟩
  rw [if_pos c26] at H
  have c26b0 : (t251 == 0) = true := beq_iff_eq.mpr c26
  have c26b1 : (t251 != 0) = false := bne_eq_false_iff_eq.mpr c26
  clear c26
  by_cases c27 : t250 = 1
  rotate_left
  ·rw [if_neg c27] at H
   have c27b0 : (t250 == 1) = false := beq_eq_false_iff_ne.mpr c27
   have c27b1 : (t250 != 1) = true := bne_iff_ne.mpr c27
   have H' := am H
   clear H
   go_wp2
   go_meet
   case rel => exact ⟨_, (false), (by first | rfl | (simp; done) | (simp [*]; done)), H', ⟨by first | omega | exact Nat.le_refl _⟩, ⟨by repeat (first | (with_reducible first | exact HB.out | apply wa | apply wN | apply wd) | exact HB.out)⟩⟩
  rw [if_pos c27] at H
  have c27b0 : (t250 == 1) = true := beq_iff_eq.mpr c27
  have c27b1 : (t250 != 1) = false := bne_eq_false_iff_eq.mpr c27
  clear c27
  by_cases c28 : t256 = 0
  ·rw [if_pos c28] at H
   have c28b0 : (t256 == 0) = true := beq_iff_eq.mpr c28
   have c28b1 : (t256 != 0) = false := bne_eq_false_iff_eq.mpr c28
   clear c28
   obtain ⟨y259, hy259⟩ : ∃ y_ : List (S23), y_ = (([(⟨0, 0⟩ : S23), (⟨4, 0⟩ : S23), (⟨2, 5⟩ : S23)] : List (S23))) := ⟨_, rfl⟩
   replace H : ((r_Same.f k t255 y259).bind fun t262 => (w_awake.j0 k t262)) = some r := by first | (rw [hy259]; with_reducible exact H) | (have H2_ := (Option.bind_some _ _).symm.trans H; rw [hy259]; with_reducible exact H2_) | (have H2_ := (Option.bind_some _ _).symm.trans H; with_reducible exact H2_) | with_reducible exact H | (rw [hy259]; exact H) | exact H
   have Ny259 := am hy259
   clear hy259
   replace H := Option.bind_eq_some_iff.mp H
   obtain ⟨t262, A290, H⟩ := H
   replace H : (w_awake.j0 k t262) = some r := H
   have A29 := am A290
   clear A290
   have H' := am H
   clear H
   go_wp2_with (first | ((with_reducible refine gd (N := 65) rfl ?_); (try (refine gate_guard (by rfl) ?_; dsimp only)); refine Kd.R_lit k23 _ 23 ?hg (N := 65) ?hd (xs := ([(⟨0, 0⟩ : S23), (⟨4, 0⟩ : S23), (⟨2, 5⟩ : S23)] : List (S23))) (inner := [.int .i64 0, .int .i64 0, .int .i64 4, .int .i64 0, .int .i64 2, .int .i64 5]) (ok := fun _ => True) (okp := fun _ => True) ?hr ?hp (fun _ hk => hk) trivial (Below.refl _ _) (Nat.le_refl _) (by simp) ?_; (case hd | hg => rfl); (case hr => first | (go_simp; done) | (go_simp; rfl)); (case hp => exact (Reps.c2 (show Kd.M k23 _ _ _ (⟨0, 0⟩ : S23) [.int .i64 0, .int .i64 0] from (k23_mkM _ _ _ (⟨0, 0⟩ : S23) )) (Reps.c2 (show Kd.M k23 _ _ _ (⟨4, 0⟩ : S23) [.int .i64 4, .int .i64 0] from (k23_mkM _ _ _ (⟨4, 0⟩ : S23) )) (Reps.c2 (show Kd.M k23 _ _ _ (⟨2, 5⟩ : S23) [.int .i64 2, .int .i64 5] from (k23_mkM _ _ _ (⟨2, 5⟩ : S23) )) (Reps.none _ _))))); intro v260 w30 ho31 hb hg_ hnew_; clear hg_ hnew_; (first | rw [← Ny259.out] at ho31 | (simp only [Int.reduceToNat] at ho31; rw [← Ny259.out] at ho31)); have n0_ := am (Kd.R_elder' (by (with_reducible repeat (first | apply Kd.R_alloc | apply Kd.R_drewN | apply Kd.R_drew)); exact HO239.out) (Kd.R_base ho31) hb); have n1_ := am (Kd.R_elder' (by (with_reducible repeat (first | apply Kd.R_alloc | apply Kd.R_drewN | apply Kd.R_drew)); exact HO244.out) (Kd.R_base ho31) hb); have n2_ := am (Kd.R_elder' (by (with_reducible repeat (first | apply Kd.R_alloc | apply Kd.R_drewN | apply Kd.R_drew)); exact HO249.out) (Kd.R_base ho31) hb); have n3_ := am (Kd.R_elder' (by (with_reducible repeat (first | apply Kd.R_alloc | apply Kd.R_drewN | apply Kd.R_drew)); exact HO254.out) (Kd.R_base ho31) hb); have n4_ := am (Kd.R_elder' (by (with_reducible repeat (first | apply Kd.R_alloc | apply Kd.R_drewN | apply Kd.R_drew)); exact HO258.out) (Kd.R_base ho31) hb); have n5_ := am (Kd.R_lower (Kd.R_new' (Kd.R_new' (Kd.R_new' (Kd.R_new' (Kd.R_new' ho31 (Kd.R_lt (by (with_reducible repeat (first | apply Kd.R_alloc | apply Kd.R_drewN | apply Kd.R_drew)); exact HO239.out))) (Kd.R_lt (by (with_reducible repeat (first | apply Kd.R_alloc | apply Kd.R_drewN | apply Kd.R_drew)); exact HO244.out))) (Kd.R_lt (by (with_reducible repeat (first | apply Kd.R_alloc | apply Kd.R_drewN | apply Kd.R_drew)); exact HO249.out))) (Kd.R_lt (by (with_reducible repeat (first | apply Kd.R_alloc | apply Kd.R_drewN | apply Kd.R_drew)); exact HO254.out))) (Kd.R_lt (by (with_reducible repeat (first | apply Kd.R_alloc | apply Kd.R_drewN | apply Kd.R_drew)); exact HO258.out))) (wz (by repeat (first | (with_reducible first | exact HB.out | apply wa | apply wN | apply wd) | exact HB.out)))); have n6_ := am (wt (by repeat (first | (with_reducible first | exact HB.out | apply wa | apply wN | apply wd) | exact HB.out)) hb); clear HO239 HO244 HO249 HO254 HO258 HB; have HO239 := n0_; have HO244 := n1_; have HO249 := n2_; have HO254 := n3_; have HO258 := n4_; have HO261 := n5_; have HB := n6_; clear n0_ n1_ n2_ n3_ n4_ n5_ n6_ hb ho31; obtain ⟨Ao32, co32, eo32⟩ := Kd.R_slice HO258.out; subst eo32; obtain ⟨Ao33, co33, eo33⟩ := Kd.R_slice HO261.out; subst eo33) | (go_at_call 22; (with_reducible refine (r_Same.calls k _ _ t255 _ _ y259 t262 _ ?side1 ?side2 ?side3 ?side4 A29.out).mono ?_); (case side1 => repeat (first | exact (Kd.R_reads' HO258.out).2.2 | (with_reducible refine Kd.C_alloc ?_ _) | (with_reducible refine Kd.C_drewN ?_ _) | (with_reducible refine Kd.C_drew ?_))); (case side2 => exact (Kd.R_reads' HO258.out).2.1); (case side3 => repeat (first | exact (Kd.R_reads' HO261.out).2.2 | (with_reducible refine Kd.C_alloc ?_ _) | (with_reducible refine Kd.C_drewN ?_ _) | (with_reducible refine Kd.C_drew ?_))); (case side4 => exact (Kd.R_reads' HO261.out).2.1); rintro e w' ⟨rfl, ⟨nd, rfl⟩⟩))
   go_meet
   case rel => exact ⟨_, (t262), (by first | rfl | (simp; done) | (simp [*]; done)), H', ⟨by first | omega | exact Nat.le_refl _⟩, ⟨by repeat (first | (with_reducible first | exact HB.out | apply wa | apply wN | apply wd) | exact HB.out)⟩⟩
  rw [if_neg c28] at H
  have c28b0 : (t256 == 0) = false := beq_eq_false_iff_ne.mpr c28
  have c28b1 : (t256 != 0) = true := bne_iff_ne.mpr c28
  have H' := am H
  clear H
  go_wp2
  go_meet
  case rel => exact ⟨_, (false), (by first | rfl | (simp; done) | (simp [*]; done)), H', ⟨by first | omega | exact Nat.le_refl _⟩, ⟨by repeat (first | (with_reducible first | exact HB.out | apply wa | apply wN | apply wd) | exact HB.out)⟩⟩
 case rest =>
  clear HC8
  try clear c1;try clear c2;try clear p2;try clear c3;try clear c11;try clear c16;try clear c20;try clear c22;try clear c22b0;try clear c22b1;try clear c23;try clear c23b0;try clear c23b1;try clear c24;try clear c24b0;try clear c24b1;try clear c25;try clear c26;try clear c26b0;try clear c26b1;try clear c27;try clear c27b0;try clear c27b1;try clear c28;try clear c28b0;try clear c28b1
  obtain ⟨kq, x0_7, rfl, HA, HJ7, HB⟩ := hcut
  cases kq with
  | zero => exact absurd HA.out (by simp [w_awake.j0])
  | succ kj7 =>
   have H := HA.out
   clear HA
   simp only [w_awake.j0] at H
   obtain rfl := Option.some.inj H
   go_wp2
   go_ret
   exact ⟨by first | rfl | (simp [errW_none, errW_some] <;> rfl) | (simp [*, errW_none, errW_some] <;> rfl), by repeat (first | (with_reducible first | exact HB.out | apply wa | apply wN | apply wd) | exact HB.out)⟩

def r_Allowed.j0 : Nat → Bool → Option (Bool)
 | 0, _ => none
 | k + 1, x2 => some x2
def r_Allowed.f (k : Nat) (a0_0 : Int) (a0_1 : Int) : Option (Bool) := if a0_0 ≥ (-1000000) then (if a0_0 ≤ 1000000 then (if a0_1 ≥ (-1000000) then (r_Allowed.j0 k (decide (a0_1 ≤ 1000000))) else (r_Allowed.j0 k false)) else (r_Allowed.j0 k false)) else (r_Allowed.j0 k false)
set_option maxHeartbeats 8000000 in
set_option maxRecDepth 100000 in
theorem r_Allowed.calls (k : Nat) (a0_0 : Int) (a0_1 : Int) (r : Bool) (w : World) (h : r_Allowed.f k a0_0 a0_1 = some r) :
  Calls Try.prog 12 #[.agg #[.int .i64 a0_0, .int .i64 a0_1]] w fun e w' => e = .returned (.bool r) ∧ Below w.heap.size w w' := by
 have hu23 := Try.underlying23
 have HB := am (Below.refl w.heap.size w)
 have H : (if a0_0 ≥ (-1000000) then (if a0_0 ≤ 1000000 then (if a0_1 ≥ (-1000000) then (r_Allowed.j0 k (decide (a0_1 ≤ 1000000))) else (r_Allowed.j0 k false)) else (r_Allowed.j0 k false)) else (r_Allowed.j0 k false)) = some r := h
 clear h
 have HC2 := am H
 clear H
 go_enter Try.func12, Try.ntmps12
 go_upto_region 1 with (first | ((with_reducible refine gd (N := 1) rfl ?_); refine be ?hg (N := 1) ?hd (cs := #[.int .i64 a0_0, .int .i64 a0_1]) (t := 23) ?hr ?_; (case hd | hg => rfl); (case hr => first | (go_simp; done) | (go_simp; rfl)); intro gb263 hg w3 hbox hb; have n0_ := am (wt (by repeat (first | (with_reducible first | exact HB.out | apply wa | apply wN | apply wd) | exact HB.out)) hb); have n1_ := am (hbox); have n2_ := am ((by rw [hg]; exact (wz (by repeat (first | (with_reducible first | exact HB.out | apply wa | apply wN | apply wd) | exact HB.out))) : w.heap.size ≤ gb263)); have n3_ := am ((by rw [hg]; exact (wz (by repeat (first | (with_reducible first | exact HB.out | apply wa | apply wN | apply wd) | exact HB.out))) : w.heap.size ≤ gb263)); clear HB; have HB := n0_; have BK263 := n1_; have GW263 := n2_; have GE263 := n3_; clear n0_ n1_ n2_ n3_ hb hbox hg))
 (try simp only [Act.put, psl])
 go_cut [2] (fun v2 wc => ∃ (kq : Nat) (x2_1 : Bool), v2 = .bool x2_1 ∧ Aside0 (r_Allowed.j0 kq x2_1 = some r) ∧ Aside0 (kq ≤ k) ∧ Aside0 (wc.heap[gb263]? = some (.cells #[.int .i64 a0_0, .int .i64 a0_1] 23 (0, 0))) ∧ Aside0 (Below w.heap.size w wc))
 case first =>
  have H := HC2.out
  clear HC2
  by_cases c4 : a0_0 ≥ (-1000000)
  rotate_left
  ·rw [if_neg c4] at H
   have c4b0 : decide ((-1000000) ≤ a0_0) = false := decide_eq_false c4
   clear c4
   (first | rw [c4b0] | (simp only [i64_w, i32_w]; rw [c4b0]) | skip)
   have H' := am H
   clear H
   have hcz10_0 : w3.cell? ⟨gb263, 0, none⟩ = some (.int .i64 a0_0) := (bc BK263.out 0).trans rfl
   have hcz10_1 : w3.cell? ⟨gb263, 1, none⟩ = some (.int .i64 a0_1) := (bc BK263.out 1).trans rfl
   have hfz10_0 := bf BK263.out 0
   have hfz10_1 := bf BK263.out 1
   go_wp2
   go_meet
   case rel => exact ⟨_, (false), (by first | rfl | (simp; done) | (simp [*]; done)), H', ⟨by first | omega | exact Nat.le_refl _⟩, ⟨by (with_reducible repeat first | apply bN | apply bd | apply ba); exact BK263.out⟩, ⟨by repeat (first | (with_reducible first | exact HB.out | apply wa | apply wN | apply wd | refine ws ?_ GE263.out) | exact HB.out)⟩⟩
  rw [if_pos c4] at H
  have c4b0 : decide ((-1000000) ≤ a0_0) = true := decide_eq_true c4
  clear c4
  (first | rw [c4b0] | (simp only [i64_w, i32_w]; rw [c4b0]) | skip)
  by_cases c5 : a0_0 ≤ 1000000
  rotate_left
  ·rw [if_neg c5] at H
   have c5b0 : decide (a0_0 ≤ 1000000) = false := decide_eq_false c5
   clear c5
   have H' := am H
   clear H
   have hcz9_0 : w3.cell? ⟨gb263, 0, none⟩ = some (.int .i64 a0_0) := (bc BK263.out 0).trans rfl
   have hcz9_1 : w3.cell? ⟨gb263, 1, none⟩ = some (.int .i64 a0_1) := (bc BK263.out 1).trans rfl
   have hfz9_0 := bf BK263.out 0
   have hfz9_1 := bf BK263.out 1
   go_wp2
   go_meet
   case rel => exact ⟨_, (false), (by first | rfl | (simp; done) | (simp [*]; done)), H', ⟨by first | omega | exact Nat.le_refl _⟩, ⟨by (with_reducible repeat first | apply bN | apply bd | apply ba); exact BK263.out⟩, ⟨by repeat (first | (with_reducible first | exact HB.out | apply wa | apply wN | apply wd | refine ws ?_ GE263.out) | exact HB.out)⟩⟩
  rw [if_pos c5] at H
  have c5b0 : decide (a0_0 ≤ 1000000) = true := decide_eq_true c5
  clear c5
  by_cases c6 : a0_1 ≥ (-1000000)
  ·rw [if_pos c6] at H
   have c6b0 : decide ((-1000000) ≤ a0_1) = true := decide_eq_true c6
   clear c6
   have H' := am H
   clear H
   have hcz7_0 : w3.cell? ⟨gb263, 0, none⟩ = some (.int .i64 a0_0) := (bc BK263.out 0).trans rfl
   have hcz7_1 : w3.cell? ⟨gb263, 1, none⟩ = some (.int .i64 a0_1) := (bc BK263.out 1).trans rfl
   have hfz7_0 := bf BK263.out 0
   have hfz7_1 := bf BK263.out 1
   go_wp2
   go_meet
   case rel => exact ⟨_, (decide (a0_1 ≤ 1000000)), (by first | rfl | (simp; done) | (simp [*]; done)), H', ⟨by first | omega | exact Nat.le_refl _⟩, ⟨by (with_reducible repeat first | apply bN | apply bd | apply ba); exact BK263.out⟩, ⟨by repeat (first | (with_reducible first | exact HB.out | apply wa | apply wN | apply wd | refine ws ?_ GE263.out) | exact HB.out)⟩⟩
  rw [if_neg c6] at H
  have c6b0 : decide ((-1000000) ≤ a0_1) = false := decide_eq_false c6
  clear c6
  have H' := am H
  clear H
  have hcz8_0 : w3.cell? ⟨gb263, 0, none⟩ = some (.int .i64 a0_0) := (bc BK263.out 0).trans rfl
  have hcz8_1 : w3.cell? ⟨gb263, 1, none⟩ = some (.int .i64 a0_1) := (bc BK263.out 1).trans rfl
  have hfz8_0 := bf BK263.out 0
  have hfz8_1 := bf BK263.out 1
  go_wp2
  go_meet
  case rel => exact ⟨_, (false), (by first | rfl | (simp; done) | (simp [*]; done)), H', ⟨by first | omega | exact Nat.le_refl _⟩, ⟨by (with_reducible repeat first | apply bN | apply bd | apply ba); exact BK263.out⟩, ⟨by repeat (first | (with_reducible first | exact HB.out | apply wa | apply wN | apply wd | refine ws ?_ GE263.out) | exact HB.out)⟩⟩
 case rest =>
  clear HC2
  try clear c1;try clear p2;try clear c4;try clear c4b0;try clear c5;try clear c5b0;try clear c6;try clear c6b0;try clear hcz10_0;try clear hcz10_1;try clear hcz7_0;try clear hcz7_1;try clear hcz8_0;try clear hcz8_1;try clear hcz9_0;try clear hcz9_1;try clear hfz10_0;try clear hfz10_1;try clear hfz7_0;try clear hfz7_1;try clear hfz8_0;try clear hfz8_1;try clear hfz9_0;try clear hfz9_1
  obtain ⟨kq, x2_1, rfl, HA, HJ1, BK263, HB⟩ := hcut
  cases kq with
  | zero => exact absurd HA.out (by simp [r_Allowed.j0])
  | succ kj1 =>
   have H := HA.out
   clear HA
   simp only [r_Allowed.j0] at H
   obtain rfl := Option.some.inj H
   go_wp2
   go_ret
   exact ⟨by first | rfl | (simp [errW_none, errW_some] <;> rfl) | (simp [*, errW_none, errW_some] <;> rfl), by repeat (first | (with_reducible first | exact HB.out | apply wa | apply wN | apply wd | refine ws ?_ GE263.out) | exact HB.out)⟩

def r_Orient.f (a0_0 : Int) (a0_1 : Int) (a1_0 : Int) (a1_1 : Int) (a2_0 : Int) (a2_1 : Int) : Option (Int) := if (wrap64 ((wrap64 ((wrap64 (a1_0 - a0_0)) * (wrap64 (a2_1 - a0_1)))) - (wrap64 ((wrap64 (a1_1 - a0_1)) * (wrap64 (a2_0 - a0_0)))))) > 0 then (some 1) else (if (wrap64 ((wrap64 ((wrap64 (a1_0 - a0_0)) * (wrap64 (a2_1 - a0_1)))) - (wrap64 ((wrap64 (a1_1 - a0_1)) * (wrap64 (a2_0 - a0_0)))))) < 0 then (some (-1)) else (some 0))
set_option maxHeartbeats 8000000 in
set_option maxRecDepth 100000 in
theorem r_Orient.calls (a0_0 : Int) (a0_1 : Int) (a1_0 : Int) (a1_1 : Int) (a2_0 : Int) (a2_1 : Int) (r : Int) (w : World) (h : r_Orient.f a0_0 a0_1 a1_0 a1_1 a2_0 a2_1 = some r) :
  Calls Try.prog 14 #[.agg #[.int .i64 a0_0, .int .i64 a0_1], .agg #[.int .i64 a1_0, .int .i64 a1_1], .agg #[.int .i64 a2_0, .int .i64 a2_1]] w fun e w' => e = .returned (.int .i64 r) ∧ Below w.heap.size w w' := by
 have hu23 := Try.underlying23
 have HB := am (Below.refl w.heap.size w)
 have H : (if (wrap64 ((wrap64 ((wrap64 (a1_0 - a0_0)) * (wrap64 (a2_1 - a0_1)))) - (wrap64 ((wrap64 (a1_1 - a0_1)) * (wrap64 (a2_0 - a0_0)))))) > 0 then (some 1) else (if (wrap64 ((wrap64 ((wrap64 (a1_0 - a0_0)) * (wrap64 (a2_1 - a0_1)))) - (wrap64 ((wrap64 (a1_1 - a0_1)) * (wrap64 (a2_0 - a0_0)))))) < 0 then (some (-1)) else (some 0))) = some r := h
 clear h
 by_cases c4 : (wrap64 ((wrap64 ((wrap64 (a1_0 - a0_0)) * (wrap64 (a2_1 - a0_1)))) - (wrap64 ((wrap64 (a1_1 - a0_1)) * (wrap64 (a2_0 - a0_0)))))) > 0
 ·rw [if_pos c4] at H
  have c4b0 : decide (0 < (wrap64 ((wrap64 ((wrap64 (a1_0 - a0_0)) * (wrap64 (a2_1 - a0_1)))) - (wrap64 ((wrap64 (a1_1 - a0_1)) * (wrap64 (a2_0 - a0_0))))))) = true := decide_eq_true c4
  clear c4
  obtain rfl := Option.some.inj H
  go_enter Try.func14, Try.ntmps14
  go_wp2_with (first | ((with_reducible refine gd (N := 3) rfl ?_); refine be ?hg (N := 3) ?hd (cs := #[.int .i64 a0_0, .int .i64 a0_1]) (t := 23) ?hr ?_; (case hd | hg => rfl); (case hr => first | (go_simp; done) | (go_simp; rfl)); intro gb264 hg w5 hbox hb; have n0_ := am (wt (by repeat (first | (with_reducible first | exact HB.out | apply wa | apply wN | apply wd) | exact HB.out)) hb); have n1_ := am (hbox); have n2_ := am ((by rw [hg]; exact (wz (by repeat (first | (with_reducible first | exact HB.out | apply wa | apply wN | apply wd) | exact HB.out))) : w.heap.size ≤ gb264)); have n3_ := am ((by rw [hg]; exact (wz (by repeat (first | (with_reducible first | exact HB.out | apply wa | apply wN | apply wd) | exact HB.out))) : w.heap.size ≤ gb264)); clear HB; have HB := n0_; have BK264 := n1_; have GW264 := n2_; have GE264 := n3_; clear n0_ n1_ n2_ n3_ hb hbox hg) | ((with_reducible refine gd (N := 4) rfl ?_); refine be ?hg (N := 4) ?hd (cs := #[.int .i64 a1_0, .int .i64 a1_1]) (t := 23) ?hr ?_; (case hd | hg => rfl); (case hr => first | (go_simp; done) | (go_simp; rfl)); intro gb265 hg w6 hbox hb; have n0_ := am (bb (g := gb264) (o := .cells #[.int .i64 a0_0, .int .i64 a0_1] 23 (0, 0)) (by (with_reducible repeat first | apply bN | apply bd | apply ba); exact BK264.out) hb); have n1_ := am (wt (by repeat (first | (with_reducible first | exact HB.out | apply wa | apply wN | apply wd | refine ws ?_ GE264.out) | exact HB.out)) hb); have n2_ := am (hbox); have n3_ := am ((by rw [hg]; exact (wz (by repeat (first | (with_reducible first | exact HB.out | apply wa | apply wN | apply wd | refine ws ?_ GE264.out) | exact HB.out))) : w.heap.size ≤ gb265)); have n4_ := am ((by rw [hg]; exact (wz (by repeat (first | (with_reducible first | exact HB.out | apply wa | apply wN | apply wd | refine ws ?_ GE264.out) | exact HB.out))) : w.heap.size ≤ gb265)); have n5_ := am ((by rw [hg]; exact Nat.ne_of_lt (bl (g := gb264) (o := .cells #[.int .i64 a0_0, .int .i64 a0_1] 23 (0, 0)) (by (with_reducible repeat first | apply bN | apply bd | apply ba); exact BK264.out)) : gb264 ≠ gb265)); have n6_ := am ((by rw [hg]; exact Nat.ne_of_gt (bl (g := gb264) (o := .cells #[.int .i64 a0_0, .int .i64 a0_1] 23 (0, 0)) (by (with_reducible repeat first | apply bN | apply bd | apply ba); exact BK264.out)) : gb265 ≠ gb264)); clear BK264 HB; have BK264 := n0_; have HB := n1_; have BK265 := n2_; have GW265 := n3_; have GE265 := n4_; have NB264_265 := n5_; have NB265_264 := n6_; clear n0_ n1_ n2_ n3_ n4_ n5_ n6_ hb hbox hg) | ((with_reducible refine gd (N := 5) rfl ?_); refine be ?hg (N := 5) ?hd (cs := #[.int .i64 a2_0, .int .i64 a2_1]) (t := 23) ?hr ?_; (case hd | hg => rfl); (case hr => first | (go_simp; done) | (go_simp; rfl)); intro gb266 hg w7 hbox hb; have n0_ := am (bb (g := gb264) (o := .cells #[.int .i64 a0_0, .int .i64 a0_1] 23 (0, 0)) (by (with_reducible repeat first | apply bN | apply bd | apply ba); exact BK264.out) hb); have n1_ := am (bb (g := gb265) (o := .cells #[.int .i64 a1_0, .int .i64 a1_1] 23 (0, 0)) (by (with_reducible repeat first | apply bN | apply bd | apply ba); exact BK265.out) hb); have n2_ := am (wt (by repeat (first | (with_reducible first | exact HB.out | apply wa | apply wN | apply wd | refine ws ?_ GE264.out | refine ws ?_ GE265.out) | exact HB.out)) hb); have n3_ := am (hbox); have n4_ := am ((by rw [hg]; exact (wz (by repeat (first | (with_reducible first | exact HB.out | apply wa | apply wN | apply wd | refine ws ?_ GE264.out | refine ws ?_ GE265.out) | exact HB.out))) : w.heap.size ≤ gb266)); have n5_ := am ((by rw [hg]; exact (wz (by repeat (first | (with_reducible first | exact HB.out | apply wa | apply wN | apply wd | refine ws ?_ GE264.out | refine ws ?_ GE265.out) | exact HB.out))) : w.heap.size ≤ gb266)); have n6_ := am ((by rw [hg]; exact Nat.ne_of_lt (bl (g := gb264) (o := .cells #[.int .i64 a0_0, .int .i64 a0_1] 23 (0, 0)) (by (with_reducible repeat first | apply bN | apply bd | apply ba); exact BK264.out)) : gb264 ≠ gb266)); have n7_ := am ((by rw [hg]; exact Nat.ne_of_gt (bl (g := gb264) (o := .cells #[.int .i64 a0_0, .int .i64 a0_1] 23 (0, 0)) (by (with_reducible repeat first | apply bN | apply bd | apply ba); exact BK264.out)) : gb266 ≠ gb264)); have n8_ := am ((by rw [hg]; exact Nat.ne_of_lt (bl (g := gb265) (o := .cells #[.int .i64 a1_0, .int .i64 a1_1] 23 (0, 0)) (by (with_reducible repeat first | apply bN | apply bd | apply ba); exact BK265.out)) : gb265 ≠ gb266)); have n9_ := am ((by rw [hg]; exact Nat.ne_of_gt (bl (g := gb265) (o := .cells #[.int .i64 a1_0, .int .i64 a1_1] 23 (0, 0)) (by (with_reducible repeat first | apply bN | apply bd | apply ba); exact BK265.out)) : gb266 ≠ gb265)); clear BK264 BK265 HB; have BK264 := n0_; have BK265 := n1_; have HB := n2_; have BK266 := n3_; have GW266 := n4_; have GE266 := n5_; have NB264_266 := n6_; have NB266_264 := n7_; have NB265_266 := n8_; have NB266_265 := n9_; clear n0_ n1_ n2_ n3_ n4_ n5_ n6_ n7_ n8_ n9_ hb hbox hg; have hnb8 := NB265_264.out; have hnc8 := NB264_265.out; have hnb9 := NB265_266.out; have hnc9 := NB266_265.out; have hcz10_0 : w7.cell? ⟨gb265, 0, none⟩ = some (.int .i64 a1_0) := (bc BK265.out 0).trans rfl; have hcz10_1 : w7.cell? ⟨gb265, 1, none⟩ = some (.int .i64 a1_1) := (bc BK265.out 1).trans rfl; have hfz10_0 := bf BK265.out 0; have hfz10_1 := bf BK265.out 1; have hnb11 := NB264_266.out; have hnc11 := NB266_264.out; have hcz12_0 : w7.cell? ⟨gb264, 0, none⟩ = some (.int .i64 a0_0) := (bc BK264.out 0).trans rfl; have hcz12_1 : w7.cell? ⟨gb264, 1, none⟩ = some (.int .i64 a0_1) := (bc BK264.out 1).trans rfl; have hfz12_0 := bf BK264.out 0; have hfz12_1 := bf BK264.out 1; have hcz13_0 : w7.cell? ⟨gb266, 0, none⟩ = some (.int .i64 a2_0) := (bc BK266.out 0).trans rfl; have hcz13_1 : w7.cell? ⟨gb266, 1, none⟩ = some (.int .i64 a2_1) := (bc BK266.out 1).trans rfl; have hfz13_0 := bf BK266.out 0; have hfz13_1 := bf BK266.out 1))
  go_ret
  exact ⟨by first | rfl | (simp [errW_none, errW_some] <;> rfl) | (simp [*, errW_none, errW_some] <;> rfl), by repeat (first | (with_reducible first | exact HB.out | apply wa | apply wN | apply wd | refine ws ?_ GE264.out | refine ws ?_ GE265.out | refine ws ?_ GE266.out) | exact HB.out)⟩
 ·rw [if_neg c4] at H
  have c4b0 : decide (0 < (wrap64 ((wrap64 ((wrap64 (a1_0 - a0_0)) * (wrap64 (a2_1 - a0_1)))) - (wrap64 ((wrap64 (a1_1 - a0_1)) * (wrap64 (a2_0 - a0_0))))))) = false := decide_eq_false c4
  clear c4
  by_cases c14 : (wrap64 ((wrap64 ((wrap64 (a1_0 - a0_0)) * (wrap64 (a2_1 - a0_1)))) - (wrap64 ((wrap64 (a1_1 - a0_1)) * (wrap64 (a2_0 - a0_0)))))) < 0
  ·rw [if_pos c14] at H
   have c14b0 : decide ((wrap64 ((wrap64 ((wrap64 (a1_0 - a0_0)) * (wrap64 (a2_1 - a0_1)))) - (wrap64 ((wrap64 (a1_1 - a0_1)) * (wrap64 (a2_0 - a0_0)))))) < 0) = true := decide_eq_true c14
   clear c14
   obtain rfl := Option.some.inj H
   go_enter Try.func14, Try.ntmps14
   go_wp2_with (first | ((with_reducible refine gd (N := 3) rfl ?_); refine be ?hg (N := 3) ?hd (cs := #[.int .i64 a0_0, .int .i64 a0_1]) (t := 23) ?hr ?_; (case hd | hg => rfl); (case hr => first | (go_simp; done) | (go_simp; rfl)); intro gb264 hg w15 hbox hb; have n0_ := am (wt (by repeat (first | (with_reducible first | exact HB.out | apply wa | apply wN | apply wd) | exact HB.out)) hb); have n1_ := am (hbox); have n2_ := am ((by rw [hg]; exact (wz (by repeat (first | (with_reducible first | exact HB.out | apply wa | apply wN | apply wd) | exact HB.out))) : w.heap.size ≤ gb264)); have n3_ := am ((by rw [hg]; exact (wz (by repeat (first | (with_reducible first | exact HB.out | apply wa | apply wN | apply wd) | exact HB.out))) : w.heap.size ≤ gb264)); clear HB; have HB := n0_; have BK264 := n1_; have GW264 := n2_; have GE264 := n3_; clear n0_ n1_ n2_ n3_ hb hbox hg) | ((with_reducible refine gd (N := 4) rfl ?_); refine be ?hg (N := 4) ?hd (cs := #[.int .i64 a1_0, .int .i64 a1_1]) (t := 23) ?hr ?_; (case hd | hg => rfl); (case hr => first | (go_simp; done) | (go_simp; rfl)); intro gb265 hg w16 hbox hb; have n0_ := am (bb (g := gb264) (o := .cells #[.int .i64 a0_0, .int .i64 a0_1] 23 (0, 0)) (by (with_reducible repeat first | apply bN | apply bd | apply ba); exact BK264.out) hb); have n1_ := am (wt (by repeat (first | (with_reducible first | exact HB.out | apply wa | apply wN | apply wd | refine ws ?_ GE264.out) | exact HB.out)) hb); have n2_ := am (hbox); have n3_ := am ((by rw [hg]; exact (wz (by repeat (first | (with_reducible first | exact HB.out | apply wa | apply wN | apply wd | refine ws ?_ GE264.out) | exact HB.out))) : w.heap.size ≤ gb265)); have n4_ := am ((by rw [hg]; exact (wz (by repeat (first | (with_reducible first | exact HB.out | apply wa | apply wN | apply wd | refine ws ?_ GE264.out) | exact HB.out))) : w.heap.size ≤ gb265)); have n5_ := am ((by rw [hg]; exact Nat.ne_of_lt (bl (g := gb264) (o := .cells #[.int .i64 a0_0, .int .i64 a0_1] 23 (0, 0)) (by (with_reducible repeat first | apply bN | apply bd | apply ba); exact BK264.out)) : gb264 ≠ gb265)); have n6_ := am ((by rw [hg]; exact Nat.ne_of_gt (bl (g := gb264) (o := .cells #[.int .i64 a0_0, .int .i64 a0_1] 23 (0, 0)) (by (with_reducible repeat first | apply bN | apply bd | apply ba); exact BK264.out)) : gb265 ≠ gb264)); clear BK264 HB; have BK264 := n0_; have HB := n1_; have BK265 := n2_; have GW265 := n3_; have GE265 := n4_; have NB264_265 := n5_; have NB265_264 := n6_; clear n0_ n1_ n2_ n3_ n4_ n5_ n6_ hb hbox hg) | ((with_reducible refine gd (N := 5) rfl ?_); refine be ?hg (N := 5) ?hd (cs := #[.int .i64 a2_0, .int .i64 a2_1]) (t := 23) ?hr ?_; (case hd | hg => rfl); (case hr => first | (go_simp; done) | (go_simp; rfl)); intro gb266 hg w17 hbox hb; have n0_ := am (bb (g := gb264) (o := .cells #[.int .i64 a0_0, .int .i64 a0_1] 23 (0, 0)) (by (with_reducible repeat first | apply bN | apply bd | apply ba); exact BK264.out) hb); have n1_ := am (bb (g := gb265) (o := .cells #[.int .i64 a1_0, .int .i64 a1_1] 23 (0, 0)) (by (with_reducible repeat first | apply bN | apply bd | apply ba); exact BK265.out) hb); have n2_ := am (wt (by repeat (first | (with_reducible first | exact HB.out | apply wa | apply wN | apply wd | refine ws ?_ GE264.out | refine ws ?_ GE265.out) | exact HB.out)) hb); have n3_ := am (hbox); have n4_ := am ((by rw [hg]; exact (wz (by repeat (first | (with_reducible first | exact HB.out | apply wa | apply wN | apply wd | refine ws ?_ GE264.out | refine ws ?_ GE265.out) | exact HB.out))) : w.heap.size ≤ gb266)); have n5_ := am ((by rw [hg]; exact (wz (by repeat (first | (with_reducible first | exact HB.out | apply wa | apply wN | apply wd | refine ws ?_ GE264.out | refine ws ?_ GE265.out) | exact HB.out))) : w.heap.size ≤ gb266)); have n6_ := am ((by rw [hg]; exact Nat.ne_of_lt (bl (g := gb264) (o := .cells #[.int .i64 a0_0, .int .i64 a0_1] 23 (0, 0)) (by (with_reducible repeat first | apply bN | apply bd | apply ba); exact BK264.out)) : gb264 ≠ gb266)); have n7_ := am ((by rw [hg]; exact Nat.ne_of_gt (bl (g := gb264) (o := .cells #[.int .i64 a0_0, .int .i64 a0_1] 23 (0, 0)) (by (with_reducible repeat first | apply bN | apply bd | apply ba); exact BK264.out)) : gb266 ≠ gb264)); have n8_ := am ((by rw [hg]; exact Nat.ne_of_lt (bl (g := gb265) (o := .cells #[.int .i64 a1_0, .int .i64 a1_1] 23 (0, 0)) (by (with_reducible repeat first | apply bN | apply bd | apply ba); exact BK265.out)) : gb265 ≠ gb266)); have n9_ := am ((by rw [hg]; exact Nat.ne_of_gt (bl (g := gb265) (o := .cells #[.int .i64 a1_0, .int .i64 a1_1] 23 (0, 0)) (by (with_reducible repeat first | apply bN | apply bd | apply ba); exact BK265.out)) : gb266 ≠ gb265)); clear BK264 BK265 HB; have BK264 := n0_; have BK265 := n1_; have HB := n2_; have BK266 := n3_; have GW266 := n4_; have GE266 := n5_; have NB264_266 := n6_; have NB266_264 := n7_; have NB265_266 := n8_; have NB266_265 := n9_; clear n0_ n1_ n2_ n3_ n4_ n5_ n6_ n7_ n8_ n9_ hb hbox hg; have hnb18 := NB265_264.out; have hnc18 := NB264_265.out; have hnb19 := NB265_266.out; have hnc19 := NB266_265.out; have hcz20_0 : w17.cell? ⟨gb265, 0, none⟩ = some (.int .i64 a1_0) := (bc BK265.out 0).trans rfl; have hcz20_1 : w17.cell? ⟨gb265, 1, none⟩ = some (.int .i64 a1_1) := (bc BK265.out 1).trans rfl; have hfz20_0 := bf BK265.out 0; have hfz20_1 := bf BK265.out 1; have hnb21 := NB264_266.out; have hnc21 := NB266_264.out; have hcz22_0 : w17.cell? ⟨gb264, 0, none⟩ = some (.int .i64 a0_0) := (bc BK264.out 0).trans rfl; have hcz22_1 : w17.cell? ⟨gb264, 1, none⟩ = some (.int .i64 a0_1) := (bc BK264.out 1).trans rfl; have hfz22_0 := bf BK264.out 0; have hfz22_1 := bf BK264.out 1; have hcz23_0 : w17.cell? ⟨gb266, 0, none⟩ = some (.int .i64 a2_0) := (bc BK266.out 0).trans rfl; have hcz23_1 : w17.cell? ⟨gb266, 1, none⟩ = some (.int .i64 a2_1) := (bc BK266.out 1).trans rfl; have hfz23_0 := bf BK266.out 0; have hfz23_1 := bf BK266.out 1))
   go_ret
   exact ⟨by first | rfl | (simp [errW_none, errW_some] <;> rfl) | (simp [*, errW_none, errW_some] <;> rfl), by repeat (first | (with_reducible first | exact HB.out | apply wa | apply wN | apply wd | refine ws ?_ GE264.out | refine ws ?_ GE265.out | refine ws ?_ GE266.out) | exact HB.out)⟩
  ·rw [if_neg c14] at H
   have c14b0 : decide ((wrap64 ((wrap64 ((wrap64 (a1_0 - a0_0)) * (wrap64 (a2_1 - a0_1)))) - (wrap64 ((wrap64 (a1_1 - a0_1)) * (wrap64 (a2_0 - a0_0)))))) < 0) = false := decide_eq_false c14
   clear c14
   obtain rfl := Option.some.inj H
   go_enter Try.func14, Try.ntmps14
   go_wp2_with (first | ((with_reducible refine gd (N := 3) rfl ?_); refine be ?hg (N := 3) ?hd (cs := #[.int .i64 a0_0, .int .i64 a0_1]) (t := 23) ?hr ?_; (case hd | hg => rfl); (case hr => first | (go_simp; done) | (go_simp; rfl)); intro gb264 hg w24 hbox hb; have n0_ := am (wt (by repeat (first | (with_reducible first | exact HB.out | apply wa | apply wN | apply wd) | exact HB.out)) hb); have n1_ := am (hbox); have n2_ := am ((by rw [hg]; exact (wz (by repeat (first | (with_reducible first | exact HB.out | apply wa | apply wN | apply wd) | exact HB.out))) : w.heap.size ≤ gb264)); have n3_ := am ((by rw [hg]; exact (wz (by repeat (first | (with_reducible first | exact HB.out | apply wa | apply wN | apply wd) | exact HB.out))) : w.heap.size ≤ gb264)); clear HB; have HB := n0_; have BK264 := n1_; have GW264 := n2_; have GE264 := n3_; clear n0_ n1_ n2_ n3_ hb hbox hg) | ((with_reducible refine gd (N := 4) rfl ?_); refine be ?hg (N := 4) ?hd (cs := #[.int .i64 a1_0, .int .i64 a1_1]) (t := 23) ?hr ?_; (case hd | hg => rfl); (case hr => first | (go_simp; done) | (go_simp; rfl)); intro gb265 hg w25 hbox hb; have n0_ := am (bb (g := gb264) (o := .cells #[.int .i64 a0_0, .int .i64 a0_1] 23 (0, 0)) (by (with_reducible repeat first | apply bN | apply bd | apply ba); exact BK264.out) hb); have n1_ := am (wt (by repeat (first | (with_reducible first | exact HB.out | apply wa | apply wN | apply wd | refine ws ?_ GE264.out) | exact HB.out)) hb); have n2_ := am (hbox); have n3_ := am ((by rw [hg]; exact (wz (by repeat (first | (with_reducible first | exact HB.out | apply wa | apply wN | apply wd | refine ws ?_ GE264.out) | exact HB.out))) : w.heap.size ≤ gb265)); have n4_ := am ((by rw [hg]; exact (wz (by repeat (first | (with_reducible first | exact HB.out | apply wa | apply wN | apply wd | refine ws ?_ GE264.out) | exact HB.out))) : w.heap.size ≤ gb265)); have n5_ := am ((by rw [hg]; exact Nat.ne_of_lt (bl (g := gb264) (o := .cells #[.int .i64 a0_0, .int .i64 a0_1] 23 (0, 0)) (by (with_reducible repeat first | apply bN | apply bd | apply ba); exact BK264.out)) : gb264 ≠ gb265)); have n6_ := am ((by rw [hg]; exact Nat.ne_of_gt (bl (g := gb264) (o := .cells #[.int .i64 a0_0, .int .i64 a0_1] 23 (0, 0)) (by (with_reducible repeat first | apply bN | apply bd | apply ba); exact BK264.out)) : gb265 ≠ gb264)); clear BK264 HB; have BK264 := n0_; have HB := n1_; have BK265 := n2_; have GW265 := n3_; have GE265 := n4_; have NB264_265 := n5_; have NB265_264 := n6_; clear n0_ n1_ n2_ n3_ n4_ n5_ n6_ hb hbox hg) | ((with_reducible refine gd (N := 5) rfl ?_); refine be ?hg (N := 5) ?hd (cs := #[.int .i64 a2_0, .int .i64 a2_1]) (t := 23) ?hr ?_; (case hd | hg => rfl); (case hr => first | (go_simp; done) | (go_simp; rfl)); intro gb266 hg w26 hbox hb; have n0_ := am (bb (g := gb264) (o := .cells #[.int .i64 a0_0, .int .i64 a0_1] 23 (0, 0)) (by (with_reducible repeat first | apply bN | apply bd | apply ba); exact BK264.out) hb); have n1_ := am (bb (g := gb265) (o := .cells #[.int .i64 a1_0, .int .i64 a1_1] 23 (0, 0)) (by (with_reducible repeat first | apply bN | apply bd | apply ba); exact BK265.out) hb); have n2_ := am (wt (by repeat (first | (with_reducible first | exact HB.out | apply wa | apply wN | apply wd | refine ws ?_ GE264.out | refine ws ?_ GE265.out) | exact HB.out)) hb); have n3_ := am (hbox); have n4_ := am ((by rw [hg]; exact (wz (by repeat (first | (with_reducible first | exact HB.out | apply wa | apply wN | apply wd | refine ws ?_ GE264.out | refine ws ?_ GE265.out) | exact HB.out))) : w.heap.size ≤ gb266)); have n5_ := am ((by rw [hg]; exact (wz (by repeat (first | (with_reducible first | exact HB.out | apply wa | apply wN | apply wd | refine ws ?_ GE264.out | refine ws ?_ GE265.out) | exact HB.out))) : w.heap.size ≤ gb266)); have n6_ := am ((by rw [hg]; exact Nat.ne_of_lt (bl (g := gb264) (o := .cells #[.int .i64 a0_0, .int .i64 a0_1] 23 (0, 0)) (by (with_reducible repeat first | apply bN | apply bd | apply ba); exact BK264.out)) : gb264 ≠ gb266)); have n7_ := am ((by rw [hg]; exact Nat.ne_of_gt (bl (g := gb264) (o := .cells #[.int .i64 a0_0, .int .i64 a0_1] 23 (0, 0)) (by (with_reducible repeat first | apply bN | apply bd | apply ba); exact BK264.out)) : gb266 ≠ gb264)); have n8_ := am ((by rw [hg]; exact Nat.ne_of_lt (bl (g := gb265) (o := .cells #[.int .i64 a1_0, .int .i64 a1_1] 23 (0, 0)) (by (with_reducible repeat first | apply bN | apply bd | apply ba); exact BK265.out)) : gb265 ≠ gb266)); have n9_ := am ((by rw [hg]; exact Nat.ne_of_gt (bl (g := gb265) (o := .cells #[.int .i64 a1_0, .int .i64 a1_1] 23 (0, 0)) (by (with_reducible repeat first | apply bN | apply bd | apply ba); exact BK265.out)) : gb266 ≠ gb265)); clear BK264 BK265 HB; have BK264 := n0_; have BK265 := n1_; have HB := n2_; have BK266 := n3_; have GW266 := n4_; have GE266 := n5_; have NB264_266 := n6_; have NB266_264 := n7_; have NB265_266 := n8_; have NB266_265 := n9_; clear n0_ n1_ n2_ n3_ n4_ n5_ n6_ n7_ n8_ n9_ hb hbox hg; have hnb27 := NB265_264.out; have hnc27 := NB264_265.out; have hnb28 := NB265_266.out; have hnc28 := NB266_265.out; have hcz29_0 : w26.cell? ⟨gb265, 0, none⟩ = some (.int .i64 a1_0) := (bc BK265.out 0).trans rfl; have hcz29_1 : w26.cell? ⟨gb265, 1, none⟩ = some (.int .i64 a1_1) := (bc BK265.out 1).trans rfl; have hfz29_0 := bf BK265.out 0; have hfz29_1 := bf BK265.out 1; have hnb30 := NB264_266.out; have hnc30 := NB266_264.out; have hcz31_0 : w26.cell? ⟨gb264, 0, none⟩ = some (.int .i64 a0_0) := (bc BK264.out 0).trans rfl; have hcz31_1 : w26.cell? ⟨gb264, 1, none⟩ = some (.int .i64 a0_1) := (bc BK264.out 1).trans rfl; have hfz31_0 := bf BK264.out 0; have hfz31_1 := bf BK264.out 1; have hcz32_0 : w26.cell? ⟨gb266, 0, none⟩ = some (.int .i64 a2_0) := (bc BK266.out 0).trans rfl; have hcz32_1 : w26.cell? ⟨gb266, 1, none⟩ = some (.int .i64 a2_1) := (bc BK266.out 1).trans rfl; have hfz32_0 := bf BK266.out 0; have hfz32_1 := bf BK266.out 1))
   go_ret
   exact ⟨by first | rfl | (simp [errW_none, errW_some] <;> rfl) | (simp [*, errW_none, errW_some] <;> rfl), by repeat (first | (with_reducible first | exact HB.out | apply wa | apply wN | apply wd | refine ws ?_ GE264.out | refine ws ?_ GE265.out | refine ws ?_ GE266.out) | exact HB.out)⟩

end Go.Proofs.Ytcembjgpcbodcaa.QA
