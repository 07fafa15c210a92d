import Derived.Test.YtcembjgpcbodcaaZQAx0
import Derived.Test.YtcembjgpcbodcaaZQAx6
import Derived.Test.YtcembjgpcbodcaaZQAx9
import Derived.Test.YtcembjgpcbodcaaZQAx10
namespace Go.Proofs.Ytcembjgpcbodcaa.QA
open Go.RowKit Go.Proofs.YtcembjgpcbodcaaW.PrintWords Go.Proofs.YtcembjgpcbodcaaW.PrintLast Go.Proofs.YtcembjgpcbodcaaW.PrintMore
open Go.Proofs.YtcembjgpcbodcaaW.PrintWords renaming blk_frozen → bf, gate_dst → gd, gate_callee → gc, box_event → be
open Aside0 renaming mk → am
attribute [local go_sem] max2_int min2_int max_two min_two max_three min_three max_four min_four
set_option linter.unusedVariables false
set_option linter.unusedSimpArgs false

def w_awake.j0 : Nat → Bool → Option (Bool)
 | 0, _ => none
 | k + 1, x0 => some x0
def w_awake.f (k : Nat)  : Option (Bool) := (w_square.f).bind fun t237 => ((polygon_Area2.f k t237).bind fun bt240 => ((w_square.f).bind fun t242 => ((polygon_Convex.f k t242).bind fun bt245 => ((w_square.f).bind fun t247 => ((polygon_Side.f k t247 5 5).bind fun bt250 => ((polygon_Hull.f k (([(⟨0, 0⟩ : S23), (⟨4, 0⟩ : S23), (⟨2, 0⟩ : S23), (⟨2, 1⟩ : S23), (⟨2, 5⟩ : S23)] : List (S23)))).bind fun bt255 => (if bt240.2 = 0 then (if bt240.1 = 200 then (if bt245.2 = 0 then (if bt245.1 = true then (if bt250.2 = 0 then (if bt250.1 = 1 then (if bt255.2 = 0 then ((r_Same.f k bt255.1 (([(⟨0, 0⟩ : S23), (⟨4, 0⟩ : S23), (⟨2, 5⟩ : S23)] : List (S23)))).bind fun t262 => (w_awake.j0 k t262)) else (w_awake.j0 k false)) else (w_awake.j0 k false)) else (w_awake.j0 k false)) else (w_awake.j0 k false)) else (w_awake.j0 k false)) else (w_awake.j0 k false)) else (w_awake.j0 k false))))))))
theorem w_awake.mono_l : ∀ k, (∀ y0, LeO (w_awake.j0 k y0) (w_awake.j0 (k + 1) y0))
 | 0 => fun _ r h => by simp [w_awake.j0] at h
 | k + 1 => by
  have ih0 := w_awake.mono_l k
  intro y0
  unfold w_awake.j0
  repeat' first
  | (with_reducible exact ih0 _)
  | (with_reducible exact r_Same.mono _ _ _)
  | (with_reducible exact polygon_Area2.mono _ _)
  | (with_reducible exact polygon_Convex.mono _ _)
  | (with_reducible exact polygon_Hull.mono _ _)
  | (with_reducible exact polygon_Side.mono _ _ _ _)
  | (with_reducible exact LeO.refl _)
  | (with_reducible exact LeO.none _)
  | (with_reducible refine LeO.ite ?_ ?_)
  | (with_reducible refine LeO.bind ?_ (fun _ => ?_))
  | exact ih0 _
  | exact r_Same.mono _ _ _
  | exact polygon_Area2.mono _ _
  | exact polygon_Convex.mono _ _
  | exact polygon_Hull.mono _ _
  | exact polygon_Side.mono _ _ _ _
  | exact LeO.none _
  | refine LeO.ite ?_ ?_
  | refine LeO.bind ?_ (fun _ => ?_)
theorem w_awake.mono : ∀ k, LeO (w_awake.f k ) (w_awake.f (k + 1) ) := by
 intro  k
 have ih0 := w_awake.mono_l k
 unfold w_awake.f
 repeat' first
   | (with_reducible exact ih0 _)
   | (with_reducible exact r_Same.mono _ _ _)
   | (with_reducible exact polygon_Area2.mono _ _)
   | (with_reducible exact polygon_Convex.mono _ _)
   | (with_reducible exact polygon_Hull.mono _ _)
   | (with_reducible exact polygon_Side.mono _ _ _ _)
   | (with_reducible exact LeO.refl _)
   | (with_reducible exact LeO.none _)
   | (with_reducible refine LeO.ite ?_ ?_)
   | (with_reducible refine LeO.bind ?_ (fun _ => ?_))
   | exact ih0 _
   | exact r_Same.mono _ _ _
   | exact polygon_Area2.mono _ _
   | exact polygon_Convex.mono _ _
   | exact polygon_Hull.mono _ _
   | exact polygon_Side.mono _ _ _ _
   | exact LeO.none _
   | refine LeO.ite ?_ ?_
   | refine LeO.bind ?_ (fun _ => ?_)
set_option maxHeartbeats 8000000 in
set_option maxRecDepth 100000 in
theorem w_awake.calls (k : Nat)  (r : Bool) (w : World) (h : w_awake.f k  = some r) :
  Calls Try.prog 11 #[] w fun e w' => e = .returned (.bool r) ∧ Below w.heap.size w w' := by
 have hu23 := Try.underlying23
 have HB := am (Below.refl w.heap.size w)
 have H : ((w_square.f).bind fun t237 => ((polygon_Area2.f k t237).bind fun bt240 => ((w_square.f).bind fun t242 => ((polygon_Convex.f k t242).bind fun bt245 => ((w_square.f).bind fun t247 => ((polygon_Side.f k t247 5 5).bind fun bt250 => ((polygon_Hull.f k (([(⟨0, 0⟩ : S23), (⟨4, 0⟩ : S23), (⟨2, 0⟩ : S23), (⟨2, 1⟩ : S23), (⟨2, 5⟩ : S23)] : List (S23)))).bind fun bt255 => (if bt240.2 = 0 then (if bt240.1 = 200 then (if bt245.2 = 0 then (if bt245.1 = true then (if bt250.2 = 0 then (if bt250.1 = 1 then (if bt255.2 = 0 then ((r_Same.f k bt255.1 (([(⟨0, 0⟩ : S23), (⟨4, 0⟩ : S23), (⟨2, 5⟩ : S23)] : List (S23)))).bind fun t262 => (w_awake.j0 k t262)) else (w_awake.j0 k false)) else (w_awake.j0 k false)) else (w_awake.j0 k false)) else (w_awake.j0 k false)) else (w_awake.j0 k false)) else (w_awake.j0 k false)) else (w_awake.j0 k false))))))))) = some r := h
 clear h
 replace H := Option.bind_eq_some_iff.mp H
 obtain ⟨t237, A10, H⟩ := H
 replace H : ((polygon_Area2.f k t237).bind fun bt240 => ((w_square.f).bind fun t242 => ((polygon_Convex.f k t242).bind fun bt245 => ((w_square.f).bind fun t247 => ((polygon_Side.f k t247 5 5).bind fun bt250 => ((polygon_Hull.f k (([(⟨0, 0⟩ : S23), (⟨4, 0⟩ : S23), (⟨2, 0⟩ : S23), (⟨2, 1⟩ : S23), (⟨2, 5⟩ : S23)] : List (S23)))).bind fun bt255 => (if bt240.2 = 0 then (if bt240.1 = 200 then (if bt245.2 = 0 then (if bt245.1 = true then (if bt250.2 = 0 then (if bt250.1 = 1 then (if bt255.2 = 0 then ((r_Same.f k bt255.1 (([(⟨0, 0⟩ : S23), (⟨4, 0⟩ : S23), (⟨2, 5⟩ : S23)] : List (S23)))).bind fun t262 => (w_awake.j0 k t262)) else (w_awake.j0 k false)) else (w_awake.j0 k false)) else (w_awake.j0 k false)) else (w_awake.j0 k false)) else (w_awake.j0 k false)) else (w_awake.j0 k false)) else (w_awake.j0 k false)))))))) = some r := H
 have A1 := am A10
 clear A10
 replace H := Option.bind_eq_some_iff.mp H
 obtain ⟨⟨t240, t241⟩, A20, H⟩ := H
 replace H : ((w_square.f).bind fun t242 => ((polygon_Convex.f k t242).bind fun bt245 => ((w_square.f).bind fun t247 => ((polygon_Side.f k t247 5 5).bind fun bt250 => ((polygon_Hull.f k (([(⟨0, 0⟩ : S23), (⟨4, 0⟩ : S23), (⟨2, 0⟩ : S23), (⟨2, 1⟩ : S23), (⟨2, 5⟩ : S23)] : List (S23)))).bind fun bt255 => (if t241 = 0 then (if t240 = 200 then (if bt245.2 = 0 then (if bt245.1 = true then (if bt250.2 = 0 then (if bt250.1 = 1 then (if bt255.2 = 0 then ((r_Same.f k bt255.1 (([(⟨0, 0⟩ : S23), (⟨4, 0⟩ : S23), (⟨2, 5⟩ : S23)] : List (S23)))).bind fun t262 => (w_awake.j0 k t262)) else (w_awake.j0 k false)) else (w_awake.j0 k false)) else (w_awake.j0 k false)) else (w_awake.j0 k false)) else (w_awake.j0 k false)) else (w_awake.j0 k false)) else (w_awake.j0 k false))))))) = some r := H
 have A2 := am A20
 clear A20
 replace H := Option.bind_eq_some_iff.mp H
 obtain ⟨t242, A30, H⟩ := H
 replace H : ((polygon_Convex.f k t242).bind fun bt245 => ((w_square.f).bind fun t247 => ((polygon_Side.f k t247 5 5).bind fun bt250 => ((polygon_Hull.f k (([(⟨0, 0⟩ : S23), (⟨4, 0⟩ : S23), (⟨2, 0⟩ : S23), (⟨2, 1⟩ : S23), (⟨2, 5⟩ : S23)] : List (S23)))).bind fun bt255 => (if t241 = 0 then (if t240 = 200 then (if bt245.2 = 0 then (if bt245.1 = true then (if bt250.2 = 0 then (if bt250.1 = 1 then (if bt255.2 = 0 then ((r_Same.f k bt255.1 (([(⟨0, 0⟩ : S23), (⟨4, 0⟩ : S23), (⟨2, 5⟩ : S23)] : List (S23)))).bind fun t262 => (w_awake.j0 k t262)) else (w_awake.j0 k false)) else (w_awake.j0 k false)) else (w_awake.j0 k false)) else (w_awake.j0 k false)) else (w_awake.j0 k false)) else (w_awake.j0 k false)) else (w_awake.j0 k false)))))) = some r := H
 have A3 := am A30
 clear A30
 replace H := Option.bind_eq_some_iff.mp H
 obtain ⟨⟨t245, t246⟩, A40, H⟩ := H
 replace H : ((w_square.f).bind fun t247 => ((polygon_Side.f k t247 5 5).bind fun bt250 => ((polygon_Hull.f k (([(⟨0, 0⟩ : S23), (⟨4, 0⟩ : S23), (⟨2, 0⟩ : S23), (⟨2, 1⟩ : S23), (⟨2, 5⟩ : S23)] : List (S23)))).bind fun bt255 => (if t241 = 0 then (if t240 = 200 then (if t246 = 0 then (if t245 = true then (if bt250.2 = 0 then (if bt250.1 = 1 then (if bt255.2 = 0 then ((r_Same.f k bt255.1 (([(⟨0, 0⟩ : S23), (⟨4, 0⟩ : S23), (⟨2, 5⟩ : S23)] : List (S23)))).bind fun t262 => (w_awake.j0 k t262)) else (w_awake.j0 k false)) else (w_awake.j0 k false)) else (w_awake.j0 k false)) else (w_awake.j0 k false)) else (w_awake.j0 k false)) else (w_awake.j0 k false)) else (w_awake.j0 k false))))) = some r := H
 have A4 := am A40
 clear A40
 replace H := Option.bind_eq_some_iff.mp H
 obtain ⟨t247, A50, H⟩ := H
 replace H : ((polygon_Side.f k t247 5 5).bind fun bt250 => ((polygon_Hull.f k (([(⟨0, 0⟩ : S23), (⟨4, 0⟩ : S23), (⟨2, 0⟩ : S23), (⟨2, 1⟩ : S23), (⟨2, 5⟩ : S23)] : List (S23)))).bind fun bt255 => (if t241 = 0 then (if t240 = 200 then (if t246 = 0 then (if t245 = true then (if bt250.2 = 0 then (if bt250.1 = 1 then (if bt255.2 = 0 then ((r_Same.f k bt255.1 (([(⟨0, 0⟩ : S23), (⟨4, 0⟩ : S23), (⟨2, 5⟩ : S23)] : List (S23)))).bind fun t262 => (w_awake.j0 k t262)) else (w_awake.j0 k false)) else (w_awake.j0 k false)) else (w_awake.j0 k false)) else (w_awake.j0 k false)) else (w_awake.j0 k false)) else (w_awake.j0 k false)) else (w_awake.j0 k false)))) = some r := H
 have A5 := am A50
 clear A50
 replace H := Option.bind_eq_some_iff.mp H
 obtain ⟨⟨t250, t251⟩, A60, H⟩ := H
 replace H : ((polygon_Hull.f k (([(⟨0, 0⟩ : S23), (⟨4, 0⟩ : S23), (⟨2, 0⟩ : S23), (⟨2, 1⟩ : S23), (⟨2, 5⟩ : S23)] : List (S23)))).bind fun bt255 => (if t241 = 0 then (if t240 = 200 then (if t246 = 0 then (if t245 = true then (if t251 = 0 then (if t250 = 1 then (if bt255.2 = 0 then ((r_Same.f k bt255.1 (([(⟨0, 0⟩ : S23), (⟨4, 0⟩ : S23), (⟨2, 5⟩ : S23)] : List (S23)))).bind fun t262 => (w_awake.j0 k t262)) else (w_awake.j0 k false)) else (w_awake.j0 k false)) else (w_awake.j0 k false)) else (w_awake.j0 k false)) else (w_awake.j0 k false)) else (w_awake.j0 k false)) else (w_awake.j0 k false))) = some r := H
 have A6 := am A60
 clear A60
 obtain ⟨y252, hy252⟩ : ∃ y_ : List (S23), y_ = (([(⟨0, 0⟩ : S23), (⟨4, 0⟩ : S23), (⟨2, 0⟩ : S23), (⟨2, 1⟩ : S23), (⟨2, 5⟩ : S23)] : List (S23))) := ⟨_, rfl⟩
 replace H : ((polygon_Hull.f k y252).bind fun bt255 => (if t241 = 0 then (if t240 = 200 then (if t246 = 0 then (if t245 = true then (if t251 = 0 then (if t250 = 1 then (if bt255.2 = 0 then ((r_Same.f k bt255.1 (([(⟨0, 0⟩ : S23), (⟨4, 0⟩ : S23), (⟨2, 5⟩ : S23)] : List (S23)))).bind fun t262 => (w_awake.j0 k t262)) else (w_awake.j0 k false)) else (w_awake.j0 k false)) else (w_awake.j0 k false)) else (w_awake.j0 k false)) else (w_awake.j0 k false)) else (w_awake.j0 k false)) else (w_awake.j0 k false))) = some r := by first | (rw [hy252]; with_reducible exact H) | (have H2_ := (Option.bind_some _ _).symm.trans H; rw [hy252]; with_reducible exact H2_) | (have H2_ := (Option.bind_some _ _).symm.trans H; with_reducible exact H2_) | with_reducible exact H | (rw [hy252]; exact H) | exact H
 have Ny252 := am hy252
 clear hy252
 replace H := Option.bind_eq_some_iff.mp H
 obtain ⟨⟨t255, t256⟩, A70, H⟩ := H
 replace H : (if t241 = 0 then (if t240 = 200 then (if t246 = 0 then (if t245 = true then (if t251 = 0 then (if t250 = 1 then (if t256 = 0 then ((r_Same.f k t255 (([(⟨0, 0⟩ : S23), (⟨4, 0⟩ : S23), (⟨2, 5⟩ : S23)] : List (S23)))).bind fun t262 => (w_awake.j0 k t262)) else (w_awake.j0 k false)) else (w_awake.j0 k false)) else (w_awake.j0 k false)) else (w_awake.j0 k false)) else (w_awake.j0 k false)) else (w_awake.j0 k false)) else (w_awake.j0 k false)) = some r := H
 have A7 := am A70
 clear A70
 have HC8 := am H
 clear H
 go_enter Try.func11, Try.ntmps11
 go_upto_region 5 with (first | ((with_reducible refine gc (f := 36) rfl ?_); refine goesL_ (some 10) rfl rfl Try.func36 (by kernel_rfl) rfl #[] rfl (by (try simp only [pml]); first | done | rfl | (simp only [pdt]; rfl)) ?_; (with_reducible refine (w_square.calls  t237 _ A1.out).mono ?_); rintro e w9 ⟨v238, rfl, ho0, hb⟩; refine ⟨_, rfl, ?_⟩; have HO239 := am (Kd.R_lower ho0 (below_size (fW HB.out))); replace HB := bS HB hb; (try clear hb); (try clear hb2); (try clear hk); (try clear hi); (try clear ho0); obtain ⟨Ao10, co10, eo10⟩ := Kd.R_slice HO239.out; subst eo10) | ((with_reducible refine gc (f := 25) rfl ?_); refine goesL_ (some 11) rfl rfl Try.func25 (by kernel_rfl) rfl #[.slice Ao10 t237.length co10] rfl (by (try simp only [pml]); first | done | rfl | (simp only [pdt]; rfl)) ?_; (with_reducible refine (polygon_Area2.calls k _ _ t237 t240 t241 _ ?side1 ?side2 A2.out).mono ?_); (case side1 => repeat (first | exact (Kd.R_reads' HO239.out).2.2 | (with_reducible refine Kd.C_alloc ?_ _) | (with_reducible refine Kd.C_drewN ?_ _) | (with_reducible refine Kd.C_drew ?_))); (case side2 => exact (Kd.R_reads' HO239.out).2.1); rintro e w11 ⟨rfl, hb⟩; refine ⟨_, rfl, ?_⟩; replace HO239 := dR HO239 hb; replace HB := bS HB hb; (try clear hb); (try clear hb2); (try clear hk); (try clear hi)) | ((with_reducible refine gc (f := 36) rfl ?_); refine goesL_ (some 15) rfl rfl Try.func36 (by kernel_rfl) rfl #[] rfl (by (try simp only [pml]); first | done | rfl | (simp only [pdt]; rfl)) ?_; (with_reducible refine (w_square.calls  t242 _ A3.out).mono ?_); rintro e w12 ⟨v243, rfl, ho0, hb⟩; refine ⟨_, rfl, ?_⟩; have HO244 := am (Kd.R_lower (Kd.R_new' ho0 (Kd.R_lt (fR HO239.out))) (below_size (fW HB.out))); replace HO239 := am (Kd.R_elder' (fR HO239.out) (Kd.R_base ho0) hb); replace HB := bS HB hb; (try clear hb); (try clear hb2); (try clear hk); (try clear hi); (try clear ho0); obtain ⟨Ao13, co13, eo13⟩ := Kd.R_slice HO244.out; subst eo13) | ((with_reducible refine gc (f := 24) rfl ?_); refine goesL_ (some 16) rfl rfl Try.func24 (by kernel_rfl) rfl #[.slice Ao13 t242.length co13] rfl (by (try simp only [pml]); first | done | rfl | (simp only [pdt]; rfl)) ?_; (with_reducible refine (polygon_Convex.calls k _ _ t242 t245 t246 _ ?side1 ?side2 A4.out).mono ?_); (case side1 => repeat (first | exact (Kd.R_reads' HO244.out).2.2 | (with_reducible refine Kd.C_alloc ?_ _) | (with_reducible refine Kd.C_drewN ?_ _) | (with_reducible refine Kd.C_drew ?_))); (case side2 => exact (Kd.R_reads' HO244.out).2.1); rintro e w14 ⟨rfl, hb⟩; refine ⟨_, rfl, ?_⟩; replace HO239 := dR HO239 hb; replace HO244 := dR HO244 hb; replace HB := bS HB hb; (try clear hb); (try clear hb2); (try clear hk); (try clear hi)) | ((with_reducible refine gc (f := 36) rfl ?_); refine goesL_ (some 20) rfl rfl Try.func36 (by kernel_rfl) rfl #[] rfl (by (try simp only [pml]); first | done | rfl | (simp only [pdt]; rfl)) ?_; (with_reducible refine (w_square.calls  t247 _ A5.out).mono ?_); rintro e w15 ⟨v248, rfl, ho0, hb⟩; refine ⟨_, rfl, ?_⟩; have HO249 := am (Kd.R_lower (Kd.R_new' (Kd.R_new' ho0 (Kd.R_lt (fR HO239.out))) (Kd.R_lt (fR HO244.out))) (below_size (fW HB.out))); replace HO239 := am (Kd.R_elder' (fR HO239.out) (Kd.R_base ho0) hb); replace HO244 := am (Kd.R_elder' (fR HO244.out) (Kd.R_base ho0) hb); replace HB := bS HB hb; (try clear hb); (try clear hb2); (try clear hk); (try clear hi); (try clear ho0); obtain ⟨Ao16, co16, eo16⟩ := Kd.R_slice HO249.out; subst eo16) | ((with_reducible refine gc (f := 16) rfl ?_); refine goesL_ (some 22) rfl rfl Try.func16 (by kernel_rfl) rfl #[.slice Ao16 t247.length co16, .agg #[.int .i64 5, .int .i64 5]] rfl (by (try simp only [pml]); first | done | rfl | (simp only [pdt]; rfl)) ?_; (with_reducible refine (polygon_Side.calls k _ _ t247 5 5 t250 t251 _ ?side1 ?side2 A6.out).mono ?_); (case side1 => repeat (first | exact (Kd.R_reads' HO249.out).2.2 | (with_reducible refine Kd.C_alloc ?_ _) | (with_reducible refine Kd.C_drewN ?_ _) | (with_reducible refine Kd.C_drew ?_))); (case side2 => exact (Kd.R_reads' HO249.out).2.1); rintro e w17 ⟨rfl, hb⟩; refine ⟨_, rfl, ?_⟩; replace HO239 := dR HO239 hb; replace HO244 := dR HO244 hb; replace HO249 := dR HO249 hb; replace HB := bS HB hb; (try clear hb); (try clear hb2); (try clear hk); (try clear hi)) | ((with_reducible refine gd (N := 31) rfl ?_); (try (refine gate_guard (by rfl) ?_; dsimp only)); refine Kd.R_lit k23 _ 23 ?hg (N := 31) ?hd (xs := ([(⟨0, 0⟩ : S23), (⟨4, 0⟩ : S23), (⟨2, 0⟩ : S23), (⟨2, 1⟩ : S23), (⟨2, 5⟩ : S23)] : List (S23))) (inner := [.int .i64 0, .int .i64 0, .int .i64 4, .int .i64 0, .int .i64 2, .int .i64 0, .int .i64 2, .int .i64 1, .int .i64 2, .int .i64 5]) (ok := fun _ => True) (okp := fun _ => True) ?hr ?hp (fun _ hk => hk) trivial (Below.refl _ _) (Nat.le_refl _) (by simp) ?_; (case hd | hg => rfl); (case hr => first | (go_simp; done) | (go_simp; rfl)); (case hp => exact (Reps.c2 (show Kd.M k23 _ _ _ (⟨0, 0⟩ : S23) [.int .i64 0, .int .i64 0] from (k23_mkM _ _ _ (⟨0, 0⟩ : S23) )) (Reps.c2 (show Kd.M k23 _ _ _ (⟨4, 0⟩ : S23) [.int .i64 4, .int .i64 0] from (k23_mkM _ _ _ (⟨4, 0⟩ : S23) )) (Reps.c2 (show Kd.M k23 _ _ _ (⟨2, 0⟩ : S23) [.int .i64 2, .int .i64 0] from (k23_mkM _ _ _ (⟨2, 0⟩ : S23) )) (Reps.c2 (show Kd.M k23 _ _ _ (⟨2, 1⟩ : S23) [.int .i64 2, .int .i64 1] from (k23_mkM _ _ _ (⟨2, 1⟩ : S23) )) (Reps.c2 (show Kd.M k23 _ _ _ (⟨2, 5⟩ : S23) [.int .i64 2, .int .i64 5] from (k23_mkM _ _ _ (⟨2, 5⟩ : S23) )) (Reps.none _ _))))))); intro v253 w18 ho19 hb hg_ hnew_; clear hg_ hnew_; (first | rw [← Ny252.out] at ho19 | (simp only [Int.reduceToNat] at ho19; rw [← Ny252.out] at ho19)); have HO254 := am (Kd.R_lower (Kd.R_new' (Kd.R_new' (Kd.R_new' ho19 (Kd.R_lt (fR HO239.out))) (Kd.R_lt (fR HO244.out))) (Kd.R_lt (fR HO249.out))) (below_size (fW HB.out))); replace HO239 := am (Kd.R_elder' (fR HO239.out) (Kd.R_base ho19) hb); replace HO244 := am (Kd.R_elder' (fR HO244.out) (Kd.R_base ho19) hb); replace HO249 := am (Kd.R_elder' (fR HO249.out) (Kd.R_base ho19) hb); replace HB := bS HB hb; clear hb ho19; obtain ⟨Ao20, co20, eo20⟩ := Kd.R_slice HO254.out; subst eo20) | ((with_reducible refine gc (f := 20) rfl ?_); refine goesL_ (some 32) rfl rfl Try.func20 (by kernel_rfl) rfl #[.slice Ao20 y252.length co20] rfl (by (try simp only [pml]); first | done | rfl | (simp only [pdt]; rfl)) ?_; (with_reducible refine (polygon_Hull.calls k _ _ y252 t255 t256 _ ?side1 ?side2 A7.out).mono ?_); (case side1 => repeat (first | exact (Kd.R_reads' HO254.out).2.2 | (with_reducible refine Kd.C_alloc ?_ _) | (with_reducible refine Kd.C_drewN ?_ _) | (with_reducible refine Kd.C_drew ?_))); (case side2 => exact (Kd.R_reads' HO254.out).2.1); rintro e w21 ⟨v257, rfl, ho0, hb⟩; refine ⟨_, rfl, ?_⟩; have HO258 := am (Kd.R_lower (Kd.R_new' (Kd.R_new' (Kd.R_new' (Kd.R_new' ho0 (Kd.R_lt (fR HO239.out))) (Kd.R_lt (fR HO244.out))) (Kd.R_lt (fR HO249.out))) (Kd.R_lt (fR HO254.out))) (below_size (fW HB.out))); replace HO239 := am (Kd.R_elder' (fR HO239.out) (Kd.R_base ho0) hb); replace HO244 := am (Kd.R_elder' (fR HO244.out) (Kd.R_base ho0) hb); replace HO249 := am (Kd.R_elder' (fR HO249.out) (Kd.R_base ho0) hb); replace HO254 := am (Kd.R_elder' (fR HO254.out) (Kd.R_base ho0) hb); replace HB := bS HB hb; (try clear hb); (try clear hb2); (try clear hk); (try clear hi); (try clear ho0)))
 (try simp only [Act.put, psl])
 go_cut [0] (fun v0 wc => ∃ (kq : Nat) (x0_7 : Bool), v0 = .bool x0_7 ∧ Aside0 (w_awake.j0 kq x0_7 = some r) ∧ Aside0 (kq ≤ k) ∧ Aside0 (Below w.heap.size w wc))
 case first =>
  have H := HC8.out
  clear HC8
  by_cases c22 : t241 = 0
  rotate_left
  ·rw [if_neg c22] at H
   have c22b0 : (t241 == 0) = false := beq_eq_false_iff_ne.mpr c22
   have c22b1 : (t241 != 0) = true := bne_iff_ne.mpr c22
   (first | rw [c22b0] | (simp only [i64_w, i32_w]; rw [c22b0]) | skip)
   have H' := am H
   clear H
   go_wp2
   go_meet
   case rel => exact ⟨_, (false), sqD, H', ⟨by first | omega | exact Nat.le_refl _⟩, ⟨fW HB.out⟩⟩
  rw [if_pos c22] at H
  have c22b0 : (t241 == 0) = true := beq_iff_eq.mpr c22
  have c22b1 : (t241 != 0) = false := bne_eq_false_iff_eq.mpr c22
  clear c22
  (first | rw [c22b0] | (simp only [i64_w, i32_w]; rw [c22b0]) | skip)
  by_cases c23 : t240 = 200
  rotate_left
  ·rw [if_neg c23] at H
   have c23b0 : (t240 == 200) = false := beq_eq_false_iff_ne.mpr c23
   have c23b1 : (t240 != 200) = true := bne_iff_ne.mpr c23
   have H' := am H
   clear H
   go_wp2
   go_meet
   case rel => exact ⟨_, (false), sqD, H', ⟨by first | omega | exact Nat.le_refl _⟩, ⟨fW HB.out⟩⟩
  rw [if_pos c23] at H
  have c23b0 : (t240 == 200) = true := beq_iff_eq.mpr c23
  have c23b1 : (t240 != 200) = false := bne_eq_false_iff_eq.mpr c23
  clear c23
  by_cases c24 : t246 = 0
  rotate_left
  ·rw [if_neg c24] at H
   have c24b0 : (t246 == 0) = false := beq_eq_false_iff_ne.mpr c24
   have c24b1 : (t246 != 0) = true := bne_iff_ne.mpr c24
   have H' := am H
   clear H
   go_wp2
   go_meet
   case rel => exact ⟨_, (false), sqD, H', ⟨by first | omega | exact Nat.le_refl _⟩, ⟨fW HB.out⟩⟩
  rw [if_pos c24] at H
  have c24b0 : (t246 == 0) = true := beq_iff_eq.mpr c24
  have c24b1 : (t246 != 0) = false := bne_eq_false_iff_eq.mpr c24
  clear c24
  by_cases c25 : t245 = true
  rotate_left
  ·replace c25 := Bool.eq_false_iff.mpr c25
   subst c25
   have H1 : (w_awake.j0 k false) = some r := by rw [if_neg (show ¬ (false = true) by decide)] at H; exact H
   clear H
   have H := H1
   clear H1
   have H' := am H
   clear H
   go_wp2
   go_meet
   case rel => exact ⟨_, (false), sqD, H', ⟨by first | omega | exact Nat.le_refl _⟩, ⟨fW HB.out⟩⟩
  subst c25
  have H1 : (if t251 = 0 then (if t250 = 1 then (if t256 = 0 then ((r_Same.f k t255 (([(⟨0, 0⟩ : S23), (⟨4, 0⟩ : S23), (⟨2, 5⟩ : S23)] : List (S23)))).bind fun t262 => (w_awake.j0 k t262)) else (w_awake.j0 k false)) else (w_awake.j0 k false)) else (w_awake.j0 k false)) = some r := by rw [if_pos rfl] at H; exact H
  clear H
  have H := H1
  clear H1
  by_cases c26 : t251 = 0
  rotate_left
  ·rw [if_neg c26] at H
   have c26b0 : (t251 == 0) = false := beq_eq_false_iff_ne.mpr c26
   have c26b1 : (t251 != 0) = true := bne_iff_ne.mpr c26
   have H' := am H
   clear H
   go_wp2
   go_meet
   case rel => exact ⟨_, (false), sqD, H', ⟨by first | omega | exact Nat.le_refl _⟩, ⟨fW HB.out⟩⟩
  rw [if_pos c26] at H
  have c26b0 : (t251 == 0) = true := beq_iff_eq.mpr c26
  have c26b1 : (t251 != 0) = false := bne_eq_false_iff_eq.mpr c26
  clear c26
  by_cases c27 : t250 = 1
  rotate_left
  ·rw [if_neg c27] at H
   have c27b0 : (t250 == 1) = false := beq_eq_false_iff_ne.mpr c27
   have c27b1 : (t250 != 1) = true := bne_iff_ne.mpr c27
   have H' := am H
   clear H
   go_wp2
   go_meet
   case rel => exact ⟨_, (false), sqD, H', ⟨by first | omega | exact Nat.le_refl _⟩, ⟨fW HB.out⟩⟩
  rw [if_pos c27] at H
  have c27b0 : (t250 == 1) = true := beq_iff_eq.mpr c27
  have c27b1 : (t250 != 1) = false := bne_eq_false_iff_eq.mpr c27
  clear c27
  by_cases c28 : t256 = 0
  ·rw [if_pos c28] at H
   have c28b0 : (t256 == 0) = true := beq_iff_eq.mpr c28
   have c28b1 : (t256 != 0) = false := bne_eq_false_iff_eq.mpr c28
   clear c28
   obtain ⟨y259, hy259⟩ : ∃ y_ : List (S23), y_ = (([(⟨0, 0⟩ : S23), (⟨4, 0⟩ : S23), (⟨2, 5⟩ : S23)] : List (S23))) := ⟨_, rfl⟩
   replace H : ((r_Same.f k t255 y259).bind fun t262 => (w_awake.j0 k t262)) = some r := by first | (rw [hy259]; with_reducible exact H) | (have H2_ := (Option.bind_some _ _).symm.trans H; rw [hy259]; with_reducible exact H2_) | (have H2_ := (Option.bind_some _ _).symm.trans H; with_reducible exact H2_) | with_reducible exact H | (rw [hy259]; exact H) | exact H
   have Ny259 := am hy259
   clear hy259
   replace H := Option.bind_eq_some_iff.mp H
   obtain ⟨t262, A290, H⟩ := H
   replace H : (w_awake.j0 k t262) = some r := H
   have A29 := am A290
   clear A290
   have H' := am H
   clear H
   go_wp2_with (first | ((with_reducible refine gd (N := 65) rfl ?_); (try (refine gate_guard (by rfl) ?_; dsimp only)); refine Kd.R_lit k23 _ 23 ?hg (N := 65) ?hd (xs := ([(⟨0, 0⟩ : S23), (⟨4, 0⟩ : S23), (⟨2, 5⟩ : S23)] : List (S23))) (inner := [.int .i64 0, .int .i64 0, .int .i64 4, .int .i64 0, .int .i64 2, .int .i64 5]) (ok := fun _ => True) (okp := fun _ => True) ?hr ?hp (fun _ hk => hk) trivial (Below.refl _ _) (Nat.le_refl _) (by simp) ?_; (case hd | hg => rfl); (case hr => first | (go_simp; done) | (go_simp; rfl)); (case hp => exact (Reps.c2 (show Kd.M k23 _ _ _ (⟨0, 0⟩ : S23) [.int .i64 0, .int .i64 0] from (k23_mkM _ _ _ (⟨0, 0⟩ : S23) )) (Reps.c2 (show Kd.M k23 _ _ _ (⟨4, 0⟩ : S23) [.int .i64 4, .int .i64 0] from (k23_mkM _ _ _ (⟨4, 0⟩ : S23) )) (Reps.c2 (show Kd.M k23 _ _ _ (⟨2, 5⟩ : S23) [.int .i64 2, .int .i64 5] from (k23_mkM _ _ _ (⟨2, 5⟩ : S23) )) (Reps.none _ _))))); intro v260 w30 ho31 hb hg_ hnew_; clear hg_ hnew_; (first | rw [← Ny259.out] at ho31 | (simp only [Int.reduceToNat] at ho31; rw [← Ny259.out] at ho31)); have HO261 := am (Kd.R_lower (Kd.R_new' (Kd.R_new' (Kd.R_new' (Kd.R_new' (Kd.R_new' ho31 (Kd.R_lt (fR HO239.out))) (Kd.R_lt (fR HO244.out))) (Kd.R_lt (fR HO249.out))) (Kd.R_lt (fR HO254.out))) (Kd.R_lt (fR HO258.out))) (below_size (fW HB.out))); replace HO239 := am (Kd.R_elder' (fR HO239.out) (Kd.R_base ho31) hb); replace HO244 := am (Kd.R_elder' (fR HO244.out) (Kd.R_base ho31) hb); replace HO249 := am (Kd.R_elder' (fR HO249.out) (Kd.R_base ho31) hb); replace HO254 := am (Kd.R_elder' (fR HO254.out) (Kd.R_base ho31) hb); replace HO258 := am (Kd.R_elder' (fR HO258.out) (Kd.R_base ho31) hb); replace HB := bS HB hb; clear hb ho31; obtain ⟨Ao32, co32, eo32⟩ := Kd.R_slice HO258.out; subst eo32; obtain ⟨Ao33, co33, eo33⟩ := Kd.R_slice HO261.out; subst eo33) | (go_at_call 22; (with_reducible refine (r_Same.calls k _ _ t255 _ _ y259 t262 _ ?side1 ?side2 ?side3 ?side4 A29.out).mono ?_); (case side1 => repeat (first | exact (Kd.R_reads' HO258.out).2.2 | (with_reducible refine Kd.C_alloc ?_ _) | (with_reducible refine Kd.C_drewN ?_ _) | (with_reducible refine Kd.C_drew ?_))); (case side2 => exact (Kd.R_reads' HO258.out).2.1); (case side3 => repeat (first | exact (Kd.R_reads' HO261.out).2.2 | (with_reducible refine Kd.C_alloc ?_ _) | (with_reducible refine Kd.C_drewN ?_ _) | (with_reducible refine Kd.C_drew ?_))); (case side4 => exact (Kd.R_reads' HO261.out).2.1); rintro e w' ⟨rfl, ⟨nd, rfl⟩⟩))
   go_meet
   case rel => exact ⟨_, (t262), sqD, H', ⟨by first | omega | exact Nat.le_refl _⟩, ⟨fW HB.out⟩⟩
  rw [if_neg c28] at H
  have c28b0 : (t256 == 0) = false := beq_eq_false_iff_ne.mpr c28
  have c28b1 : (t256 != 0) = true := bne_iff_ne.mpr c28
  have H' := am H
  clear H
  go_wp2
  go_meet
  case rel => exact ⟨_, (false), sqD, H', ⟨by first | omega | exact Nat.le_refl _⟩, ⟨fW HB.out⟩⟩
 case rest =>
  clear HC8
  try clear c1;try clear c2;try clear p2;try clear c3;try clear c11;try clear c16;try clear c20;try clear c22;try clear c22b0;try clear c22b1;try clear c23;try clear c23b0;try clear c23b1;try clear c24;try clear c24b0;try clear c24b1;try clear c25;try clear c26;try clear c26b0;try clear c26b1;try clear c27;try clear c27b0;try clear c27b1;try clear c28;try clear c28b0;try clear c28b1
  obtain ⟨kq, x0_7, rfl, HA, HJ7, HB⟩ := hcut
  cases kq with
  | zero => exact absurd HA.out (by simp [w_awake.j0])
  | succ kj7 =>
   have H := HA.out
   clear HA
   simp only [w_awake.j0] at H
   obtain rfl := Option.some.inj H
   go_wp2
   go_ret
   exact ⟨sqE, fW HB.out⟩

def r_Allowed.j0 : Nat → Bool → Option (Bool)
 | 0, _ => none
 | k + 1, x2 => some x2
def r_Allowed.f (k : Nat) (a0_0 : Int) (a0_1 : Int) : Option (Bool) := if a0_0 ≥ (-1000000) then (if a0_0 ≤ 1000000 then (if a0_1 ≥ (-1000000) then (r_Allowed.j0 k (decide (a0_1 ≤ 1000000))) else (r_Allowed.j0 k false)) else (r_Allowed.j0 k false)) else (r_Allowed.j0 k false)
set_option maxHeartbeats 8000000 in
set_option maxRecDepth 100000 in
theorem r_Allowed.calls (k : Nat) (a0_0 : Int) (a0_1 : Int) (r : Bool) (w : World) (h : r_Allowed.f k a0_0 a0_1 = some r) :
  Calls Try.prog 12 #[.agg #[.int .i64 a0_0, .int .i64 a0_1]] w fun e w' => e = .returned (.bool r) ∧ Below w.heap.size w w' := by
 have hu23 := Try.underlying23
 have HB := am (Below.refl w.heap.size w)
 have H : (if a0_0 ≥ (-1000000) then (if a0_0 ≤ 1000000 then (if a0_1 ≥ (-1000000) then (r_Allowed.j0 k (decide (a0_1 ≤ 1000000))) else (r_Allowed.j0 k false)) else (r_Allowed.j0 k false)) else (r_Allowed.j0 k false)) = some r := h
 clear h
 have HC2 := am H
 clear H
 go_enter Try.func12, Try.ntmps12
 go_upto_region 1 with (first | ((with_reducible refine gd (N := 1) rfl ?_); refine be ?hg (N := 1) ?hd (cs := #[.int .i64 a0_0, .int .i64 a0_1]) (t := 23) ?hr ?_; (case hd | hg => rfl); (case hr => first | (go_simp; done) | (go_simp; rfl)); intro gb263 hg w3 hbox hb; have BK263 := am hbox; have GW263 := sG HB hg; have GE263 := sG HB hg; replace HB := bS HB hb; clear hb hbox hg))
 (try simp only [Act.put, psl])
 go_cut [2] (fun v2 wc => ∃ (kq : Nat) (x2_1 : Bool), v2 = .bool x2_1 ∧ Aside0 (r_Allowed.j0 kq x2_1 = some r) ∧ Aside0 (kq ≤ k) ∧ Aside0 (wc.heap[gb263]? = some (.cells #[.int .i64 a0_0, .int .i64 a0_1] 23 (0, 0))) ∧ Aside0 (Below w.heap.size w wc))
 case first =>
  have H := HC2.out
  clear HC2
  by_cases c4 : a0_0 ≥ (-1000000)
  rotate_left
  ·rw [if_neg c4] at H
   have c4b0 : decide ((-1000000) ≤ a0_0) = false := decide_eq_false c4
   clear c4
   (first | rw [c4b0] | (simp only [i64_w, i32_w]; rw [c4b0]) | skip)
   have H' := am H
   clear H
   have := yC1 BK263
   have := kC1 BK263
   have := bf BK263.out 0
   have := bf BK263.out 1
   go_wp2
   go_meet
   case rel => exact ⟨_, (false), sqD, H', ⟨by first | omega | exact Nat.le_refl _⟩, ⟨fb BK263.out⟩, ⟨fW HB.out⟩⟩
  rw [if_pos c4] at H
  have c4b0 : decide ((-1000000) ≤ a0_0) = true := decide_eq_true c4
  clear c4
  (first | rw [c4b0] | (simp only [i64_w, i32_w]; rw [c4b0]) | skip)
  by_cases c5 : a0_0 ≤ 1000000
  rotate_left
  ·rw [if_neg c5] at H
   have c5b0 : decide (a0_0 ≤ 1000000) = false := decide_eq_false c5
   clear c5
   have H' := am H
   clear H
   have := yC1 BK263
   have := kC1 BK263
   have := bf BK263.out 0
   have := bf BK263.out 1
   go_wp2
   go_meet
   case rel => exact ⟨_, (false), sqD, H', ⟨by first | omega | exact Nat.le_refl _⟩, ⟨fb BK263.out⟩, ⟨fW HB.out⟩⟩
  rw [if_pos c5] at H
  have c5b0 : decide (a0_0 ≤ 1000000) = true := decide_eq_true c5
  clear c5
  by_cases c6 : a0_1 ≥ (-1000000)
  ·rw [if_pos c6] at H
   have c6b0 : decide ((-1000000) ≤ a0_1) = true := decide_eq_true c6
   clear c6
   have H' := am H
   clear H
   have := yC1 BK263
   have := kC1 BK263
   have := bf BK263.out 0
   have := bf BK263.out 1
   go_wp2
   go_meet
   case rel => exact ⟨_, (decide (a0_1 ≤ 1000000)), sqD, H', ⟨by first | omega | exact Nat.le_refl _⟩, ⟨fb BK263.out⟩, ⟨fW HB.out⟩⟩
  rw [if_neg c6] at H
  have c6b0 : decide ((-1000000) ≤ a0_1) = false := decide_eq_false c6
  clear c6
  have H' := am H
  clear H
  have := yC1 BK263
  have := kC1 BK263
  have := bf BK263.out 0
  have := bf BK263.out 1
  go_wp2
  go_meet
  case rel => exact ⟨_, (false), sqD, H', ⟨by first | omega | exact Nat.le_refl _⟩, ⟨fb BK263.out⟩, ⟨fW HB.out⟩⟩
 case rest =>
  clear HC2
  try clear c1;try clear p2;try clear c4;try clear c4b0;try clear c5;try clear c5b0;try clear c6;try clear c6b0
  obtain ⟨kq, x2_1, rfl, HA, HJ1, BK263, HB⟩ := hcut
  cases kq with
  | zero => exact absurd HA.out (by simp [r_Allowed.j0])
  | succ kj1 =>
   have H := HA.out
   clear HA
   simp only [r_Allowed.j0] at H
   obtain rfl := Option.some.inj H
   go_wp2
   go_ret
   exact ⟨sqE, fW HB.out⟩

def r_Orient.f (a0_0 : Int) (a0_1 : Int) (a1_0 : Int) (a1_1 : Int) (a2_0 : Int) (a2_1 : Int) : Option (Int) := if (wrap64 ((wrap64 ((wrap64 (a1_0 - a0_0)) * (wrap64 (a2_1 - a0_1)))) - (wrap64 ((wrap64 (a1_1 - a0_1)) * (wrap64 (a2_0 - a0_0)))))) > 0 then (some 1) else (if (wrap64 ((wrap64 ((wrap64 (a1_0 - a0_0)) * (wrap64 (a2_1 - a0_1)))) - (wrap64 ((wrap64 (a1_1 - a0_1)) * (wrap64 (a2_0 - a0_0)))))) < 0 then (some (-1)) else (some 0))
set_option maxHeartbeats 8000000 in
set_option maxRecDepth 100000 in
theorem r_Orient.calls (a0_0 : Int) (a0_1 : Int) (a1_0 : Int) (a1_1 : Int) (a2_0 : Int) (a2_1 : Int) (r : Int) (w : World) (h : r_Orient.f a0_0 a0_1 a1_0 a1_1 a2_0 a2_1 = some r) :
  Calls Try.prog 14 #[.agg #[.int .i64 a0_0, .int .i64 a0_1], .agg #[.int .i64 a1_0, .int .i64 a1_1], .agg #[.int .i64 a2_0, .int .i64 a2_1]] w fun e w' => e = .returned (.int .i64 r) ∧ Below w.heap.size w w' := by
 have hu23 := Try.underlying23
 have HB := am (Below.refl w.heap.size w)
 have H : (if (wrap64 ((wrap64 ((wrap64 (a1_0 - a0_0)) * (wrap64 (a2_1 - a0_1)))) - (wrap64 ((wrap64 (a1_1 - a0_1)) * (wrap64 (a2_0 - a0_0)))))) > 0 then (some 1) else (if (wrap64 ((wrap64 ((wrap64 (a1_0 - a0_0)) * (wrap64 (a2_1 - a0_1)))) - (wrap64 ((wrap64 (a1_1 - a0_1)) * (wrap64 (a2_0 - a0_0)))))) < 0 then (some (-1)) else (some 0))) = some r := h
 clear h
 by_cases c4 : (wrap64 ((wrap64 ((wrap64 (a1_0 - a0_0)) * (wrap64 (a2_1 - a0_1)))) - (wrap64 ((wrap64 (a1_1 - a0_1)) * (wrap64 (a2_0 - a0_0)))))) > 0
 ·rw [if_pos c4] at H
  have c4b0 : decide (0 < (wrap64 ((wrap64 ((wrap64 (a1_0 - a0_0)) * (wrap64 (a2_1 - a0_1)))) - (wrap64 ((wrap64 (a1_1 - a0_1)) * (wrap64 (a2_0 - a0_0))))))) = true := decide_eq_true c4
  clear c4
  obtain rfl := Option.some.inj H
  go_enter Try.func14, Try.ntmps14
  go_wp2_with (first | ((with_reducible refine gd (N := 3) rfl ?_); refine be ?hg (N := 3) ?hd (cs := #[.int .i64 a0_0, .int .i64 a0_1]) (t := 23) ?hr ?_; (case hd | hg => rfl); (case hr => first | (go_simp; done) | (go_simp; rfl)); intro gb264 hg w5 hbox hb; have BK264 := am hbox; have GW264 := sG HB hg; have GE264 := sG HB hg; replace HB := bS HB hb; clear hb hbox hg) | ((with_reducible refine gd (N := 4) rfl ?_); refine be ?hg (N := 4) ?hd (cs := #[.int .i64 a1_0, .int .i64 a1_1]) (t := 23) ?hr ?_; (case hd | hg => rfl); (case hr => first | (go_simp; done) | (go_simp; rfl)); intro gb265 hg w6 hbox hb; have BK265 := am hbox; have GW265 := sG HB hg; have GE265 := sG HB hg; replace HB := bS HB hb; have NB264_265 := nL BK264 hg; have NB265_264 := nG BK264 hg; replace BK264 := bB BK264 hb; clear hb hbox hg) | ((with_reducible refine gd (N := 5) rfl ?_); refine be ?hg (N := 5) ?hd (cs := #[.int .i64 a2_0, .int .i64 a2_1]) (t := 23) ?hr ?_; (case hd | hg => rfl); (case hr => first | (go_simp; done) | (go_simp; rfl)); intro gb266 hg w7 hbox hb; have BK266 := am hbox; have GW266 := sG HB hg; have GE266 := sG HB hg; replace HB := bS HB hb; have NB264_266 := nL BK264 hg; have NB266_264 := nG BK264 hg; replace BK264 := bB BK264 hb; have NB265_266 := nL BK265 hg; have NB266_265 := nG BK265 hg; replace BK265 := bB BK265 hb; clear hb hbox hg; have hnb8 := NB265_264.out; have hnc8 := NB264_265.out; have hnb9 := NB265_266.out; have hnc9 := NB266_265.out; obtain ⟨_, _, _, _⟩ := zC2 BK265; have hnb11 := NB264_266.out; have hnc11 := NB266_264.out; obtain ⟨_, _, _, _⟩ := zC2 BK264; obtain ⟨_, _, _, _⟩ := zC2 BK266))
  go_ret
  exact ⟨sqE, fW HB.out⟩
 ·rw [if_neg c4] at H
  have c4b0 : decide (0 < (wrap64 ((wrap64 ((wrap64 (a1_0 - a0_0)) * (wrap64 (a2_1 - a0_1)))) - (wrap64 ((wrap64 (a1_1 - a0_1)) * (wrap64 (a2_0 - a0_0))))))) = false := decide_eq_false c4
  clear c4
  by_cases c14 : (wrap64 ((wrap64 ((wrap64 (a1_0 - a0_0)) * (wrap64 (a2_1 - a0_1)))) - (wrap64 ((wrap64 (a1_1 - a0_1)) * (wrap64 (a2_0 - a0_0)))))) < 0
  ·rw [if_pos c14] at H
   have c14b0 : decide ((wrap64 ((wrap64 ((wrap64 (a1_0 - a0_0)) * (wrap64 (a2_1 - a0_1)))) - (wrap64 ((wrap64 (a1_1 - a0_1)) * (wrap64 (a2_0 - a0_0)))))) < 0) = true := decide_eq_true c14
   clear c14
   obtain rfl := Option.some.inj H
   go_enter Try.func14, Try.ntmps14
   go_wp2_with (first | ((with_reducible refine gd (N := 3) rfl ?_); refine be ?hg (N := 3) ?hd (cs := #[.int .i64 a0_0, .int .i64 a0_1]) (t := 23) ?hr ?_; (case hd | hg => rfl); (case hr => first | (go_simp; done) | (go_simp; rfl)); intro gb264 hg w15 hbox hb; have BK264 := am hbox; have GW264 := sG HB hg; have GE264 := sG HB hg; replace HB := bS HB hb; clear hb hbox hg) | ((with_reducible refine gd (N := 4) rfl ?_); refine be ?hg (N := 4) ?hd (cs := #[.int .i64 a1_0, .int .i64 a1_1]) (t := 23) ?hr ?_; (case hd | hg => rfl); (case hr => first | (go_simp; done) | (go_simp; rfl)); intro gb265 hg w16 hbox hb; have BK265 := am hbox; have GW265 := sG HB hg; have GE265 := sG HB hg; replace HB := bS HB hb; have NB264_265 := nL BK264 hg; have NB265_264 := nG BK264 hg; replace BK264 := bB BK264 hb; clear hb hbox hg) | ((with_reducible refine gd (N := 5) rfl ?_); refine be ?hg (N := 5) ?hd (cs := #[.int .i64 a2_0, .int .i64 a2_1]) (t := 23) ?hr ?_; (case hd | hg => rfl); (case hr => first | (go_simp; done) | (go_simp; rfl)); intro gb266 hg w17 hbox hb; have BK266 := am hbox; have GW266 := sG HB hg; have GE266 := sG HB hg; replace HB := bS HB hb; have NB264_266 := nL BK264 hg; have NB266_264 := nG BK264 hg; replace BK264 := bB BK264 hb; have NB265_266 := nL BK265 hg; have NB266_265 := nG BK265 hg; replace BK265 := bB BK265 hb; clear hb hbox hg; have hnb18 := NB265_264.out; have hnc18 := NB264_265.out; have hnb19 := NB265_266.out; have hnc19 := NB266_265.out; obtain ⟨_, _, _, _⟩ := zC2 BK265; have hnb21 := NB264_266.out; have hnc21 := NB266_264.out; obtain ⟨_, _, _, _⟩ := zC2 BK264; obtain ⟨_, _, _, _⟩ := zC2 BK266))
   go_ret
   exact ⟨sqE, fW HB.out⟩
  ·rw [if_neg c14] at H
   have c14b0 : decide ((wrap64 ((wrap64 ((wrap64 (a1_0 - a0_0)) * (wrap64 (a2_1 - a0_1)))) - (wrap64 ((wrap64 (a1_1 - a0_1)) * (wrap64 (a2_0 - a0_0)))))) < 0) = false := decide_eq_false c14
   clear c14
   obtain rfl := Option.some.inj H
   go_enter Try.func14, Try.ntmps14
   go_wp2_with (first | ((with_reducible refine gd (N := 3) rfl ?_); refine be ?hg (N := 3) ?hd (cs := #[.int .i64 a0_0, .int .i64 a0_1]) (t := 23) ?hr ?_; (case hd | hg => rfl); (case hr => first | (go_simp; done) | (go_simp; rfl)); intro gb264 hg w24 hbox hb; have BK264 := am hbox; have GW264 := sG HB hg; have GE264 := sG HB hg; replace HB := bS HB hb; clear hb hbox hg) | ((with_reducible refine gd (N := 4) rfl ?_); refine be ?hg (N := 4) ?hd (cs := #[.int .i64 a1_0, .int .i64 a1_1]) (t := 23) ?hr ?_; (case hd | hg => rfl); (case hr => first | (go_simp; done) | (go_simp; rfl)); intro gb265 hg w25 hbox hb; have BK265 := am hbox; have GW265 := sG HB hg; have GE265 := sG HB hg; replace HB := bS HB hb; have NB264_265 := nL BK264 hg; have NB265_264 := nG BK264 hg; replace BK264 := bB BK264 hb; clear hb hbox hg) | ((with_reducible refine gd (N := 5) rfl ?_); refine be ?hg (N := 5) ?hd (cs := #[.int .i64 a2_0, .int .i64 a2_1]) (t := 23) ?hr ?_; (case hd | hg => rfl); (case hr => first | (go_simp; done) | (go_simp; rfl)); intro gb266 hg w26 hbox hb; have BK266 := am hbox; have GW266 := sG HB hg; have GE266 := sG HB hg; replace HB := bS HB hb; have NB264_266 := nL BK264 hg; have NB266_264 := nG BK264 hg; replace BK264 := bB BK264 hb; have NB265_266 := nL BK265 hg; have NB266_265 := nG BK265 hg; replace BK265 := bB BK265 hb; clear hb hbox hg; have hnb27 := NB265_264.out; have hnc27 := NB264_265.out; have hnb28 := NB265_266.out; have hnc28 := NB266_265.out; obtain ⟨_, _, _, _⟩ := zC2 BK265; have hnb30 := NB264_266.out; have hnc30 := NB266_264.out; obtain ⟨_, _, _, _⟩ := zC2 BK264; obtain ⟨_, _, _, _⟩ := zC2 BK266))
   go_ret
   exact ⟨sqE, fW HB.out⟩

end Go.Proofs.Ytcembjgpcbodcaa.QA
