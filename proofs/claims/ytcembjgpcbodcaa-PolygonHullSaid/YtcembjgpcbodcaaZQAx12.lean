import Derived.Test.YtcembjgpcbodcaaZQAx0
import Derived.Test.YtcembjgpcbodcaaZQAx2
import Derived.Test.YtcembjgpcbodcaaZQAx11
namespace Go.Proofs.Ytcembjgpcbodcaa.QA
open Go.RowKit Go.Proofs.YtcembjgpcbodcaaW.PrintWords Go.Proofs.YtcembjgpcbodcaaW.PrintLast Go.Proofs.YtcembjgpcbodcaaW.PrintMore
open Go.Proofs.YtcembjgpcbodcaaW.PrintWords renaming blk_frozen → bf, gate_callee → gc
open Aside0 renaming mk → am
attribute [local go_sem] max2_int min2_int max_two min_two max_three min_three max_four min_four
set_option linter.unusedVariables false
set_option linter.unusedSimpArgs false

mutual
def w_PolygonOrients.j0 : Nat → Bool → Int → Int → Int → Int → Int → Int → Option (Bool)
 | 0, _, _, _, _, _, _, _ => none
 | k + 1, x22, x268000, x268001, x269000, x269001, x270000, x270001 => if x22 = true then (some true) else ((polygon_Orient.f x268000 x268001 x269000 x269001 x270000 x270001).bind fun t274 => ((r_Orient.f x268000 x268001 x269000 x269001 x270000 x270001).bind fun t275 => (if t274 = t275 then ((polygon_Orient.f x269000 x269001 x268000 x268001 x270000 x270001).bind fun t276 => (if t276 = (wrap64 (-t274)) then ((polygon_Orient.f x269000 x269001 x270000 x270001 x268000 x268001).bind fun t277 => (w_PolygonOrients.j1 k (t277 == t274))) else (w_PolygonOrients.j1 k false))) else (w_PolygonOrients.j1 k false))))
def w_PolygonOrients.j1 : Nat → Bool → Option (Bool)
 | 0, _ => none
 | k + 1, x6 => some x6
end
def w_PolygonOrients.f (k : Nat) (a0_0 : Int) (a0_1 : Int) (a1_0 : Int) (a1_1 : Int) (a2_0 : Int) (a2_1 : Int) : Option (Bool) := (w_awake.f k).bind fun t270 => (if t270 = true then ((r_Allowed.f k a0_0 a0_1).bind fun t271 => (if t271 = true then ((r_Allowed.f k a1_0 a1_1).bind fun t272 => (if t272 = true then ((r_Allowed.f k a2_0 a2_1).bind fun t273 => (w_PolygonOrients.j0 k (!t273) a0_0 a0_1 a1_0 a1_1 a2_0 a2_1)) else (w_PolygonOrients.j0 k true a0_0 a0_1 a1_0 a1_1 a2_0 a2_1))) else (w_PolygonOrients.j0 k true a0_0 a0_1 a1_0 a1_1 a2_0 a2_1))) else (some false))
set_option maxHeartbeats 8000000 in
set_option maxRecDepth 100000 in
theorem w_PolygonOrients.calls (k : Nat) (a0_0 : Int) (a0_1 : Int) (a1_0 : Int) (a1_1 : Int) (a2_0 : Int) (a2_1 : Int) (r : Bool) (w : World) (h : w_PolygonOrients.f k a0_0 a0_1 a1_0 a1_1 a2_0 a2_1 = some r) :
  Calls Try.prog 3 #[.agg #[.int .i64 a0_0, .int .i64 a0_1], .agg #[.int .i64 a1_0, .int .i64 a1_1], .agg #[.int .i64 a2_0, .int .i64 a2_1]] w fun e w' => e = .returned (.bool r) ∧ Below w.heap.size w w' := by
 have hu23 := Try.underlying23
 have HB := am (Below.refl w.heap.size w)
 have H : ((w_awake.f k).bind fun t270 => (if t270 = true then ((r_Allowed.f k a0_0 a0_1).bind fun t271 => (if t271 = true then ((r_Allowed.f k a1_0 a1_1).bind fun t272 => (if t272 = true then ((r_Allowed.f k a2_0 a2_1).bind fun t273 => (w_PolygonOrients.j0 k (!t273) a0_0 a0_1 a1_0 a1_1 a2_0 a2_1)) else (w_PolygonOrients.j0 k true a0_0 a0_1 a1_0 a1_1 a2_0 a2_1))) else (w_PolygonOrients.j0 k true a0_0 a0_1 a1_0 a1_1 a2_0 a2_1))) else (some false))) = some r := h
 clear h
 replace H := Option.bind_eq_some_iff.mp H
 obtain ⟨t270, A40, H⟩ := H
 replace H : (if t270 = true then ((r_Allowed.f k a0_0 a0_1).bind fun t271 => (if t271 = true then ((r_Allowed.f k a1_0 a1_1).bind fun t272 => (if t272 = true then ((r_Allowed.f k a2_0 a2_1).bind fun t273 => (w_PolygonOrients.j0 k (!t273) a0_0 a0_1 a1_0 a1_1 a2_0 a2_1)) else (w_PolygonOrients.j0 k true a0_0 a0_1 a1_0 a1_1 a2_0 a2_1))) else (w_PolygonOrients.j0 k true a0_0 a0_1 a1_0 a1_1 a2_0 a2_1))) else (some false)) = some r := H
 have A4 := am A40
 clear A40
 by_cases c5 : t270 = true
 ·subst c5
  have H1 : ((r_Allowed.f k a0_0 a0_1).bind fun t271 => (if t271 = true then ((r_Allowed.f k a1_0 a1_1).bind fun t272 => (if t272 = true then ((r_Allowed.f k a2_0 a2_1).bind fun t273 => (w_PolygonOrients.j0 k (!t273) a0_0 a0_1 a1_0 a1_1 a2_0 a2_1)) else (w_PolygonOrients.j0 k true a0_0 a0_1 a1_0 a1_1 a2_0 a2_1))) else (w_PolygonOrients.j0 k true a0_0 a0_1 a1_0 a1_1 a2_0 a2_1))) = some r := by rw [if_pos rfl] at H; exact H
  clear H
  have H := H1
  clear H1
  have HC6 := am H
  clear H
  go_enter Try.func3, Try.ntmps3
  go_upto_region 3 with (first | ((with_reducible refine gate_dst (N := 3) rfl ?_); refine box_event ?hg (N := 3) ?hd (cs := #[.int .i64 a0_0, .int .i64 a0_1]) (t := 23) ?hr ?_; (case hd | hg => rfl); (case hr => first | (go_simp; done) | (go_simp; rfl)); intro gb267 hg w7 hbox hb; have BK267 := am hbox; have GW267 := sG HB hg; have GE267 := sG HB hg; replace HB := bS HB hb; clear hb hbox hg) | ((with_reducible refine gate_dst (N := 4) rfl ?_); refine box_event ?hg (N := 4) ?hd (cs := #[.int .i64 a1_0, .int .i64 a1_1]) (t := 23) ?hr ?_; (case hd | hg => rfl); (case hr => first | (go_simp; done) | (go_simp; rfl)); intro gb268 hg w8 hbox hb; have BK268 := am hbox; have GW268 := sG HB hg; have GE268 := sG HB hg; replace HB := bS HB hb; have NB267_268 := nL BK267 hg; have NB268_267 := nG BK267 hg; replace BK267 := bB BK267 hb; clear hb hbox hg) | ((with_reducible refine gate_dst (N := 5) rfl ?_); refine box_event ?hg (N := 5) ?hd (cs := #[.int .i64 a2_0, .int .i64 a2_1]) (t := 23) ?hr ?_; (case hd | hg => rfl); (case hr => first | (go_simp; done) | (go_simp; rfl)); intro gb269 hg w9 hbox hb; have BK269 := am hbox; have GW269 := sG HB hg; have GE269 := sG HB hg; replace HB := bS HB hb; have NB267_269 := nL BK267 hg; have NB269_267 := nG BK267 hg; replace BK267 := bB BK267 hb; have NB268_269 := nL BK268 hg; have NB269_268 := nG BK268 hg; replace BK268 := bB BK268 hb; clear hb hbox hg) | ((with_reducible refine gc (f := 11) rfl ?_); refine goesL_ (some 8) rfl rfl Try.func11 (by kernel_rfl) rfl #[] rfl (by (try simp only [pml]); first | done | rfl | (simp only [pdt]; rfl)) ?_; (with_reducible refine (w_awake.calls k  true _ A4.out).mono ?_); rintro e w10 ⟨rfl, hb⟩; refine ⟨_, rfl, ?_⟩; replace BK267 := bB BK267 hb; replace BK268 := bB BK268 hb; replace BK269 := bB BK269 hb; replace HB := bS HB hb; (try clear hb); (try clear hb2); (try clear hk); (try clear hi)))
  (try simp only [Act.put, psl])
  go_cut [22] (fun v22 wc => ∃ (kq : Nat) (x22_5 : Bool), v22 = .bool x22_5 ∧ Aside0 (w_PolygonOrients.j0 kq x22_5 a0_0 a0_1 a1_0 a1_1 a2_0 a2_1 = some r) ∧ Aside0 (kq ≤ k) ∧ Aside0 (wc.heap[gb267]? = some (.cells #[.int .i64 a0_0, .int .i64 a0_1] 23 (0, 0))) ∧ Aside0 (wc.heap[gb268]? = some (.cells #[.int .i64 a1_0, .int .i64 a1_1] 23 (0, 0))) ∧ Aside0 (wc.heap[gb269]? = some (.cells #[.int .i64 a2_0, .int .i64 a2_1] 23 (0, 0))) ∧ Aside0 (Below w.heap.size w wc))
  case first =>
   have H := HC6.out
   clear HC6
   replace H := Option.bind_eq_some_iff.mp H
   obtain ⟨t271, A110, H⟩ := H
   replace H : (if t271 = true then ((r_Allowed.f k a1_0 a1_1).bind fun t272 => (if t272 = true then ((r_Allowed.f k a2_0 a2_1).bind fun t273 => (w_PolygonOrients.j0 k (!t273) a0_0 a0_1 a1_0 a1_1 a2_0 a2_1)) else (w_PolygonOrients.j0 k true a0_0 a0_1 a1_0 a1_1 a2_0 a2_1))) else (w_PolygonOrients.j0 k true a0_0 a0_1 a1_0 a1_1 a2_0 a2_1)) = some r := H
   have A11 := am A110
   clear A110
   by_cases c12 : t271 = true
   rotate_left
   ·replace c12 := Bool.eq_false_iff.mpr c12
    subst c12
    have H1 : (w_PolygonOrients.j0 k true a0_0 a0_1 a1_0 a1_1 a2_0 a2_1) = some r := by rw [if_neg (show ¬ (false = true) by decide)] at H; exact H
    clear H
    have H := H1
    clear H1
    have H' := am H
    clear H
    have hnb32 := NB267_268.out
    have hnc32 := NB268_267.out
    have hnb33 := NB267_269.out
    have hnc33 := NB269_267.out
    have := yC1 BK267
    have := kC1 BK267
    have := bf BK267.out 0
    have := bf BK267.out 1
    go_wp2_with (first | ((with_reducible refine gc (f := 12) rfl ?_); refine goesL_ (some 11) rfl rfl Try.func12 (by kernel_rfl) rfl #[.agg #[.int .i64 a0_0, .int .i64 a0_1]] rfl (by (try simp only [pml]); first | done | rfl | (simp only [pdt]; rfl)) ?_; (with_reducible refine (r_Allowed.calls k a0_0 a0_1 false _ A11.out).mono ?_); rintro e w35 ⟨rfl, hb⟩; refine ⟨_, rfl, ?_⟩; replace BK267 := bB BK267 hb; replace BK268 := bB BK268 hb; replace BK269 := bB BK269 hb; replace HB := bS HB hb; (try clear hb); (try clear hb2); (try clear hk); (try clear hi)))
    go_meet
    case rel => exact ⟨_, (true), sqD, H', ⟨by first | omega | exact Nat.le_refl _⟩, ⟨fb BK267.out⟩, ⟨fb BK268.out⟩, ⟨fb BK269.out⟩, ⟨fW HB.out⟩⟩
   subst c12
   have H1 : ((r_Allowed.f k a1_0 a1_1).bind fun t272 => (if t272 = true then ((r_Allowed.f k a2_0 a2_1).bind fun t273 => (w_PolygonOrients.j0 k (!t273) a0_0 a0_1 a1_0 a1_1 a2_0 a2_1)) else (w_PolygonOrients.j0 k true a0_0 a0_1 a1_0 a1_1 a2_0 a2_1))) = some r := by rw [if_pos rfl] at H; exact H
   clear H
   have H := H1
   clear H1
   replace H := Option.bind_eq_some_iff.mp H
   obtain ⟨t272, A130, H⟩ := H
   replace H : (if t272 = true then ((r_Allowed.f k a2_0 a2_1).bind fun t273 => (w_PolygonOrients.j0 k (!t273) a0_0 a0_1 a1_0 a1_1 a2_0 a2_1)) else (w_PolygonOrients.j0 k true a0_0 a0_1 a1_0 a1_1 a2_0 a2_1)) = some r := H
   have A13 := am A130
   clear A130
   by_cases c14 : t272 = true
   ·subst c14
    have H1 : ((r_Allowed.f k a2_0 a2_1).bind fun t273 => (w_PolygonOrients.j0 k (!t273) a0_0 a0_1 a1_0 a1_1 a2_0 a2_1)) = some r := by rw [if_pos rfl] at H; exact H
    clear H
    have H := H1
    clear H1
    replace H := Option.bind_eq_some_iff.mp H
    obtain ⟨t273, A150, H⟩ := H
    replace H : (w_PolygonOrients.j0 k (!t273) a0_0 a0_1 a1_0 a1_1 a2_0 a2_1) = some r := H
    have A15 := am A150
    clear A150
    have H' := am H
    clear H
    have hnb16 := NB267_268.out
    have hnc16 := NB268_267.out
    have hnb17 := NB267_269.out
    have hnc17 := NB269_267.out
    have := yC1 BK267
    have := kC1 BK267
    have := bf BK267.out 0
    have := bf BK267.out 1
    go_wp2_with (first | ((with_reducible refine gc (f := 12) rfl ?_); refine goesL_ (some 11) rfl rfl Try.func12 (by kernel_rfl) rfl #[.agg #[.int .i64 a0_0, .int .i64 a0_1]] rfl (by (try simp only [pml]); first | done | rfl | (simp only [pdt]; rfl)) ?_; (with_reducible refine (r_Allowed.calls k a0_0 a0_1 true _ A11.out).mono ?_); rintro e w19 ⟨rfl, hb⟩; refine ⟨_, rfl, ?_⟩; replace BK267 := bB BK267 hb; replace BK268 := bB BK268 hb; replace BK269 := bB BK269 hb; replace HB := bS HB hb; (try clear hb); (try clear hb2); (try clear hk); (try clear hi); have hnb20 := NB268_269.out; have hnc20 := NB269_268.out; obtain ⟨_, _, _, _⟩ := zC2 BK268) | (go_at_call 12; (with_reducible refine (r_Allowed.calls k a1_0 a1_1 true _ A13.out).mono ?_); rintro e w22 ⟨rfl, hb⟩; replace BK267 := bB BK267 hb; replace BK268 := bB BK268 hb; replace BK269 := bB BK269 hb; replace HB := bS HB hb; (try clear hb); (try clear hb2); (try clear hk); (try clear hi); obtain ⟨_, _, _, _⟩ := zC2 BK269) | (go_at_call 12; (with_reducible refine (r_Allowed.calls k a2_0 a2_1 t273 _ A15.out).mono ?_); rintro e w24 ⟨rfl, hb⟩; replace BK267 := bB BK267 hb; replace BK268 := bB BK268 hb; replace BK269 := bB BK269 hb; replace HB := bS HB hb; (try clear hb); (try clear hb2); (try clear hk); (try clear hi)))
    go_meet
    case rel => exact ⟨_, (!t273), sqD, H', ⟨by first | omega | exact Nat.le_refl _⟩, ⟨fb BK267.out⟩, ⟨fb BK268.out⟩, ⟨fb BK269.out⟩, ⟨fW HB.out⟩⟩
   replace c14 := Bool.eq_false_iff.mpr c14
   subst c14
   have H1 : (w_PolygonOrients.j0 k true a0_0 a0_1 a1_0 a1_1 a2_0 a2_1) = some r := by rw [if_neg (show ¬ (false = true) by decide)] at H; exact H
   clear H
   have H := H1
   clear H1
   have H' := am H
   clear H
   have hnb25 := NB267_268.out
   have hnc25 := NB268_267.out
   have hnb26 := NB267_269.out
   have hnc26 := NB269_267.out
   have := yC1 BK267
   have := kC1 BK267
   have := bf BK267.out 0
   have := bf BK267.out 1
   go_wp2_with (first | ((with_reducible refine gc (f := 12) rfl ?_); refine goesL_ (some 11) rfl rfl Try.func12 (by kernel_rfl) rfl #[.agg #[.int .i64 a0_0, .int .i64 a0_1]] rfl (by (try simp only [pml]); first | done | rfl | (simp only [pdt]; rfl)) ?_; (with_reducible refine (r_Allowed.calls k a0_0 a0_1 true _ A11.out).mono ?_); rintro e w28 ⟨rfl, hb⟩; refine ⟨_, rfl, ?_⟩; replace BK267 := bB BK267 hb; replace BK268 := bB BK268 hb; replace BK269 := bB BK269 hb; replace HB := bS HB hb; (try clear hb); (try clear hb2); (try clear hk); (try clear hi); have hnb29 := NB268_269.out; have hnc29 := NB269_268.out; obtain ⟨_, _, _, _⟩ := zC2 BK268) | (go_at_call 12; (with_reducible refine (r_Allowed.calls k a1_0 a1_1 false _ A13.out).mono ?_); rintro e w31 ⟨rfl, hb⟩; replace BK267 := bB BK267 hb; replace BK268 := bB BK268 hb; replace BK269 := bB BK269 hb; replace HB := bS HB hb; (try clear hb); (try clear hb2); (try clear hk); (try clear hi)))
   go_meet
   case rel => exact ⟨_, (true), sqD, H', ⟨by first | omega | exact Nat.le_refl _⟩, ⟨fb BK267.out⟩, ⟨fb BK268.out⟩, ⟨fb BK269.out⟩, ⟨fW HB.out⟩⟩
  case rest =>
   clear HC6
   try clear c1;try clear c2;try clear p2;try clear c3;try clear c5;try clear c11;try clear c12;try clear c14;try clear c16;try clear c17;try clear c20;try clear c25;try clear c26;try clear c29;try clear c32;try clear c33
   obtain ⟨kq, x22_5, rfl, HA, HJ5, BK267, BK268, BK269, HB⟩ := hcut
   cases kq with
   | zero => exact absurd HA.out (by simp [w_PolygonOrients.j0])
   | succ kj5 =>
    have H := HA.out
    clear HA
    simp only [w_PolygonOrients.j0] at H
    by_cases c36 : x22_5 = true
    ·subst c36
     have H1 : (some true) = some r := by rw [if_pos rfl] at H; exact H
     clear H
     have H := H1
     clear H1
     obtain rfl := Option.some.inj H
     go_wp2
     go_ret
     exact ⟨sqE, fW HB.out⟩
    replace c36 := Bool.eq_false_iff.mpr c36
    subst c36
    have H1 : ((polygon_Orient.f a0_0 a0_1 a1_0 a1_1 a2_0 a2_1).bind fun t274 => ((r_Orient.f a0_0 a0_1 a1_0 a1_1 a2_0 a2_1).bind fun t275 => (if t274 = t275 then ((polygon_Orient.f a1_0 a1_1 a0_0 a0_1 a2_0 a2_1).bind fun t276 => (if t276 = (wrap64 (-t274)) then ((polygon_Orient.f a1_0 a1_1 a2_0 a2_1 a0_0 a0_1).bind fun t277 => (w_PolygonOrients.j1 kj5 (t277 == t274))) else (w_PolygonOrients.j1 kj5 false))) else (w_PolygonOrients.j1 kj5 false)))) = some r := by rw [if_neg (show ¬ (false = true) by decide)] at H; exact H
    clear H
    have H := H1
    clear H1
    replace H := Option.bind_eq_some_iff.mp H
    obtain ⟨t274, A370, H⟩ := H
    replace H : ((r_Orient.f a0_0 a0_1 a1_0 a1_1 a2_0 a2_1).bind fun t275 => (if t274 = t275 then ((polygon_Orient.f a1_0 a1_1 a0_0 a0_1 a2_0 a2_1).bind fun t276 => (if t276 = (wrap64 (-t274)) then ((polygon_Orient.f a1_0 a1_1 a2_0 a2_1 a0_0 a0_1).bind fun t277 => (w_PolygonOrients.j1 kj5 (t277 == t274))) else (w_PolygonOrients.j1 kj5 false))) else (w_PolygonOrients.j1 kj5 false))) = some r := H
    have A37 := am A370
    clear A370
    have HC38 := am H
    clear H
    have hnb39 := NB267_268.out
    have hnc39 := NB268_267.out
    have hnb40 := NB267_269.out
    have hnc40 := NB269_267.out
    have := yC1 BK267
    have := kC1 BK267
    have := bf BK267.out 0
    have := bf BK267.out 1
    have hnb42 := NB268_269.out
    have hnc42 := NB269_268.out
    have := yC1 BK268
    have := kC1 BK268
    have := bf BK268.out 0
    have := bf BK268.out 1
    have := yC1 BK269
    have := kC1 BK269
    have := bf BK269.out 0
    have := bf BK269.out 1
    go_upto_region 6 with (first | ((with_reducible refine gc (f := 13) rfl ?_); refine goesL_ (some 26) rfl rfl Try.func13 (by kernel_rfl) rfl #[.agg #[.int .i64 a0_0, .int .i64 a0_1], .agg #[.int .i64 a1_0, .int .i64 a1_1], .agg #[.int .i64 a2_0, .int .i64 a2_1]] rfl (by (try simp only [pml]); first | done | rfl | (simp only [pdt]; rfl)) ?_; (with_reducible refine (polygon_Orient.calls a0_0 a0_1 a1_0 a1_1 a2_0 a2_1 t274 _ A37.out).mono ?_); rintro e w45 ⟨rfl, hb⟩; refine ⟨_, rfl, ?_⟩; replace BK267 := bB BK267 hb; replace BK268 := bB BK268 hb; replace BK269 := bB BK269 hb; replace HB := bS HB hb; (try clear hb); (try clear hb2); (try clear hk); (try clear hi)))
    (try simp only [Act.put, psl])
    go_cut [6] (fun v6 wc => ∃ (kq : Nat) (x6_37 : Bool), v6 = .bool x6_37 ∧ Aside0 (w_PolygonOrients.j1 kq x6_37 = some r) ∧ Aside0 (kq ≤ kj5) ∧ Aside0 (wc.heap[gb267]? = some (.cells #[.int .i64 a0_0, .int .i64 a0_1] 23 (0, 0))) ∧ Aside0 (wc.heap[gb268]? = some (.cells #[.int .i64 a1_0, .int .i64 a1_1] 23 (0, 0))) ∧ Aside0 (wc.heap[gb269]? = some (.cells #[.int .i64 a2_0, .int .i64 a2_1] 23 (0, 0))) ∧ Aside0 (Below w.heap.size w wc))
    case first =>
     have H := HC38.out
     clear HC38
     replace H := Option.bind_eq_some_iff.mp H
     obtain ⟨t275, A460, H⟩ := H
     replace H : (if t274 = t275 then ((polygon_Orient.f a1_0 a1_1 a0_0 a0_1 a2_0 a2_1).bind fun t276 => (if t276 = (wrap64 (-t274)) then ((polygon_Orient.f a1_0 a1_1 a2_0 a2_1 a0_0 a0_1).bind fun t277 => (w_PolygonOrients.j1 kj5 (t277 == t274))) else (w_PolygonOrients.j1 kj5 false))) else (w_PolygonOrients.j1 kj5 false)) = some r := H
     have A46 := am A460
     clear A460
     by_cases c47 : t274 = t275
     rotate_left
     ·rw [if_neg c47] at H
      have c47b0 : (t274 == t275) = false := beq_eq_false_iff_ne.mpr c47
      have c47b1 : (t274 != t275) = true := bne_iff_ne.mpr c47
      (first | rw [c47b0] | (simp only [i64_w, i32_w]; rw [c47b0]) | skip)
      have H' := am H
      clear H
      have hnb77 := NB267_268.out
      have hnc77 := NB268_267.out
      have hnb78 := NB267_269.out
      have hnc78 := NB269_267.out
      have := yC1 BK267
      have := kC1 BK267
      have := bf BK267.out 0
      have := bf BK267.out 1
      have hnb80 := NB268_269.out
      have hnc80 := NB269_268.out
      have := yC1 BK268
      have := kC1 BK268
      have := bf BK268.out 0
      have := bf BK268.out 1
      have := yC1 BK269
      have := kC1 BK269
      have := bf BK269.out 0
      have := bf BK269.out 1
      go_wp2_with (first | ((with_reducible refine gc (f := 14) rfl ?_); refine goesL_ (some 31) rfl rfl Try.func14 (by kernel_rfl) rfl #[.agg #[.int .i64 a0_0, .int .i64 a0_1], .agg #[.int .i64 a1_0, .int .i64 a1_1], .agg #[.int .i64 a2_0, .int .i64 a2_1]] rfl (by (try simp only [pml]); first | done | rfl | (simp only [pdt]; rfl)) ?_; (with_reducible refine (r_Orient.calls a0_0 a0_1 a1_0 a1_1 a2_0 a2_1 t275 _ A46.out).mono ?_); rintro e w83 ⟨rfl, hb⟩; refine ⟨_, rfl, ?_⟩; replace BK267 := bB BK267 hb; replace BK268 := bB BK268 hb; replace BK269 := bB BK269 hb; replace HB := bS HB hb; (try clear hb); (try clear hb2); (try clear hk); (try clear hi)))
      go_meet
      case rel => exact ⟨_, (false), sqD, H', ⟨by have := HJ5.out; first | omega | exact Nat.le_refl _⟩, ⟨fb BK267.out⟩, ⟨fb BK268.out⟩, ⟨fb BK269.out⟩, ⟨fW HB.out⟩⟩
     rw [if_pos c47] at H
     have c47b0 : (t274 == t275) = true := beq_iff_eq.mpr c47
     have c47b1 : (t274 != t275) = false := bne_eq_false_iff_eq.mpr c47
     clear c47
     (first | rw [c47b0] | (simp only [i64_w, i32_w]; rw [c47b0]) | skip)
     replace H := Option.bind_eq_some_iff.mp H
     obtain ⟨t276, A480, H⟩ := H
     replace H : (if t276 = (wrap64 (-t274)) then ((polygon_Orient.f a1_0 a1_1 a2_0 a2_1 a0_0 a0_1).bind fun t277 => (w_PolygonOrients.j1 kj5 (t277 == t274))) else (w_PolygonOrients.j1 kj5 false)) = some r := H
     have A48 := am A480
     clear A480
     by_cases c49 : t276 = (wrap64 (-t274))
     ·rw [if_pos c49] at H
      have c49b0 : (t276 == (wrap64 (-t274))) = true := beq_iff_eq.mpr c49
      have c49b1 : (t276 != (wrap64 (-t274))) = false := bne_eq_false_iff_eq.mpr c49
      clear c49
      replace H := Option.bind_eq_some_iff.mp H
      obtain ⟨t277, A500, H⟩ := H
      replace H : (w_PolygonOrients.j1 kj5 (t277 == t274)) = some r := H
      have A50 := am A500
      clear A500
      have H' := am H
      clear H
      have hnb51 := NB267_268.out
      have hnc51 := NB268_267.out
      have hnb52 := NB267_269.out
      have hnc52 := NB269_267.out
      have := yC1 BK267
      have := kC1 BK267
      have := bf BK267.out 0
      have := bf BK267.out 1
      have hnb54 := NB268_269.out
      have hnc54 := NB269_268.out
      have := yC1 BK268
      have := kC1 BK268
      have := bf BK268.out 0
      have := bf BK268.out 1
      have := yC1 BK269
      have := kC1 BK269
      have := bf BK269.out 0
      have := bf BK269.out 1
      go_wp2_with (first | ((with_reducible refine gc (f := 14) rfl ?_); refine goesL_ (some 31) rfl rfl Try.func14 (by kernel_rfl) rfl #[.agg #[.int .i64 a0_0, .int .i64 a0_1], .agg #[.int .i64 a1_0, .int .i64 a1_1], .agg #[.int .i64 a2_0, .int .i64 a2_1]] rfl (by (try simp only [pml]); first | done | rfl | (simp only [pdt]; rfl)) ?_; (with_reducible refine (r_Orient.calls a0_0 a0_1 a1_0 a1_1 a2_0 a2_1 t275 _ A46.out).mono ?_); rintro e w57 ⟨rfl, hb⟩; refine ⟨_, rfl, ?_⟩; replace BK267 := bB BK267 hb; replace BK268 := bB BK268 hb; replace BK269 := bB BK269 hb; replace HB := bS HB hb; (try clear hb); (try clear hb2); (try clear hk); (try clear hi); obtain ⟨_, _, _, _⟩ := zC2 BK268; obtain ⟨_, _, _, _⟩ := zC2 BK267; obtain ⟨_, _, _, _⟩ := zC2 BK269) | (go_at_call 13; (with_reducible refine (polygon_Orient.calls a1_0 a1_1 a0_0 a0_1 a2_0 a2_1 t276 _ A48.out).mono ?_); rintro e w61 ⟨rfl, hb⟩; replace BK267 := bB BK267 hb; replace BK268 := bB BK268 hb; replace BK269 := bB BK269 hb; replace HB := bS HB hb; (try clear hb); (try clear hb2); (try clear hk); (try clear hi); obtain ⟨_, _, _, _⟩ := zC2 BK268; obtain ⟨_, _, _, _⟩ := zC2 BK269; obtain ⟨_, _, _, _⟩ := zC2 BK267) | (go_at_call 13; (with_reducible refine (polygon_Orient.calls a1_0 a1_1 a2_0 a2_1 a0_0 a0_1 t277 _ A50.out).mono ?_); rintro e w65 ⟨rfl, hb⟩; replace BK267 := bB BK267 hb; replace BK268 := bB BK268 hb; replace BK269 := bB BK269 hb; replace HB := bS HB hb; (try clear hb); (try clear hb2); (try clear hk); (try clear hi)))
      go_meet
      case rel => exact ⟨_, ((t277 == t274)), sqD, H', ⟨by have := HJ5.out; first | omega | exact Nat.le_refl _⟩, ⟨fb BK267.out⟩, ⟨fb BK268.out⟩, ⟨fb BK269.out⟩, ⟨fW HB.out⟩⟩
     rw [if_neg c49] at H
     have c49b0 : (t276 == (wrap64 (-t274))) = false := beq_eq_false_iff_ne.mpr c49
     have c49b1 : (t276 != (wrap64 (-t274))) = true := bne_iff_ne.mpr c49
     have H' := am H
     clear H
     have hnb66 := NB267_268.out
     have hnc66 := NB268_267.out
     have hnb67 := NB267_269.out
     have hnc67 := NB269_267.out
     have := yC1 BK267
     have := kC1 BK267
     have := bf BK267.out 0
     have := bf BK267.out 1
     have hnb69 := NB268_269.out
     have hnc69 := NB269_268.out
     have := yC1 BK268
     have := kC1 BK268
     have := bf BK268.out 0
     have := bf BK268.out 1
     have := yC1 BK269
     have := kC1 BK269
     have := bf BK269.out 0
     have := bf BK269.out 1
     go_wp2_with (first | ((with_reducible refine gc (f := 14) rfl ?_); refine goesL_ (some 31) rfl rfl Try.func14 (by kernel_rfl) rfl #[.agg #[.int .i64 a0_0, .int .i64 a0_1], .agg #[.int .i64 a1_0, .int .i64 a1_1], .agg #[.int .i64 a2_0, .int .i64 a2_1]] rfl (by (try simp only [pml]); first | done | rfl | (simp only [pdt]; rfl)) ?_; (with_reducible refine (r_Orient.calls a0_0 a0_1 a1_0 a1_1 a2_0 a2_1 t275 _ A46.out).mono ?_); rintro e w72 ⟨rfl, hb⟩; refine ⟨_, rfl, ?_⟩; replace BK267 := bB BK267 hb; replace BK268 := bB BK268 hb; replace BK269 := bB BK269 hb; replace HB := bS HB hb; (try clear hb); (try clear hb2); (try clear hk); (try clear hi); obtain ⟨_, _, _, _⟩ := zC2 BK268; obtain ⟨_, _, _, _⟩ := zC2 BK267; obtain ⟨_, _, _, _⟩ := zC2 BK269) | (go_at_call 13; (with_reducible refine (polygon_Orient.calls a1_0 a1_1 a0_0 a0_1 a2_0 a2_1 t276 _ A48.out).mono ?_); rintro e w76 ⟨rfl, hb⟩; replace BK267 := bB BK267 hb; replace BK268 := bB BK268 hb; replace BK269 := bB BK269 hb; replace HB := bS HB hb; (try clear hb); (try clear hb2); (try clear hk); (try clear hi)))
     go_meet
     case rel => exact ⟨_, (false), sqD, H', ⟨by have := HJ5.out; first | omega | exact Nat.le_refl _⟩, ⟨fb BK267.out⟩, ⟨fb BK268.out⟩, ⟨fb BK269.out⟩, ⟨fW HB.out⟩⟩
    case rest =>
     clear HC38
     try clear c1;try clear c2;try clear p2;try clear c3;try clear c4;try clear c5;try clear c6;try clear p6;try clear c7;try clear c8;try clear c11;try clear c12;try clear c13;try clear c14;try clear c16;try clear c17;try clear c20;try clear c25;try clear c26;try clear c29;try clear c32;try clear c33;try clear c36;try clear c39;try clear c40;try clear c42;try clear c47;try clear c47b0;try clear c47b1;try clear c49;try clear c49b0;try clear c49b1;try clear c51;try clear c52;try clear c54;try clear p64;try clear c66;try clear c67;try clear c69;try clear c77;try clear c78;try clear c80;try clear p2
     obtain ⟨kq, x6_37, rfl, HA, HJ37, BK267, BK268, BK269, HB⟩ := hcut
     cases kq with
     | zero => exact absurd HA.out (by simp [w_PolygonOrients.j1])
     | succ kj37 =>
      have H := HA.out
      clear HA
      simp only [w_PolygonOrients.j1] at H
      obtain rfl := Option.some.inj H
      go_wp2
      go_ret
      exact ⟨sqE, fW HB.out⟩
 ·replace c5 := Bool.eq_false_iff.mpr c5
  subst c5
  have H1 : (some false) = some r := by rw [if_neg (show ¬ (false = true) by decide)] at H; exact H
  clear H
  have H := H1
  clear H1
  obtain rfl := Option.some.inj H
  go_enter Try.func3, Try.ntmps3
  go_wp2_with (first | ((with_reducible refine gate_dst (N := 3) rfl ?_); refine box_event ?hg (N := 3) ?hd (cs := #[.int .i64 a0_0, .int .i64 a0_1]) (t := 23) ?hr ?_; (case hd | hg => rfl); (case hr => first | (go_simp; done) | (go_simp; rfl)); intro gb267 hg w84 hbox hb; have BK267 := am hbox; have GW267 := sG HB hg; have GE267 := sG HB hg; replace HB := bS HB hb; clear hb hbox hg) | ((with_reducible refine gate_dst (N := 4) rfl ?_); refine box_event ?hg (N := 4) ?hd (cs := #[.int .i64 a1_0, .int .i64 a1_1]) (t := 23) ?hr ?_; (case hd | hg => rfl); (case hr => first | (go_simp; done) | (go_simp; rfl)); intro gb268 hg w85 hbox hb; have BK268 := am hbox; have GW268 := sG HB hg; have GE268 := sG HB hg; replace HB := bS HB hb; have NB267_268 := nL BK267 hg; have NB268_267 := nG BK267 hg; replace BK267 := bB BK267 hb; clear hb hbox hg) | ((with_reducible refine gate_dst (N := 5) rfl ?_); refine box_event ?hg (N := 5) ?hd (cs := #[.int .i64 a2_0, .int .i64 a2_1]) (t := 23) ?hr ?_; (case hd | hg => rfl); (case hr => first | (go_simp; done) | (go_simp; rfl)); intro gb269 hg w86 hbox hb; have BK269 := am hbox; have GW269 := sG HB hg; have GE269 := sG HB hg; replace HB := bS HB hb; have NB267_269 := nL BK267 hg; have NB269_267 := nG BK267 hg; replace BK267 := bB BK267 hb; have NB268_269 := nL BK268 hg; have NB269_268 := nG BK268 hg; replace BK268 := bB BK268 hb; clear hb hbox hg) | ((with_reducible refine gc (f := 11) rfl ?_); refine goesL_ (some 8) rfl rfl Try.func11 (by kernel_rfl) rfl #[] rfl (by (try simp only [pml]); first | done | rfl | (simp only [pdt]; rfl)) ?_; (with_reducible refine (w_awake.calls k  false _ A4.out).mono ?_); rintro e w87 ⟨rfl, hb⟩; refine ⟨_, rfl, ?_⟩; replace BK267 := bB BK267 hb; replace BK268 := bB BK268 hb; replace BK269 := bB BK269 hb; replace HB := bS HB hb; (try clear hb); (try clear hb2); (try clear hk); (try clear hi)))
  go_ret
  exact ⟨sqE, fW HB.out⟩

def w_PolygonOrients.Pure : Prop := ∀ (a0_0 : Int) (a0_1 : Int) (a1_0 : Int) (a1_1 : Int) (a2_0 : Int) (a2_1 : Int), ((Lit.int .i64 a0_0).wf = true) → ((Lit.int .i64 a0_1).wf = true) → ((Lit.int .i64 a1_0).wf = true) → ((Lit.int .i64 a1_1).wf = true) → ((Lit.int .i64 a2_0).wf = true) → ((Lit.int .i64 a2_1).wf = true) → ∃ k, w_PolygonOrients.f k a0_0 a0_1 a1_0 a1_1 a2_0 a2_1 = some true
theorem w_PolygonOrients.walk (P_ : w_PolygonOrients.Pure) (a0_0 : Int) (a0_1 : Int) (a1_0 : Int) (a1_1 : Int) (a2_0 : Int) (a2_1 : Int) (w : World) (o0 : ((Lit.int .i64 a0_0).wf = true)) (o1 : ((Lit.int .i64 a0_1).wf = true)) (o2 : ((Lit.int .i64 a1_0).wf = true)) (o3 : ((Lit.int .i64 a1_1).wf = true)) (o4 : ((Lit.int .i64 a2_0).wf = true)) (o5 : ((Lit.int .i64 a2_1).wf = true)) :
  Calls Try.prog 3 #[.agg #[.int .i64 a0_0, .int .i64 a0_1], .agg #[.int .i64 a1_0, .int .i64 a1_1], .agg #[.int .i64 a2_0, .int .i64 a2_1]] w fun e w' => e = .returned (.bool true) ∧ Below w.heap.size w w' := by
 obtain ⟨k, h⟩ := P_ a0_0 a0_1 a1_0 a1_1 a2_0 a2_1 o0 o1 o2 o3 o4 o5
 refine (w_PolygonOrients.calls k a0_0 a0_1 a1_0 a1_1 a2_0 a2_1 true w  h).mono ?_
 rintro e w' ⟨rfl, hd⟩
 exact ⟨rfl, hd⟩

def w_few.j0 : Nat → Bool → Option (Bool)
 | 0, _ => none
 | k + 1, x2 => some x2
def w_few.f (k : Nat) (l0 : List (S23)) : Option (Bool) := if (l0.length : Int) ≤ 16 then (w_few.j0 k true) else (if (l0.length : Int) > 64 then (w_few.j0 k (decide ((l0.length : Int) ≤ 80))) else (w_few.j0 k false))
set_option maxHeartbeats 8000000 in
set_option maxRecDepth 100000 in
theorem w_few.calls (k : Nat) (A0 : Option Addr) (c0 : Nat) (l0 : List (S23)) (r : Bool) (w : World) (hr0 : Kd.C k23 w A0 l0.length l0) (hc0 : l0.length ≤ c0) (h : w_few.f k l0 = some r) :
  Calls Try.prog 15 #[.slice A0 l0.length c0] w fun e w' => e = .returned (.bool r) ∧ Drawn0 w w' := by
 have HR0 := am hr0
 have HC0 := am hc0
 clear hr0 hc0
 have H : (if (l0.length : Int) ≤ 16 then (w_few.j0 k true) else (if (l0.length : Int) > 64 then (w_few.j0 k (decide ((l0.length : Int) ≤ 80))) else (w_few.j0 k false))) = some r := h
 clear h
 have HC2 := am H
 clear H
 go_enter Try.func15, Try.ntmps15
 go_upto_region 1 with (fail)
 go_cut [2] (fun v2 wc => ∃ (kq : Nat) (x2_1 : Bool), v2 = .bool x2_1 ∧ Aside0 (w_few.j0 kq x2_1 = some r) ∧ Aside0 (kq ≤ k) ∧ Drawn0 w wc)
 case first =>
  have H := HC2.out
  clear HC2
  by_cases c3 : (l0.length : Int) ≤ 16
  ·rw [if_pos c3] at H
   have c3b0 : decide ((l0.length : Int) ≤ 16) = true := decide_eq_true c3
   have c3b1 : decide (l0.length ≤ 16) = true := decide_eq_true (by omega)
   clear c3
   (first | rw [c3b0] | (simp only [i64_w, i32_w]; rw [c3b0]) | skip)
   have H' := am H
   clear H
   go_wp2
   go_meet
   case rel => exact ⟨_, (true), sqD, H', ⟨by first | omega | exact Nat.le_refl _⟩, by repeat (first | exact Drawn0.refl _ | apply Drawn0.step)⟩
  rw [if_neg c3] at H
  have c3b0 : decide ((l0.length : Int) ≤ 16) = false := decide_eq_false c3
  have c3b1 : decide (l0.length ≤ 16) = false := decide_eq_false (by omega)
  clear c3
  (first | rw [c3b0] | (simp only [i64_w, i32_w]; rw [c3b0]) | skip)
  by_cases c4 : (l0.length : Int) > 64
  ·rw [if_pos c4] at H
   have c4b0 : decide (64 < (l0.length : Int)) = true := decide_eq_true c4
   have c4b1 : decide (64 < l0.length) = true := decide_eq_true (by omega)
   clear c4
   have H' := am H
   clear H
   go_wp2
   go_meet
   case rel => exact ⟨_, (decide ((l0.length : Int) ≤ 80)), sqD, H', ⟨by first | omega | exact Nat.le_refl _⟩, by repeat (first | exact Drawn0.refl _ | apply Drawn0.step)⟩
  rw [if_neg c4] at H
  have c4b0 : decide (64 < (l0.length : Int)) = false := decide_eq_false c4
  have c4b1 : decide (64 < l0.length) = false := decide_eq_false (by omega)
  clear c4
  have H' := am H
  clear H
  go_wp2
  go_meet
  case rel => exact ⟨_, (false), sqD, H', ⟨by first | omega | exact Nat.le_refl _⟩, by repeat (first | exact Drawn0.refl _ | apply Drawn0.step)⟩
 case rest =>
  clear HC2
  try clear c1;try clear p2;try clear c3;try clear c3b0;try clear c3b1;try clear c4;try clear c4b0;try clear c4b1
  obtain ⟨kq, x2_1, rfl, HA, HJ1, ⟨mc1, rfl⟩⟩ := hcut
  cases kq with
  | zero => exact absurd HA.out (by simp [w_few.j0])
  | succ kj1 =>
   have H := HA.out
   clear HA
   simp only [w_few.j0] at H
   obtain rfl := Option.some.inj H
   go_wp2
   go_ret
   exact ⟨by first | rfl | (simp; done) | (simp [*]; done), by repeat (first | exact Drawn0.refl _ | apply Drawn0.step)⟩

def r_next.f (l0 : List (S23)) (a1 : Int) : Option (Int) := if (l0.length : Int) = 0 then (none) else (some (Int.tmod (wrap64 (a1 + 1)) (l0.length : Int)))
set_option maxHeartbeats 8000000 in
set_option maxRecDepth 100000 in
theorem r_next.calls (A0 : Option Addr) (c0 : Nat) (l0 : List (S23)) (a1 : Int) (r : Int) (w : World) (hr0 : Kd.C k23 w A0 l0.length l0) (hc0 : l0.length ≤ c0) (h : r_next.f l0 a1 = some r) :
  Calls Try.prog 42 #[.slice A0 l0.length c0, .int .i64 a1] w fun e w' => e = .returned (.int .i64 r) ∧ Drawn0 w w' := by
 have HR0 := am hr0
 have HC0 := am hc0
 clear hr0 hc0
 have H : (if (l0.length : Int) = 0 then (none) else (some (Int.tmod (wrap64 (a1 + 1)) (l0.length : Int)))) = some r := h
 clear h
 by_cases c3 : (l0.length : Int) = 0
 ·rw [if_pos c3] at H
  exact absurd H (by simp)
 ·rw [if_neg c3] at H
  have c3b0 : ((l0.length : Int) == 0) = false := beq_eq_false_iff_ne.mpr c3
  have c3b1 : ((l0.length : Int) != 0) = true := bne_iff_ne.mpr c3
  have c3b2 : ¬ (l0 = []) := fun h_ => c3 (by rw [h_]; rfl)
  obtain rfl := Option.some.inj H
  go_enter Try.func42, Try.ntmps42
  go_wp2
  go_ret
  exact ⟨by first | rfl | (simp; done) | (simp [*]; done), by repeat (first | exact Drawn0.refl _ | apply Drawn0.step)⟩

end Go.Proofs.Ytcembjgpcbodcaa.QA
