import Derived.Test.YtmmdikhmlmoolaaZQAx0
import Derived.Test.YtmmdikhmlmoolaaZQAx3
import Derived.Test.YtmmdikhmlmoolaaZQAx6
namespace Go.Proofs.Ytmmdikhmlmoolaa.QA
open Go.RowKit Go.Proofs.YtmmdikhmlmoolaaW.PrintWords Go.Proofs.YtmmdikhmlmoolaaW.PrintLast Go.Proofs.YtmmdikhmlmoolaaW.PrintMore
open Go.Proofs.YtmmdikhmlmoolaaW.PrintWords renaming blk_cell → bc
open Aside0 renaming mk → am
open World renaming block_lt_of_cell? → bq
attribute [local go_sem] max2_int min2_int max_two min_two max_three min_three max_four min_four
set_option linter.unusedVariables false
set_option linter.unusedSimpArgs false

mutual
def box_clash.l0 : Nat → List (S25) → List (S25) → Int → Int → Option (Int × Int)
 | 0, _, _, _, _ => none
 | k + 1, x0, x7, x8, x9 => if x9 < x8 then (if 0 ≤ x9 then (if x9 < (x7.length : Int) then (box_clash.l1 k x0 x9 (wrap64 (x9 + 1)) x7 x8 x9 ((rd_T25 x7 x9).f0.f0) ((rd_T25 x7 x9).f0.f1) ((rd_T25 x7 x9).f0.f2) ((rd_T25 x7 x9).f1.f0) ((rd_T25 x7 x9).f1.f1) ((rd_T25 x7 x9).f1.f2)) else (none)) else (none)) else (some ((-1), (-1)))
def box_clash.l1 : Nat → List (S25) → Int → Int → List (S25) → Int → Int → Int → Int → Int → Int → Int → Int → Option (Int × Int)
 | 0, _, _, _, _, _, _, _, _, _, _, _, _ => none
 | k + 1, x0, x4, x6, x7, x8, x9, x311000, x311001, x311002, x311003, x311004, x311005 => if x6 < (x0.length : Int) then (if 0 ≤ x6 then ((box_Overlap.f x311000 x311001 x311002 x311003 x311004 x311005 ((rd_T25 x0 x6).f0.f0) ((rd_T25 x0 x6).f0.f1) ((rd_T25 x0 x6).f0.f2) ((rd_T25 x0 x6).f1.f0) ((rd_T25 x0 x6).f1.f1) ((rd_T25 x0 x6).f1.f2)).bind fun t312 => (if t312 = true then (some (x4, x6)) else (box_clash.l1 k x0 x4 (wrap64 (x6 + 1)) x7 x8 x9 x311000 x311001 x311002 x311003 x311004 x311005))) else (none)) else (box_clash.l0 k x0 x7 x8 (wrap64 (x9 + 1)))
end
def box_clash.f (k : Nat) (l0 : List (S25)) : Option (Int × Int) := box_clash.l0 k l0 l0 (l0.length : Int) 0
set_option maxHeartbeats 8000000 in
set_option maxRecDepth 100000 in
theorem box_clash.calls (k : Nat) (A0 : Option Addr) (c0 : Nat) (l0 : List (S25)) (r1 : Int) (r2 : Int) (w : World) (hr0 : Kd.C k25 w A0 l0.length l0) (hc0 : l0.length ≤ c0) (h : box_clash.f k l0 = some (r1, r2)) :
  Calls Try.prog 65 #[.slice A0 l0.length c0] w fun e w' => e = .returned (.tuple #[.int .i64 r1, .int .i64 r2]) ∧ Below w.heap.size w w' := by
 have hu25 := Try.underlying25
 have HR0 := am hr0
 have HC0 := am hc0
 clear hr0 hc0
 have HB := am (Below.refl w.heap.size w)
 have H : (box_clash.l0 k l0 l0 (l0.length : Int) 0) = some (r1, r2) := h
 clear h
 have H' := am H
 clear H
 go_enter Try.func65, Try.ntmps65
 go_wp2
 go_loopg [9] k (fun kq v9 w' => ∃ (x9_1 : Int), v9 = .int .i64 x9_1 ∧ Aside0 (box_clash.l0 kq l0 l0 (l0.length : Int) x9_1 = some (r1, r2)) ∧ Aside0 (kq ≤ k) ∧ Aside0 (Below w.heap.size w w'))
 case atStart => exact ⟨(0), sqD, H', ⟨Nat.le_refl _⟩, ⟨fW HB.out⟩⟩
 case round =>
  clear H'
  obtain ⟨x9_1, rfl, HA, HK1, HB⟩ := hrel
  cases gk with
  | zero => exact absurd HA.out (by simp [box_clash.l0])
  | succ k1 =>
   have H := HA.out
   clear HA
   simp only [box_clash.l0] at H
   by_cases c2 : x9_1 < (l0.length : Int)
   ·rw [if_pos c2] at H
    have c2b0 : decide (x9_1 < (l0.length : Int)) = true := decide_eq_true c2
    clear c2
    by_cases c3 : 0 ≤ x9_1
    rotate_left
    ·rw [if_neg c3] at H
     exact absurd H (by simp)
    rw [if_pos c3] at H
    have c3b0 : decide (0 ≤ x9_1) = true := decide_eq_true c3
    clear c3
    by_cases c4 : x9_1 < (l0.length : Int)
    rotate_left
    ·rw [if_neg c4] at H
     exact absurd H (by simp)
    rw [if_pos c4] at H
    have c4b0 : decide (x9_1 < (l0.length : Int)) = true := decide_eq_true c4
    clear c4
    have H' := am H
    clear H
    have p309 : 0 ≤ (x9_1 : Int) := of_decide_eq_true (by assumption)
    have q309 : x9_1 < (l0.length : Int) := of_decide_eq_true (by assumption)
    obtain ⟨ad309, e309, hx309_0, hx309_1, hx309_2, hx309_3, hx309_4, hx309_5⟩ := at_T25 HR0.out x9_1 p309 q309
    cases e309
    replace hx309_0 := cl HB hx309_0
    replace hx309_1 := cl HB hx309_1
    replace hx309_2 := cl HB hx309_2
    replace hx309_3 := cl HB hx309_3
    replace hx309_4 := cl HB hx309_4
    replace hx309_5 := cl HB hx309_5
    replace p309 := eq_true p309
    replace q309 := eq_true q309
    go_wp2_with (first | ((with_reducible refine gate_dst (N := 5) rfl ?_); refine box_event ?hg (N := 5) ?hd (cs := #[.int .i64 0, .int .i64 0, .int .i64 0, .int .i64 0, .int .i64 0, .int .i64 0]) (t := 25) ?hr ?_; (case hd | hg => rfl); (case hr => first | (go_simp; done) | (go_simp; rfl)); intro gb310 hg w5 hbox hb; have BK310 := am hbox; have GW310 := sG HB hg; have GE310 := sG HB hg; replace HB := bS HB hb; clear hb hbox hg; obtain ⟨_, _, _, _, _, _, _, _, _, _, _, _⟩ := zC6 BK310))
    go_loopg [6] k1 (fun kq v6 w' => ∃ (x6_2 : Int), v6 = .int .i64 x6_2 ∧ Aside0 (box_clash.l1 kq l0 x9_1 x6_2 l0 (l0.length : Int) x9_1 ((rd_T25 l0 x9_1).f0.f0) ((rd_T25 l0 x9_1).f0.f1) ((rd_T25 l0 x9_1).f0.f2) ((rd_T25 l0 x9_1).f1.f0) ((rd_T25 l0 x9_1).f1.f1) ((rd_T25 l0 x9_1).f1.f2) = some (r1, r2)) ∧ Aside0 (kq ≤ k1) ∧ Aside0 (w'.heap[gb310]? = some (.cells #[.int .i64 ((rd_T25 l0 x9_1).f0.f0), .int .i64 ((rd_T25 l0 x9_1).f0.f1), .int .i64 ((rd_T25 l0 x9_1).f0.f2), .int .i64 ((rd_T25 l0 x9_1).f1.f0), .int .i64 ((rd_T25 l0 x9_1).f1.f1), .int .i64 ((rd_T25 l0 x9_1).f1.f2)] 25 (0, 0))) ∧ Aside0 (Below w.heap.size w w'))
    case atStart => exact ⟨(wrap64 (x9_1 + 1)), sqD, H', ⟨Nat.le_refl _⟩, ⟨by (with_reducible repeat first | apply blk_drewN | apply blk_drew | apply blk_alloc); refine blk_put (cs := #[.int .i64 ((rd_T25 l0 x9_1).f0.f0), .int .i64 ((rd_T25 l0 x9_1).f0.f1), .int .i64 ((rd_T25 l0 x9_1).f0.f2), .int .i64 ((rd_T25 l0 x9_1).f1.f0), .int .i64 ((rd_T25 l0 x9_1).f1.f1), .int .i64 0]) ?_ 5 _ rfl; (with_reducible repeat first | apply blk_drewN | apply blk_drew | apply blk_alloc); refine blk_put (cs := #[.int .i64 ((rd_T25 l0 x9_1).f0.f0), .int .i64 ((rd_T25 l0 x9_1).f0.f1), .int .i64 ((rd_T25 l0 x9_1).f0.f2), .int .i64 ((rd_T25 l0 x9_1).f1.f0), .int .i64 0, .int .i64 0]) ?_ 4 _ rfl; (with_reducible repeat first | apply blk_drewN | apply blk_drew | apply blk_alloc); refine blk_put (cs := #[.int .i64 ((rd_T25 l0 x9_1).f0.f0), .int .i64 ((rd_T25 l0 x9_1).f0.f1), .int .i64 ((rd_T25 l0 x9_1).f0.f2), .int .i64 0, .int .i64 0, .int .i64 0]) ?_ 3 _ rfl; (with_reducible repeat first | apply blk_drewN | apply blk_drew | apply blk_alloc); refine blk_put (cs := #[.int .i64 ((rd_T25 l0 x9_1).f0.f0), .int .i64 ((rd_T25 l0 x9_1).f0.f1), .int .i64 0, .int .i64 0, .int .i64 0, .int .i64 0]) ?_ 2 _ rfl; (with_reducible repeat first | apply blk_drewN | apply blk_drew | apply blk_alloc); refine blk_put (cs := #[.int .i64 ((rd_T25 l0 x9_1).f0.f0), .int .i64 0, .int .i64 0, .int .i64 0, .int .i64 0, .int .i64 0]) ?_ 1 _ rfl; (with_reducible repeat first | apply blk_drewN | apply blk_drew | apply blk_alloc); refine blk_put (cs := #[.int .i64 0, .int .i64 0, .int .i64 0, .int .i64 0, .int .i64 0, .int .i64 0]) ?_ 0 _ rfl; (with_reducible repeat first | apply blk_drewN | apply blk_drew | apply blk_alloc); exact BK310.out⟩, ⟨fW HB.out⟩⟩
    case round =>
     clear H'
     try clear c2;try clear c2b0;try clear p2;try clear c3;try clear c3b0;try clear p3;try clear q3;try clear hx3;try clear c4;try clear c4b0;try clear c6;try clear p6;try clear hx309_0;try clear hx309_1;try clear hx309_2;try clear hx309_3;try clear hx309_4;try clear hx309_5;try clear p309;try clear q309
     obtain ⟨x6_2, rfl, HA, HK2, BK310, HB⟩ := hrel
     cases gk with
     | zero => exact absurd HA.out (by simp [box_clash.l1])
     | succ k2 =>
      have H := HA.out
      clear HA
      simp only [box_clash.l1] at H
      by_cases c7 : x6_2 < (l0.length : Int)
      rotate_left
      ·rw [if_neg c7] at H
       have c7b0 : decide (x6_2 < (l0.length : Int)) = false := decide_eq_false c7
       clear c7
       have H' := am H
       clear H
       go_wp2
       go_roundg k2
       case measure => have := HK1.out; have := HK2.out; omega
       case rel => exact ⟨(wrap64 (x9_1 + 1)), sqD, H', ⟨by have := HK1.out; have := HK2.out; omega⟩, ⟨fW HB.out⟩⟩
      rw [if_pos c7] at H
      have c7b0 : decide (x6_2 < (l0.length : Int)) = true := decide_eq_true c7
      clear c7
      by_cases c8 : 0 ≤ x6_2
      rotate_left
      ·rw [if_neg c8] at H
       exact absurd H (by simp)
      rw [if_pos c8] at H
      have c8b0 : decide (0 ≤ x6_2) = true := decide_eq_true c8
      clear c8
      replace H := Option.bind_eq_some_iff.mp H
      obtain ⟨t312, A90, H⟩ := H
      replace H : (if t312 = true then (some (x9_1, x6_2)) else (box_clash.l1 k2 l0 x9_1 (wrap64 (x6_2 + 1)) l0 (l0.length : Int) x9_1 ((rd_T25 l0 x9_1).f0.f0) ((rd_T25 l0 x9_1).f0.f1) ((rd_T25 l0 x9_1).f0.f2) ((rd_T25 l0 x9_1).f1.f0) ((rd_T25 l0 x9_1).f1.f1) ((rd_T25 l0 x9_1).f1.f2))) = some (r1, r2) := H
      have A9 := am A90
      clear A90
      by_cases c10 : t312 = true
      ·subst c10
       have H1 : (some (x9_1, x6_2)) = some (r1, r2) := by rw [if_pos rfl] at H; exact H
       clear H
       have H := H1
       clear H1
       simp only [Option.some.injEq, Prod.mk.injEq] at H
       obtain ⟨rfl, rfl⟩ := H
       try go_wp2
       have n0_ := am (blk_drew BK310.out)
       have n1_ := am (below_drew1 HB.out)
       clear BK310 HB
       have BK310 := n0_
       have HB := n1_
       clear n0_ n1_
       have p311 : 0 ≤ (x6_2 : Int) := of_decide_eq_true (by assumption)
       have q311 : x6_2 < (l0.length : Int) := of_decide_eq_true (by assumption)
       obtain ⟨ad311, e311, hx311_0, hx311_1, hx311_2, hx311_3, hx311_4, hx311_5⟩ := at_T25 HR0.out x6_2 p311 q311
       have hw311_5 := hx311_5
       have hw311_4 := hx311_4
       have hw311_3 := hx311_3
       have hw311_2 := hx311_2
       have hw311_1 := hx311_1
       have hw311_0 := hx311_0
       obtain rfl : ad309 = ad311 := (by injection e311)
       replace hx311_0 := cl HB hx311_0
       replace hx311_1 := cl HB hx311_1
       replace hx311_2 := cl HB hx311_2
       replace hx311_3 := cl HB hx311_3
       replace hx311_4 := cl HB hx311_4
       replace hx311_5 := cl HB hx311_5
       replace p311 := eq_true p311
       replace q311 := eq_true q311
       refine start_ (n := 6) (S := fun w' => w'.cell? ⟨gb310, 0, none⟩ = some (.int .i64 ((rd_T25 l0 x9_1).f0.f0)) ∧ w'.cell? ⟨gb310, 1, none⟩ = some (.int .i64 ((rd_T25 l0 x9_1).f0.f1)) ∧ w'.cell? ⟨gb310, 2, none⟩ = some (.int .i64 ((rd_T25 l0 x9_1).f0.f2)) ∧ w'.cell? ⟨gb310, 3, none⟩ = some (.int .i64 ((rd_T25 l0 x9_1).f1.f0)) ∧ w'.cell? ⟨gb310, 4, none⟩ = some (.int .i64 ((rd_T25 l0 x9_1).f1.f1)) ∧ w'.cell? ⟨gb310, 5, none⟩ = some (.int .i64 ((rd_T25 l0 x9_1).f1.f2)) ∧ w'.cell? (ad309.add ((x6_2).toNat * 6)) = some (.int .i64 ((rd_T25 l0 x6_2).f0.f0)) ∧ w'.cell? ⟨(ad309.add ((x6_2).toNat * 6)).block, (ad309.add ((x6_2).toNat * 6)).off + 1, none⟩ = some (.int .i64 ((rd_T25 l0 x6_2).f0.f1)) ∧ w'.cell? ⟨(ad309.add ((x6_2).toNat * 6)).block, (ad309.add ((x6_2).toNat * 6)).off + 2, none⟩ = some (.int .i64 ((rd_T25 l0 x6_2).f0.f2)) ∧ w'.cell? ⟨(ad309.add ((x6_2).toNat * 6)).block, (ad309.add ((x6_2).toNat * 6)).off + 3, none⟩ = some (.int .i64 ((rd_T25 l0 x6_2).f1.f0)) ∧ w'.cell? ⟨(ad309.add ((x6_2).toNat * 6)).block, (ad309.add ((x6_2).toNat * 6)).off + 4, none⟩ = some (.int .i64 ((rd_T25 l0 x6_2).f1.f1)) ∧ w'.cell? ⟨(ad309.add ((x6_2).toNat * 6)).block, (ad309.add ((x6_2).toNat * 6)).off + 5, none⟩ = some (.int .i64 ((rd_T25 l0 x6_2).f1.f2))) (ds := []) #[F,F,F,F,F,F] (by kernel_rfl) rfl rfl ⟨(bc BK310.out 0).trans rfl, (bc BK310.out 1).trans rfl, (bc BK310.out 2).trans rfl, (bc BK310.out 3).trans rfl, (bc BK310.out 4).trans rfl, (bc BK310.out 5).trans rfl, ((HB.out.cell (bq w _ hw311_0)).trans hw311_0), ((HB.out.cell (bq w _ hw311_1)).trans hw311_1), ((HB.out.cell (bq w _ hw311_2)).trans hw311_2), ((HB.out.cell (bq w _ hw311_3)).trans hw311_3), ((HB.out.cell (bq w _ hw311_4)).trans hw311_4), ((HB.out.cell (bq w _ hw311_5)).trans hw311_5)⟩ (fun hHeld => ?_)
       generalize wr.drew = w11 at BK310 HB hx311_0 hx311_1 hx311_2 hx311_3 hx311_4 hx311_5 hHeld ⊢
       refine pure_ (i := 1) (N := some 23) (v := ?_) (a' := ?_) #[F,T,F,F,F,F] rfl rfl (by kernel_rfl) (fun _ _ _ h => h) (Or.inl ⟨by rfl, ?_⟩) ?_ ?_
       rotate_left
       ·intro w'
        go_simp
        with_reducible rfl
       rotate_left
       ·simp only [Act.put, psl, i64_w, i32_w]
        rfl
       refine pure_ (i := 2) (N := some 24) (v := ?_) (a' := ?_) #[F,T,T,F,F,F] rfl rfl (by kernel_rfl) (fun _ _ _ h => h) (Or.inl ⟨by rfl, ?_⟩) ?_ ?_
       rotate_left
       ·intro w'
        go_simp
        with_reducible rfl
       rotate_left
       ·simp only [Act.put, psl, i64_w, i32_w]
        rfl
       refine pure_ (i := 3) (N := some 25) (v := ?_) (a' := ?_) #[F,T,T,T,F,F] rfl rfl (by kernel_rfl) (fun _ _ _ h => h) (Or.inl ⟨by rfl, ?_⟩) ?_ ?_
       rotate_left
       ·intro w'
        go_simp
        with_reducible rfl
       rotate_left
       ·simp only [Act.put, psl, i64_w, i32_w]
        rfl
       refine take_ (i := 0) (N := some 22) (v := ?_) (a' := ?_) #[T,T,T,T,F,F] rfl rfl (by kernel_rfl) (fun _ _ _ h => h) (Or.inl ⟨by rfl, ?_⟩) hHeld ?_ ?_
       rotate_left
       ·rintro w' ⟨s0, s1, s2, s3, s4, s5, s6, s7, s8, s9, s10, s11⟩
        go_simp
        with_reducible rfl
       rotate_left
       ·simp only [Act.put, psl, i64_w, i32_w]
        rfl
       refine take_ (i := 4) (N := some 26) (v := ?_) (a' := ?_) #[T,T,T,T,T,F] rfl rfl (by kernel_rfl) (fun _ _ _ h => h) (Or.inl ⟨by rfl, ?_⟩) hHeld ?_ ?_
       rotate_left
       ·rintro w' ⟨s0, s1, s2, s3, s4, s5, s6, s7, s8, s9, s10, s11⟩
        go_simp
        with_reducible rfl
       rotate_left
       ·simp only [Act.put, psl, i64_w, i32_w]
        rfl
       refine one_ (i := 5) (N := some 27) (fl 6 6 []) rfl rfl (by kernel_rfl) (by decide) (fun K hK => ?_)
       refine goes_ Try.func17 (by kernel_rfl) rfl #[.agg #[.int .i64 ((rd_T25 l0 x9_1).f0.f0), .int .i64 ((rd_T25 l0 x9_1).f0.f1), .int .i64 ((rd_T25 l0 x9_1).f0.f2), .int .i64 ((rd_T25 l0 x9_1).f1.f0), .int .i64 ((rd_T25 l0 x9_1).f1.f1), .int .i64 ((rd_T25 l0 x9_1).f1.f2)], .agg #[.int .i64 ((rd_T25 l0 x6_2).f0.f0), .int .i64 ((rd_T25 l0 x6_2).f0.f1), .int .i64 ((rd_T25 l0 x6_2).f0.f2), .int .i64 ((rd_T25 l0 x6_2).f1.f0), .int .i64 ((rd_T25 l0 x6_2).f1.f1), .int .i64 ((rd_T25 l0 x6_2).f1.f2)]] (by rfl) rfl rfl (by (try simp only [pml]); first | done | rfl | (simp only [pdt]; rfl)) ?_
       with_reducible refine (box_Overlap.calls ((rd_T25 l0 x9_1).f0.f0) ((rd_T25 l0 x9_1).f0.f1) ((rd_T25 l0 x9_1).f0.f2) ((rd_T25 l0 x9_1).f1.f0) ((rd_T25 l0 x9_1).f1.f1) ((rd_T25 l0 x9_1).f1.f2) ((rd_T25 l0 x6_2).f0.f0) ((rd_T25 l0 x6_2).f0.f1) ((rd_T25 l0 x6_2).f0.f2) ((rd_T25 l0 x6_2).f1.f0) ((rd_T25 l0 x6_2).f1.f1) ((rd_T25 l0 x6_2).f1.f2) true _ A9.out).mono ?_
       rintro e w12 ⟨rfl, hb⟩
       refine ⟨_, rfl, ?_⟩
       have n0_ := bB BK310 hb
       have n1_ := bS HB hb
       clear BK310 HB
       have BK310 := n0_
       have HB := n1_
       clear n0_ n1_
       (try clear hb)
       (try clear hb2)
       (try clear hk)
       (try clear hi)
       refine hK.out _ _ ⟨(bc BK310.out 0).trans rfl, (bc BK310.out 1).trans rfl, (bc BK310.out 2).trans rfl, (bc BK310.out 3).trans rfl, (bc BK310.out 4).trans rfl, (bc BK310.out 5).trans rfl, ((HB.out.cell (bq w _ hw311_0)).trans hw311_0), ((HB.out.cell (bq w _ hw311_1)).trans hw311_1), ((HB.out.cell (bq w _ hw311_2)).trans hw311_2), ((HB.out.cell (bq w _ hw311_3)).trans hw311_3), ((HB.out.cell (bq w _ hw311_4)).trans hw311_4), ((HB.out.cell (bq w _ hw311_5)).trans hw311_5)⟩ (fun hHeld => ?_)
       clear hK K
       refine norm_ (a' := ?_) ?_ ?_
       rotate_left
       ·show Act.put _ (some 27) _ = _
        simp only [Act.put, psl, i64_w, i32_w]
        rfl
       refine done_ (by kernel_rfl) ?_
       try go_wp2
       go_ret2
       exact ⟨sqE, fW HB.out⟩
      replace c10 := Bool.eq_false_iff.mpr c10
      subst c10
      have H1 : (box_clash.l1 k2 l0 x9_1 (wrap64 (x6_2 + 1)) l0 (l0.length : Int) x9_1 ((rd_T25 l0 x9_1).f0.f0) ((rd_T25 l0 x9_1).f0.f1) ((rd_T25 l0 x9_1).f0.f2) ((rd_T25 l0 x9_1).f1.f0) ((rd_T25 l0 x9_1).f1.f1) ((rd_T25 l0 x9_1).f1.f2)) = some (r1, r2) := by rw [if_neg (show ¬ (false = true) by decide)] at H; exact H
      clear H
      have H := H1
      clear H1
      have H' := am H
      clear H
      try go_wp2
      have n0_ := am (blk_drew BK310.out)
      have n1_ := am (below_drew1 HB.out)
      clear BK310 HB
      have BK310 := n0_
      have HB := n1_
      clear n0_ n1_
      have p311 : 0 ≤ (x6_2 : Int) := of_decide_eq_true (by assumption)
      have q311 : x6_2 < (l0.length : Int) := of_decide_eq_true (by assumption)
      obtain ⟨ad311, e311, hx311_0, hx311_1, hx311_2, hx311_3, hx311_4, hx311_5⟩ := at_T25 HR0.out x6_2 p311 q311
      have hw311_5 := hx311_5
      have hw311_4 := hx311_4
      have hw311_3 := hx311_3
      have hw311_2 := hx311_2
      have hw311_1 := hx311_1
      have hw311_0 := hx311_0
      obtain rfl : ad309 = ad311 := (by injection e311)
      replace hx311_0 := cl HB hx311_0
      replace hx311_1 := cl HB hx311_1
      replace hx311_2 := cl HB hx311_2
      replace hx311_3 := cl HB hx311_3
      replace hx311_4 := cl HB hx311_4
      replace hx311_5 := cl HB hx311_5
      replace p311 := eq_true p311
      replace q311 := eq_true q311
      refine start_ (n := 6) (S := fun w' => w'.cell? ⟨gb310, 0, none⟩ = some (.int .i64 ((rd_T25 l0 x9_1).f0.f0)) ∧ w'.cell? ⟨gb310, 1, none⟩ = some (.int .i64 ((rd_T25 l0 x9_1).f0.f1)) ∧ w'.cell? ⟨gb310, 2, none⟩ = some (.int .i64 ((rd_T25 l0 x9_1).f0.f2)) ∧ w'.cell? ⟨gb310, 3, none⟩ = some (.int .i64 ((rd_T25 l0 x9_1).f1.f0)) ∧ w'.cell? ⟨gb310, 4, none⟩ = some (.int .i64 ((rd_T25 l0 x9_1).f1.f1)) ∧ w'.cell? ⟨gb310, 5, none⟩ = some (.int .i64 ((rd_T25 l0 x9_1).f1.f2)) ∧ w'.cell? (ad309.add ((x6_2).toNat * 6)) = some (.int .i64 ((rd_T25 l0 x6_2).f0.f0)) ∧ w'.cell? ⟨(ad309.add ((x6_2).toNat * 6)).block, (ad309.add ((x6_2).toNat * 6)).off + 1, none⟩ = some (.int .i64 ((rd_T25 l0 x6_2).f0.f1)) ∧ w'.cell? ⟨(ad309.add ((x6_2).toNat * 6)).block, (ad309.add ((x6_2).toNat * 6)).off + 2, none⟩ = some (.int .i64 ((rd_T25 l0 x6_2).f0.f2)) ∧ w'.cell? ⟨(ad309.add ((x6_2).toNat * 6)).block, (ad309.add ((x6_2).toNat * 6)).off + 3, none⟩ = some (.int .i64 ((rd_T25 l0 x6_2).f1.f0)) ∧ w'.cell? ⟨(ad309.add ((x6_2).toNat * 6)).block, (ad309.add ((x6_2).toNat * 6)).off + 4, none⟩ = some (.int .i64 ((rd_T25 l0 x6_2).f1.f1)) ∧ w'.cell? ⟨(ad309.add ((x6_2).toNat * 6)).block, (ad309.add ((x6_2).toNat * 6)).off + 5, none⟩ = some (.int .i64 ((rd_T25 l0 x6_2).f1.f2))) (ds := []) #[F,F,F,F,F,F] (by kernel_rfl) rfl rfl ⟨(bc BK310.out 0).trans rfl, (bc BK310.out 1).trans rfl, (bc BK310.out 2).trans rfl, (bc BK310.out 3).trans rfl, (bc BK310.out 4).trans rfl, (bc BK310.out 5).trans rfl, ((HB.out.cell (bq w _ hw311_0)).trans hw311_0), ((HB.out.cell (bq w _ hw311_1)).trans hw311_1), ((HB.out.cell (bq w _ hw311_2)).trans hw311_2), ((HB.out.cell (bq w _ hw311_3)).trans hw311_3), ((HB.out.cell (bq w _ hw311_4)).trans hw311_4), ((HB.out.cell (bq w _ hw311_5)).trans hw311_5)⟩ (fun hHeld => ?_)
      generalize wr.drew = w13 at BK310 HB hx311_0 hx311_1 hx311_2 hx311_3 hx311_4 hx311_5 hHeld ⊢
      refine pure_ (i := 1) (N := some 23) (v := ?_) (a' := ?_) #[F,T,F,F,F,F] rfl rfl (by kernel_rfl) (fun _ _ _ h => h) (Or.inl ⟨by rfl, ?_⟩) ?_ ?_
      rotate_left
      ·intro w'
       go_simp
       with_reducible rfl
      rotate_left
      ·simp only [Act.put, psl, i64_w, i32_w]
       rfl
      refine pure_ (i := 2) (N := some 24) (v := ?_) (a' := ?_) #[F,T,T,F,F,F] rfl rfl (by kernel_rfl) (fun _ _ _ h => h) (Or.inl ⟨by rfl, ?_⟩) ?_ ?_
      rotate_left
      ·intro w'
       go_simp
       with_reducible rfl
      rotate_left
      ·simp only [Act.put, psl, i64_w, i32_w]
       rfl
      refine pure_ (i := 3) (N := some 25) (v := ?_) (a' := ?_) #[F,T,T,T,F,F] rfl rfl (by kernel_rfl) (fun _ _ _ h => h) (Or.inl ⟨by rfl, ?_⟩) ?_ ?_
      rotate_left
      ·intro w'
       go_simp
       with_reducible rfl
      rotate_left
      ·simp only [Act.put, psl, i64_w, i32_w]
       rfl
      refine take_ (i := 0) (N := some 22) (v := ?_) (a' := ?_) #[T,T,T,T,F,F] rfl rfl (by kernel_rfl) (fun _ _ _ h => h) (Or.inl ⟨by rfl, ?_⟩) hHeld ?_ ?_
      rotate_left
      ·rintro w' ⟨s0, s1, s2, s3, s4, s5, s6, s7, s8, s9, s10, s11⟩
       go_simp
       with_reducible rfl
      rotate_left
      ·simp only [Act.put, psl, i64_w, i32_w]
       rfl
      refine take_ (i := 4) (N := some 26) (v := ?_) (a' := ?_) #[T,T,T,T,T,F] rfl rfl (by kernel_rfl) (fun _ _ _ h => h) (Or.inl ⟨by rfl, ?_⟩) hHeld ?_ ?_
      rotate_left
      ·rintro w' ⟨s0, s1, s2, s3, s4, s5, s6, s7, s8, s9, s10, s11⟩
       go_simp
       with_reducible rfl
      rotate_left
      ·simp only [Act.put, psl, i64_w, i32_w]
       rfl
      refine one_ (i := 5) (N := some 27) (fl 6 6 []) rfl rfl (by kernel_rfl) (by decide) (fun K hK => ?_)
      refine goes_ Try.func17 (by kernel_rfl) rfl #[.agg #[.int .i64 ((rd_T25 l0 x9_1).f0.f0), .int .i64 ((rd_T25 l0 x9_1).f0.f1), .int .i64 ((rd_T25 l0 x9_1).f0.f2), .int .i64 ((rd_T25 l0 x9_1).f1.f0), .int .i64 ((rd_T25 l0 x9_1).f1.f1), .int .i64 ((rd_T25 l0 x9_1).f1.f2)], .agg #[.int .i64 ((rd_T25 l0 x6_2).f0.f0), .int .i64 ((rd_T25 l0 x6_2).f0.f1), .int .i64 ((rd_T25 l0 x6_2).f0.f2), .int .i64 ((rd_T25 l0 x6_2).f1.f0), .int .i64 ((rd_T25 l0 x6_2).f1.f1), .int .i64 ((rd_T25 l0 x6_2).f1.f2)]] (by rfl) rfl rfl (by (try simp only [pml]); first | done | rfl | (simp only [pdt]; rfl)) ?_
      with_reducible refine (box_Overlap.calls ((rd_T25 l0 x9_1).f0.f0) ((rd_T25 l0 x9_1).f0.f1) ((rd_T25 l0 x9_1).f0.f2) ((rd_T25 l0 x9_1).f1.f0) ((rd_T25 l0 x9_1).f1.f1) ((rd_T25 l0 x9_1).f1.f2) ((rd_T25 l0 x6_2).f0.f0) ((rd_T25 l0 x6_2).f0.f1) ((rd_T25 l0 x6_2).f0.f2) ((rd_T25 l0 x6_2).f1.f0) ((rd_T25 l0 x6_2).f1.f1) ((rd_T25 l0 x6_2).f1.f2) false _ A9.out).mono ?_
      rintro e w14 ⟨rfl, hb⟩
      refine ⟨_, rfl, ?_⟩
      have n0_ := bB BK310 hb
      have n1_ := bS HB hb
      clear BK310 HB
      have BK310 := n0_
      have HB := n1_
      clear n0_ n1_
      (try clear hb)
      (try clear hb2)
      (try clear hk)
      (try clear hi)
      refine hK.out _ _ ⟨(bc BK310.out 0).trans rfl, (bc BK310.out 1).trans rfl, (bc BK310.out 2).trans rfl, (bc BK310.out 3).trans rfl, (bc BK310.out 4).trans rfl, (bc BK310.out 5).trans rfl, ((HB.out.cell (bq w _ hw311_0)).trans hw311_0), ((HB.out.cell (bq w _ hw311_1)).trans hw311_1), ((HB.out.cell (bq w _ hw311_2)).trans hw311_2), ((HB.out.cell (bq w _ hw311_3)).trans hw311_3), ((HB.out.cell (bq w _ hw311_4)).trans hw311_4), ((HB.out.cell (bq w _ hw311_5)).trans hw311_5)⟩ (fun hHeld => ?_)
      clear hK K
      refine norm_ (a' := ?_) ?_ ?_
      rotate_left
      ·show Act.put _ (some 27) _ = _
       simp only [Act.put, psl, i64_w, i32_w]
       rfl
      refine done_ (by kernel_rfl) ?_
      try go_wp2
      go_roundg k2
      case measure => have := HK1.out; have := HK2.out; omega
      case rel => exact ⟨(wrap64 (x6_2 + 1)), sqD, H', ⟨by have := HK1.out; have := HK2.out; omega⟩, ⟨fb BK310.out⟩, ⟨fW HB.out⟩⟩
   ·rw [if_neg c2] at H
    have c2b0 : decide (x9_1 < (l0.length : Int)) = false := decide_eq_false c2
    clear c2
    simp only [Option.some.injEq, Prod.mk.injEq] at H
    obtain ⟨rfl, rfl⟩ := H
    go_wp2
    go_ret2
    exact ⟨sqE, fW HB.out⟩

def box_Clash.f (k : Nat) (l0 : List (S25)) : Option (Int × Int × Int) := (box_many.f k l0 ([] : List (S25))).bind fun t313 => (if t313 = 0 then ((box_clash.f k l0).bind fun bt314 => (if bt314.1 < 0 then (some (0, 0, 9)) else (some (bt314.1, bt314.2, 0)))) else (some (0, 0, t313)))
set_option maxHeartbeats 8000000 in
set_option maxRecDepth 100000 in
theorem box_Clash.calls (k : Nat) (A0 : Option Addr) (c0 : Nat) (l0 : List (S25)) (r1 : Int) (r2 : Int) (r3 : Int) (w : World) (hr0 : Kd.C k25 w A0 l0.length l0) (hc0 : l0.length ≤ c0) (h : box_Clash.f k l0 = some (r1, r2, r3)) :
  Calls Try.prog 41 #[.slice A0 l0.length c0] w fun e w' => e = .returned (.tuple #[.int .i64 r1, .int .i64 r2, .int .i64 r3]) ∧ Below w.heap.size w w' := by
 have HR0 := am hr0
 have HC0 := am hc0
 clear hr0 hc0
 have HB := am (Below.refl w.heap.size w)
 have H : ((box_many.f k l0 ([] : List (S25))).bind fun t313 => (if t313 = 0 then ((box_clash.f k l0).bind fun bt314 => (if bt314.1 < 0 then (some (0, 0, 9)) else (some (bt314.1, bt314.2, 0)))) else (some (0, 0, t313)))) = some (r1, r2, r3) := h
 clear h
 replace H := Option.bind_eq_some_iff.mp H
 obtain ⟨t313, A20, H⟩ := H
 replace H : (if t313 = 0 then ((box_clash.f k l0).bind fun bt314 => (if bt314.1 < 0 then (some (0, 0, 9)) else (some (bt314.1, bt314.2, 0)))) else (some (0, 0, t313))) = some (r1, r2, r3) := H
 have A2 := am A20
 clear A20
 by_cases c3 : t313 = 0
 ·rw [if_pos c3] at H
  have c3b0 : (t313 == 0) = true := beq_iff_eq.mpr c3
  have c3b1 : (t313 != 0) = false := bne_eq_false_iff_eq.mpr c3
  clear c3
  replace H := Option.bind_eq_some_iff.mp H
  obtain ⟨⟨t314, t315⟩, A40, H⟩ := H
  replace H : (if t314 < 0 then (some (0, 0, 9)) else (some (t314, t315, 0))) = some (r1, r2, r3) := H
  have A4 := am A40
  clear A40
  by_cases c5 : t314 < 0
  ·rw [if_pos c5] at H
   have c5b0 : decide (t314 < 0) = true := decide_eq_true c5
   clear c5
   simp only [Option.some.injEq, Prod.mk.injEq] at H
   obtain ⟨rfl, rfl, rfl⟩ := H
   go_enter Try.func41, Try.ntmps41
   go_wp2_with (first | ((with_reducible refine gate_callee (f := 48) rfl ?_); refine goesL_ (some 9) rfl rfl Try.func48 (by kernel_rfl) rfl #[.slice A0 l0.length c0, .slice none 0 0] rfl (by (try simp only [pml]); first | done | rfl | (simp only [pdt]; rfl)) ?_; (refine (box_many.calls k _ _ l0 _ _ ([] : List (S25)) t313 _ ?side1 ?side2 ?side3 ?side4 A2.out).mono ?_); (case side1 => repeat (first | exact HR0.out | (with_reducible refine Kd.C_alloc ?_ _) | (with_reducible refine Kd.C_drewN ?_ _) | (with_reducible refine Kd.C_drew ?_))); (case side2 => exact HC0.out); (case side3 => exact Kd.C_nil _ _); (case side4 => exact Nat.le_refl _); rintro e w6 ⟨rfl, hb⟩; refine ⟨_, rfl, ?_⟩; replace HB := bS HB hb; (try clear hb); (try clear hb2); (try clear hk); (try clear hi)) | ((with_reducible refine gate_callee (f := 65) rfl ?_); refine goesL_ (some 15) rfl rfl Try.func65 (by kernel_rfl) rfl #[.slice A0 l0.length c0] rfl (by (try simp only [pml]); first | done | rfl | (simp only [pdt]; rfl)) ?_; (with_reducible refine (box_clash.calls k _ _ l0 t314 t315 _ ?side1 ?side2 A4.out).mono ?_); (case side1 => repeat (first | exact (Kd.C_below HR0.out HB.out) | (with_reducible refine Kd.C_alloc ?_ _) | (with_reducible refine Kd.C_drewN ?_ _) | (with_reducible refine Kd.C_drew ?_))); (case side2 => exact HC0.out); rintro e w7 ⟨rfl, hb⟩; refine ⟨_, rfl, ?_⟩; replace HB := bS HB hb; (try clear hb); (try clear hb2); (try clear hk); (try clear hi)))
   go_ret3
   exact ⟨sqE, fW HB.out⟩
  rw [if_neg c5] at H
  have c5b0 : decide (t314 < 0) = false := decide_eq_false c5
  clear c5
  simp only [Option.some.injEq, Prod.mk.injEq] at H
  obtain ⟨rfl, rfl, rfl⟩ := H
  go_enter Try.func41, Try.ntmps41
  go_wp2_with (first | ((with_reducible refine gate_callee (f := 48) rfl ?_); refine goesL_ (some 9) rfl rfl Try.func48 (by kernel_rfl) rfl #[.slice A0 l0.length c0, .slice none 0 0] rfl (by (try simp only [pml]); first | done | rfl | (simp only [pdt]; rfl)) ?_; (refine (box_many.calls k _ _ l0 _ _ ([] : List (S25)) t313 _ ?side1 ?side2 ?side3 ?side4 A2.out).mono ?_); (case side1 => repeat (first | exact HR0.out | (with_reducible refine Kd.C_alloc ?_ _) | (with_reducible refine Kd.C_drewN ?_ _) | (with_reducible refine Kd.C_drew ?_))); (case side2 => exact HC0.out); (case side3 => exact Kd.C_nil _ _); (case side4 => exact Nat.le_refl _); rintro e w8 ⟨rfl, hb⟩; refine ⟨_, rfl, ?_⟩; replace HB := bS HB hb; (try clear hb); (try clear hb2); (try clear hk); (try clear hi)) | ((with_reducible refine gate_callee (f := 65) rfl ?_); refine goesL_ (some 15) rfl rfl Try.func65 (by kernel_rfl) rfl #[.slice A0 l0.length c0] rfl (by (try simp only [pml]); first | done | rfl | (simp only [pdt]; rfl)) ?_; (with_reducible refine (box_clash.calls k _ _ l0 t314 t315 _ ?side1 ?side2 A4.out).mono ?_); (case side1 => repeat (first | exact (Kd.C_below HR0.out HB.out) | (with_reducible refine Kd.C_alloc ?_ _) | (with_reducible refine Kd.C_drewN ?_ _) | (with_reducible refine Kd.C_drew ?_))); (case side2 => exact HC0.out); rintro e w9 ⟨rfl, hb⟩; refine ⟨_, rfl, ?_⟩; replace HB := bS HB hb; (try clear hb); (try clear hb2); (try clear hk); (try clear hi)))
  go_ret3
  exact ⟨sqE, fW HB.out⟩
 ·rw [if_neg c3] at H
  have c3b0 : (t313 == 0) = false := beq_eq_false_iff_ne.mpr c3
  have c3b1 : (t313 != 0) = true := bne_iff_ne.mpr c3
  simp only [Option.some.injEq, Prod.mk.injEq] at H
  obtain ⟨rfl, rfl, rfl⟩ := H
  go_enter Try.func41, Try.ntmps41
  go_wp2_with (first | ((with_reducible refine gate_callee (f := 48) rfl ?_); refine goesL_ (some 9) rfl rfl Try.func48 (by kernel_rfl) rfl #[.slice A0 l0.length c0, .slice none 0 0] rfl (by (try simp only [pml]); first | done | rfl | (simp only [pdt]; rfl)) ?_; (refine (box_many.calls k _ _ l0 _ _ ([] : List (S25)) t313 _ ?side1 ?side2 ?side3 ?side4 A2.out).mono ?_); (case side1 => repeat (first | exact HR0.out | (with_reducible refine Kd.C_alloc ?_ _) | (with_reducible refine Kd.C_drewN ?_ _) | (with_reducible refine Kd.C_drew ?_))); (case side2 => exact HC0.out); (case side3 => exact Kd.C_nil _ _); (case side4 => exact Nat.le_refl _); rintro e w10 ⟨rfl, hb⟩; refine ⟨_, rfl, ?_⟩; replace HB := bS HB hb; (try clear hb); (try clear hb2); (try clear hk); (try clear hi)))
  go_ret3
  exact ⟨sqE, fW HB.out⟩

end Go.Proofs.Ytmmdikhmlmoolaa.QA
