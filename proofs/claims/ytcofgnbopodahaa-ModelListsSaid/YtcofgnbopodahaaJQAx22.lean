import Derived.Test.YtcofgnbopodahaaJQAx0
import Derived.Test.YtcofgnbopodahaaJQAx21
namespace Go.Proofs.Ytcofgnbopodahaa.QA
open Go.RowKit Go.Proofs.YtcofgnbopodahaaW.PrintWords Go.Proofs.YtcofgnbopodahaaW.PrintLast Go.Proofs.YtcofgnbopodahaaW.PrintMore
open Go.Proofs.YtcofgnbopodahaaW.PrintWords renaming blk_drewN → bN, blk_drew → bd, blk_alloc → ba, blk_cell → bc, below_size → wz
open Aside0 renaming mk → am
open World renaming block_lt_of_cell? → bq
attribute [local go_sem] max2_int min2_int max_two min_two max_three min_three max_four min_four
set_option linter.unusedVariables false
set_option linter.unusedSimpArgs false

mutual
def r_Parts.l0 : Nat → List (S68) → List Int → List Int → List Int → Int → Int → Int → Int → Int → Int → Int → Option ((List (S43)))
 | 0, _, _, _, _, _, _, _, _, _, _, _ => none
 | k + 1, x0, x5, x6, x7, x8, x393000, x393001, x393002, x393003, x393004, x393005 => if x8 < (x0.length : Int) then (if 0 ≤ x8 then ((r_insert.f k x5 ((rd_T68 x0 x8).f1.f0.f0) x393000 x393003).bind fun t404 => ((r_insert.f k t404 ((rd_T68 x0 x8).f1.f1.f0) x393000 x393003).bind fun t407 => ((r_insert.f k x6 ((rd_T68 x0 x8).f1.f0.f1) x393001 x393004).bind fun t410 => ((r_insert.f k t410 ((rd_T68 x0 x8).f1.f1.f1) x393001 x393004).bind fun t413 => ((r_insert.f k x7 ((rd_T68 x0 x8).f1.f0.f2) x393002 x393005).bind fun t416 => ((r_insert.f k t416 ((rd_T68 x0 x8).f1.f1.f2) x393002 x393005).bind fun t419 => (r_Parts.l0 k x0 t407 t413 t419 (wrap64 (x8 + 1)) x393000 x393001 x393002 x393003 x393004 x393005))))))) else (none)) else ((some (([x393000] : List Int) : List Int)).bind fun y422 => (if y422.length + x5.length < 17592186044416 then ((some (y422 ++ x5 : List Int)).bind fun y425 => ((some (([x393003] : List Int) : List Int)).bind fun y428 => (if y425.length + y428.length < 17592186044416 then ((some (([x393001] : List Int) : List Int)).bind fun y434 => (if y434.length + x6.length < 17592186044416 then ((some (y434 ++ x6 : List Int)).bind fun y437 => ((some (([x393004] : List Int) : List Int)).bind fun y440 => (if y437.length + y440.length < 17592186044416 then ((some (([x393002] : List Int) : List Int)).bind fun y446 => (if y446.length + x7.length < 17592186044416 then ((some (y446 ++ x7 : List Int)).bind fun y449 => ((some (([x393005] : List Int) : List Int)).bind fun y452 => (if y449.length + y452.length < 17592186044416 then (r_Parts.l1 k (y425 ++ y428) (y437 ++ y440) (y449 ++ y452) (([] : List (S43))) 0) else (none)))) else (none))) else (none)))) else (none))) else (none)))) else (none)))
def r_Parts.l1 : Nat → List Int → List Int → List Int → List (S43) → Int → Option ((List (S43)))
 | 0, _, _, _, _, _ => none
 | k + 1, x5, x6, x7, x10, x11 => if (wrap64 (x11 + 1)) < (x7.length : Int) then (r_Parts.l2 k x5 x6 x7 x10 x11 0) else (some x10)
def r_Parts.l2 : Nat → List Int → List Int → List Int → List (S43) → Int → Int → Option ((List (S43)))
 | 0, _, _, _, _, _, _ => none
 | k + 1, x5, x6, x7, x10, x11, x12 => if (wrap64 (x12 + 1)) < (x6.length : Int) then (r_Parts.l3 k x5 x6 x7 x10 x11 x12 0) else (r_Parts.l1 k x5 x6 x7 x10 (wrap64 (x11 + 1)))
def r_Parts.l3 : Nat → List Int → List Int → List Int → List (S43) → Int → Int → Int → Option ((List (S43)))
 | 0, _, _, _, _, _, _, _ => none
 | k + 1, x5, x6, x7, x10, x11, x12, x13 => if (wrap64 (x13 + 1)) < (x5.length : Int) then (if 0 ≤ x13 then (if x13 < (x5.length : Int) then (if 0 ≤ x12 then (if x12 < (x6.length : Int) then (if 0 ≤ x11 then (if x11 < (x7.length : Int) then (if 0 ≤ (wrap64 (x13 + 1)) then (if 0 ≤ (wrap64 (x12 + 1)) then (if (wrap64 (x12 + 1)) < (x6.length : Int) then (if 0 ≤ (wrap64 (x11 + 1)) then (if (wrap64 (x11 + 1)) < (x7.length : Int) then ((some (([(⟨(⟨rd x5 x13, rd x6 x12, rd x7 x11⟩ : S24), (⟨rd x5 (wrap64 (x13 + 1)), rd x6 (wrap64 (x12 + 1)), rd x7 (wrap64 (x11 + 1))⟩ : S24)⟩ : S43)] : List (S43)) : List (S43))).bind fun y467 => (if x10.length + y467.length < 2932031007402 then (r_Parts.l3 k x5 x6 x7 (x10 ++ y467) x11 x12 (wrap64 (x13 + 1))) else (none))) else (none)) else (none)) else (none)) else (none)) else (none)) else (none)) else (none)) else (none)) else (none)) else (none)) else (none)) else (r_Parts.l2 k x5 x6 x7 x10 x11 (wrap64 (x12 + 1)))
end
def r_Parts.f (k : Nat) (l0 : List (S68)) (a1_0 : Int) (a1_1 : Int) (a1_2 : Int) (a1_3 : Int) (a1_4 : Int) (a1_5 : Int) : Option ((List (S43))) := r_Parts.l0 k l0 (([] : List Int)) (([] : List Int)) (([] : List Int)) 0 a1_0 a1_1 a1_2 a1_3 a1_4 a1_5
def r_Parts.T6 : Bool × List (List Nat × List Nat) := (true, [([], []), ([], []), ([1], [1]), ([2], [2]), ([], []), ([4], [4]), ([5], [5]), ([], []), ([7], [7]), ([8], [8]), ([0, 3, 6, 9], [0, 3, 6, 9]), ([], []), ([11], [11]), ([12], [12]), ([], []), ([14], [14]), ([15], [15]), ([], []), ([17], [17]), ([18], [18]), ([10, 13, 16, 19, 10], [10, 13, 16, 19]), ([20, 20, 0, 1, 2, 3, 4, 5, 6, 7, 8, 9, 10, 11, 12, 13, 14, 15, 16, 17, 18, 19, 20], [0, 20])])
def r_Parts.B6 : List Nat := [0, 0, 2, 6, 0, 16, 48, 0, 128, 384, 1023, 0, 2048, 6144, 0, 16384, 49152, 0, 131072, 393216, 1048575, 2097151]
theorem r_Parts.tab6 : rtab .any (opsOf Try.f57 6) = r_Parts.T6 := by kernel_rfl
theorem r_Parts.bits6 : waitsOk r_Parts.T6.2 r_Parts.B6 = true := by kernel_rfl
def r_Parts.T7 : Bool × List (List Nat × List Nat) := (true, [([], []), ([], []), ([1], [1]), ([2], [2]), ([], []), ([4], [4]), ([5], [5]), ([], []), ([7], [7]), ([8], [8]), ([0, 3, 6, 9], [0, 3, 6, 9]), ([], []), ([11], [11]), ([12], [12]), ([], []), ([14], [14]), ([15], [15]), ([], []), ([17], [17]), ([18], [18]), ([10, 13, 16, 19, 10], [10, 13, 16, 19]), ([20, 20, 0, 1, 2, 3, 4, 5, 6, 7, 8, 9, 10, 11, 12, 13, 14, 15, 16, 17, 18, 19, 20], [0, 20])])
def r_Parts.B7 : List Nat := [0, 0, 2, 6, 0, 16, 48, 0, 128, 384, 1023, 0, 2048, 6144, 0, 16384, 49152, 0, 131072, 393216, 1048575, 2097151]
theorem r_Parts.tab7 : rtab .any (opsOf Try.f57 7) = r_Parts.T7 := by kernel_rfl
theorem r_Parts.bits7 : waitsOk r_Parts.T7.2 r_Parts.B7 = true := by kernel_rfl
def r_Parts.T8 : Bool × List (List Nat × List Nat) := (true, [([], []), ([], []), ([1], [1]), ([2], [2]), ([], []), ([4], [4]), ([5], [5]), ([], []), ([7], [7]), ([8], [8]), ([0, 3, 6, 9], [0, 3, 6, 9]), ([], []), ([11], [11]), ([12], [12]), ([], []), ([14], [14]), ([15], [15]), ([], []), ([17], [17]), ([18], [18]), ([10, 13, 16, 19, 10], [10, 13, 16, 19]), ([20, 20, 0, 1, 2, 3, 4, 5, 6, 7, 8, 9, 10, 11, 12, 13, 14, 15, 16, 17, 18, 19, 20], [0, 20])])
def r_Parts.B8 : List Nat := [0, 0, 2, 6, 0, 16, 48, 0, 128, 384, 1023, 0, 2048, 6144, 0, 16384, 49152, 0, 131072, 393216, 1048575, 2097151]
theorem r_Parts.tab8 : rtab .any (opsOf Try.f57 8) = r_Parts.T8 := by kernel_rfl
theorem r_Parts.bits8 : waitsOk r_Parts.T8.2 r_Parts.B8 = true := by kernel_rfl
def r_Parts.T9 : Bool × List (List Nat × List Nat) := (true, [([], []), ([0], [0]), ([1], [1]), ([2], [2]), ([], []), ([3, 4], [3, 4]), ([], []), ([6], [6]), ([7], [7]), ([8], [8]), ([5, 9, 5], [5, 9]), ([], []), ([11], [11]), ([12], [12]), ([13], [13]), ([], []), ([14, 15, 10], [14, 15]), ([], []), ([17], [17]), ([18], [18]), ([19], [19]), ([16, 20, 16], [16, 20]), ([], []), ([22], [22]), ([23], [23]), ([24], [24]), ([], []), ([25, 26, 21], [25, 26]), ([], []), ([28], [28]), ([29], [29]), ([30], [30]), ([27, 31, 27], [27, 31]), ([10, 32, 0, 1, 2, 3, 4, 5, 6, 7, 8, 9, 10], [4, 10]), ([21, 33, 0, 1, 2, 3, 4, 5, 6, 7, 8, 9, 10, 11, 12, 13, 14, 15, 16, 17, 18, 19, 20, 21, 33], [15, 21]), ([32, 34, 0, 1, 2, 3, 4, 5, 6, 7, 8, 9, 10, 11, 12, 13, 14, 15, 16, 17, 18, 19, 20, 21, 22, 23, 24, 25, 26, 27, 28, 29, 30, 31, 32, 33, 34], [26, 32])])
def r_Parts.B9 : List Nat := [0, 1, 3, 7, 0, 31, 0, 64, 192, 448, 1023, 0, 2048, 6144, 14336, 0, 65535, 0, 131072, 393216, 917504, 2097151, 0, 4194304, 12582912, 29360128, 0, 134217727, 0, 268435456, 805306368, 1879048192, 4294967295, 8589934591, 17179869183, 34359738367]
theorem r_Parts.tab9 : rtab .any (opsOf Try.f57 9) = r_Parts.T9 := by kernel_rfl
theorem r_Parts.bits9 : waitsOk r_Parts.T9.2 r_Parts.B9 = true := by kernel_rfl
def r_Parts.T20 : Bool × List (List Nat × List Nat) := (true, [([], []), ([], []), ([], []), ([1, 2], [1, 2]), ([3], [3]), ([], []), ([], []), ([5, 6], [5, 6]), ([7], [7]), ([], []), ([], []), ([9, 10], [9, 10]), ([11], [11]), ([4, 8, 12], [4, 8, 12]), ([], []), ([], []), ([15], [15]), ([14, 16], [14, 16]), ([17], [17]), ([], []), ([], []), ([20], [20]), ([19, 21], [19, 21]), ([22], [22]), ([], []), ([], []), ([25], [25]), ([24, 26], [24, 26]), ([27], [27]), ([18, 23, 28], [18, 23, 28]), ([13, 29], [13, 29]), ([30], [30]), ([0, 31], [0, 31]), ([32, 32, 0, 1, 2, 3, 4, 5, 6, 7, 8, 9, 10, 11, 12, 13, 14, 15, 16, 17, 18, 19, 20, 21, 22, 23, 24, 25, 26, 27, 28, 29, 30, 31, 32], [0, 32])])
def r_Parts.B20 : List Nat := [0, 0, 0, 6, 14, 0, 0, 96, 224, 0, 0, 1536, 3584, 8190, 0, 0, 32768, 114688, 245760, 0, 0, 1048576, 3670016, 7864320, 0, 0, 33554432, 117440512, 251658240, 536854528, 1073741822, 2147483646, 4294967295, 8589934591]
theorem r_Parts.tab20 : rtab .any (opsOf Try.f57 20) = r_Parts.T20 := by kernel_rfl
theorem r_Parts.bits20 : waitsOk r_Parts.T20.2 r_Parts.B20 = true := by kernel_rfl
section
open Go.Proofs.YtcofgnbopodahaaW.PrintMore
def tg (T : Nat → Nat) (W : World) (t : Nat) : Nat → Nat := fun k => if k < W.heap.size then T k else t
def Rw (base : Nat) (T : Nat → Nat) (t : Nat) (W : World) (v : Value) (xs : List Int) : Prop := Kd.R (Kd.int .i64) 3 W base (fun k => T k = t) v xs
variable {base t t0 : Nat} {T : Nat → Nat} {W w1 : World} {v u : Value} {xs ys : List Int}
theorem Rw.tag (h : Rw base T t W v xs) (t0 : Nat) : Kd.R (Kd.int .i64) 3 W base (fun k => tg T W t0 k = t) v xs := Kd.R_mono (Kd.R_bound h) (fun k hk => (if_pos hk.2.2.1).trans hk.1)
theorem Rw.new (h : Rw base T t W v xs) (hb : Below W.heap.size W w1) (t0 : Nat) : Rw base (tg T W t0) t w1 v xs := Kd.R_below (Rw.tag h t0) hb
theorem Rw.app (h : Rw base T t W v xs) (hv : Rw base T t0 W u ys) (hne : t ≠ t0) (hg : W.grownBy w1 u.ownBlock) : Rw base (tg T W t0) t w1 v xs := Kd.R_grown (Rw.tag h t0) hg (fun k hk e => hne (hk.symm.trans ((Rw.tag hv t0).1 k e.symm)))
theorem Rw.lit (h : Kd.R (Kd.int .i64) 3 w1 W.heap.size (fun _ => True) v xs) (hb : base ≤ W.heap.size) (T : Nat → Nat) (t0 : Nat) : Rw base (tg T W t0) t0 w1 v xs :=
 Kd.R_lower (Kd.R_mono (Kd.R_bound h) (fun k hk => if_neg (Nat.not_lt.2 hk.2.1))) hb
structure Tri (w : World) (gb : Nat) (o : Obj) (u5 : Value) (x5 : List Int) (u6 : Value) (x6 : List Int) (u7 : Value) (x7 : List Int) (T : Nat → Nat) (W : World) : Prop where
 b : Below w.heap.size w W
 k : W.heap[gb]? = some o
 t : T gb = 7
 p5 : Kd.V (Kd.int .i64) 3 W w.heap.size (fun k => T k = 0) u5 x5
 p6 : Kd.V (Kd.int .i64) 3 W w.heap.size (fun k => T k = 0) u6 x6
 p7 : Kd.V (Kd.int .i64) 3 W w.heap.size (fun k => T k = 0) u7 x7
variable {w : World} {gb : Nat} {o : Obj} {u5 u6 u7 : Value} {x5 x6 x7 : List Int}
theorem V_tag (h : Kd.V (Kd.int .i64) 3 W base (fun k => T k = t) v xs) (t0 : Nat) : Kd.V (Kd.int .i64) 3 W base (fun k => tg T W t0 k = t) v xs := Kd.V_mono (Kd.V_bound h) (fun k hk => (if_pos hk.2).trans hk.1)
theorem V_app (h : Kd.V (Kd.int .i64) 3 W base (fun k => T k = t) v xs) (hv : Rw base T t0 W u ys) (hne : t ≠ t0) (hg : W.grownBy w1 u.ownBlock) : Kd.V (Kd.int .i64) 3 w1 base (fun k => tg T W t0 k = t) v xs :=
 Kd.V_grown (V_tag h t0) hg (fun k hk e => hne (hk.symm.trans ((Rw.tag hv t0).1 k e.symm)))
theorem Tri.new (h : Tri w gb o u5 x5 u6 x6 u7 x7 T W) (hb : Below W.heap.size W w1) (t0 : Nat) : Tri w gb o u5 x5 u6 x6 u7 x7 (tg T W t0) w1 :=
 ⟨below_step h.b hb, blk_below h.k hb, (if_pos (blk_lt h.k)).trans h.t, Kd.V_below (V_tag h.p5 t0) hb, Kd.V_below (V_tag h.p6 t0) hb, Kd.V_below (V_tag h.p7 t0) hb⟩
theorem Tri.app (h : Tri w gb o u5 x5 u6 x6 u7 x7 T W) (hv : Rw w.heap.size T t0 W u ys) (h0 : 0 ≠ t0) (h7 : 7 ≠ t0) (hg : W.grownBy w1 u.ownBlock) (hb : Below w.heap.size w w1) : Tri w gb o u5 x5 u6 x6 u7 x7 (tg T W t0) w1 :=
 ⟨hb, blk_grown h.k hg (fun e => h7 (h.t.symm.trans (hv.1 gb e.symm))), (if_pos (blk_lt h.k)).trans h.t, V_app h.p5 hv h0 hg, V_app h.p6 hv h0 hg, V_app h.p7 hv h0 hg⟩
theorem ev_tmp {a : Act} {n : Nat} {v : Value} (h : a.tmps[n]? = some v) : a.eval (.tmp n) = v := by
 show a.tmps.getD n undef = v
 rw [Array.getD_eq_getD_getElem?, h]; rfl
end
set_option maxHeartbeats 8000000 in
set_option maxRecDepth 100000 in
theorem r_Parts.calls (k : Nat) (A0 : Option Addr) (c0 : Nat) (l0 : List (S68)) (a1_0 : Int) (a1_1 : Int) (a1_2 : Int) (a1_3 : Int) (a1_4 : Int) (a1_5 : Int) (r : List (S43)) (w : World) (hr0 : Kd.C k68 w A0 l0.length l0) (hc0 : l0.length ≤ c0) (h : r_Parts.f k l0 a1_0 a1_1 a1_2 a1_3 a1_4 a1_5 = some r) :
  Calls Try.prog 57 #[.slice A0 l0.length c0, .agg #[.int .i64 a1_0, .int .i64 a1_1, .int .i64 a1_2, .int .i64 a1_3, .int .i64 a1_4, .int .i64 a1_5]] w fun e w' => ∃ v0_ : Value, e = .returned (v0_) ∧ Kd.R k43 43 w' w.heap.size (fun _ => True) v0_ r ∧ Below w.heap.size w w' := by
 have hu43 := Try.underlying43
 have hu24 := Try.underlying24
 have HR0 := am hr0
 have HC0 := am hc0
 clear hr0 hc0
 have HB := am (Below.refl w.heap.size w)
 have H : (r_Parts.l0 k l0 (([] : List Int)) (([] : List Int)) (([] : List Int)) 0 a1_0 a1_1 a1_2 a1_3 a1_4 a1_5) = some r := h
 clear h
 obtain ⟨y393, hy393⟩ : ∃ y_ : List Int, y_ = (([] : List Int)) := ⟨_, rfl⟩
 replace H : (r_Parts.l0 k l0 y393 (([] : List Int)) (([] : List Int)) 0 a1_0 a1_1 a1_2 a1_3 a1_4 a1_5) = some r := by first | (rw [hy393]; with_reducible exact H) | (have H2_ := (Option.bind_some _ _).symm.trans H; rw [hy393]; with_reducible exact H2_) | (have H2_ := (Option.bind_some _ _).symm.trans H; with_reducible exact H2_) | with_reducible exact H | (rw [hy393]; exact H) | exact H
 have Ny393 := am hy393
 clear hy393
 obtain ⟨y396, hy396⟩ : ∃ y_ : List Int, y_ = (([] : List Int)) := ⟨_, rfl⟩
 replace H : (r_Parts.l0 k l0 y393 y396 (([] : List Int)) 0 a1_0 a1_1 a1_2 a1_3 a1_4 a1_5) = some r := by first | (rw [hy396]; with_reducible exact H) | (have H2_ := (Option.bind_some _ _).symm.trans H; rw [hy396]; with_reducible exact H2_) | (have H2_ := (Option.bind_some _ _).symm.trans H; with_reducible exact H2_) | with_reducible exact H | (rw [hy396]; exact H) | exact H
 have Ny396 := am hy396
 clear hy396
 obtain ⟨y399, hy399⟩ : ∃ y_ : List Int, y_ = (([] : List Int)) := ⟨_, rfl⟩
 replace H : (r_Parts.l0 k l0 y393 y396 y399 0 a1_0 a1_1 a1_2 a1_3 a1_4 a1_5) = some r := by first | (rw [hy399]; with_reducible exact H) | (have H2_ := (Option.bind_some _ _).symm.trans H; rw [hy399]; with_reducible exact H2_) | (have H2_ := (Option.bind_some _ _).symm.trans H; with_reducible exact H2_) | with_reducible exact H | (rw [hy399]; exact H) | exact H
 have Ny399 := am hy399
 clear hy399
 have H' := am H
 clear H
 go_enter Try.func57, Try.ntmps57
 go_wp2_with (first | ((with_reducible refine gate_dst (N := 3) rfl ?_); refine box_event ?hg (N := 3) ?hd (cs := #[.int .i64 a1_0, .int .i64 a1_1, .int .i64 a1_2, .int .i64 a1_3, .int .i64 a1_4, .int .i64 a1_5]) (t := 43) ?hr ?_; (case hd | hg => rfl); (case hr => first | (go_simp; done) | (go_simp; rfl)); intro gb392 hg w3 hbox hb; have BK392 := am hbox; have GW392 := sG HB hg; have GE392 := sG HB hg; replace HB := bS HB hb; clear hb hbox hg) | ((with_reducible refine gate_dst (N := 14) rfl ?_); refine Kd.R_lit (Kd.int .i64) _ 3 ?hg (N := 14) ?hd (xs := ([] : List Int)) (inner := []) (ok := fun _ => True) (okp := fun _ => True) ?hr ?hp (fun _ hk => hk) trivial (Below.refl _ _) (Nat.le_refl _) (by simp) ?_; (case hd | hg => rfl); (case hr => first | (go_simp; done) | (go_simp; rfl)); (case hp => exact (Reps.none _ _)); intro v394 w4 ho5 hb hg_ hnew_; clear hg_ hnew_; (first | rw [← Ny393.out] at ho5 | (simp only [Int.reduceToNat] at ho5; rw [← Ny393.out] at ho5)); have HO395 := am (Kd.R_lower ho5 (wz (fW HB.out))); replace BK392 := bB BK392 hb; replace HB := bS HB hb; clear hb ho5) | ((with_reducible refine gate_dst (N := 15) rfl ?_); refine Kd.R_lit (Kd.int .i64) _ 3 ?hg (N := 15) ?hd (xs := ([] : List Int)) (inner := []) (ok := fun _ => True) (okp := fun _ => True) ?hr ?hp (fun _ hk => hk) trivial (Below.refl _ _) (Nat.le_refl _) (by simp) ?_; (case hd | hg => rfl); (case hr => first | (go_simp; done) | (go_simp; rfl)); (case hp => exact (Reps.none _ _)); intro v397 w6 ho7 hb hg_ hnew_; clear hg_ hnew_; (first | rw [← Ny396.out] at ho7 | (simp only [Int.reduceToNat] at ho7; rw [← Ny396.out] at ho7)); have HO398 := am (Kd.R_lower (Kd.R_new' ho7 (Kd.R_lt (fR HO395.out))) (wz (fW HB.out))); replace HO395 := am (Kd.R_elder' (fR HO395.out) (Kd.R_base ho7) hb); replace BK392 := bB BK392 hb; replace HB := bS HB hb; clear hb ho7) | ((with_reducible refine gate_dst (N := 16) rfl ?_); refine Kd.R_lit (Kd.int .i64) _ 3 ?hg (N := 16) ?hd (xs := ([] : List Int)) (inner := []) (ok := fun _ => True) (okp := fun _ => True) ?hr ?hp (fun _ hk => hk) trivial (Below.refl _ _) (Nat.le_refl _) (by simp) ?_; (case hd | hg => rfl); (case hr => first | (go_simp; done) | (go_simp; rfl)); (case hp => exact (Reps.none _ _)); intro v400 w8 ho9 hb hg_ hnew_; clear hg_ hnew_; (first | rw [← Ny399.out] at ho9 | (simp only [Int.reduceToNat] at ho9; rw [← Ny399.out] at ho9)); have HO401 := am (Kd.R_lower (Kd.R_new' (Kd.R_new' ho9 (Kd.R_lt (fR HO395.out))) (Kd.R_lt (fR HO398.out))) (wz (fW HB.out))); replace HO395 := am (Kd.R_elder' (fR HO395.out) (Kd.R_base ho9) hb); replace HO398 := am (Kd.R_elder' (fR HO398.out) (Kd.R_base ho9) hb); replace BK392 := bB BK392 hb; replace HB := bS HB hb; clear hb ho9))
 go_loopg [5, 6, 7, 8] k (fun kq v5 v6 v7 v8 w' => ∃ (x5_1 : List Int) (x6_1 : List Int) (x7_1 : List Int) (x8_1 : Int), v8 = .int .i64 x8_1 ∧ Aside0 (r_Parts.l0 kq l0 x5_1 x6_1 x7_1 x8_1 a1_0 a1_1 a1_2 a1_3 a1_4 a1_5 = some r) ∧ Aside0 (kq ≤ k) ∧ Aside0 (Kd.V (Kd.int .i64) 3 w' w.heap.size (fun k_ => k_ ≠ gb392) v5 x5_1) ∧ Aside0 (Kd.V (Kd.int .i64) 3 w' w.heap.size (fun k_ => k_ ≠ gb392) v6 x6_1) ∧ Aside0 (Kd.V (Kd.int .i64) 3 w' w.heap.size (fun k_ => k_ ≠ gb392) v7 x7_1) ∧ Aside0 (w'.heap[gb392]? = some (.cells #[.int .i64 a1_0, .int .i64 a1_1, .int .i64 a1_2, .int .i64 a1_3, .int .i64 a1_4, .int .i64 a1_5] 43 (0, 0))) ∧ Aside0 (Below w.heap.size w w'))
 case atStart => exact ⟨(y393), (y396), (y399), (0), sqD, H', ⟨Nat.le_refl _⟩, ⟨Kd.R_V (by (with_reducible repeat (first | apply Kd.R_alloc | apply Kd.R_drewN | apply Kd.R_drew)); exact Kd.R_mono (Kd.R_types HO395.out BK392.out (by decide)) (fun _ hk => hk.2))⟩, ⟨Kd.R_V (by (with_reducible repeat (first | apply Kd.R_alloc | apply Kd.R_drewN | apply Kd.R_drew)); exact Kd.R_mono (Kd.R_types HO398.out BK392.out (by decide)) (fun _ hk => hk.2))⟩, ⟨Kd.R_V (by (with_reducible repeat (first | apply Kd.R_alloc | apply Kd.R_drewN | apply Kd.R_drew)); exact Kd.R_mono (Kd.R_types HO401.out BK392.out (by decide)) (fun _ hk => hk.2))⟩, ⟨fb BK392.out⟩, ⟨fW HB.out⟩⟩
 case round =>
  clear H'
  try clear p2;try clear c5
  obtain ⟨x5_1, x6_1, x7_1, x8_1, rfl, HA, HK1, HO_5, HO_6, HO_7, BK392, HB⟩ := hrel
  cases gk with
  | zero => exact absurd HA.out (by simp [r_Parts.l0])
  | succ k1 =>
   have H := HA.out
   clear HA
   simp only [r_Parts.l0] at H
   by_cases c10 : x8_1 < (l0.length : Int)
   ·rw [if_pos c10] at H
    have c10b0 : decide (x8_1 < (l0.length : Int)) = true := decide_eq_true c10
    clear c10
    by_cases c11 : 0 ≤ x8_1
    rotate_left
    ·rw [if_neg c11] at H
     exact absurd H (by simp)
    rw [if_pos c11] at H
    have c11b0 : decide (0 ≤ x8_1) = true := decide_eq_true c11
    clear c11
    replace H := Option.bind_eq_some_iff.mp H
    obtain ⟨t404, A120, H⟩ := H
    replace H : ((r_insert.f k1 t404 ((rd_T68 l0 x8_1).f1.f1.f0) a1_0 a1_3).bind fun t407 => ((r_insert.f k1 x6_1 ((rd_T68 l0 x8_1).f1.f0.f1) a1_1 a1_4).bind fun t410 => ((r_insert.f k1 t410 ((rd_T68 l0 x8_1).f1.f1.f1) a1_1 a1_4).bind fun t413 => ((r_insert.f k1 x7_1 ((rd_T68 l0 x8_1).f1.f0.f2) a1_2 a1_5).bind fun t416 => ((r_insert.f k1 t416 ((rd_T68 l0 x8_1).f1.f1.f2) a1_2 a1_5).bind fun t419 => (r_Parts.l0 k1 l0 t407 t413 t419 (wrap64 (x8_1 + 1)) a1_0 a1_1 a1_2 a1_3 a1_4 a1_5)))))) = some r := H
    have A12 := am A120
    clear A120
    replace H := Option.bind_eq_some_iff.mp H
    obtain ⟨t407, A130, H⟩ := H
    replace H : ((r_insert.f k1 x6_1 ((rd_T68 l0 x8_1).f1.f0.f1) a1_1 a1_4).bind fun t410 => ((r_insert.f k1 t410 ((rd_T68 l0 x8_1).f1.f1.f1) a1_1 a1_4).bind fun t413 => ((r_insert.f k1 x7_1 ((rd_T68 l0 x8_1).f1.f0.f2) a1_2 a1_5).bind fun t416 => ((r_insert.f k1 t416 ((rd_T68 l0 x8_1).f1.f1.f2) a1_2 a1_5).bind fun t419 => (r_Parts.l0 k1 l0 t407 t413 t419 (wrap64 (x8_1 + 1)) a1_0 a1_1 a1_2 a1_3 a1_4 a1_5))))) = some r := H
    have A13 := am A130
    clear A130
    replace H := Option.bind_eq_some_iff.mp H
    obtain ⟨t410, A140, H⟩ := H
    replace H : ((r_insert.f k1 t410 ((rd_T68 l0 x8_1).f1.f1.f1) a1_1 a1_4).bind fun t413 => ((r_insert.f k1 x7_1 ((rd_T68 l0 x8_1).f1.f0.f2) a1_2 a1_5).bind fun t416 => ((r_insert.f k1 t416 ((rd_T68 l0 x8_1).f1.f1.f2) a1_2 a1_5).bind fun t419 => (r_Parts.l0 k1 l0 t407 t413 t419 (wrap64 (x8_1 + 1)) a1_0 a1_1 a1_2 a1_3 a1_4 a1_5)))) = some r := H
    have A14 := am A140
    clear A140
    replace H := Option.bind_eq_some_iff.mp H
    obtain ⟨t413, A150, H⟩ := H
    replace H : ((r_insert.f k1 x7_1 ((rd_T68 l0 x8_1).f1.f0.f2) a1_2 a1_5).bind fun t416 => ((r_insert.f k1 t416 ((rd_T68 l0 x8_1).f1.f1.f2) a1_2 a1_5).bind fun t419 => (r_Parts.l0 k1 l0 t407 t413 t419 (wrap64 (x8_1 + 1)) a1_0 a1_1 a1_2 a1_3 a1_4 a1_5))) = some r := H
    have A15 := am A150
    clear A150
    replace H := Option.bind_eq_some_iff.mp H
    obtain ⟨t416, A160, H⟩ := H
    replace H : ((r_insert.f k1 t416 ((rd_T68 l0 x8_1).f1.f1.f2) a1_2 a1_5).bind fun t419 => (r_Parts.l0 k1 l0 t407 t413 t419 (wrap64 (x8_1 + 1)) a1_0 a1_1 a1_2 a1_3 a1_4 a1_5)) = some r := H
    have A16 := am A160
    clear A160
    replace H := Option.bind_eq_some_iff.mp H
    obtain ⟨t419, A170, H⟩ := H
    replace H : (r_Parts.l0 k1 l0 t407 t413 t419 (wrap64 (x8_1 + 1)) a1_0 a1_1 a1_2 a1_3 a1_4 a1_5) = some r := H
    have A17 := am A170
    clear A170
    have H' := am H
    clear H
    have p402 : 0 ≤ (x8_1 : Int) := of_decide_eq_true (by assumption)
    have q402 : x8_1 < (l0.length : Int) := of_decide_eq_true (by assumption)
    obtain ⟨ad402, e402, hx402_0, hx402_1, hx402_2, hx402_3, hx402_4, hx402_5, hx402_6, hx402_7⟩ := at_T68 HR0.out x8_1 p402 q402
    cases e402
    replace hx402_0 := cl HB hx402_0
    replace hx402_1 := cl HB hx402_1
    replace hx402_2 := cl HB hx402_2
    replace hx402_3 := cl HB hx402_3
    replace hx402_4 := cl HB hx402_4
    replace hx402_5 := cl HB hx402_5
    replace hx402_6 := cl HB hx402_6
    replace hx402_7 := cl HB hx402_7
    replace p402 := eq_true p402
    replace q402 := eq_true q402
    try go_wp2_with (first | ((with_reducible refine gate_dst (N := 9) rfl ?_); refine box_event ?hg (N := 9) ?hd (cs := #[.int .i64 0, .int .i64 0, .int .i64 0, .int .i64 0, .int .i64 0, .int .i64 0]) (t := 43) ?hr ?_; (case hd | hg => rfl); (case hr => first | (go_simp; done) | (go_simp; rfl)); intro gb403 hg w18 hbox hb; replace HO_5 := eV HO_5 hg hb; replace HO_6 := eV HO_6 hg hb; replace HO_7 := eV HO_7 hg hb; have BK403 := am hbox; have GW403 := sG HB hg; have GE403 := sG HB hg; replace HB := bS HB hb; have NB392_403 := nL BK392 hg; have NB403_392 := nG BK392 hg; replace BK392 := bB BK392 hb; clear hb hbox hg; have hnb19 := NB403_392.out; have hnc19 := NB392_403.out; obtain ⟨_, _, _, _, _, _, _, _, _, _, _, _⟩ := zC6 BK403))
    have n0_ : Aside0 (Kd.V (Kd.int .i64) 3 ((((((w18.setCell ⟨gb403, 0, none⟩ (.int .i64 ((rd_T68 l0 x8_1).f1.f0.f0))).setCell ⟨gb403, 1, none⟩ (.int .i64 ((rd_T68 l0 x8_1).f1.f0.f1))).setCell ⟨gb403, 2, none⟩ (.int .i64 ((rd_T68 l0 x8_1).f1.f0.f2))).setCell ⟨gb403, 3, none⟩ (.int .i64 ((rd_T68 l0 x8_1).f1.f1.f0))).setCell ⟨gb403, 4, none⟩ (.int .i64 ((rd_T68 l0 x8_1).f1.f1.f1))).setCell ⟨gb403, 5, none⟩ (.int .i64 ((rd_T68 l0 x8_1).f1.f1.f2))) w.heap.size (fun k_ => k_ ≠ gb392 ∧ k_ ≠ gb403) u5 x5_1) := ⟨by (with_reducible repeat (first | apply Kd.V_alloc | apply Kd.V_drewN | apply Kd.V_drew)); exact Kd.V_mono (Kd.V_far (p := ⟨gb403, 5, none⟩) (Kd.V_far (p := ⟨gb403, 4, none⟩) (Kd.V_far (p := ⟨gb403, 3, none⟩) (Kd.V_far (p := ⟨gb403, 2, none⟩) (Kd.V_far (p := ⟨gb403, 1, none⟩) (Kd.V_far (p := ⟨gb403, 0, none⟩) (Kd.V_mono HO_5.out (fun k_ hk => (⟨hk, hk.2⟩ : _ ∧ k_ ≠ gb403))) (fun _ hk => hk.2) (.int .i64 ((rd_T68 l0 x8_1).f1.f0.f0))) (fun _ hk => hk.2) (.int .i64 ((rd_T68 l0 x8_1).f1.f0.f1))) (fun _ hk => hk.2) (.int .i64 ((rd_T68 l0 x8_1).f1.f0.f2))) (fun _ hk => hk.2) (.int .i64 ((rd_T68 l0 x8_1).f1.f1.f0))) (fun _ hk => hk.2) (.int .i64 ((rd_T68 l0 x8_1).f1.f1.f1))) (fun _ hk => hk.2) (.int .i64 ((rd_T68 l0 x8_1).f1.f1.f2))) (fun _ hk => ⟨hk.1.1, hk.1.2⟩)⟩
    have n1_ : Aside0 (Kd.V (Kd.int .i64) 3 ((((((w18.setCell ⟨gb403, 0, none⟩ (.int .i64 ((rd_T68 l0 x8_1).f1.f0.f0))).setCell ⟨gb403, 1, none⟩ (.int .i64 ((rd_T68 l0 x8_1).f1.f0.f1))).setCell ⟨gb403, 2, none⟩ (.int .i64 ((rd_T68 l0 x8_1).f1.f0.f2))).setCell ⟨gb403, 3, none⟩ (.int .i64 ((rd_T68 l0 x8_1).f1.f1.f0))).setCell ⟨gb403, 4, none⟩ (.int .i64 ((rd_T68 l0 x8_1).f1.f1.f1))).setCell ⟨gb403, 5, none⟩ (.int .i64 ((rd_T68 l0 x8_1).f1.f1.f2))) w.heap.size (fun k_ => k_ ≠ gb392 ∧ k_ ≠ gb403) u6 x6_1) := ⟨by (with_reducible repeat (first | apply Kd.V_alloc | apply Kd.V_drewN | apply Kd.V_drew)); exact Kd.V_mono (Kd.V_far (p := ⟨gb403, 5, none⟩) (Kd.V_far (p := ⟨gb403, 4, none⟩) (Kd.V_far (p := ⟨gb403, 3, none⟩) (Kd.V_far (p := ⟨gb403, 2, none⟩) (Kd.V_far (p := ⟨gb403, 1, none⟩) (Kd.V_far (p := ⟨gb403, 0, none⟩) (Kd.V_mono HO_6.out (fun k_ hk => (⟨hk, hk.2⟩ : _ ∧ k_ ≠ gb403))) (fun _ hk => hk.2) (.int .i64 ((rd_T68 l0 x8_1).f1.f0.f0))) (fun _ hk => hk.2) (.int .i64 ((rd_T68 l0 x8_1).f1.f0.f1))) (fun _ hk => hk.2) (.int .i64 ((rd_T68 l0 x8_1).f1.f0.f2))) (fun _ hk => hk.2) (.int .i64 ((rd_T68 l0 x8_1).f1.f1.f0))) (fun _ hk => hk.2) (.int .i64 ((rd_T68 l0 x8_1).f1.f1.f1))) (fun _ hk => hk.2) (.int .i64 ((rd_T68 l0 x8_1).f1.f1.f2))) (fun _ hk => ⟨hk.1.1, hk.1.2⟩)⟩
    have n2_ : Aside0 (Kd.V (Kd.int .i64) 3 ((((((w18.setCell ⟨gb403, 0, none⟩ (.int .i64 ((rd_T68 l0 x8_1).f1.f0.f0))).setCell ⟨gb403, 1, none⟩ (.int .i64 ((rd_T68 l0 x8_1).f1.f0.f1))).setCell ⟨gb403, 2, none⟩ (.int .i64 ((rd_T68 l0 x8_1).f1.f0.f2))).setCell ⟨gb403, 3, none⟩ (.int .i64 ((rd_T68 l0 x8_1).f1.f1.f0))).setCell ⟨gb403, 4, none⟩ (.int .i64 ((rd_T68 l0 x8_1).f1.f1.f1))).setCell ⟨gb403, 5, none⟩ (.int .i64 ((rd_T68 l0 x8_1).f1.f1.f2))) w.heap.size (fun k_ => k_ ≠ gb392 ∧ k_ ≠ gb403) u7 x7_1) := ⟨by (with_reducible repeat (first | apply Kd.V_alloc | apply Kd.V_drewN | apply Kd.V_drew)); exact Kd.V_mono (Kd.V_far (p := ⟨gb403, 5, none⟩) (Kd.V_far (p := ⟨gb403, 4, none⟩) (Kd.V_far (p := ⟨gb403, 3, none⟩) (Kd.V_far (p := ⟨gb403, 2, none⟩) (Kd.V_far (p := ⟨gb403, 1, none⟩) (Kd.V_far (p := ⟨gb403, 0, none⟩) (Kd.V_mono HO_7.out (fun k_ hk => (⟨hk, hk.2⟩ : _ ∧ k_ ≠ gb403))) (fun _ hk => hk.2) (.int .i64 ((rd_T68 l0 x8_1).f1.f0.f0))) (fun _ hk => hk.2) (.int .i64 ((rd_T68 l0 x8_1).f1.f0.f1))) (fun _ hk => hk.2) (.int .i64 ((rd_T68 l0 x8_1).f1.f0.f2))) (fun _ hk => hk.2) (.int .i64 ((rd_T68 l0 x8_1).f1.f1.f0))) (fun _ hk => hk.2) (.int .i64 ((rd_T68 l0 x8_1).f1.f1.f1))) (fun _ hk => hk.2) (.int .i64 ((rd_T68 l0 x8_1).f1.f1.f2))) (fun _ hk => ⟨hk.1.1, hk.1.2⟩)⟩
    have n3_ : Aside0 (((((((w18.setCell ⟨gb403, 0, none⟩ (.int .i64 ((rd_T68 l0 x8_1).f1.f0.f0))).setCell ⟨gb403, 1, none⟩ (.int .i64 ((rd_T68 l0 x8_1).f1.f0.f1))).setCell ⟨gb403, 2, none⟩ (.int .i64 ((rd_T68 l0 x8_1).f1.f0.f2))).setCell ⟨gb403, 3, none⟩ (.int .i64 ((rd_T68 l0 x8_1).f1.f1.f0))).setCell ⟨gb403, 4, none⟩ (.int .i64 ((rd_T68 l0 x8_1).f1.f1.f1))).setCell ⟨gb403, 5, none⟩ (.int .i64 ((rd_T68 l0 x8_1).f1.f1.f2))).heap[gb392]? = some (.cells #[.int .i64 a1_0, .int .i64 a1_1, .int .i64 a1_2, .int .i64 a1_3, .int .i64 a1_4, .int .i64 a1_5] 43 (0, 0))) := ⟨by (with_reducible repeat first | apply bN | apply bd | apply ba); refine blk_far ?_ NB392_403.out _; (with_reducible repeat first | apply bN | apply bd | apply ba); refine blk_far ?_ NB392_403.out _; (with_reducible repeat first | apply bN | apply bd | apply ba); refine blk_far ?_ NB392_403.out _; (with_reducible repeat first | apply bN | apply bd | apply ba); refine blk_far ?_ NB392_403.out _; (with_reducible repeat first | apply bN | apply bd | apply ba); refine blk_far ?_ NB392_403.out _; (with_reducible repeat first | apply bN | apply bd | apply ba); refine blk_far ?_ NB392_403.out _; (with_reducible repeat first | apply bN | apply bd | apply ba); exact BK392.out⟩
    have n4_ : Aside0 (((((((w18.setCell ⟨gb403, 0, none⟩ (.int .i64 ((rd_T68 l0 x8_1).f1.f0.f0))).setCell ⟨gb403, 1, none⟩ (.int .i64 ((rd_T68 l0 x8_1).f1.f0.f1))).setCell ⟨gb403, 2, none⟩ (.int .i64 ((rd_T68 l0 x8_1).f1.f0.f2))).setCell ⟨gb403, 3, none⟩ (.int .i64 ((rd_T68 l0 x8_1).f1.f1.f0))).setCell ⟨gb403, 4, none⟩ (.int .i64 ((rd_T68 l0 x8_1).f1.f1.f1))).setCell ⟨gb403, 5, none⟩ (.int .i64 ((rd_T68 l0 x8_1).f1.f1.f2))).heap[gb403]? = some (.cells #[.int .i64 ((rd_T68 l0 x8_1).f1.f0.f0), .int .i64 ((rd_T68 l0 x8_1).f1.f0.f1), .int .i64 ((rd_T68 l0 x8_1).f1.f0.f2), .int .i64 ((rd_T68 l0 x8_1).f1.f1.f0), .int .i64 ((rd_T68 l0 x8_1).f1.f1.f1), .int .i64 ((rd_T68 l0 x8_1).f1.f1.f2)] 43 (0, 0))) := ⟨by (with_reducible repeat first | apply bN | apply bd | apply ba); refine blk_put (cs := #[.int .i64 ((rd_T68 l0 x8_1).f1.f0.f0), .int .i64 ((rd_T68 l0 x8_1).f1.f0.f1), .int .i64 ((rd_T68 l0 x8_1).f1.f0.f2), .int .i64 ((rd_T68 l0 x8_1).f1.f1.f0), .int .i64 ((rd_T68 l0 x8_1).f1.f1.f1), .int .i64 0]) ?_ 5 _ rfl; (with_reducible repeat first | apply bN | apply bd | apply ba); refine blk_put (cs := #[.int .i64 ((rd_T68 l0 x8_1).f1.f0.f0), .int .i64 ((rd_T68 l0 x8_1).f1.f0.f1), .int .i64 ((rd_T68 l0 x8_1).f1.f0.f2), .int .i64 ((rd_T68 l0 x8_1).f1.f1.f0), .int .i64 0, .int .i64 0]) ?_ 4 _ rfl; (with_reducible repeat first | apply bN | apply bd | apply ba); refine blk_put (cs := #[.int .i64 ((rd_T68 l0 x8_1).f1.f0.f0), .int .i64 ((rd_T68 l0 x8_1).f1.f0.f1), .int .i64 ((rd_T68 l0 x8_1).f1.f0.f2), .int .i64 0, .int .i64 0, .int .i64 0]) ?_ 3 _ rfl; (with_reducible repeat first | apply bN | apply bd | apply ba); refine blk_put (cs := #[.int .i64 ((rd_T68 l0 x8_1).f1.f0.f0), .int .i64 ((rd_T68 l0 x8_1).f1.f0.f1), .int .i64 0, .int .i64 0, .int .i64 0, .int .i64 0]) ?_ 2 _ rfl; (with_reducible repeat first | apply bN | apply bd | apply ba); refine blk_put (cs := #[.int .i64 ((rd_T68 l0 x8_1).f1.f0.f0), .int .i64 0, .int .i64 0, .int .i64 0, .int .i64 0, .int .i64 0]) ?_ 1 _ rfl; (with_reducible repeat first | apply bN | apply bd | apply ba); refine blk_put (cs := #[.int .i64 0, .int .i64 0, .int .i64 0, .int .i64 0, .int .i64 0, .int .i64 0]) ?_ 0 _ rfl; (with_reducible repeat first | apply bN | apply bd | apply ba); exact BK403.out⟩
    have n5_ : Aside0 (Below w.heap.size w ((((((w18.setCell ⟨gb403, 0, none⟩ (.int .i64 ((rd_T68 l0 x8_1).f1.f0.f0))).setCell ⟨gb403, 1, none⟩ (.int .i64 ((rd_T68 l0 x8_1).f1.f0.f1))).setCell ⟨gb403, 2, none⟩ (.int .i64 ((rd_T68 l0 x8_1).f1.f0.f2))).setCell ⟨gb403, 3, none⟩ (.int .i64 ((rd_T68 l0 x8_1).f1.f1.f0))).setCell ⟨gb403, 4, none⟩ (.int .i64 ((rd_T68 l0 x8_1).f1.f1.f1))).setCell ⟨gb403, 5, none⟩ (.int .i64 ((rd_T68 l0 x8_1).f1.f1.f2)))) := ⟨fW HB.out⟩
    (try clear HO_5)
    (try clear HO_6)
    (try clear HO_7)
    (try clear BK392)
    (try clear BK403)
    (try clear HB)
    generalize ((((((w18.setCell ⟨gb403, 0, none⟩ (.int .i64 ((rd_T68 l0 x8_1).f1.f0.f0))).setCell ⟨gb403, 1, none⟩ (.int .i64 ((rd_T68 l0 x8_1).f1.f0.f1))).setCell ⟨gb403, 2, none⟩ (.int .i64 ((rd_T68 l0 x8_1).f1.f0.f2))).setCell ⟨gb403, 3, none⟩ (.int .i64 ((rd_T68 l0 x8_1).f1.f1.f0))).setCell ⟨gb403, 4, none⟩ (.int .i64 ((rd_T68 l0 x8_1).f1.f1.f1))).setCell ⟨gb403, 5, none⟩ (.int .i64 ((rd_T68 l0 x8_1).f1.f1.f2))) = w21 at n0_ n1_ n2_ n3_ n4_ n5_ ⊢
    have HO_5 := n0_
    have HO_6 := n1_
    have HO_7 := n2_
    have BK392 := n3_
    have BK403 := n4_
    have HB := n5_
    clear n0_ n1_ n2_ n3_ n4_ n5_
    have n0_ := am (Kd.V_drew HO_5.out)
    have n1_ := am (Kd.V_drew HO_6.out)
    have n2_ := am (Kd.V_drew HO_7.out)
    have n3_ := am (bd BK392.out)
    have n4_ := am (bd BK403.out)
    have n5_ := am (below_drew1 HB.out)
    clear HO_5 HO_6 HO_7 BK392 BK403 HB
    have HO_5 := n0_
    have HO_6 := n1_
    have HO_7 := n2_
    have BK392 := n3_
    have BK403 := n4_
    have HB := n5_
    clear n0_ n1_ n2_ n3_ n4_ n5_
    obtain ⟨Ao23, co23, eo23⟩ := Kd.V_slice HO_5.out
    (first | subst eo23 | (injection eo23 with f1_ f2_ f3_; have f4_ := f1_.symm; have f5_ := f3_.symm; clear f1_ f2_ f3_; subst f4_; subst f5_))
    refine start_ (n := 22) (S := fun w' => w'.cell? ⟨gb403, 0, none⟩ = some (.int .i64 ((rd_T68 l0 x8_1).f1.f0.f0)) ∧ w'.cell? ⟨gb403, 1, none⟩ = some (.int .i64 ((rd_T68 l0 x8_1).f1.f0.f1)) ∧ w'.cell? ⟨gb403, 2, none⟩ = some (.int .i64 ((rd_T68 l0 x8_1).f1.f0.f2)) ∧ w'.cell? ⟨gb403, 3, none⟩ = some (.int .i64 ((rd_T68 l0 x8_1).f1.f1.f0)) ∧ w'.cell? ⟨gb403, 4, none⟩ = some (.int .i64 ((rd_T68 l0 x8_1).f1.f1.f1)) ∧ w'.cell? ⟨gb403, 5, none⟩ = some (.int .i64 ((rd_T68 l0 x8_1).f1.f1.f2)) ∧ w'.cell? ⟨gb392, 0, none⟩ = some (.int .i64 a1_0) ∧ w'.cell? ⟨gb392, 1, none⟩ = some (.int .i64 a1_1) ∧ w'.cell? ⟨gb392, 2, none⟩ = some (.int .i64 a1_2) ∧ w'.cell? ⟨gb392, 3, none⟩ = some (.int .i64 a1_3) ∧ w'.cell? ⟨gb392, 4, none⟩ = some (.int .i64 a1_4) ∧ w'.cell? ⟨gb392, 5, none⟩ = some (.int .i64 a1_5)) (ds := []) #[false, false, false, false, false, false, false, false, false, false, false, false, false, false, false, false, false, false, false, false, false, false] (by kernel_rfl) rfl rfl ⟨(bc BK403.out 0).trans rfl, (bc BK403.out 1).trans rfl, (bc BK403.out 2).trans rfl, (bc BK403.out 3).trans rfl, (bc BK403.out 4).trans rfl, (bc BK403.out 5).trans rfl, (bc BK392.out 0).trans rfl, (bc BK392.out 1).trans rfl, (bc BK392.out 2).trans rfl, (bc BK392.out 3).trans rfl, (bc BK392.out 4).trans rfl, (bc BK392.out 5).trans rfl⟩ (fun hHeld => ?_); refine with_tabW r_Parts.tab6 r_Parts.bits6 (fun HT_ HW_ => ?_)
    generalize w21.drew = w22 at HO_5 HO_6 HO_7 BK392 BK403 HB hHeld ⊢
    refine pu (i := 0) (N := some 28) (fl 22 1 []) HT_ ?_
    refine pu (i := 1) (N := some 29) (fl 22 2 []) HT_ ?_
    refine pu (i := 2) (N := some 30) (fl 22 3 []) HT_ ?_
    refine pu (i := 4) (N := some 32) (fl 22 3 [4]) HT_ ?_
    refine pu (i := 5) (N := some 33) (fl 22 3 [4, 5]) HT_ ?_
    refine pu (i := 7) (N := some 35) (fl 22 3 [4, 5, 7]) HT_ ?_
    refine pu (i := 8) (N := some 36) (fl 22 3 [4, 5, 7, 8]) HT_ ?_
    refine pu (i := 11) (N := some 39) (fl 22 3 [4, 5, 7, 8, 11]) HT_ ?_
    refine pu (i := 12) (N := some 40) (fl 22 3 [4, 5, 7, 8, 11, 12]) HT_ ?_
    refine pu (i := 14) (N := some 42) (fl 22 3 [4, 5, 7, 8, 11, 12, 14]) HT_ ?_
    refine pu (i := 15) (N := some 43) (fl 22 3 [4, 5, 7, 8, 11, 12, 14, 15]) HT_ ?_
    refine pu (i := 17) (N := some 45) (fl 22 3 [4, 5, 7, 8, 11, 12, 14, 15, 17]) HT_ ?_
    refine pu (i := 18) (N := some 46) (fl 22 3 [4, 5, 7, 8, 11, 12, 14, 15, 17, 18]) HT_ ?_
    refine tk (i := 3) (N := some 31) (fl 22 6 [7, 8, 11, 12, 14, 15, 17, 18]) HT_ HW_ hHeld ?_
    refine tk (i := 6) (N := some 34) (fl 22 9 [11, 12, 14, 15, 17, 18]) HT_ HW_ hHeld ?_
    refine tk (i := 9) (N := some 37) (fl 22 10 [11, 12, 14, 15, 17, 18]) HT_ HW_ hHeld ?_
    refine tk (i := 13) (N := some 41) (fl 22 10 [11, 12, 13, 14, 15, 17, 18]) HT_ HW_ hHeld ?_
    refine tk (i := 16) (N := some 44) (fl 22 10 [11, 12, 13, 14, 15, 16, 17, 18]) HT_ HW_ hHeld ?_
    refine tk (i := 19) (N := some 47) (fl 22 10 [11, 12, 13, 14, 15, 16, 17, 18, 19]) HT_ HW_ hHeld ?_
    refine one_ (i := 10) (N := some 38) (fl 22 20 []) rfl rfl (one_of HT_.out (by kernel_rfl)) (by decide) (fun K hK => ?_)
    refine goes_ Try.func78 (by kernel_rfl) rfl #[.slice Ao23 x5_1.length co23, .int .i64 ((rd_T68 l0 x8_1).f1.f0.f0), .int .i64 a1_0, .int .i64 a1_3] (by rfl) rfl rfl (by (try simp only [pml]); first | done | rfl | (simp only [pdt]; rfl)) ?_
    with_reducible refine (r_insert.calls k1 (fun k_ => (k_ ≠ gb392 ∧ k_ ≠ gb403)) _ _ x5_1 ((rd_T68 l0 x8_1).f1.f0.f0) a1_0 a1_3 t404 _ ?side1 A12.out).mono ?_
    (case side1 => exact HO_5.out)
    rintro e w24 ⟨v405, rfl, ho0, hb⟩
    refine ⟨_, rfl, ?_⟩
    have n0_ := dV HO_5 hb
    have n1_ := dV HO_6 hb
    have n2_ := dV HO_7 hb
    have n3_ := am (Kd.V_lower (Kd.V_mono (ok' := fun k_ => k_ ≠ gb392 ∧ k_ ≠ gb403) ho0 (fun k_ hk_ => ⟨Or.elim hk_ (fun hs_ => hs_.1) (fun hn_ => (Kd.freshB (g := gb392) (o := .cells #[.int .i64 a1_0, .int .i64 a1_1, .int .i64 a1_2, .int .i64 a1_3, .int .i64 a1_4, .int .i64 a1_5] 43 (0, 0)) (fb BK392.out) k_ hn_)), Or.elim hk_ (fun hs_ => hs_.2) (fun hn_ => (Kd.freshB (g := gb403) (o := .cells #[.int .i64 ((rd_T68 l0 x8_1).f1.f0.f0), .int .i64 ((rd_T68 l0 x8_1).f1.f0.f1), .int .i64 ((rd_T68 l0 x8_1).f1.f0.f2), .int .i64 ((rd_T68 l0 x8_1).f1.f1.f0), .int .i64 ((rd_T68 l0 x8_1).f1.f1.f1), .int .i64 ((rd_T68 l0 x8_1).f1.f1.f2)] 43 (0, 0)) (fb BK403.out) k_ hn_))⟩)) (wz (fW HB.out)))
    have n4_ := bB BK392 hb
    have n5_ := bB BK403 hb
    have n6_ := bS HB hb
    clear HO_5 HO_6 HO_7 BK392 BK403 HB
    have HO_5 := n0_
    have HO_6 := n1_
    have HO_7 := n2_
    have HO406 := n3_
    have BK392 := n4_
    have BK403 := n5_
    have HB := n6_
    clear n0_ n1_ n2_ n3_ n4_ n5_ n6_
    (try clear hb)
    (try clear hb2)
    (try clear hk)
    (try clear hi)
    (try clear ho0)
    obtain ⟨Ao25, co25, eo25⟩ := Kd.V_slice HO406.out
    (first | subst eo25 | (injection eo25 with f1_ f2_ f3_; have f4_ := f1_.symm; have f5_ := f3_.symm; clear f1_ f2_ f3_; subst f4_; subst f5_))
    refine hK.out _ _ ⟨(bc BK403.out 0).trans rfl, (bc BK403.out 1).trans rfl, (bc BK403.out 2).trans rfl, (bc BK403.out 3).trans rfl, (bc BK403.out 4).trans rfl, (bc BK403.out 5).trans rfl, (bc BK392.out 0).trans rfl, (bc BK392.out 1).trans rfl, (bc BK392.out 2).trans rfl, (bc BK392.out 3).trans rfl, (bc BK392.out 4).trans rfl, (bc BK392.out 5).trans rfl⟩ (fun hHeld => ?_)
    clear hK K
    refine norm_ (a' := ?_) ?_ ?_
    rotate_left
    ·show Act.put _ (some 38) _ = _
     simp only [Act.put, psl, i64_w, i32_w]
     rfl
    refine one_ (i := 20) (N := some 48) (fl 22 21 []) rfl rfl (one_of HT_.out (by kernel_rfl)) (by decide) (fun K hK => ?_)
    refine goes_ Try.func78 (by kernel_rfl) rfl #[.slice Ao25 t404.length co25, .int .i64 ((rd_T68 l0 x8_1).f1.f1.f0), .int .i64 a1_0, .int .i64 a1_3] (by rfl) rfl rfl (by (try simp only [pml]); first | done | rfl | (simp only [pdt]; rfl)) ?_
    with_reducible refine (r_insert.calls k1 (fun k_ => (k_ ≠ gb392 ∧ k_ ≠ gb403)) _ _ t404 ((rd_T68 l0 x8_1).f1.f1.f0) a1_0 a1_3 t407 _ ?side1 A13.out).mono ?_
    (case side1 => exact HO406.out)
    rintro e w26 ⟨v408, rfl, ho0, hb⟩
    refine ⟨_, rfl, ?_⟩
    have n0_ := dV HO_5 hb
    have n1_ := dV HO_6 hb
    have n2_ := dV HO_7 hb
    have n3_ := dV HO406 hb
    have n4_ := am (Kd.V_lower (Kd.V_mono (ok' := fun k_ => k_ ≠ gb392 ∧ k_ ≠ gb403) ho0 (fun k_ hk_ => ⟨Or.elim hk_ (fun hs_ => hs_.1) (fun hn_ => (Kd.freshB (g := gb392) (o := .cells #[.int .i64 a1_0, .int .i64 a1_1, .int .i64 a1_2, .int .i64 a1_3, .int .i64 a1_4, .int .i64 a1_5] 43 (0, 0)) (fb BK392.out) k_ hn_)), Or.elim hk_ (fun hs_ => hs_.2) (fun hn_ => (Kd.freshB (g := gb403) (o := .cells #[.int .i64 ((rd_T68 l0 x8_1).f1.f0.f0), .int .i64 ((rd_T68 l0 x8_1).f1.f0.f1), .int .i64 ((rd_T68 l0 x8_1).f1.f0.f2), .int .i64 ((rd_T68 l0 x8_1).f1.f1.f0), .int .i64 ((rd_T68 l0 x8_1).f1.f1.f1), .int .i64 ((rd_T68 l0 x8_1).f1.f1.f2)] 43 (0, 0)) (fb BK403.out) k_ hn_))⟩)) (wz (fW HB.out)))
    have n5_ := bB BK392 hb
    have n6_ := bB BK403 hb
    have n7_ := bS HB hb
    clear HO_5 HO_6 HO_7 HO406 BK392 BK403 HB
    have HO_5 := n0_
    have HO_6 := n1_
    have HO_7 := n2_
    have HO406 := n3_
    have HO409 := n4_
    have BK392 := n5_
    have BK403 := n6_
    have HB := n7_
    clear n0_ n1_ n2_ n3_ n4_ n5_ n6_ n7_
    (try clear hb)
    (try clear hb2)
    (try clear hk)
    (try clear hi)
    (try clear ho0)
    refine hK.out _ _ ⟨(bc BK403.out 0).trans rfl, (bc BK403.out 1).trans rfl, (bc BK403.out 2).trans rfl, (bc BK403.out 3).trans rfl, (bc BK403.out 4).trans rfl, (bc BK403.out 5).trans rfl, (bc BK392.out 0).trans rfl, (bc BK392.out 1).trans rfl, (bc BK392.out 2).trans rfl, (bc BK392.out 3).trans rfl, (bc BK392.out 4).trans rfl, (bc BK392.out 5).trans rfl⟩ (fun hHeld => ?_)
    clear hK K
    refine norm_ (a' := ?_) ?_ ?_
    rotate_left
    ·show Act.put _ (some 48) _ = _
     simp only [Act.put, psl, i64_w, i32_w]
     rfl
    refine pu (i := 21) (N := some 5) (fl 22 22 []) HT_ ?_
    refine done_ (done_of HT_.out (by kernel_rfl)) ?_
    try go_wp2
    have n0_ := am (Kd.V_drew HO_5.out)
    have n1_ := am (Kd.V_drew HO_6.out)
    have n2_ := am (Kd.V_drew HO_7.out)
    have n3_ := am (Kd.V_drew HO406.out)
    have n4_ := am (Kd.V_drew HO409.out)
    have n5_ := am (bd BK392.out)
    have n6_ := am (bd BK403.out)
    have n7_ := am (below_drew1 HB.out)
    clear HO_5 HO_6 HO_7 HO406 HO409 BK392 BK403 HB
    have HO_5 := n0_
    have HO_6 := n1_
    have HO_7 := n2_
    have HO406 := n3_
    have HO409 := n4_
    have BK392 := n5_
    have BK403 := n6_
    have HB := n7_
    clear n0_ n1_ n2_ n3_ n4_ n5_ n6_ n7_
    obtain ⟨Ao28, co28, eo28⟩ := Kd.V_slice HO_6.out
    (first | subst eo28 | (injection eo28 with f1_ f2_ f3_; have f4_ := f1_.symm; have f5_ := f3_.symm; clear f1_ f2_ f3_; subst f4_; subst f5_))
    refine start_ (n := 22) (S := fun w' => w'.cell? ⟨gb403, 0, none⟩ = some (.int .i64 ((rd_T68 l0 x8_1).f1.f0.f0)) ∧ w'.cell? ⟨gb403, 1, none⟩ = some (.int .i64 ((rd_T68 l0 x8_1).f1.f0.f1)) ∧ w'.cell? ⟨gb403, 2, none⟩ = some (.int .i64 ((rd_T68 l0 x8_1).f1.f0.f2)) ∧ w'.cell? ⟨gb403, 3, none⟩ = some (.int .i64 ((rd_T68 l0 x8_1).f1.f1.f0)) ∧ w'.cell? ⟨gb403, 4, none⟩ = some (.int .i64 ((rd_T68 l0 x8_1).f1.f1.f1)) ∧ w'.cell? ⟨gb403, 5, none⟩ = some (.int .i64 ((rd_T68 l0 x8_1).f1.f1.f2)) ∧ w'.cell? ⟨gb392, 0, none⟩ = some (.int .i64 a1_0) ∧ w'.cell? ⟨gb392, 1, none⟩ = some (.int .i64 a1_1) ∧ w'.cell? ⟨gb392, 2, none⟩ = some (.int .i64 a1_2) ∧ w'.cell? ⟨gb392, 3, none⟩ = some (.int .i64 a1_3) ∧ w'.cell? ⟨gb392, 4, none⟩ = some (.int .i64 a1_4) ∧ w'.cell? ⟨gb392, 5, none⟩ = some (.int .i64 a1_5)) (ds := []) #[false, false, false, false, false, false, false, false, false, false, false, false, false, false, false, false, false, false, false, false, false, false] (by kernel_rfl) rfl rfl ⟨(bc BK403.out 0).trans rfl, (bc BK403.out 1).trans rfl, (bc BK403.out 2).trans rfl, (bc BK403.out 3).trans rfl, (bc BK403.out 4).trans rfl, (bc BK403.out 5).trans rfl, (bc BK392.out 0).trans rfl, (bc BK392.out 1).trans rfl, (bc BK392.out 2).trans rfl, (bc BK392.out 3).trans rfl, (bc BK392.out 4).trans rfl, (bc BK392.out 5).trans rfl⟩ (fun hHeld => ?_); refine with_tabW r_Parts.tab7 r_Parts.bits7 (fun HT_ HW_ => ?_)
    generalize w26.drew = w27 at HO_5 HO_6 HO_7 HO406 HO409 BK392 BK403 HB hHeld ⊢
    refine pu (i := 0) (N := some 49) (fl 22 1 []) HT_ ?_
    refine pu (i := 1) (N := some 50) (fl 22 2 []) HT_ ?_
    refine pu (i := 2) (N := some 51) (fl 22 3 []) HT_ ?_
    refine pu (i := 4) (N := some 53) (fl 22 3 [4]) HT_ ?_
    refine pu (i := 5) (N := some 54) (fl 22 3 [4, 5]) HT_ ?_
    refine pu (i := 7) (N := some 56) (fl 22 3 [4, 5, 7]) HT_ ?_
    refine pu (i := 8) (N := some 57) (fl 22 3 [4, 5, 7, 8]) HT_ ?_
    refine pu (i := 11) (N := some 60) (fl 22 3 [4, 5, 7, 8, 11]) HT_ ?_
    refine pu (i := 12) (N := some 61) (fl 22 3 [4, 5, 7, 8, 11, 12]) HT_ ?_
    refine pu (i := 14) (N := some 63) (fl 22 3 [4, 5, 7, 8, 11, 12, 14]) HT_ ?_
    refine pu (i := 15) (N := some 64) (fl 22 3 [4, 5, 7, 8, 11, 12, 14, 15]) HT_ ?_
    refine pu (i := 17) (N := some 66) (fl 22 3 [4, 5, 7, 8, 11, 12, 14, 15, 17]) HT_ ?_
    refine pu (i := 18) (N := some 67) (fl 22 3 [4, 5, 7, 8, 11, 12, 14, 15, 17, 18]) HT_ ?_
    refine tk (i := 3) (N := some 52) (fl 22 6 [7, 8, 11, 12, 14, 15, 17, 18]) HT_ HW_ hHeld ?_
    refine tk (i := 6) (N := some 55) (fl 22 9 [11, 12, 14, 15, 17, 18]) HT_ HW_ hHeld ?_
    refine tk (i := 9) (N := some 58) (fl 22 10 [11, 12, 14, 15, 17, 18]) HT_ HW_ hHeld ?_
    refine tk (i := 13) (N := some 62) (fl 22 10 [11, 12, 13, 14, 15, 17, 18]) HT_ HW_ hHeld ?_
    refine tk (i := 16) (N := some 65) (fl 22 10 [11, 12, 13, 14, 15, 16, 17, 18]) HT_ HW_ hHeld ?_
    refine tk (i := 19) (N := some 68) (fl 22 10 [11, 12, 13, 14, 15, 16, 17, 18, 19]) HT_ HW_ hHeld ?_
    refine one_ (i := 10) (N := some 59) (fl 22 20 []) rfl rfl (one_of HT_.out (by kernel_rfl)) (by decide) (fun K hK => ?_)
    refine goes_ Try.func78 (by kernel_rfl) rfl #[.slice Ao28 x6_1.length co28, .int .i64 ((rd_T68 l0 x8_1).f1.f0.f1), .int .i64 a1_1, .int .i64 a1_4] (by rfl) rfl rfl (by (try simp only [pml]); first | done | rfl | (simp only [pdt]; rfl)) ?_
    with_reducible refine (r_insert.calls k1 (fun k_ => (k_ ≠ gb392 ∧ k_ ≠ gb403)) _ _ x6_1 ((rd_T68 l0 x8_1).f1.f0.f1) a1_1 a1_4 t410 _ ?side1 A14.out).mono ?_
    (case side1 => exact HO_6.out)
    rintro e w29 ⟨v411, rfl, ho0, hb⟩
    refine ⟨_, rfl, ?_⟩
    have n0_ := dV HO_5 hb
    have n1_ := dV HO_6 hb
    have n2_ := dV HO_7 hb
    have n3_ := dV HO406 hb
    have n4_ := dV HO409 hb
    have n5_ := am (Kd.V_lower (Kd.V_mono (ok' := fun k_ => k_ ≠ gb392 ∧ k_ ≠ gb403) ho0 (fun k_ hk_ => ⟨Or.elim hk_ (fun hs_ => hs_.1) (fun hn_ => (Kd.freshB (g := gb392) (o := .cells #[.int .i64 a1_0, .int .i64 a1_1, .int .i64 a1_2, .int .i64 a1_3, .int .i64 a1_4, .int .i64 a1_5] 43 (0, 0)) (fb BK392.out) k_ hn_)), Or.elim hk_ (fun hs_ => hs_.2) (fun hn_ => (Kd.freshB (g := gb403) (o := .cells #[.int .i64 ((rd_T68 l0 x8_1).f1.f0.f0), .int .i64 ((rd_T68 l0 x8_1).f1.f0.f1), .int .i64 ((rd_T68 l0 x8_1).f1.f0.f2), .int .i64 ((rd_T68 l0 x8_1).f1.f1.f0), .int .i64 ((rd_T68 l0 x8_1).f1.f1.f1), .int .i64 ((rd_T68 l0 x8_1).f1.f1.f2)] 43 (0, 0)) (fb BK403.out) k_ hn_))⟩)) (wz (fW HB.out)))
    have n6_ := bB BK392 hb
    have n7_ := bB BK403 hb
    have n8_ := bS HB hb
    clear HO_5 HO_6 HO_7 HO406 HO409 BK392 BK403 HB
    have HO_5 := n0_
    have HO_6 := n1_
    have HO_7 := n2_
    have HO406 := n3_
    have HO409 := n4_
    have HO412 := n5_
    have BK392 := n6_
    have BK403 := n7_
    have HB := n8_
    clear n0_ n1_ n2_ n3_ n4_ n5_ n6_ n7_ n8_
    (try clear hb)
    (try clear hb2)
    (try clear hk)
    (try clear hi)
    (try clear ho0)
    obtain ⟨Ao30, co30, eo30⟩ := Kd.V_slice HO412.out
    (first | subst eo30 | (injection eo30 with f1_ f2_ f3_; have f4_ := f1_.symm; have f5_ := f3_.symm; clear f1_ f2_ f3_; subst f4_; subst f5_))
    refine hK.out _ _ ⟨(bc BK403.out 0).trans rfl, (bc BK403.out 1).trans rfl, (bc BK403.out 2).trans rfl, (bc BK403.out 3).trans rfl, (bc BK403.out 4).trans rfl, (bc BK403.out 5).trans rfl, (bc BK392.out 0).trans rfl, (bc BK392.out 1).trans rfl, (bc BK392.out 2).trans rfl, (bc BK392.out 3).trans rfl, (bc BK392.out 4).trans rfl, (bc BK392.out 5).trans rfl⟩ (fun hHeld => ?_)
    clear hK K
    refine norm_ (a' := ?_) ?_ ?_
    rotate_left
    ·show Act.put _ (some 59) _ = _
     simp only [Act.put, psl, i64_w, i32_w]
     rfl
    refine one_ (i := 20) (N := some 69) (fl 22 21 []) rfl rfl (one_of HT_.out (by kernel_rfl)) (by decide) (fun K hK => ?_)
    refine goes_ Try.func78 (by kernel_rfl) rfl #[.slice Ao30 t410.length co30, .int .i64 ((rd_T68 l0 x8_1).f1.f1.f1), .int .i64 a1_1, .int .i64 a1_4] (by rfl) rfl rfl (by (try simp only [pml]); first | done | rfl | (simp only [pdt]; rfl)) ?_
    with_reducible refine (r_insert.calls k1 (fun k_ => (k_ ≠ gb392 ∧ k_ ≠ gb403)) _ _ t410 ((rd_T68 l0 x8_1).f1.f1.f1) a1_1 a1_4 t413 _ ?side1 A15.out).mono ?_
    (case side1 => exact HO412.out)
    rintro e w31 ⟨v414, rfl, ho0, hb⟩
    refine ⟨_, rfl, ?_⟩
    have n0_ := dV HO_5 hb
    have n1_ := dV HO_6 hb
    have n2_ := dV HO_7 hb
    have n3_ := dV HO406 hb
    have n4_ := dV HO409 hb
    have n5_ := dV HO412 hb
    have n6_ := am (Kd.V_lower (Kd.V_mono (ok' := fun k_ => k_ ≠ gb392 ∧ k_ ≠ gb403) ho0 (fun k_ hk_ => ⟨Or.elim hk_ (fun hs_ => hs_.1) (fun hn_ => (Kd.freshB (g := gb392) (o := .cells #[.int .i64 a1_0, .int .i64 a1_1, .int .i64 a1_2, .int .i64 a1_3, .int .i64 a1_4, .int .i64 a1_5] 43 (0, 0)) (fb BK392.out) k_ hn_)), Or.elim hk_ (fun hs_ => hs_.2) (fun hn_ => (Kd.freshB (g := gb403) (o := .cells #[.int .i64 ((rd_T68 l0 x8_1).f1.f0.f0), .int .i64 ((rd_T68 l0 x8_1).f1.f0.f1), .int .i64 ((rd_T68 l0 x8_1).f1.f0.f2), .int .i64 ((rd_T68 l0 x8_1).f1.f1.f0), .int .i64 ((rd_T68 l0 x8_1).f1.f1.f1), .int .i64 ((rd_T68 l0 x8_1).f1.f1.f2)] 43 (0, 0)) (fb BK403.out) k_ hn_))⟩)) (wz (fW HB.out)))
    have n7_ := bB BK392 hb
    have n8_ := bB BK403 hb
    have n9_ := bS HB hb
    clear HO_5 HO_6 HO_7 HO406 HO409 HO412 BK392 BK403 HB
    have HO_5 := n0_
    have HO_6 := n1_
    have HO_7 := n2_
    have HO406 := n3_
    have HO409 := n4_
    have HO412 := n5_
    have HO415 := n6_
    have BK392 := n7_
    have BK403 := n8_
    have HB := n9_
    clear n0_ n1_ n2_ n3_ n4_ n5_ n6_ n7_ n8_ n9_
    (try clear hb)
    (try clear hb2)
    (try clear hk)
    (try clear hi)
    (try clear ho0)
    refine hK.out _ _ ⟨(bc BK403.out 0).trans rfl, (bc BK403.out 1).trans rfl, (bc BK403.out 2).trans rfl, (bc BK403.out 3).trans rfl, (bc BK403.out 4).trans rfl, (bc BK403.out 5).trans rfl, (bc BK392.out 0).trans rfl, (bc BK392.out 1).trans rfl, (bc BK392.out 2).trans rfl, (bc BK392.out 3).trans rfl, (bc BK392.out 4).trans rfl, (bc BK392.out 5).trans rfl⟩ (fun hHeld => ?_)
    clear hK K
    refine norm_ (a' := ?_) ?_ ?_
    rotate_left
    ·show Act.put _ (some 69) _ = _
     simp only [Act.put, psl, i64_w, i32_w]
     rfl
    refine pu (i := 21) (N := some 6) (fl 22 22 []) HT_ ?_
    refine done_ (done_of HT_.out (by kernel_rfl)) ?_
    try go_wp2
    have n0_ := am (Kd.V_drew HO_5.out)
    have n1_ := am (Kd.V_drew HO_6.out)
    have n2_ := am (Kd.V_drew HO_7.out)
    have n3_ := am (Kd.V_drew HO406.out)
    have n4_ := am (Kd.V_drew HO409.out)
    have n5_ := am (Kd.V_drew HO412.out)
    have n6_ := am (Kd.V_drew HO415.out)
    have n7_ := am (bd BK392.out)
    have n8_ := am (bd BK403.out)
    have n9_ := am (below_drew1 HB.out)
    clear HO_5 HO_6 HO_7 HO406 HO409 HO412 HO415 BK392 BK403 HB
    have HO_5 := n0_
    have HO_6 := n1_
    have HO_7 := n2_
    have HO406 := n3_
    have HO409 := n4_
    have HO412 := n5_
    have HO415 := n6_
    have BK392 := n7_
    have BK403 := n8_
    have HB := n9_
    clear n0_ n1_ n2_ n3_ n4_ n5_ n6_ n7_ n8_ n9_
    obtain ⟨Ao33, co33, eo33⟩ := Kd.V_slice HO_7.out
    (first | subst eo33 | (injection eo33 with f1_ f2_ f3_; have f4_ := f1_.symm; have f5_ := f3_.symm; clear f1_ f2_ f3_; subst f4_; subst f5_))
    refine start_ (n := 22) (S := fun w' => w'.cell? ⟨gb403, 0, none⟩ = some (.int .i64 ((rd_T68 l0 x8_1).f1.f0.f0)) ∧ w'.cell? ⟨gb403, 1, none⟩ = some (.int .i64 ((rd_T68 l0 x8_1).f1.f0.f1)) ∧ w'.cell? ⟨gb403, 2, none⟩ = some (.int .i64 ((rd_T68 l0 x8_1).f1.f0.f2)) ∧ w'.cell? ⟨gb403, 3, none⟩ = some (.int .i64 ((rd_T68 l0 x8_1).f1.f1.f0)) ∧ w'.cell? ⟨gb403, 4, none⟩ = some (.int .i64 ((rd_T68 l0 x8_1).f1.f1.f1)) ∧ w'.cell? ⟨gb403, 5, none⟩ = some (.int .i64 ((rd_T68 l0 x8_1).f1.f1.f2)) ∧ w'.cell? ⟨gb392, 0, none⟩ = some (.int .i64 a1_0) ∧ w'.cell? ⟨gb392, 1, none⟩ = some (.int .i64 a1_1) ∧ w'.cell? ⟨gb392, 2, none⟩ = some (.int .i64 a1_2) ∧ w'.cell? ⟨gb392, 3, none⟩ = some (.int .i64 a1_3) ∧ w'.cell? ⟨gb392, 4, none⟩ = some (.int .i64 a1_4) ∧ w'.cell? ⟨gb392, 5, none⟩ = some (.int .i64 a1_5)) (ds := []) #[false, false, false, false, false, false, false, false, false, false, false, false, false, false, false, false, false, false, false, false, false, false] (by kernel_rfl) rfl rfl ⟨(bc BK403.out 0).trans rfl, (bc BK403.out 1).trans rfl, (bc BK403.out 2).trans rfl, (bc BK403.out 3).trans rfl, (bc BK403.out 4).trans rfl, (bc BK403.out 5).trans rfl, (bc BK392.out 0).trans rfl, (bc BK392.out 1).trans rfl, (bc BK392.out 2).trans rfl, (bc BK392.out 3).trans rfl, (bc BK392.out 4).trans rfl, (bc BK392.out 5).trans rfl⟩ (fun hHeld => ?_); refine with_tabW r_Parts.tab8 r_Parts.bits8 (fun HT_ HW_ => ?_)
    generalize w31.drew = w32 at HO_5 HO_6 HO_7 HO406 HO409 HO412 HO415 BK392 BK403 HB hHeld ⊢
    refine pu (i := 0) (N := some 70) (fl 22 1 []) HT_ ?_
    refine pu (i := 1) (N := some 71) (fl 22 2 []) HT_ ?_
    refine pu (i := 2) (N := some 72) (fl 22 3 []) HT_ ?_
    refine pu (i := 4) (N := some 74) (fl 22 3 [4]) HT_ ?_
    refine pu (i := 5) (N := some 75) (fl 22 3 [4, 5]) HT_ ?_
    refine pu (i := 7) (N := some 77) (fl 22 3 [4, 5, 7]) HT_ ?_
    refine pu (i := 8) (N := some 78) (fl 22 3 [4, 5, 7, 8]) HT_ ?_
    refine pu (i := 11) (N := some 81) (fl 22 3 [4, 5, 7, 8, 11]) HT_ ?_
    refine pu (i := 12) (N := some 82) (fl 22 3 [4, 5, 7, 8, 11, 12]) HT_ ?_
    refine pu (i := 14) (N := some 84) (fl 22 3 [4, 5, 7, 8, 11, 12, 14]) HT_ ?_
    refine pu (i := 15) (N := some 85) (fl 22 3 [4, 5, 7, 8, 11, 12, 14, 15]) HT_ ?_
    refine pu (i := 17) (N := some 87) (fl 22 3 [4, 5, 7, 8, 11, 12, 14, 15, 17]) HT_ ?_
    refine pu (i := 18) (N := some 88) (fl 22 3 [4, 5, 7, 8, 11, 12, 14, 15, 17, 18]) HT_ ?_
    refine tk (i := 3) (N := some 73) (fl 22 6 [7, 8, 11, 12, 14, 15, 17, 18]) HT_ HW_ hHeld ?_
    refine tk (i := 6) (N := some 76) (fl 22 9 [11, 12, 14, 15, 17, 18]) HT_ HW_ hHeld ?_
    refine tk (i := 9) (N := some 79) (fl 22 10 [11, 12, 14, 15, 17, 18]) HT_ HW_ hHeld ?_
    refine tk (i := 13) (N := some 83) (fl 22 10 [11, 12, 13, 14, 15, 17, 18]) HT_ HW_ hHeld ?_
    refine tk (i := 16) (N := some 86) (fl 22 10 [11, 12, 13, 14, 15, 16, 17, 18]) HT_ HW_ hHeld ?_
    refine tk (i := 19) (N := some 89) (fl 22 10 [11, 12, 13, 14, 15, 16, 17, 18, 19]) HT_ HW_ hHeld ?_
    refine one_ (i := 10) (N := some 80) (fl 22 20 []) rfl rfl (one_of HT_.out (by kernel_rfl)) (by decide) (fun K hK => ?_)
    refine goes_ Try.func78 (by kernel_rfl) rfl #[.slice Ao33 x7_1.length co33, .int .i64 ((rd_T68 l0 x8_1).f1.f0.f2), .int .i64 a1_2, .int .i64 a1_5] (by rfl) rfl rfl (by (try simp only [pml]); first | done | rfl | (simp only [pdt]; rfl)) ?_
    with_reducible refine (r_insert.calls k1 (fun k_ => (k_ ≠ gb392 ∧ k_ ≠ gb403)) _ _ x7_1 ((rd_T68 l0 x8_1).f1.f0.f2) a1_2 a1_5 t416 _ ?side1 A16.out).mono ?_
    (case side1 => exact HO_7.out)
    rintro e w34 ⟨v417, rfl, ho0, hb⟩
    refine ⟨_, rfl, ?_⟩
    have n0_ := dV HO_5 hb
    have n1_ := dV HO_6 hb
    have n2_ := dV HO_7 hb
    have n3_ := dV HO406 hb
    have n4_ := dV HO409 hb
    have n5_ := dV HO412 hb
    have n6_ := dV HO415 hb
    have n7_ := am (Kd.V_lower (Kd.V_mono (ok' := fun k_ => k_ ≠ gb392 ∧ k_ ≠ gb403) ho0 (fun k_ hk_ => ⟨Or.elim hk_ (fun hs_ => hs_.1) (fun hn_ => (Kd.freshB (g := gb392) (o := .cells #[.int .i64 a1_0, .int .i64 a1_1, .int .i64 a1_2, .int .i64 a1_3, .int .i64 a1_4, .int .i64 a1_5] 43 (0, 0)) (fb BK392.out) k_ hn_)), Or.elim hk_ (fun hs_ => hs_.2) (fun hn_ => (Kd.freshB (g := gb403) (o := .cells #[.int .i64 ((rd_T68 l0 x8_1).f1.f0.f0), .int .i64 ((rd_T68 l0 x8_1).f1.f0.f1), .int .i64 ((rd_T68 l0 x8_1).f1.f0.f2), .int .i64 ((rd_T68 l0 x8_1).f1.f1.f0), .int .i64 ((rd_T68 l0 x8_1).f1.f1.f1), .int .i64 ((rd_T68 l0 x8_1).f1.f1.f2)] 43 (0, 0)) (fb BK403.out) k_ hn_))⟩)) (wz (fW HB.out)))
    have n8_ := bB BK392 hb
    have n9_ := bB BK403 hb
    have n10_ := bS HB hb
    clear HO_5 HO_6 HO_7 HO406 HO409 HO412 HO415 BK392 BK403 HB
    have HO_5 := n0_
    have HO_6 := n1_
    have HO_7 := n2_
    have HO406 := n3_
    have HO409 := n4_
    have HO412 := n5_
    have HO415 := n6_
    have HO418 := n7_
    have BK392 := n8_
    have BK403 := n9_
    have HB := n10_
    clear n0_ n1_ n2_ n3_ n4_ n5_ n6_ n7_ n8_ n9_ n10_
    (try clear hb)
    (try clear hb2)
    (try clear hk)
    (try clear hi)
    (try clear ho0)
    obtain ⟨Ao35, co35, eo35⟩ := Kd.V_slice HO418.out
    (first | subst eo35 | (injection eo35 with f1_ f2_ f3_; have f4_ := f1_.symm; have f5_ := f3_.symm; clear f1_ f2_ f3_; subst f4_; subst f5_))
    refine hK.out _ _ ⟨(bc BK403.out 0).trans rfl, (bc BK403.out 1).trans rfl, (bc BK403.out 2).trans rfl, (bc BK403.out 3).trans rfl, (bc BK403.out 4).trans rfl, (bc BK403.out 5).trans rfl, (bc BK392.out 0).trans rfl, (bc BK392.out 1).trans rfl, (bc BK392.out 2).trans rfl, (bc BK392.out 3).trans rfl, (bc BK392.out 4).trans rfl, (bc BK392.out 5).trans rfl⟩ (fun hHeld => ?_)
    clear hK K
    refine norm_ (a' := ?_) ?_ ?_
    rotate_left
    ·show Act.put _ (some 80) _ = _
     simp only [Act.put, psl, i64_w, i32_w]
     rfl
    refine one_ (i := 20) (N := some 90) (fl 22 21 []) rfl rfl (one_of HT_.out (by kernel_rfl)) (by decide) (fun K hK => ?_)
    refine goes_ Try.func78 (by kernel_rfl) rfl #[.slice Ao35 t416.length co35, .int .i64 ((rd_T68 l0 x8_1).f1.f1.f2), .int .i64 a1_2, .int .i64 a1_5] (by rfl) rfl rfl (by (try simp only [pml]); first | done | rfl | (simp only [pdt]; rfl)) ?_
    with_reducible refine (r_insert.calls k1 (fun k_ => (k_ ≠ gb392 ∧ k_ ≠ gb403)) _ _ t416 ((rd_T68 l0 x8_1).f1.f1.f2) a1_2 a1_5 t419 _ ?side1 A17.out).mono ?_
    (case side1 => exact HO418.out)
    rintro e w36 ⟨v420, rfl, ho0, hb⟩
    refine ⟨_, rfl, ?_⟩
    have n0_ := dV HO_5 hb
    have n1_ := dV HO_6 hb
    have n2_ := dV HO_7 hb
    have n3_ := dV HO406 hb
    have n4_ := dV HO409 hb
    have n5_ := dV HO412 hb
    have n6_ := dV HO415 hb
    have n7_ := dV HO418 hb
    have n8_ := am (Kd.V_lower (Kd.V_mono (ok' := fun k_ => k_ ≠ gb392 ∧ k_ ≠ gb403) ho0 (fun k_ hk_ => ⟨Or.elim hk_ (fun hs_ => hs_.1) (fun hn_ => (Kd.freshB (g := gb392) (o := .cells #[.int .i64 a1_0, .int .i64 a1_1, .int .i64 a1_2, .int .i64 a1_3, .int .i64 a1_4, .int .i64 a1_5] 43 (0, 0)) (fb BK392.out) k_ hn_)), Or.elim hk_ (fun hs_ => hs_.2) (fun hn_ => (Kd.freshB (g := gb403) (o := .cells #[.int .i64 ((rd_T68 l0 x8_1).f1.f0.f0), .int .i64 ((rd_T68 l0 x8_1).f1.f0.f1), .int .i64 ((rd_T68 l0 x8_1).f1.f0.f2), .int .i64 ((rd_T68 l0 x8_1).f1.f1.f0), .int .i64 ((rd_T68 l0 x8_1).f1.f1.f1), .int .i64 ((rd_T68 l0 x8_1).f1.f1.f2)] 43 (0, 0)) (fb BK403.out) k_ hn_))⟩)) (wz (fW HB.out)))
    have n9_ := bB BK392 hb
    have n10_ := bB BK403 hb
    have n11_ := bS HB hb
    clear HO_5 HO_6 HO_7 HO406 HO409 HO412 HO415 HO418 BK392 BK403 HB
    have HO_5 := n0_
    have HO_6 := n1_
    have HO_7 := n2_
    have HO406 := n3_
    have HO409 := n4_
    have HO412 := n5_
    have HO415 := n6_
    have HO418 := n7_
    have HO421 := n8_
    have BK392 := n9_
    have BK403 := n10_
    have HB := n11_
    clear n0_ n1_ n2_ n3_ n4_ n5_ n6_ n7_ n8_ n9_ n10_ n11_
    (try clear hb)
    (try clear hb2)
    (try clear hk)
    (try clear hi)
    (try clear ho0)
    refine hK.out _ _ ⟨(bc BK403.out 0).trans rfl, (bc BK403.out 1).trans rfl, (bc BK403.out 2).trans rfl, (bc BK403.out 3).trans rfl, (bc BK403.out 4).trans rfl, (bc BK403.out 5).trans rfl, (bc BK392.out 0).trans rfl, (bc BK392.out 1).trans rfl, (bc BK392.out 2).trans rfl, (bc BK392.out 3).trans rfl, (bc BK392.out 4).trans rfl, (bc BK392.out 5).trans rfl⟩ (fun hHeld => ?_)
    clear hK K
    refine norm_ (a' := ?_) ?_ ?_
    rotate_left
    ·show Act.put _ (some 90) _ = _
     simp only [Act.put, psl, i64_w, i32_w]
     rfl
    refine pu (i := 21) (N := some 7) (fl 22 22 []) HT_ ?_
    refine done_ (done_of HT_.out (by kernel_rfl)) ?_
    try go_wp2
    go_roundg k1
    case measure => have := HK1.out; omega
    case rel => exact ⟨(t407), (t413), (t419), (wrap64 (x8_1 + 1)), sqD, H', ⟨by have := HK1.out; omega⟩, ⟨by (with_reducible repeat (first | apply Kd.V_alloc | apply Kd.V_drewN | apply Kd.V_drew)); exact Kd.V_mono HO409.out (fun _ hk => hk.1)⟩, ⟨by (with_reducible repeat (first | apply Kd.V_alloc | apply Kd.V_drewN | apply Kd.V_drew)); exact Kd.V_mono HO415.out (fun _ hk => hk.1)⟩, ⟨by (with_reducible repeat (first | apply Kd.V_alloc | apply Kd.V_drewN | apply Kd.V_drew)); exact Kd.V_mono HO421.out (fun _ hk => hk.1)⟩, ⟨fb BK392.out⟩, ⟨fW HB.out⟩⟩
   ·rw [if_neg c10] at H
    have c10b0 : decide (x8_1 < (l0.length : Int)) = false := decide_eq_false c10
    clear c10
    obtain ⟨y422, hy422⟩ : ∃ y_ : List Int, y_ = (([a1_0] : List Int)) := ⟨_, rfl⟩
    replace H : (if y422.length + x5_1.length < 17592186044416 then ((some (y422 ++ x5_1 : List Int)).bind fun y425 => ((some (([a1_3] : List Int) : List Int)).bind fun y428 => (if y425.length + y428.length < 17592186044416 then ((some (([a1_1] : List Int) : List Int)).bind fun y434 => (if y434.length + x6_1.length < 17592186044416 then ((some (y434 ++ x6_1 : List Int)).bind fun y437 => ((some (([a1_4] : List Int) : List Int)).bind fun y440 => (if y437.length + y440.length < 17592186044416 then ((some (([a1_2] : List Int) : List Int)).bind fun y446 => (if y446.length + x7_1.length < 17592186044416 then ((some (y446 ++ x7_1 : List Int)).bind fun y449 => ((some (([a1_5] : List Int) : List Int)).bind fun y452 => (if y449.length + y452.length < 17592186044416 then (r_Parts.l1 k1 (y425 ++ y428) (y437 ++ y440) (y449 ++ y452) (([] : List (S43))) 0) else (none)))) else (none))) else (none)))) else (none))) else (none)))) else (none)) = some r := by first | (rw [hy422]; with_reducible exact H) | (have H2_ := (Option.bind_some _ _).symm.trans H; rw [hy422]; with_reducible exact H2_) | (have H2_ := (Option.bind_some _ _).symm.trans H; with_reducible exact H2_) | with_reducible exact H | (rw [hy422]; exact H) | exact H
    have Ny422 := am hy422
    clear hy422
    by_cases c37 : y422.length + x5_1.length < 17592186044416
    ·rw [if_pos c37] at H
     have LMc37 := am c37
     clear c37
     obtain ⟨y425, hy425⟩ : ∃ y_ : List Int, y_ = (y422 ++ x5_1) := ⟨_, rfl⟩
     replace H : ((some (([a1_3] : List Int) : List Int)).bind fun y428 => (if y425.length + y428.length < 17592186044416 then ((some (([a1_1] : List Int) : List Int)).bind fun y434 => (if y434.length + x6_1.length < 17592186044416 then ((some (y434 ++ x6_1 : List Int)).bind fun y437 => ((some (([a1_4] : List Int) : List Int)).bind fun y440 => (if y437.length + y440.length < 17592186044416 then ((some (([a1_2] : List Int) : List Int)).bind fun y446 => (if y446.length + x7_1.length < 17592186044416 then ((some (y446 ++ x7_1 : List Int)).bind fun y449 => ((some (([a1_5] : List Int) : List Int)).bind fun y452 => (if y449.length + y452.length < 17592186044416 then (r_Parts.l1 k1 (y425 ++ y428) (y437 ++ y440) (y449 ++ y452) (([] : List (S43))) 0) else (none)))) else (none))) else (none)))) else (none))) else (none))) = some r := by first | (rw [hy425]; with_reducible exact H) | (have H2_ := (Option.bind_some _ _).symm.trans H; rw [hy425]; with_reducible exact H2_) | (have H2_ := (Option.bind_some _ _).symm.trans H; with_reducible exact H2_) | with_reducible exact H | (rw [hy425]; exact H) | exact H
     have Ny425 := am hy425
     clear hy425
     obtain ⟨y428, hy428⟩ : ∃ y_ : List Int, y_ = (([a1_3] : List Int)) := ⟨_, rfl⟩
     replace H : (if y425.length + y428.length < 17592186044416 then ((some (([a1_1] : List Int) : List Int)).bind fun y434 => (if y434.length + x6_1.length < 17592186044416 then ((some (y434 ++ x6_1 : List Int)).bind fun y437 => ((some (([a1_4] : List Int) : List Int)).bind fun y440 => (if y437.length + y440.length < 17592186044416 then ((some (([a1_2] : List Int) : List Int)).bind fun y446 => (if y446.length + x7_1.length < 17592186044416 then ((some (y446 ++ x7_1 : List Int)).bind fun y449 => ((some (([a1_5] : List Int) : List Int)).bind fun y452 => (if y449.length + y452.length < 17592186044416 then (r_Parts.l1 k1 (y425 ++ y428) (y437 ++ y440) (y449 ++ y452) (([] : List (S43))) 0) else (none)))) else (none))) else (none)))) else (none))) else (none)) = some r := by first | (rw [hy428]; with_reducible exact H) | (have H2_ := (Option.bind_some _ _).symm.trans H; rw [hy428]; with_reducible exact H2_) | (have H2_ := (Option.bind_some _ _).symm.trans H; with_reducible exact H2_) | with_reducible exact H | (rw [hy428]; exact H) | exact H
     have Ny428 := am hy428
     clear hy428
     by_cases c38 : y425.length + y428.length < 17592186044416
     rotate_left
     ·rw [if_neg c38] at H
      exact absurd H (by simp)
     rw [if_pos c38] at H
     have LMc38 := am c38
     clear c38
     obtain ⟨y431, hy431⟩ : ∃ y_ : List Int, y_ = (y425 ++ y428) := ⟨_, rfl⟩
     replace H : ((some (([a1_1] : List Int) : List Int)).bind fun y434 => (if y434.length + x6_1.length < 17592186044416 then ((some (y434 ++ x6_1 : List Int)).bind fun y437 => ((some (([a1_4] : List Int) : List Int)).bind fun y440 => (if y437.length + y440.length < 17592186044416 then ((some (([a1_2] : List Int) : List Int)).bind fun y446 => (if y446.length + x7_1.length < 17592186044416 then ((some (y446 ++ x7_1 : List Int)).bind fun y449 => ((some (([a1_5] : List Int) : List Int)).bind fun y452 => (if y449.length + y452.length < 17592186044416 then (r_Parts.l1 k1 y431 (y437 ++ y440) (y449 ++ y452) (([] : List (S43))) 0) else (none)))) else (none))) else (none)))) else (none))) = some r := by first | (rw [hy431]; with_reducible exact H) | (have H2_ := (Option.bind_some _ _).symm.trans H; rw [hy431]; with_reducible exact H2_) | (have H2_ := (Option.bind_some _ _).symm.trans H; with_reducible exact H2_) | with_reducible exact H | (rw [hy431]; exact H) | exact H
     have Ny431 := am hy431
     clear hy431
     obtain ⟨y434, hy434⟩ : ∃ y_ : List Int, y_ = (([a1_1] : List Int)) := ⟨_, rfl⟩
     replace H : (if y434.length + x6_1.length < 17592186044416 then ((some (y434 ++ x6_1 : List Int)).bind fun y437 => ((some (([a1_4] : List Int) : List Int)).bind fun y440 => (if y437.length + y440.length < 17592186044416 then ((some (([a1_2] : List Int) : List Int)).bind fun y446 => (if y446.length + x7_1.length < 17592186044416 then ((some (y446 ++ x7_1 : List Int)).bind fun y449 => ((some (([a1_5] : List Int) : List Int)).bind fun y452 => (if y449.length + y452.length < 17592186044416 then (r_Parts.l1 k1 y431 (y437 ++ y440) (y449 ++ y452) (([] : List (S43))) 0) else (none)))) else (none))) else (none)))) else (none)) = some r := by first | (rw [hy434]; with_reducible exact H) | (have H2_ := (Option.bind_some _ _).symm.trans H; rw [hy434]; with_reducible exact H2_) | (have H2_ := (Option.bind_some _ _).symm.trans H; with_reducible exact H2_) | with_reducible exact H | (rw [hy434]; exact H) | exact H
     have Ny434 := am hy434
     clear hy434
     by_cases c39 : y434.length + x6_1.length < 17592186044416
     rotate_left
     ·rw [if_neg c39] at H
      exact absurd H (by simp)
     rw [if_pos c39] at H
     have LMc39 := am c39
     clear c39
     obtain ⟨y437, hy437⟩ : ∃ y_ : List Int, y_ = (y434 ++ x6_1) := ⟨_, rfl⟩
     replace H : ((some (([a1_4] : List Int) : List Int)).bind fun y440 => (if y437.length + y440.length < 17592186044416 then ((some (([a1_2] : List Int) : List Int)).bind fun y446 => (if y446.length + x7_1.length < 17592186044416 then ((some (y446 ++ x7_1 : List Int)).bind fun y449 => ((some (([a1_5] : List Int) : List Int)).bind fun y452 => (if y449.length + y452.length < 17592186044416 then (r_Parts.l1 k1 y431 (y437 ++ y440) (y449 ++ y452) (([] : List (S43))) 0) else (none)))) else (none))) else (none))) = some r := by first | (rw [hy437]; with_reducible exact H) | (have H2_ := (Option.bind_some _ _).symm.trans H; rw [hy437]; with_reducible exact H2_) | (have H2_ := (Option.bind_some _ _).symm.trans H; with_reducible exact H2_) | with_reducible exact H | (rw [hy437]; exact H) | exact H
     have Ny437 := am hy437
     clear hy437
     obtain ⟨y440, hy440⟩ : ∃ y_ : List Int, y_ = (([a1_4] : List Int)) := ⟨_, rfl⟩
     replace H : (if y437.length + y440.length < 17592186044416 then ((some (([a1_2] : List Int) : List Int)).bind fun y446 => (if y446.length + x7_1.length < 17592186044416 then ((some (y446 ++ x7_1 : List Int)).bind fun y449 => ((some (([a1_5] : List Int) : List Int)).bind fun y452 => (if y449.length + y452.length < 17592186044416 then (r_Parts.l1 k1 y431 (y437 ++ y440) (y449 ++ y452) (([] : List (S43))) 0) else (none)))) else (none))) else (none)) = some r := by first | (rw [hy440]; with_reducible exact H) | (have H2_ := (Option.bind_some _ _).symm.trans H; rw [hy440]; with_reducible exact H2_) | (have H2_ := (Option.bind_some _ _).symm.trans H; with_reducible exact H2_) | with_reducible exact H | (rw [hy440]; exact H) | exact H
     have Ny440 := am hy440
     clear hy440
     by_cases c40 : y437.length + y440.length < 17592186044416
     rotate_left
     ·rw [if_neg c40] at H
      exact absurd H (by simp)
     rw [if_pos c40] at H
     have LMc40 := am c40
     clear c40
     obtain ⟨y443, hy443⟩ : ∃ y_ : List Int, y_ = (y437 ++ y440) := ⟨_, rfl⟩
     replace H : ((some (([a1_2] : List Int) : List Int)).bind fun y446 => (if y446.length + x7_1.length < 17592186044416 then ((some (y446 ++ x7_1 : List Int)).bind fun y449 => ((some (([a1_5] : List Int) : List Int)).bind fun y452 => (if y449.length + y452.length < 17592186044416 then (r_Parts.l1 k1 y431 y443 (y449 ++ y452) (([] : List (S43))) 0) else (none)))) else (none))) = some r := by first | (rw [hy443]; with_reducible exact H) | (have H2_ := (Option.bind_some _ _).symm.trans H; rw [hy443]; with_reducible exact H2_) | (have H2_ := (Option.bind_some _ _).symm.trans H; with_reducible exact H2_) | with_reducible exact H | (rw [hy443]; exact H) | exact H
     have Ny443 := am hy443
     clear hy443
     obtain ⟨y446, hy446⟩ : ∃ y_ : List Int, y_ = (([a1_2] : List Int)) := ⟨_, rfl⟩
     replace H : (if y446.length + x7_1.length < 17592186044416 then ((some (y446 ++ x7_1 : List Int)).bind fun y449 => ((some (([a1_5] : List Int) : List Int)).bind fun y452 => (if y449.length + y452.length < 17592186044416 then (r_Parts.l1 k1 y431 y443 (y449 ++ y452) (([] : List (S43))) 0) else (none)))) else (none)) = some r := by first | (rw [hy446]; with_reducible exact H) | (have H2_ := (Option.bind_some _ _).symm.trans H; rw [hy446]; with_reducible exact H2_) | (have H2_ := (Option.bind_some _ _).symm.trans H; with_reducible exact H2_) | with_reducible exact H | (rw [hy446]; exact H) | exact H
     have Ny446 := am hy446
     clear hy446
     by_cases c41 : y446.length + x7_1.length < 17592186044416
     rotate_left
     ·rw [if_neg c41] at H
      exact absurd H (by simp)
     rw [if_pos c41] at H
     have LMc41 := am c41
     clear c41
     obtain ⟨y449, hy449⟩ : ∃ y_ : List Int, y_ = (y446 ++ x7_1) := ⟨_, rfl⟩
     replace H : ((some (([a1_5] : List Int) : List Int)).bind fun y452 => (if y449.length + y452.length < 17592186044416 then (r_Parts.l1 k1 y431 y443 (y449 ++ y452) (([] : List (S43))) 0) else (none))) = some r := by first | (rw [hy449]; with_reducible exact H) | (have H2_ := (Option.bind_some _ _).symm.trans H; rw [hy449]; with_reducible exact H2_) | (have H2_ := (Option.bind_some _ _).symm.trans H; with_reducible exact H2_) | with_reducible exact H | (rw [hy449]; exact H) | exact H
     have Ny449 := am hy449
     clear hy449
     obtain ⟨y452, hy452⟩ : ∃ y_ : List Int, y_ = (([a1_5] : List Int)) := ⟨_, rfl⟩
     replace H : (if y449.length + y452.length < 17592186044416 then (r_Parts.l1 k1 y431 y443 (y449 ++ y452) (([] : List (S43))) 0) else (none)) = some r := by first | (rw [hy452]; with_reducible exact H) | (have H2_ := (Option.bind_some _ _).symm.trans H; rw [hy452]; with_reducible exact H2_) | (have H2_ := (Option.bind_some _ _).symm.trans H; with_reducible exact H2_) | with_reducible exact H | (rw [hy452]; exact H) | exact H
     have Ny452 := am hy452
     clear hy452
     by_cases c42 : y449.length + y452.length < 17592186044416
     rotate_left
     ·rw [if_neg c42] at H
      exact absurd H (by simp)
     rw [if_pos c42] at H
     have LMc42 := am c42
     clear c42
     obtain ⟨y455, hy455⟩ : ∃ y_ : List Int, y_ = (y449 ++ y452) := ⟨_, rfl⟩
     replace H : (r_Parts.l1 k1 y431 y443 y455 (([] : List (S43))) 0) = some r := by first | (rw [hy455]; with_reducible exact H) | (have H2_ := (Option.bind_some _ _).symm.trans H; rw [hy455]; with_reducible exact H2_) | (have H2_ := (Option.bind_some _ _).symm.trans H; with_reducible exact H2_) | with_reducible exact H | (rw [hy455]; exact H) | exact H
     have Ny455 := am hy455
     clear hy455
     obtain ⟨y458, hy458⟩ : ∃ y_ : List (S43), y_ = (([] : List (S43))) := ⟨_, rfl⟩
     replace H : (r_Parts.l1 k1 y431 y443 y455 y458 0) = some r := by first | (rw [hy458]; with_reducible exact H) | (have H2_ := (Option.bind_some _ _).symm.trans H; rw [hy458]; with_reducible exact H2_) | (have H2_ := (Option.bind_some _ _).symm.trans H; with_reducible exact H2_) | with_reducible exact H | (rw [hy458]; exact H) | exact H
     have Ny458 := am hy458
     clear hy458
     have H' := am H
     clear H
     obtain ⟨Ao43, co43, eo43⟩ := Kd.V_slice HO_5.out
     subst eo43
     obtain ⟨Ao44, co44, eo44⟩ := Kd.V_slice HO_6.out
     subst eo44
     obtain ⟨Ao45, co45, eo45⟩ := Kd.V_slice HO_7.out
     subst eo45
     try go_wp2
     have n0_ := am (Kd.V_drew HO_5.out)
     have n1_ := am (Kd.V_drew HO_6.out)
     have n2_ := am (Kd.V_drew HO_7.out)
     have n3_ := am (bd BK392.out)
     have n4_ := am (below_drew1 HB.out)
     clear HO_5 HO_6 HO_7 BK392 HB
     have HO_5 := n0_
     have HO_6 := n1_
     have HO_7 := n2_
     have BK392 := n3_
     have HB := n4_
     clear n0_ n1_ n2_ n3_ n4_
     refine start_ (n := 36) (S := fun w' => True) (ds := []) #[false, false, false, false, false, false, false, false, false, false, false, false, false, false, false, false, false, false, false, false, false, false, false, false, false, false, false, false, false, false, false, false, false, false, false, false] (by kernel_rfl) rfl rfl trivial (fun hHeld => ?_); refine with_tabW r_Parts.tab9 r_Parts.bits9 (fun HT_ HW_ => ?_)
     generalize wr.drew = w46 at HO_5 HO_6 HO_7 BK392 HB hHeld ⊢
     refine pu (i := 0) (N := some 91) (fl 36 1 []) HT_ ?_
     refine pu (i := 1) (N := some 92) (fl 36 2 []) HT_ ?_
     refine pu (i := 4) (N := some 95) (fl 36 2 [4]) HT_ ?_
     refine pu (i := 6) (N := some 97) (fl 36 2 [4, 6]) HT_ ?_
     refine pu (i := 7) (N := some 98) (fl 36 2 [4, 6, 7]) HT_ ?_
     refine pu (i := 11) (N := some 102) (fl 36 2 [4, 6, 7, 11]) HT_ ?_
     refine pu (i := 12) (N := some 103) (fl 36 2 [4, 6, 7, 11, 12]) HT_ ?_
     refine pu (i := 15) (N := some 106) (fl 36 2 [4, 6, 7, 11, 12, 15]) HT_ ?_
     refine pu (i := 17) (N := some 108) (fl 36 2 [4, 6, 7, 11, 12, 15, 17]) HT_ ?_
     refine pu (i := 18) (N := some 109) (fl 36 2 [4, 6, 7, 11, 12, 15, 17, 18]) HT_ ?_
     refine pu (i := 22) (N := some 113) (fl 36 2 [4, 6, 7, 11, 12, 15, 17, 18, 22]) HT_ ?_
     refine pu (i := 23) (N := some 114) (fl 36 2 [4, 6, 7, 11, 12, 15, 17, 18, 22, 23]) HT_ ?_
     refine pu (i := 26) (N := some 117) (fl 36 2 [4, 6, 7, 11, 12, 15, 17, 18, 22, 23, 26]) HT_ ?_
     refine pu (i := 28) (N := some 119) (fl 36 2 [4, 6, 7, 11, 12, 15, 17, 18, 22, 23, 26, 28]) HT_ ?_
     refine pu (i := 29) (N := some 120) (fl 36 2 [4, 6, 7, 11, 12, 15, 17, 18, 22, 23, 26, 28, 29]) HT_ ?_
     refine inv_at [2, 3, 5, 8, 9, 10, 13, 14, 16, 19, 20, 21, 24, 25, 27, 30, 31, 32, 33, 34, 35] (fun a0_ b a w' => ∃ (v423 : Value) (v426 : Value) (v429 : Value) (v432 : Value) (v435 : Value) (v438 : Value) (v441 : Value) (v444 : Value) (v447 : Value) (v450 : Value) (v453 : Value) (v456 : Value) (m33_ : Value) (m34_ : Value) (m35_ : Value) (T : Nat → Nat), a = putSel a0_ b [(2, 93, .int .i64 a1_0), (3, 94, v423), (5, 96, v426), (8, 99, .int .i64 a1_3), (9, 100, v429), (10, 101, v432), (13, 104, .int .i64 a1_1), (14, 105, v435), (16, 107, v438), (19, 110, .int .i64 a1_4), (20, 111, v441), (21, 112, v444), (24, 115, .int .i64 a1_2), (25, 116, v447), (27, 118, v450), (30, 121, .int .i64 a1_5), (31, 122, v453), (32, 123, v456), (33, 5, m33_), (34, 6, m34_), (35, 7, m35_)] ∧ Tri w gb392 (.cells #[.int .i64 a1_0, .int .i64 a1_1, .int .i64 a1_2, .int .i64 a1_3, .int .i64 a1_4, .int .i64 a1_5] 43 (0, 0)) (.slice Ao43 x5_1.length co43) x5_1 (.slice Ao44 x6_1.length co44) x6_1 (.slice Ao45 x7_1.length co45) x7_1 T w' ∧ (b 3 = true → b 5 = false → Rw w.heap.size T 1 w' v423 y422) ∧ (b 5 = true → b 10 = false → Rw w.heap.size T 1 w' v426 y425) ∧ (b 9 = true → Rw w.heap.size T 2 w' v429 y428) ∧ (b 10 = true → Rw w.heap.size T 1 w' v432 y431) ∧ (b 14 = true → b 16 = false → Rw w.heap.size T 3 w' v435 y434) ∧ (b 16 = true → b 21 = false → Rw w.heap.size T 3 w' v438 y437) ∧ (b 20 = true → Rw w.heap.size T 4 w' v441 y440) ∧ (b 21 = true → Rw w.heap.size T 3 w' v444 y443) ∧ (b 25 = true → b 27 = false → Rw w.heap.size T 5 w' v447 y446) ∧ (b 27 = true → b 32 = false → Rw w.heap.size T 5 w' v450 y449) ∧ (b 31 = true → Rw w.heap.size T 6 w' v453 y452) ∧ (b 32 = true → Rw w.heap.size T 5 w' v456 y455) ∧ (b 33 = true → m33_ = v432) ∧ (b 34 = true → m34_ = v444) ∧ (b 35 = true → m35_ = v456)) HT_.out HW_.out (by kernel_rfl) (by kernel_rfl) ?_ ?_ ?_
     ·exact ⟨.bool false, .bool false, .bool false, .bool false, .bool false, .bool false, .bool false, .bool false, .bool false, .bool false, .bool false, .bool false, .bool false, .bool false, .bool false, fun k => if k = gb392 then 7 else 0, by simp only [putSel, Bool.false_eq_true, if_false], ⟨HB.out, BK392.out, if_pos rfl, Kd.V_mono HO_5.out (fun k hk => if_neg hk), Kd.V_mono HO_6.out (fun k hk => if_neg hk), Kd.V_mono HO_7.out (fun k hk => if_neg hk)⟩, fun h_ => absurd h_ (by decide), fun h_ => absurd h_ (by decide), fun h_ => absurd h_ (by decide), fun h_ => absurd h_ (by decide), fun h_ => absurd h_ (by decide), fun h_ => absurd h_ (by decide), fun h_ => absurd h_ (by decide), fun h_ => absurd h_ (by decide), fun h_ => absurd h_ (by decide), fun h_ => absurd h_ (by decide), fun h_ => absurd h_ (by decide), fun h_ => absurd h_ (by decide), fun h_ => absurd h_ (by decide), fun h_ => absurd h_ (by decide), fun h_ => absurd h_ (by decide)⟩
     ·skip
      clear BK392 HB HO_5 HO_6 HO_7
      refine steps_cons ?_ ?_
      ·rintro b a w' ⟨v423, v426, v429, v432, v435, v438, v441, v444, v447, v450, v453, v456, m33_, m34_, m35_, T, ha, Q, Q3, Q5, Q9, Q10, Q14, Q16, Q20, Q21, Q25, Q27, Q31, Q32, X33, X34, X35⟩ hb_ hon hoff
       refine ⟨_, rfl, fun K hK => ?_⟩
       have e92 : a.tmps[92]? = some (.pointer (some ⟨gb392, 0, none⟩)) := by rw [ha]; exact (putSel_off rfl).trans rfl
       replace ha := am ha
       have hc0_ : w'.cell? ⟨gb392, 0, none⟩ = some (.int .i64 a1_0) := (bc Q.k 0).trans rfl
       have hc1_ : w'.cell? ⟨gb392, 1, none⟩ = some (.int .i64 a1_1) := (bc Q.k 1).trans rfl
       have hc2_ : w'.cell? ⟨gb392, 2, none⟩ = some (.int .i64 a1_2) := (bc Q.k 2).trans rfl
       have hc3_ : w'.cell? ⟨gb392, 3, none⟩ = some (.int .i64 a1_3) := (bc Q.k 3).trans rfl
       have hc4_ : w'.cell? ⟨gb392, 4, none⟩ = some (.int .i64 a1_4) := (bc Q.k 4).trans rfl
       have hc5_ : w'.cell? ⟨gb392, 5, none⟩ = some (.int .i64 a1_5) := (bc Q.k 5).trans rfl
       refine value_ (w1 := w') (v := .int .i64 a1_0) (by rfl) rfl ?_ ?_
       ·go_simp
        (try simp only [i64_w])
        try rfl
       refine hK.out _ _ ⟨v423, v426, v429, v432, v435, v438, v441, v444, v447, v450, v453, v456, m33_, m34_, m35_, T, (by rw [ha.out]; exact putSel_upk 0 hb_ rfl rfl rfl), Q, Q3, Q5, Q9, Q10, Q14, Q16, Q20, Q21, Q25, Q27, Q31, Q32, X33, X34, X35⟩
      refine steps_cons ?_ ?_
      ·rintro b a w' ⟨v423, v426, v429, v432, v435, v438, v441, v444, v447, v450, v453, v456, m33_, m34_, m35_, T, ha, Q, Q3, Q5, Q9, Q10, Q14, Q16, Q20, Q21, Q25, Q27, Q31, Q32, X33, X34, X35⟩ hb_ hon hoff
       refine ⟨_, rfl, fun K hK => ?_⟩
       have e93 : a.tmps[93]? = some (.int .i64 a1_0) := by rw [ha]; exact putSel_on (e := (2, 93, .int .i64 a1_0)) 0 rfl rfl (hon 2 (by kernel_rfl)) rfl
       replace ha := am ha
       refine Kd.R_lit_step (Kd.int .i64) _ 3 ?hg (N := 94) ?hd (xs := ([a1_0] : List Int)) (inner := [.int .i64 a1_0]) (ok := fun _ => True) (okp := fun _ => True) ?hr ?hp (fun _ hk => hk) trivial (Below.refl _ _) (Nat.le_refl _) (by simp) ?_; (case hd | hg => rfl); (case hr => first | (go_simp; done) | (go_simp; rfl)); (case hp => exact (Reps.one (show Kd.M (Kd.int .i64) _ _ _ a1_0 [.int .i64 a1_0] from rfl) (Reps.none _ _)))
       intro v423 w47 ho48 hb hg_ hnew_
       clear hg_ hnew_
       (first | rw [← Ny422.out] at ho48 | (simp only [Int.reduceToNat] at ho48; rw [← Ny422.out] at ho48))
       refine hK.out _ _ ⟨v423, v426, v429, v432, v435, v438, v441, v444, v447, v450, v453, v456, m33_, m34_, m35_, tg T w' 1, (by rw [ha.out]; exact putSel_upk 1 hb_ rfl rfl rfl), Q.new hb 1, fun _ _ => Rw.lit ho48 (wz Q.b) T 1, fun h0_ h1_ => (Q5 h0_ h1_).new hb 1, fun h0_ => (Q9 h0_).new hb 1, fun h0_ => (Q10 h0_).new hb 1, fun h0_ h1_ => (Q14 h0_ h1_).new hb 1, fun h0_ h1_ => (Q16 h0_ h1_).new hb 1, fun h0_ => (Q20 h0_).new hb 1, fun h0_ => (Q21 h0_).new hb 1, fun h0_ h1_ => (Q25 h0_ h1_).new hb 1, fun h0_ h1_ => (Q27 h0_ h1_).new hb 1, fun h0_ => (Q31 h0_).new hb 1, fun h0_ => (Q32 h0_).new hb 1, X33, X34, X35⟩
      refine steps_cons ?_ ?_
      ·rintro b a w' ⟨v423, v426, v429, v432, v435, v438, v441, v444, v447, v450, v453, v456, m33_, m34_, m35_, T, ha, Q, Q3, Q5, Q9, Q10, Q14, Q16, Q20, Q21, Q25, Q27, Q31, Q32, X33, X34, X35⟩ hb_ hon hoff
       refine ⟨_, rfl, fun K hK => ?_⟩
       have e94 : a.tmps[94]? = some (v423) := by rw [ha]; exact putSel_on (e := (3, 94, v423)) 1 rfl rfl (hon 3 (by kernel_rfl)) rfl
       have e95 : a.tmps[95]? = some (.slice Ao43 x5_1.length co43) := by rw [ha]; exact (putSel_off rfl).trans rfl
       replace ha := am ha
       have hv := Q3 (hon 3 (by kernel_rfl)) hb_
       refine Kd.R_append_rows_step (Kd.int .i64) (w0 := w) w.heap.size (by rfl) (.tmp 94) (.tmp 95) 98 3 (.int .i64 0) 8 rfl Try.underlying98 info3 rfl (by decide) (by omega) v423 y422 x5_1 Ao43 x5_1.length co43 (fun k => tg T w' 1 k = 1) (fun _ => False) (ev_tmp e94) (ev_tmp e95) (hv.tag 1) (Kd.V_reads' Q.p5).2.2 (fun _ _ h => h) (fun _ h => h.elim) (fun k hk => if_neg (Nat.not_lt.2 hk)) Q.b (wz Q.b) (by have := LMc37.out; omega) ?_
       intro v426 w50 ho hb hg hat
       rw [← Ny425.out] at ho
       refine hK.out _ _ ⟨v423, v426, v429, v432, v435, v438, v441, v444, v447, v450, v453, v456, m33_, m34_, m35_, tg T w' 1, (by rw [ha.out]; exact putSel_upk 2 hb_ rfl rfl rfl), Q.app hv (by decide) (by decide) hg hb, fun _ h1_ => absurd ((up_self b 5).symm.trans h1_) (by decide), fun _ _ => ho, fun h0_ => (Q9 h0_).app hv (by decide) hg, fun h0_ => absurd ((hoff 10 (by kernel_rfl)).symm.trans h0_) (by decide), fun h0_ h1_ => (Q14 h0_ h1_).app hv (by decide) hg, fun h0_ h1_ => (Q16 h0_ h1_).app hv (by decide) hg, fun h0_ => (Q20 h0_).app hv (by decide) hg, fun h0_ => (Q21 h0_).app hv (by decide) hg, fun h0_ h1_ => (Q25 h0_ h1_).app hv (by decide) hg, fun h0_ h1_ => (Q27 h0_ h1_).app hv (by decide) hg, fun h0_ => (Q31 h0_).app hv (by decide) hg, fun h0_ => (Q32 h0_).app hv (by decide) hg, X33, X34, X35⟩
      refine steps_cons ?_ ?_
      ·rintro b a w' ⟨v423, v426, v429, v432, v435, v438, v441, v444, v447, v450, v453, v456, m33_, m34_, m35_, T, ha, Q, Q3, Q5, Q9, Q10, Q14, Q16, Q20, Q21, Q25, Q27, Q31, Q32, X33, X34, X35⟩ hb_ hon hoff
       refine ⟨_, rfl, fun K hK => ?_⟩
       have e98 : a.tmps[98]? = some (.pointer (some ⟨gb392, 3, none⟩)) := by rw [ha]; exact (putSel_off rfl).trans rfl
       replace ha := am ha
       have hc0_ : w'.cell? ⟨gb392, 0, none⟩ = some (.int .i64 a1_0) := (bc Q.k 0).trans rfl
       have hc1_ : w'.cell? ⟨gb392, 1, none⟩ = some (.int .i64 a1_1) := (bc Q.k 1).trans rfl
       have hc2_ : w'.cell? ⟨gb392, 2, none⟩ = some (.int .i64 a1_2) := (bc Q.k 2).trans rfl
       have hc3_ : w'.cell? ⟨gb392, 3, none⟩ = some (.int .i64 a1_3) := (bc Q.k 3).trans rfl
       have hc4_ : w'.cell? ⟨gb392, 4, none⟩ = some (.int .i64 a1_4) := (bc Q.k 4).trans rfl
       have hc5_ : w'.cell? ⟨gb392, 5, none⟩ = some (.int .i64 a1_5) := (bc Q.k 5).trans rfl
       refine value_ (w1 := w') (v := .int .i64 a1_3) (by rfl) rfl ?_ ?_
       ·go_simp
        (try simp only [i64_w])
        try rfl
       refine hK.out _ _ ⟨v423, v426, v429, v432, v435, v438, v441, v444, v447, v450, v453, v456, m33_, m34_, m35_, T, (by rw [ha.out]; exact putSel_upk 3 hb_ rfl rfl rfl), Q, Q3, Q5, Q9, Q10, Q14, Q16, Q20, Q21, Q25, Q27, Q31, Q32, X33, X34, X35⟩
      refine steps_cons ?_ ?_
      ·rintro b a w' ⟨v423, v426, v429, v432, v435, v438, v441, v444, v447, v450, v453, v456, m33_, m34_, m35_, T, ha, Q, Q3, Q5, Q9, Q10, Q14, Q16, Q20, Q21, Q25, Q27, Q31, Q32, X33, X34, X35⟩ hb_ hon hoff
       refine ⟨_, rfl, fun K hK => ?_⟩
       have e99 : a.tmps[99]? = some (.int .i64 a1_3) := by rw [ha]; exact putSel_on (e := (8, 99, .int .i64 a1_3)) 3 rfl rfl (hon 8 (by kernel_rfl)) rfl
       replace ha := am ha
       refine Kd.R_lit_step (Kd.int .i64) _ 3 ?hg (N := 100) ?hd (xs := ([a1_3] : List Int)) (inner := [.int .i64 a1_3]) (ok := fun _ => True) (okp := fun _ => True) ?hr ?hp (fun _ hk => hk) trivial (Below.refl _ _) (Nat.le_refl _) (by simp) ?_; (case hd | hg => rfl); (case hr => first | (go_simp; done) | (go_simp; rfl)); (case hp => exact (Reps.one (show Kd.M (Kd.int .i64) _ _ _ a1_3 [.int .i64 a1_3] from rfl) (Reps.none _ _)))
       intro v429 w47 ho48 hb hg_ hnew_
       clear hg_ hnew_
       (first | rw [← Ny428.out] at ho48 | (simp only [Int.reduceToNat] at ho48; rw [← Ny428.out] at ho48))
       refine hK.out _ _ ⟨v423, v426, v429, v432, v435, v438, v441, v444, v447, v450, v453, v456, m33_, m34_, m35_, tg T w' 2, (by rw [ha.out]; exact putSel_upk 4 hb_ rfl rfl rfl), Q.new hb 2, fun h0_ h1_ => (Q3 h0_ h1_).new hb 2, fun h0_ h1_ => (Q5 h0_ h1_).new hb 2, fun _ => Rw.lit ho48 (wz Q.b) T 2, fun h0_ => (Q10 h0_).new hb 2, fun h0_ h1_ => (Q14 h0_ h1_).new hb 2, fun h0_ h1_ => (Q16 h0_ h1_).new hb 2, fun h0_ => (Q20 h0_).new hb 2, fun h0_ => (Q21 h0_).new hb 2, fun h0_ h1_ => (Q25 h0_ h1_).new hb 2, fun h0_ h1_ => (Q27 h0_ h1_).new hb 2, fun h0_ => (Q31 h0_).new hb 2, fun h0_ => (Q32 h0_).new hb 2, X33, X34, X35⟩
      refine steps_cons ?_ ?_
      ·rintro b a w' ⟨v423, v426, v429, v432, v435, v438, v441, v444, v447, v450, v453, v456, m33_, m34_, m35_, T, ha, Q, Q3, Q5, Q9, Q10, Q14, Q16, Q20, Q21, Q25, Q27, Q31, Q32, X33, X34, X35⟩ hb_ hon hoff
       refine ⟨_, rfl, fun K hK => ?_⟩
       have e96 : a.tmps[96]? = some (v426) := by rw [ha]; exact putSel_on (e := (5, 96, v426)) 2 rfl rfl (hon 5 (by kernel_rfl)) rfl
       have e100 : a.tmps[100]? = some (v429) := by rw [ha]; exact putSel_on (e := (9, 100, v429)) 4 rfl rfl (hon 9 (by kernel_rfl)) rfl
       replace ha := am ha
       have hv := Q5 (hon 5 (by kernel_rfl)) hb_
       have hl := Q9 (hon 9 (by kernel_rfl))
       obtain ⟨Az, cz, ez⟩ := Kd.R_slice hl
       have hl2 : Kd.R (Kd.int .i64) 3 w' w.heap.size (fun k => T k = 2) (.slice Az y428.length cz) y428 := ez ▸ hl
       refine Kd.R_append_rows_step (Kd.int .i64) (w0 := w) w.heap.size (by rfl) (.tmp 96) (.tmp 100) 98 3 (.int .i64 0) 8 rfl Try.underlying98 info3 rfl (by decide) (by omega) v426 y425 y428 Az y428.length cz (fun k => tg T w' 1 k = 1) (fun _ => False) (ev_tmp e96) ((ev_tmp e100).trans ez) (hv.tag 1) (Kd.R_reads' hl2).2.2 (fun _ _ h => h) (fun _ h => h.elim) (fun k hk => if_neg (Nat.not_lt.2 hk)) Q.b (wz Q.b) (by have := LMc38.out; omega) ?_
       intro v432 w53 ho hb hg hat
       rw [← Ny431.out] at ho
       refine hK.out _ _ ⟨v423, v426, v429, v432, v435, v438, v441, v444, v447, v450, v453, v456, m33_, m34_, m35_, tg T w' 1, (by rw [ha.out]; exact putSel_upk 5 hb_ rfl rfl rfl), Q.app hv (by decide) (by decide) hg hb, fun _ h1_ => absurd ((hon 5 (by kernel_rfl)).symm.trans h1_) (by decide), fun _ h1_ => absurd ((up_self b 10).symm.trans h1_) (by decide), fun h0_ => (Q9 h0_).app hv (by decide) hg, fun _ => ho, fun h0_ h1_ => (Q14 h0_ h1_).app hv (by decide) hg, fun h0_ h1_ => (Q16 h0_ h1_).app hv (by decide) hg, fun h0_ => (Q20 h0_).app hv (by decide) hg, fun h0_ => (Q21 h0_).app hv (by decide) hg, fun h0_ h1_ => (Q25 h0_ h1_).app hv (by decide) hg, fun h0_ h1_ => (Q27 h0_ h1_).app hv (by decide) hg, fun h0_ => (Q31 h0_).app hv (by decide) hg, fun h0_ => (Q32 h0_).app hv (by decide) hg, fun h0_ => absurd ((hoff 33 (by kernel_rfl)).symm.trans h0_) (by decide), X34, X35⟩
      refine steps_cons ?_ ?_
      ·rintro b a w' ⟨v423, v426, v429, v432, v435, v438, v441, v444, v447, v450, v453, v456, m33_, m34_, m35_, T, ha, Q, Q3, Q5, Q9, Q10, Q14, Q16, Q20, Q21, Q25, Q27, Q31, Q32, X33, X34, X35⟩ hb_ hon hoff
       refine ⟨_, rfl, fun K hK => ?_⟩
       have e103 : a.tmps[103]? = some (.pointer (some ⟨gb392, 1, none⟩)) := by rw [ha]; exact (putSel_off rfl).trans rfl
       replace ha := am ha
       have hc0_ : w'.cell? ⟨gb392, 0, none⟩ = some (.int .i64 a1_0) := (bc Q.k 0).trans rfl
       have hc1_ : w'.cell? ⟨gb392, 1, none⟩ = some (.int .i64 a1_1) := (bc Q.k 1).trans rfl
       have hc2_ : w'.cell? ⟨gb392, 2, none⟩ = some (.int .i64 a1_2) := (bc Q.k 2).trans rfl
       have hc3_ : w'.cell? ⟨gb392, 3, none⟩ = some (.int .i64 a1_3) := (bc Q.k 3).trans rfl
       have hc4_ : w'.cell? ⟨gb392, 4, none⟩ = some (.int .i64 a1_4) := (bc Q.k 4).trans rfl
       have hc5_ : w'.cell? ⟨gb392, 5, none⟩ = some (.int .i64 a1_5) := (bc Q.k 5).trans rfl
       refine value_ (w1 := w') (v := .int .i64 a1_1) (by rfl) rfl ?_ ?_
       ·go_simp
        (try simp only [i64_w])
        try rfl
       refine hK.out _ _ ⟨v423, v426, v429, v432, v435, v438, v441, v444, v447, v450, v453, v456, m33_, m34_, m35_, T, (by rw [ha.out]; exact putSel_upk 6 hb_ rfl rfl rfl), Q, Q3, Q5, Q9, Q10, Q14, Q16, Q20, Q21, Q25, Q27, Q31, Q32, X33, X34, X35⟩
      refine steps_cons ?_ ?_
      ·rintro b a w' ⟨v423, v426, v429, v432, v435, v438, v441, v444, v447, v450, v453, v456, m33_, m34_, m35_, T, ha, Q, Q3, Q5, Q9, Q10, Q14, Q16, Q20, Q21, Q25, Q27, Q31, Q32, X33, X34, X35⟩ hb_ hon hoff
       refine ⟨_, rfl, fun K hK => ?_⟩
       have e104 : a.tmps[104]? = some (.int .i64 a1_1) := by rw [ha]; exact putSel_on (e := (13, 104, .int .i64 a1_1)) 6 rfl rfl (hon 13 (by kernel_rfl)) rfl
       replace ha := am ha
       refine Kd.R_lit_step (Kd.int .i64) _ 3 ?hg (N := 105) ?hd (xs := ([a1_1] : List Int)) (inner := [.int .i64 a1_1]) (ok := fun _ => True) (okp := fun _ => True) ?hr ?hp (fun _ hk => hk) trivial (Below.refl _ _) (Nat.le_refl _) (by simp) ?_; (case hd | hg => rfl); (case hr => first | (go_simp; done) | (go_simp; rfl)); (case hp => exact (Reps.one (show Kd.M (Kd.int .i64) _ _ _ a1_1 [.int .i64 a1_1] from rfl) (Reps.none _ _)))
       intro v435 w47 ho48 hb hg_ hnew_
       clear hg_ hnew_
       (first | rw [← Ny434.out] at ho48 | (simp only [Int.reduceToNat] at ho48; rw [← Ny434.out] at ho48))
       refine hK.out _ _ ⟨v423, v426, v429, v432, v435, v438, v441, v444, v447, v450, v453, v456, m33_, m34_, m35_, tg T w' 3, (by rw [ha.out]; exact putSel_upk 7 hb_ rfl rfl rfl), Q.new hb 3, fun h0_ h1_ => (Q3 h0_ h1_).new hb 3, fun h0_ h1_ => (Q5 h0_ h1_).new hb 3, fun h0_ => (Q9 h0_).new hb 3, fun h0_ => (Q10 h0_).new hb 3, fun _ _ => Rw.lit ho48 (wz Q.b) T 3, fun h0_ h1_ => (Q16 h0_ h1_).new hb 3, fun h0_ => (Q20 h0_).new hb 3, fun h0_ => (Q21 h0_).new hb 3, fun h0_ h1_ => (Q25 h0_ h1_).new hb 3, fun h0_ h1_ => (Q27 h0_ h1_).new hb 3, fun h0_ => (Q31 h0_).new hb 3, fun h0_ => (Q32 h0_).new hb 3, X33, X34, X35⟩
      refine steps_cons ?_ ?_
      ·rintro b a w' ⟨v423, v426, v429, v432, v435, v438, v441, v444, v447, v450, v453, v456, m33_, m34_, m35_, T, ha, Q, Q3, Q5, Q9, Q10, Q14, Q16, Q20, Q21, Q25, Q27, Q31, Q32, X33, X34, X35⟩ hb_ hon hoff
       refine ⟨_, rfl, fun K hK => ?_⟩
       have e105 : a.tmps[105]? = some (v435) := by rw [ha]; exact putSel_on (e := (14, 105, v435)) 7 rfl rfl (hon 14 (by kernel_rfl)) rfl
       have e106 : a.tmps[106]? = some (.slice Ao44 x6_1.length co44) := by rw [ha]; exact (putSel_off rfl).trans rfl
       replace ha := am ha
       have hv := Q14 (hon 14 (by kernel_rfl)) hb_
       refine Kd.R_append_rows_step (Kd.int .i64) (w0 := w) w.heap.size (by rfl) (.tmp 105) (.tmp 106) 98 3 (.int .i64 0) 8 rfl Try.underlying98 info3 rfl (by decide) (by omega) v435 y434 x6_1 Ao44 x6_1.length co44 (fun k => tg T w' 3 k = 3) (fun _ => False) (ev_tmp e105) (ev_tmp e106) (hv.tag 3) (Kd.V_reads' Q.p6).2.2 (fun _ _ h => h) (fun _ h => h.elim) (fun k hk => if_neg (Nat.not_lt.2 hk)) Q.b (wz Q.b) (by have := LMc39.out; omega) ?_
       intro v438 w57 ho hb hg hat
       rw [← Ny437.out] at ho
       refine hK.out _ _ ⟨v423, v426, v429, v432, v435, v438, v441, v444, v447, v450, v453, v456, m33_, m34_, m35_, tg T w' 3, (by rw [ha.out]; exact putSel_upk 8 hb_ rfl rfl rfl), Q.app hv (by decide) (by decide) hg hb, fun h0_ h1_ => (Q3 h0_ h1_).app hv (by decide) hg, fun h0_ h1_ => (Q5 h0_ h1_).app hv (by decide) hg, fun h0_ => (Q9 h0_).app hv (by decide) hg, fun h0_ => (Q10 h0_).app hv (by decide) hg, fun _ h1_ => absurd ((up_self b 16).symm.trans h1_) (by decide), fun _ _ => ho, fun h0_ => (Q20 h0_).app hv (by decide) hg, fun h0_ => absurd ((hoff 21 (by kernel_rfl)).symm.trans h0_) (by decide), fun h0_ h1_ => (Q25 h0_ h1_).app hv (by decide) hg, fun h0_ h1_ => (Q27 h0_ h1_).app hv (by decide) hg, fun h0_ => (Q31 h0_).app hv (by decide) hg, fun h0_ => (Q32 h0_).app hv (by decide) hg, X33, X34, X35⟩
      refine steps_cons ?_ ?_
      ·rintro b a w' ⟨v423, v426, v429, v432, v435, v438, v441, v444, v447, v450, v453, v456, m33_, m34_, m35_, T, ha, Q, Q3, Q5, Q9, Q10, Q14, Q16, Q20, Q21, Q25, Q27, Q31, Q32, X33, X34, X35⟩ hb_ hon hoff
       refine ⟨_, rfl, fun K hK => ?_⟩
       have e109 : a.tmps[109]? = some (.pointer (some ⟨gb392, 4, none⟩)) := by rw [ha]; exact (putSel_off rfl).trans rfl
       replace ha := am ha
       have hc0_ : w'.cell? ⟨gb392, 0, none⟩ = some (.int .i64 a1_0) := (bc Q.k 0).trans rfl
       have hc1_ : w'.cell? ⟨gb392, 1, none⟩ = some (.int .i64 a1_1) := (bc Q.k 1).trans rfl
       have hc2_ : w'.cell? ⟨gb392, 2, none⟩ = some (.int .i64 a1_2) := (bc Q.k 2).trans rfl
       have hc3_ : w'.cell? ⟨gb392, 3, none⟩ = some (.int .i64 a1_3) := (bc Q.k 3).trans rfl
       have hc4_ : w'.cell? ⟨gb392, 4, none⟩ = some (.int .i64 a1_4) := (bc Q.k 4).trans rfl
       have hc5_ : w'.cell? ⟨gb392, 5, none⟩ = some (.int .i64 a1_5) := (bc Q.k 5).trans rfl
       refine value_ (w1 := w') (v := .int .i64 a1_4) (by rfl) rfl ?_ ?_
       ·go_simp
        (try simp only [i64_w])
        try rfl
       refine hK.out _ _ ⟨v423, v426, v429, v432, v435, v438, v441, v444, v447, v450, v453, v456, m33_, m34_, m35_, T, (by rw [ha.out]; exact putSel_upk 9 hb_ rfl rfl rfl), Q, Q3, Q5, Q9, Q10, Q14, Q16, Q20, Q21, Q25, Q27, Q31, Q32, X33, X34, X35⟩
      refine steps_cons ?_ ?_
      ·rintro b a w' ⟨v423, v426, v429, v432, v435, v438, v441, v444, v447, v450, v453, v456, m33_, m34_, m35_, T, ha, Q, Q3, Q5, Q9, Q10, Q14, Q16, Q20, Q21, Q25, Q27, Q31, Q32, X33, X34, X35⟩ hb_ hon hoff
       refine ⟨_, rfl, fun K hK => ?_⟩
       have e110 : a.tmps[110]? = some (.int .i64 a1_4) := by rw [ha]; exact putSel_on (e := (19, 110, .int .i64 a1_4)) 9 rfl rfl (hon 19 (by kernel_rfl)) rfl
       replace ha := am ha
       refine Kd.R_lit_step (Kd.int .i64) _ 3 ?hg (N := 111) ?hd (xs := ([a1_4] : List Int)) (inner := [.int .i64 a1_4]) (ok := fun _ => True) (okp := fun _ => True) ?hr ?hp (fun _ hk => hk) trivial (Below.refl _ _) (Nat.le_refl _) (by simp) ?_; (case hd | hg => rfl); (case hr => first | (go_simp; done) | (go_simp; rfl)); (case hp => exact (Reps.one (show Kd.M (Kd.int .i64) _ _ _ a1_4 [.int .i64 a1_4] from rfl) (Reps.none _ _)))
       intro v441 w47 ho48 hb hg_ hnew_
       clear hg_ hnew_
       (first | rw [← Ny440.out] at ho48 | (simp only [Int.reduceToNat] at ho48; rw [← Ny440.out] at ho48))
       refine hK.out _ _ ⟨v423, v426, v429, v432, v435, v438, v441, v444, v447, v450, v453, v456, m33_, m34_, m35_, tg T w' 4, (by rw [ha.out]; exact putSel_upk 10 hb_ rfl rfl rfl), Q.new hb 4, fun h0_ h1_ => (Q3 h0_ h1_).new hb 4, fun h0_ h1_ => (Q5 h0_ h1_).new hb 4, fun h0_ => (Q9 h0_).new hb 4, fun h0_ => (Q10 h0_).new hb 4, fun h0_ h1_ => (Q14 h0_ h1_).new hb 4, fun h0_ h1_ => (Q16 h0_ h1_).new hb 4, fun _ => Rw.lit ho48 (wz Q.b) T 4, fun h0_ => (Q21 h0_).new hb 4, fun h0_ h1_ => (Q25 h0_ h1_).new hb 4, fun h0_ h1_ => (Q27 h0_ h1_).new hb 4, fun h0_ => (Q31 h0_).new hb 4, fun h0_ => (Q32 h0_).new hb 4, X33, X34, X35⟩
      refine steps_cons ?_ ?_
      ·rintro b a w' ⟨v423, v426, v429, v432, v435, v438, v441, v444, v447, v450, v453, v456, m33_, m34_, m35_, T, ha, Q, Q3, Q5, Q9, Q10, Q14, Q16, Q20, Q21, Q25, Q27, Q31, Q32, X33, X34, X35⟩ hb_ hon hoff
       refine ⟨_, rfl, fun K hK => ?_⟩
       have e107 : a.tmps[107]? = some (v438) := by rw [ha]; exact putSel_on (e := (16, 107, v438)) 8 rfl rfl (hon 16 (by kernel_rfl)) rfl
       have e111 : a.tmps[111]? = some (v441) := by rw [ha]; exact putSel_on (e := (20, 111, v441)) 10 rfl rfl (hon 20 (by kernel_rfl)) rfl
       replace ha := am ha
       have hv := Q16 (hon 16 (by kernel_rfl)) hb_
       have hl := Q20 (hon 20 (by kernel_rfl))
       obtain ⟨Az, cz, ez⟩ := Kd.R_slice hl
       have hl2 : Kd.R (Kd.int .i64) 3 w' w.heap.size (fun k => T k = 4) (.slice Az y440.length cz) y440 := ez ▸ hl
       refine Kd.R_append_rows_step (Kd.int .i64) (w0 := w) w.heap.size (by rfl) (.tmp 107) (.tmp 111) 98 3 (.int .i64 0) 8 rfl Try.underlying98 info3 rfl (by decide) (by omega) v438 y437 y440 Az y440.length cz (fun k => tg T w' 3 k = 3) (fun _ => False) (ev_tmp e107) ((ev_tmp e111).trans ez) (hv.tag 3) (Kd.R_reads' hl2).2.2 (fun _ _ h => h) (fun _ h => h.elim) (fun k hk => if_neg (Nat.not_lt.2 hk)) Q.b (wz Q.b) (by have := LMc40.out; omega) ?_
       intro v444 w60 ho hb hg hat
       rw [← Ny443.out] at ho
       refine hK.out _ _ ⟨v423, v426, v429, v432, v435, v438, v441, v444, v447, v450, v453, v456, m33_, m34_, m35_, tg T w' 3, (by rw [ha.out]; exact putSel_upk 11 hb_ rfl rfl rfl), Q.app hv (by decide) (by decide) hg hb, fun h0_ h1_ => (Q3 h0_ h1_).app hv (by decide) hg, fun h0_ h1_ => (Q5 h0_ h1_).app hv (by decide) hg, fun h0_ => (Q9 h0_).app hv (by decide) hg, fun h0_ => (Q10 h0_).app hv (by decide) hg, fun _ h1_ => absurd ((hon 16 (by kernel_rfl)).symm.trans h1_) (by decide), fun _ h1_ => absurd ((up_self b 21).symm.trans h1_) (by decide), fun h0_ => (Q20 h0_).app hv (by decide) hg, fun _ => ho, fun h0_ h1_ => (Q25 h0_ h1_).app hv (by decide) hg, fun h0_ h1_ => (Q27 h0_ h1_).app hv (by decide) hg, fun h0_ => (Q31 h0_).app hv (by decide) hg, fun h0_ => (Q32 h0_).app hv (by decide) hg, X33, fun h0_ => absurd ((hoff 34 (by kernel_rfl)).symm.trans h0_) (by decide), X35⟩
      refine steps_cons ?_ ?_
      ·rintro b a w' ⟨v423, v426, v429, v432, v435, v438, v441, v444, v447, v450, v453, v456, m33_, m34_, m35_, T, ha, Q, Q3, Q5, Q9, Q10, Q14, Q16, Q20, Q21, Q25, Q27, Q31, Q32, X33, X34, X35⟩ hb_ hon hoff
       refine ⟨_, rfl, fun K hK => ?_⟩
       have e114 : a.tmps[114]? = some (.pointer (some ⟨gb392, 2, none⟩)) := by rw [ha]; exact (putSel_off rfl).trans rfl
       replace ha := am ha
       have hc0_ : w'.cell? ⟨gb392, 0, none⟩ = some (.int .i64 a1_0) := (bc Q.k 0).trans rfl
       have hc1_ : w'.cell? ⟨gb392, 1, none⟩ = some (.int .i64 a1_1) := (bc Q.k 1).trans rfl
       have hc2_ : w'.cell? ⟨gb392, 2, none⟩ = some (.int .i64 a1_2) := (bc Q.k 2).trans rfl
       have hc3_ : w'.cell? ⟨gb392, 3, none⟩ = some (.int .i64 a1_3) := (bc Q.k 3).trans rfl
       have hc4_ : w'.cell? ⟨gb392, 4, none⟩ = some (.int .i64 a1_4) := (bc Q.k 4).trans rfl
       have hc5_ : w'.cell? ⟨gb392, 5, none⟩ = some (.int .i64 a1_5) := (bc Q.k 5).trans rfl
       refine value_ (w1 := w') (v := .int .i64 a1_2) (by rfl) rfl ?_ ?_
       ·go_simp
        (try simp only [i64_w])
        try rfl
       refine hK.out _ _ ⟨v423, v426, v429, v432, v435, v438, v441, v444, v447, v450, v453, v456, m33_, m34_, m35_, T, (by rw [ha.out]; exact putSel_upk 12 hb_ rfl rfl rfl), Q, Q3, Q5, Q9, Q10, Q14, Q16, Q20, Q21, Q25, Q27, Q31, Q32, X33, X34, X35⟩
      refine steps_cons ?_ ?_
      ·rintro b a w' ⟨v423, v426, v429, v432, v435, v438, v441, v444, v447, v450, v453, v456, m33_, m34_, m35_, T, ha, Q, Q3, Q5, Q9, Q10, Q14, Q16, Q20, Q21, Q25, Q27, Q31, Q32, X33, X34, X35⟩ hb_ hon hoff
       refine ⟨_, rfl, fun K hK => ?_⟩
       have e115 : a.tmps[115]? = some (.int .i64 a1_2) := by rw [ha]; exact putSel_on (e := (24, 115, .int .i64 a1_2)) 12 rfl rfl (hon 24 (by kernel_rfl)) rfl
       replace ha := am ha
       refine Kd.R_lit_step (Kd.int .i64) _ 3 ?hg (N := 116) ?hd (xs := ([a1_2] : List Int)) (inner := [.int .i64 a1_2]) (ok := fun _ => True) (okp := fun _ => True) ?hr ?hp (fun _ hk => hk) trivial (Below.refl _ _) (Nat.le_refl _) (by simp) ?_; (case hd | hg => rfl); (case hr => first | (go_simp; done) | (go_simp; rfl)); (case hp => exact (Reps.one (show Kd.M (Kd.int .i64) _ _ _ a1_2 [.int .i64 a1_2] from rfl) (Reps.none _ _)))
       intro v447 w47 ho48 hb hg_ hnew_
       clear hg_ hnew_
       (first | rw [← Ny446.out] at ho48 | (simp only [Int.reduceToNat] at ho48; rw [← Ny446.out] at ho48))
       refine hK.out _ _ ⟨v423, v426, v429, v432, v435, v438, v441, v444, v447, v450, v453, v456, m33_, m34_, m35_, tg T w' 5, (by rw [ha.out]; exact putSel_upk 13 hb_ rfl rfl rfl), Q.new hb 5, fun h0_ h1_ => (Q3 h0_ h1_).new hb 5, fun h0_ h1_ => (Q5 h0_ h1_).new hb 5, fun h0_ => (Q9 h0_).new hb 5, fun h0_ => (Q10 h0_).new hb 5, fun h0_ h1_ => (Q14 h0_ h1_).new hb 5, fun h0_ h1_ => (Q16 h0_ h1_).new hb 5, fun h0_ => (Q20 h0_).new hb 5, fun h0_ => (Q21 h0_).new hb 5, fun _ _ => Rw.lit ho48 (wz Q.b) T 5, fun h0_ h1_ => (Q27 h0_ h1_).new hb 5, fun h0_ => (Q31 h0_).new hb 5, fun h0_ => (Q32 h0_).new hb 5, X33, X34, X35⟩
      refine steps_cons ?_ ?_
      ·rintro b a w' ⟨v423, v426, v429, v432, v435, v438, v441, v444, v447, v450, v453, v456, m33_, m34_, m35_, T, ha, Q, Q3, Q5, Q9, Q10, Q14, Q16, Q20, Q21, Q25, Q27, Q31, Q32, X33, X34, X35⟩ hb_ hon hoff
       refine ⟨_, rfl, fun K hK => ?_⟩
       have e116 : a.tmps[116]? = some (v447) := by rw [ha]; exact putSel_on (e := (25, 116, v447)) 13 rfl rfl (hon 25 (by kernel_rfl)) rfl
       have e117 : a.tmps[117]? = some (.slice Ao45 x7_1.length co45) := by rw [ha]; exact (putSel_off rfl).trans rfl
       replace ha := am ha
       have hv := Q25 (hon 25 (by kernel_rfl)) hb_
       refine Kd.R_append_rows_step (Kd.int .i64) (w0 := w) w.heap.size (by rfl) (.tmp 116) (.tmp 117) 98 3 (.int .i64 0) 8 rfl Try.underlying98 info3 rfl (by decide) (by omega) v447 y446 x7_1 Ao45 x7_1.length co45 (fun k => tg T w' 5 k = 5) (fun _ => False) (ev_tmp e116) (ev_tmp e117) (hv.tag 5) (Kd.V_reads' Q.p7).2.2 (fun _ _ h => h) (fun _ h => h.elim) (fun k hk => if_neg (Nat.not_lt.2 hk)) Q.b (wz Q.b) (by have := LMc41.out; omega) ?_
       intro v450 w64 ho hb hg hat
       rw [← Ny449.out] at ho
       refine hK.out _ _ ⟨v423, v426, v429, v432, v435, v438, v441, v444, v447, v450, v453, v456, m33_, m34_, m35_, tg T w' 5, (by rw [ha.out]; exact putSel_upk 14 hb_ rfl rfl rfl), Q.app hv (by decide) (by decide) hg hb, fun h0_ h1_ => (Q3 h0_ h1_).app hv (by decide) hg, fun h0_ h1_ => (Q5 h0_ h1_).app hv (by decide) hg, fun h0_ => (Q9 h0_).app hv (by decide) hg, fun h0_ => (Q10 h0_).app hv (by decide) hg, fun h0_ h1_ => (Q14 h0_ h1_).app hv (by decide) hg, fun h0_ h1_ => (Q16 h0_ h1_).app hv (by decide) hg, fun h0_ => (Q20 h0_).app hv (by decide) hg, fun h0_ => (Q21 h0_).app hv (by decide) hg, fun _ h1_ => absurd ((up_self b 27).symm.trans h1_) (by decide), fun _ _ => ho, fun h0_ => (Q31 h0_).app hv (by decide) hg, fun h0_ => absurd ((hoff 32 (by kernel_rfl)).symm.trans h0_) (by decide), X33, X34, X35⟩
      refine steps_cons ?_ ?_
      ·rintro b a w' ⟨v423, v426, v429, v432, v435, v438, v441, v444, v447, v450, v453, v456, m33_, m34_, m35_, T, ha, Q, Q3, Q5, Q9, Q10, Q14, Q16, Q20, Q21, Q25, Q27, Q31, Q32, X33, X34, X35⟩ hb_ hon hoff
       refine ⟨_, rfl, fun K hK => ?_⟩
       have e120 : a.tmps[120]? = some (.pointer (some ⟨gb392, 5, none⟩)) := by rw [ha]; exact (putSel_off rfl).trans rfl
       replace ha := am ha
       have hc0_ : w'.cell? ⟨gb392, 0, none⟩ = some (.int .i64 a1_0) := (bc Q.k 0).trans rfl
       have hc1_ : w'.cell? ⟨gb392, 1, none⟩ = some (.int .i64 a1_1) := (bc Q.k 1).trans rfl
       have hc2_ : w'.cell? ⟨gb392, 2, none⟩ = some (.int .i64 a1_2) := (bc Q.k 2).trans rfl
       have hc3_ : w'.cell? ⟨gb392, 3, none⟩ = some (.int .i64 a1_3) := (bc Q.k 3).trans rfl
       have hc4_ : w'.cell? ⟨gb392, 4, none⟩ = some (.int .i64 a1_4) := (bc Q.k 4).trans rfl
       have hc5_ : w'.cell? ⟨gb392, 5, none⟩ = some (.int .i64 a1_5) := (bc Q.k 5).trans rfl
       refine value_ (w1 := w') (v := .int .i64 a1_5) (by rfl) rfl ?_ ?_
       ·go_simp
        (try simp only [i64_w])
        try rfl
       refine hK.out _ _ ⟨v423, v426, v429, v432, v435, v438, v441, v444, v447, v450, v453, v456, m33_, m34_, m35_, T, (by rw [ha.out]; exact putSel_upk 15 hb_ rfl rfl rfl), Q, Q3, Q5, Q9, Q10, Q14, Q16, Q20, Q21, Q25, Q27, Q31, Q32, X33, X34, X35⟩
      refine steps_cons ?_ ?_
      ·rintro b a w' ⟨v423, v426, v429, v432, v435, v438, v441, v444, v447, v450, v453, v456, m33_, m34_, m35_, T, ha, Q, Q3, Q5, Q9, Q10, Q14, Q16, Q20, Q21, Q25, Q27, Q31, Q32, X33, X34, X35⟩ hb_ hon hoff
       refine ⟨_, rfl, fun K hK => ?_⟩
       have e121 : a.tmps[121]? = some (.int .i64 a1_5) := by rw [ha]; exact putSel_on (e := (30, 121, .int .i64 a1_5)) 15 rfl rfl (hon 30 (by kernel_rfl)) rfl
       replace ha := am ha
       refine Kd.R_lit_step (Kd.int .i64) _ 3 ?hg (N := 122) ?hd (xs := ([a1_5] : List Int)) (inner := [.int .i64 a1_5]) (ok := fun _ => True) (okp := fun _ => True) ?hr ?hp (fun _ hk => hk) trivial (Below.refl _ _) (Nat.le_refl _) (by simp) ?_; (case hd | hg => rfl); (case hr => first | (go_simp; done) | (go_simp; rfl)); (case hp => exact (Reps.one (show Kd.M (Kd.int .i64) _ _ _ a1_5 [.int .i64 a1_5] from rfl) (Reps.none _ _)))
       intro v453 w47 ho48 hb hg_ hnew_
       clear hg_ hnew_
       (first | rw [← Ny452.out] at ho48 | (simp only [Int.reduceToNat] at ho48; rw [← Ny452.out] at ho48))
       refine hK.out _ _ ⟨v423, v426, v429, v432, v435, v438, v441, v444, v447, v450, v453, v456, m33_, m34_, m35_, tg T w' 6, (by rw [ha.out]; exact putSel_upk 16 hb_ rfl rfl rfl), Q.new hb 6, fun h0_ h1_ => (Q3 h0_ h1_).new hb 6, fun h0_ h1_ => (Q5 h0_ h1_).new hb 6, fun h0_ => (Q9 h0_).new hb 6, fun h0_ => (Q10 h0_).new hb 6, fun h0_ h1_ => (Q14 h0_ h1_).new hb 6, fun h0_ h1_ => (Q16 h0_ h1_).new hb 6, fun h0_ => (Q20 h0_).new hb 6, fun h0_ => (Q21 h0_).new hb 6, fun h0_ h1_ => (Q25 h0_ h1_).new hb 6, fun h0_ h1_ => (Q27 h0_ h1_).new hb 6, fun _ => Rw.lit ho48 (wz Q.b) T 6, fun h0_ => (Q32 h0_).new hb 6, X33, X34, X35⟩
      refine steps_cons ?_ ?_
      ·rintro b a w' ⟨v423, v426, v429, v432, v435, v438, v441, v444, v447, v450, v453, v456, m33_, m34_, m35_, T, ha, Q, Q3, Q5, Q9, Q10, Q14, Q16, Q20, Q21, Q25, Q27, Q31, Q32, X33, X34, X35⟩ hb_ hon hoff
       refine ⟨_, rfl, fun K hK => ?_⟩
       have e118 : a.tmps[118]? = some (v450) := by rw [ha]; exact putSel_on (e := (27, 118, v450)) 14 rfl rfl (hon 27 (by kernel_rfl)) rfl
       have e122 : a.tmps[122]? = some (v453) := by rw [ha]; exact putSel_on (e := (31, 122, v453)) 16 rfl rfl (hon 31 (by kernel_rfl)) rfl
       replace ha := am ha
       have hv := Q27 (hon 27 (by kernel_rfl)) hb_
       have hl := Q31 (hon 31 (by kernel_rfl))
       obtain ⟨Az, cz, ez⟩ := Kd.R_slice hl
       have hl2 : Kd.R (Kd.int .i64) 3 w' w.heap.size (fun k => T k = 6) (.slice Az y452.length cz) y452 := ez ▸ hl
       refine Kd.R_append_rows_step (Kd.int .i64) (w0 := w) w.heap.size (by rfl) (.tmp 118) (.tmp 122) 98 3 (.int .i64 0) 8 rfl Try.underlying98 info3 rfl (by decide) (by omega) v450 y449 y452 Az y452.length cz (fun k => tg T w' 5 k = 5) (fun _ => False) (ev_tmp e118) ((ev_tmp e122).trans ez) (hv.tag 5) (Kd.R_reads' hl2).2.2 (fun _ _ h => h) (fun _ h => h.elim) (fun k hk => if_neg (Nat.not_lt.2 hk)) Q.b (wz Q.b) (by have := LMc42.out; omega) ?_
       intro v456 w67 ho hb hg hat
       rw [← Ny455.out] at ho
       refine hK.out _ _ ⟨v423, v426, v429, v432, v435, v438, v441, v444, v447, v450, v453, v456, m33_, m34_, m35_, tg T w' 5, (by rw [ha.out]; exact putSel_upk 17 hb_ rfl rfl rfl), Q.app hv (by decide) (by decide) hg hb, fun h0_ h1_ => (Q3 h0_ h1_).app hv (by decide) hg, fun h0_ h1_ => (Q5 h0_ h1_).app hv (by decide) hg, fun h0_ => (Q9 h0_).app hv (by decide) hg, fun h0_ => (Q10 h0_).app hv (by decide) hg, fun h0_ h1_ => (Q14 h0_ h1_).app hv (by decide) hg, fun h0_ h1_ => (Q16 h0_ h1_).app hv (by decide) hg, fun h0_ => (Q20 h0_).app hv (by decide) hg, fun h0_ => (Q21 h0_).app hv (by decide) hg, fun _ h1_ => absurd ((hon 27 (by kernel_rfl)).symm.trans h1_) (by decide), fun _ h1_ => absurd ((up_self b 32).symm.trans h1_) (by decide), fun h0_ => (Q31 h0_).app hv (by decide) hg, fun _ => ho, X33, X34, fun h0_ => absurd ((hoff 35 (by kernel_rfl)).symm.trans h0_) (by decide)⟩
      refine steps_cons ?_ ?_
      ·rintro b a w' ⟨v423, v426, v429, v432, v435, v438, v441, v444, v447, v450, v453, v456, m33_, m34_, m35_, T, ha, Q, Q3, Q5, Q9, Q10, Q14, Q16, Q20, Q21, Q25, Q27, Q31, Q32, X33, X34, X35⟩ hb_ hon hoff
       refine ⟨_, rfl, fun K hK => ?_⟩
       have e101 : a.tmps[101]? = some (v432) := by rw [ha]; exact putSel_on (e := (10, 101, v432)) 5 rfl rfl (hon 10 (by kernel_rfl)) rfl
       replace ha := am ha
       refine value_ (w1 := w') (v := v432) (by rfl) rfl ?_ ?_
       ·go_simp
        (try simp only [i64_w])
        try rfl
       refine hK.out _ _ ⟨v423, v426, v429, v432, v435, v438, v441, v444, v447, v450, v453, v456, v432, m34_, m35_, T, (by rw [ha.out]; exact putSel_upk 18 hb_ rfl rfl rfl), Q, Q3, Q5, Q9, Q10, Q14, Q16, Q20, Q21, Q25, Q27, Q31, Q32, fun _ => rfl, X34, X35⟩
      refine steps_cons ?_ ?_
      ·rintro b a w' ⟨v423, v426, v429, v432, v435, v438, v441, v444, v447, v450, v453, v456, m33_, m34_, m35_, T, ha, Q, Q3, Q5, Q9, Q10, Q14, Q16, Q20, Q21, Q25, Q27, Q31, Q32, X33, X34, X35⟩ hb_ hon hoff
       refine ⟨_, rfl, fun K hK => ?_⟩
       have e112 : a.tmps[112]? = some (v444) := by rw [ha]; exact putSel_on (e := (21, 112, v444)) 11 rfl rfl (hon 21 (by kernel_rfl)) rfl
       replace ha := am ha
       refine value_ (w1 := w') (v := v444) (by rfl) rfl ?_ ?_
       ·go_simp
        (try simp only [i64_w])
        try rfl
       refine hK.out _ _ ⟨v423, v426, v429, v432, v435, v438, v441, v444, v447, v450, v453, v456, m33_, v444, m35_, T, (by rw [ha.out]; exact putSel_upk 19 hb_ rfl rfl rfl), Q, Q3, Q5, Q9, Q10, Q14, Q16, Q20, Q21, Q25, Q27, Q31, Q32, X33, fun _ => rfl, X35⟩
      refine steps_cons ?_ ?_
      ·rintro b a w' ⟨v423, v426, v429, v432, v435, v438, v441, v444, v447, v450, v453, v456, m33_, m34_, m35_, T, ha, Q, Q3, Q5, Q9, Q10, Q14, Q16, Q20, Q21, Q25, Q27, Q31, Q32, X33, X34, X35⟩ hb_ hon hoff
       refine ⟨_, rfl, fun K hK => ?_⟩
       have e123 : a.tmps[123]? = some (v456) := by rw [ha]; exact putSel_on (e := (32, 123, v456)) 17 rfl rfl (hon 32 (by kernel_rfl)) rfl
       replace ha := am ha
       refine value_ (w1 := w') (v := v456) (by rfl) rfl ?_ ?_
       ·go_simp
        (try simp only [i64_w])
        try rfl
       refine hK.out _ _ ⟨v423, v426, v429, v432, v435, v438, v441, v444, v447, v450, v453, v456, m33_, m34_, v456, T, (by rw [ha.out]; exact putSel_upk 20 hb_ rfl rfl rfl), Q, Q3, Q5, Q9, Q10, Q14, Q16, Q20, Q21, Q25, Q27, Q31, Q32, X33, X34, fun _ => rfl⟩
      exact steps_nil
     rintro b a w68 hall ⟨v423, v426, v429, v432, v435, v438, v441, v444, v447, v450, v453, v456, m33_, m34_, m35_, T, ha, Q, Q3, Q5, Q9, Q10, Q14, Q16, Q20, Q21, Q25, Q27, Q31, Q32, X33, X34, X35⟩
     clear BK392 HB HO_5 HO_6 HO_7
     have hb2_ := hall 2 (by kernel_rfl)
     have hb3_ := hall 3 (by kernel_rfl)
     have hb5_ := hall 5 (by kernel_rfl)
     have hb8_ := hall 8 (by kernel_rfl)
     have hb9_ := hall 9 (by kernel_rfl)
     have hb10_ := hall 10 (by kernel_rfl)
     have hb13_ := hall 13 (by kernel_rfl)
     have hb14_ := hall 14 (by kernel_rfl)
     have hb16_ := hall 16 (by kernel_rfl)
     have hb19_ := hall 19 (by kernel_rfl)
     have hb20_ := hall 20 (by kernel_rfl)
     have hb21_ := hall 21 (by kernel_rfl)
     have hb24_ := hall 24 (by kernel_rfl)
     have hb25_ := hall 25 (by kernel_rfl)
     have hb27_ := hall 27 (by kernel_rfl)
     have hb30_ := hall 30 (by kernel_rfl)
     have hb31_ := hall 31 (by kernel_rfl)
     have hb32_ := hall 32 (by kernel_rfl)
     have hb33_ := hall 33 (by kernel_rfl)
     have hb34_ := hall 34 (by kernel_rfl)
     have hb35_ := hall 35 (by kernel_rfl)
     subst ha
     have ex_ := (X33 hb33_).symm; subst ex_
     have ex_ := (X34 hb34_).symm; subst ex_
     have ex_ := (X35 hb35_).symm; subst ex_
     simp only [putSel, hb2_, hb3_, hb5_, hb8_, hb9_, hb10_, hb13_, hb14_, hb16_, hb19_, hb20_, hb21_, hb24_, hb25_, hb27_, hb30_, hb31_, hb32_, hb33_, hb34_, hb35_, if_true, Act.put, psl]
     have HO_5 : Aside0 (Kd.V (Kd.int .i64) 3 w68 w.heap.size (fun k_ => k_ ≠ gb392) (.slice Ao43 x5_1.length co43) x5_1) := ⟨Kd.V_mono Q.p5 (fun k hk e => by rw [e] at hk; exact absurd (hk.symm.trans Q.t) (by decide))⟩
     have HO_6 : Aside0 (Kd.V (Kd.int .i64) 3 w68 w.heap.size (fun k_ => k_ ≠ gb392) (.slice Ao44 x6_1.length co44) x6_1) := ⟨Kd.V_mono Q.p6 (fun k hk e => by rw [e] at hk; exact absurd (hk.symm.trans Q.t) (by decide))⟩
     have HO_7 : Aside0 (Kd.V (Kd.int .i64) 3 w68 w.heap.size (fun k_ => k_ ≠ gb392) (.slice Ao45 x7_1.length co45) x7_1) := ⟨Kd.V_mono Q.p7 (fun k hk e => by rw [e] at hk; exact absurd (hk.symm.trans Q.t) (by decide))⟩
     have BK392 := am Q.k
     have HB := am Q.b
     have HO430 : Aside0 (Kd.R (Kd.int .i64) 3 w68 w.heap.size (fun _ => True) v429 y428) := ⟨Kd.R_mono (Q9 hb9_) (fun _ _ => trivial)⟩
     have HO433 : Aside0 (Kd.R (Kd.int .i64) 3 w68 w.heap.size (fun _ => True) v432 y431) := ⟨Kd.R_mono (Q10 hb10_) (fun _ _ => trivial)⟩
     have HO442 : Aside0 (Kd.R (Kd.int .i64) 3 w68 w.heap.size (fun _ => True) v441 y440) := ⟨Kd.R_mono (Q20 hb20_) (fun _ _ => trivial)⟩
     have HO445 : Aside0 (Kd.R (Kd.int .i64) 3 w68 w.heap.size (fun _ => True) v444 y443) := ⟨Kd.R_mono (Q21 hb21_) (fun _ _ => trivial)⟩
     have HO454 : Aside0 (Kd.R (Kd.int .i64) 3 w68 w.heap.size (fun _ => True) v453 y452) := ⟨Kd.R_mono (Q31 hb31_) (fun _ _ => trivial)⟩
     have HO457 : Aside0 (Kd.R (Kd.int .i64) 3 w68 w.heap.size (fun _ => True) v456 y455) := ⟨Kd.R_mono (Q32 hb32_) (fun _ _ => trivial)⟩
     clear Q3 Q5 Q9 Q10 Q14 Q16 Q20 Q21 Q25 Q27 Q31 Q32 X33 X34 X35 Q hall hb2_ hb3_ hb5_ hb8_ hb9_ hb10_ hb13_ hb14_ hb16_ hb19_ hb20_ hb21_ hb24_ hb25_ hb27_ hb30_ hb31_ hb32_ hb33_ hb34_ hb35_
     try go_wp2_with (first | ((with_reducible refine gate_dst (N := 124) rfl ?_); refine Kd.R_lit k43 _ 43 ?hg (N := 124) ?hd (xs := ([] : List (S43))) (inner := []) (ok := fun _ => True) (okp := fun _ => True) ?hr ?hp (fun _ hk => hk) trivial (Below.refl _ _) (Nat.le_refl _) (by simp) ?_; (case hd | hg => rfl); (case hr => first | (go_simp; done) | (go_simp; rfl)); (case hp => exact (Reps.none _ _)); intro v459 w69 ho70 hb hg_ hnew_; clear hg_ hnew_; (first | rw [← Ny458.out] at ho70 | (simp only [Int.reduceToNat] at ho70; rw [← Ny458.out] at ho70)); replace HO_5 := am (Kd.V_elder' (fV HO_5.out) (Kd.R_base ho70) hb); replace HO_6 := am (Kd.V_elder' (fV HO_6.out) (Kd.R_base ho70) hb); replace HO_7 := am (Kd.V_elder' (fV HO_7.out) (Kd.R_base ho70) hb); replace HO430 := dR HO430 hb; replace HO433 := dR HO433 hb; replace HO442 := dR HO442 hb; replace HO445 := dR HO445 hb; replace HO454 := dR HO454 hb; replace HO457 := dR HO457 hb; have HO460 := am (Kd.R_lower (Kd.R_newB ho70 (g := gb392) (o := .cells #[.int .i64 a1_0, .int .i64 a1_1, .int .i64 a1_2, .int .i64 a1_3, .int .i64 a1_4, .int .i64 a1_5] 43 (0, 0)) (fb BK392.out)) (wz (fW HB.out))); replace BK392 := bB BK392 hb; replace HB := bS HB hb; clear hb ho70))
     go_loopg [10, 11] k1 (fun kq v10 v11 w' => ∃ (x10_2 : List (S43)) (x11_2 : Int), v11 = .int .i64 x11_2 ∧ Aside0 (r_Parts.l1 kq y431 y443 y455 x10_2 x11_2 = some r) ∧ Aside0 (kq ≤ k1) ∧ Aside0 (Kd.V (Kd.int .i64) 3 w' w.heap.size (fun k_ => some k_ ≠ (v10 : Value).ownBlock ∧ k_ ≠ gb392) v432 y431) ∧ Aside0 (Kd.V (Kd.int .i64) 3 w' w.heap.size (fun k_ => some k_ ≠ (v10 : Value).ownBlock ∧ k_ ≠ gb392) v444 y443) ∧ Aside0 (Kd.V (Kd.int .i64) 3 w' w.heap.size (fun k_ => some k_ ≠ (v10 : Value).ownBlock ∧ k_ ≠ gb392) v456 y455) ∧ Aside0 (Kd.R k43 43 w' w.heap.size (fun k_ => k_ ≠ gb392) v10 x10_2) ∧ Aside0 (w'.heap[gb392]? = some (.cells #[.int .i64 a1_0, .int .i64 a1_1, .int .i64 a1_2, .int .i64 a1_3, .int .i64 a1_4, .int .i64 a1_5] 43 (0, 0))) ∧ Aside0 (Below w.heap.size w w'))
     case atStart => exact ⟨(y458), (0), sqD, H', ⟨Nat.le_refl _⟩, ⟨Kd.R_V (by (with_reducible repeat (first | apply Kd.R_alloc | apply Kd.R_drewN | apply Kd.R_drew)); exact Kd.R_mono (Kd.R_types (Kd.R_apart' HO433.out (Kd.R_typed HO460.out) (by decide)) BK392.out (by decide)) (fun _ hk => ⟨hk.1.2, hk.2⟩))⟩, ⟨Kd.R_V (by (with_reducible repeat (first | apply Kd.R_alloc | apply Kd.R_drewN | apply Kd.R_drew)); exact Kd.R_mono (Kd.R_types (Kd.R_apart' HO445.out (Kd.R_typed HO460.out) (by decide)) BK392.out (by decide)) (fun _ hk => ⟨hk.1.2, hk.2⟩))⟩, ⟨Kd.R_V (by (with_reducible repeat (first | apply Kd.R_alloc | apply Kd.R_drewN | apply Kd.R_drew)); exact Kd.R_mono (Kd.R_types (Kd.R_apart' HO457.out (Kd.R_typed HO460.out) (by decide)) BK392.out (by decide)) (fun _ hk => ⟨hk.1.2, hk.2⟩))⟩, ⟨by (with_reducible repeat (first | apply Kd.R_alloc | apply Kd.R_drewN | apply Kd.R_drew)); exact Kd.R_mono HO460.out (fun _ hk => hk.2)⟩, ⟨fb BK392.out⟩, ⟨fW HB.out⟩⟩
     case round =>
      clear H'
      try clear c1;try clear c2;try clear p2;try clear c3;try clear c4;try clear c5;try clear c39;try clear c40;try clear c41;try clear c42
      obtain ⟨x10_2, x11_2, rfl, HA, HK2, HO_5, HO_6, HO_7, HO_10, BK392, HB⟩ := hrel
      cases gk with
      | zero => exact absurd HA.out (by simp [r_Parts.l1])
      | succ k2 =>
       have H := HA.out
       clear HA
       simp only [r_Parts.l1] at H
       by_cases c71 : (wrap64 (x11_2 + 1)) < (y455.length : Int)
       rotate_left
       ·rw [if_neg c71] at H
        have c71b0 : decide ((wrap64 (x11_2 + 1)) < (y455.length : Int)) = false := decide_eq_false c71
        clear c71
        obtain rfl := Option.some.inj H
        obtain ⟨Ao99, co99, eo99⟩ := Kd.V_slice HO_7.out
        subst eo99
        go_wp2
        go_ret
        exact ⟨_, sqE, by (with_reducible repeat (first | apply Kd.R_alloc | apply Kd.R_drewN | apply Kd.R_drew)); exact Kd.R_mono HO_10.out (fun _ hk => trivial), fW HB.out⟩
       rw [if_pos c71] at H
       have c71b0 : decide ((wrap64 (x11_2 + 1)) < (y455.length : Int)) = true := decide_eq_true c71
       clear c71
       have H' := am H
       clear H
       obtain ⟨Ao72, co72, eo72⟩ := Kd.V_slice HO_7.out
       subst eo72
       go_wp2
       go_loopg [10, 12] k2 (fun kq v10 v12 w' => ∃ (x10_3 : List (S43)) (x12_3 : Int), v12 = .int .i64 x12_3 ∧ Aside0 (r_Parts.l2 kq y431 y443 y455 x10_3 x11_2 x12_3 = some r) ∧ Aside0 (kq ≤ k2) ∧ Aside0 (Kd.V (Kd.int .i64) 3 w' w.heap.size (fun k_ => some k_ ≠ (v10 : Value).ownBlock ∧ k_ ≠ gb392) v432 y431) ∧ Aside0 (Kd.V (Kd.int .i64) 3 w' w.heap.size (fun k_ => some k_ ≠ (v10 : Value).ownBlock ∧ k_ ≠ gb392) v444 y443) ∧ Aside0 (Kd.V (Kd.int .i64) 3 w' w.heap.size (fun k_ => some k_ ≠ (v10 : Value).ownBlock ∧ k_ ≠ gb392) (.slice Ao72 y455.length co72) y455) ∧ Aside0 (Kd.R k43 43 w' w.heap.size (fun k_ => k_ ≠ gb392) v10 x10_3) ∧ Aside0 (w'.heap[gb392]? = some (.cells #[.int .i64 a1_0, .int .i64 a1_1, .int .i64 a1_2, .int .i64 a1_3, .int .i64 a1_4, .int .i64 a1_5] 43 (0, 0))) ∧ Aside0 (Below w.heap.size w w'))
       case atStart => exact ⟨(x10_2), (0), sqD, H', ⟨Nat.le_refl _⟩, ⟨by (with_reducible repeat (first | apply Kd.V_alloc | apply Kd.V_drewN | apply Kd.V_drew)); exact HO_5.out⟩, ⟨by (with_reducible repeat (first | apply Kd.V_alloc | apply Kd.V_drewN | apply Kd.V_drew)); exact HO_6.out⟩, ⟨by (with_reducible repeat (first | apply Kd.V_alloc | apply Kd.V_drewN | apply Kd.V_drew)); exact HO_7.out⟩, ⟨fR HO_10.out⟩, ⟨fb BK392.out⟩, ⟨fW HB.out⟩⟩
       case round =>
        clear H'
        try clear c1;try clear c2;try clear p2;try clear c3;try clear c4;try clear c5;try clear p6;try clear c7;try clear c39;try clear c40;try clear c41;try clear c42;try clear p64;try clear c71;try clear c71b0;try clear p2
        obtain ⟨x10_3, x12_3, rfl, HA, HK3, HO_5, HO_6, HO_7, HO_10, BK392, HB⟩ := hrel
        cases gk with
        | zero => exact absurd HA.out (by simp [r_Parts.l2])
        | succ k3 =>
         have H := HA.out
         clear HA
         simp only [r_Parts.l2] at H
         by_cases c73 : (wrap64 (x12_3 + 1)) < (y443.length : Int)
         rotate_left
         ·rw [if_neg c73] at H
          have c73b0 : decide ((wrap64 (x12_3 + 1)) < (y443.length : Int)) = false := decide_eq_false c73
          clear c73
          have H' := am H
          clear H
          obtain ⟨Ao98, co98, eo98⟩ := Kd.V_slice HO_6.out
          subst eo98
          go_wp2
          go_roundg k3
          case measure => have := HK1.out; have := HK2.out; have := HK3.out; omega
          case rel => exact ⟨(x10_3), (wrap64 (x11_2 + 1)), sqD, H', ⟨by have := HK1.out; have := HK2.out; have := HK3.out; omega⟩, ⟨by (with_reducible repeat (first | apply Kd.V_alloc | apply Kd.V_drewN | apply Kd.V_drew)); exact HO_5.out⟩, ⟨by (with_reducible repeat (first | apply Kd.V_alloc | apply Kd.V_drewN | apply Kd.V_drew)); exact HO_6.out⟩, ⟨by (with_reducible repeat (first | apply Kd.V_alloc | apply Kd.V_drewN | apply Kd.V_drew)); exact HO_7.out⟩, ⟨fR HO_10.out⟩, ⟨fb BK392.out⟩, ⟨fW HB.out⟩⟩
         rw [if_pos c73] at H
         have c73b0 : decide ((wrap64 (x12_3 + 1)) < (y443.length : Int)) = true := decide_eq_true c73
         clear c73
         have H' := am H
         clear H
         obtain ⟨Ao74, co74, eo74⟩ := Kd.V_slice HO_6.out
         subst eo74
         go_wp2
         go_loopg [10, 13] k3 (fun kq v10 v13 w' => ∃ (x10_4 : List (S43)) (x13_4 : Int), v13 = .int .i64 x13_4 ∧ Aside0 (r_Parts.l3 kq y431 y443 y455 x10_4 x11_2 x12_3 x13_4 = some r) ∧ Aside0 (kq ≤ k3) ∧ Aside0 (Kd.V (Kd.int .i64) 3 w' w.heap.size (fun k_ => some k_ ≠ (v10 : Value).ownBlock ∧ k_ ≠ gb392) v432 y431) ∧ Aside0 (Kd.V (Kd.int .i64) 3 w' w.heap.size (fun k_ => some k_ ≠ (v10 : Value).ownBlock ∧ k_ ≠ gb392) (.slice Ao74 y443.length co74) y443) ∧ Aside0 (Kd.V (Kd.int .i64) 3 w' w.heap.size (fun k_ => some k_ ≠ (v10 : Value).ownBlock ∧ k_ ≠ gb392) (.slice Ao72 y455.length co72) y455) ∧ Aside0 (Kd.R k43 43 w' w.heap.size (fun k_ => k_ ≠ gb392) v10 x10_4) ∧ Aside0 (w'.heap[gb392]? = some (.cells #[.int .i64 a1_0, .int .i64 a1_1, .int .i64 a1_2, .int .i64 a1_3, .int .i64 a1_4, .int .i64 a1_5] 43 (0, 0))) ∧ Aside0 (Below w.heap.size w w'))
         case atStart => exact ⟨(x10_3), (0), sqD, H', ⟨Nat.le_refl _⟩, ⟨by (with_reducible repeat (first | apply Kd.V_alloc | apply Kd.V_drewN | apply Kd.V_drew)); exact HO_5.out⟩, ⟨by (with_reducible repeat (first | apply Kd.V_alloc | apply Kd.V_drewN | apply Kd.V_drew)); exact HO_6.out⟩, ⟨by (with_reducible repeat (first | apply Kd.V_alloc | apply Kd.V_drewN | apply Kd.V_drew)); exact HO_7.out⟩, ⟨fR HO_10.out⟩, ⟨fb BK392.out⟩, ⟨fW HB.out⟩⟩
         case round =>
          clear H'
          try clear c1;try clear c2;try clear p2;try clear c3;try clear c4;try clear c5;try clear p6;try clear c7;try clear c39;try clear c40;try clear c41;try clear c42;try clear p64;try clear c71;try clear c71b0;try clear c73;try clear c73b0;try clear p2;try clear p6;try clear p64
          obtain ⟨x10_4, x13_4, rfl, HA, HK4, HO_5, HO_6, HO_7, HO_10, BK392, HB⟩ := hrel
          cases gk with
          | zero => exact absurd HA.out (by simp [r_Parts.l3])
          | succ k4 =>
           have H := HA.out
           clear HA
           simp only [r_Parts.l3] at H
           by_cases c75 : (wrap64 (x13_4 + 1)) < (y431.length : Int)
           rotate_left
           ·rw [if_neg c75] at H
            have c75b0 : decide ((wrap64 (x13_4 + 1)) < (y431.length : Int)) = false := decide_eq_false c75
            clear c75
            have H' := am H
            clear H
            obtain ⟨Ao97, co97, eo97⟩ := Kd.V_slice HO_5.out
            subst eo97
            go_wp2
            go_roundg k4
            case measure => have := HK1.out; have := HK2.out; have := HK3.out; have := HK4.out; omega
            case rel => exact ⟨(x10_4), (wrap64 (x12_3 + 1)), sqD, H', ⟨by have := HK1.out; have := HK2.out; have := HK3.out; have := HK4.out; omega⟩, ⟨by (with_reducible repeat (first | apply Kd.V_alloc | apply Kd.V_drewN | apply Kd.V_drew)); exact HO_5.out⟩, ⟨by (with_reducible repeat (first | apply Kd.V_alloc | apply Kd.V_drewN | apply Kd.V_drew)); exact HO_6.out⟩, ⟨by (with_reducible repeat (first | apply Kd.V_alloc | apply Kd.V_drewN | apply Kd.V_drew)); exact HO_7.out⟩, ⟨fR HO_10.out⟩, ⟨fb BK392.out⟩, ⟨fW HB.out⟩⟩
           rw [if_pos c75] at H
           have c75b0 : decide ((wrap64 (x13_4 + 1)) < (y431.length : Int)) = true := decide_eq_true c75
           clear c75
           by_cases c76 : 0 ≤ x13_4
           rotate_left
           ·rw [if_neg c76] at H
            exact absurd H (by simp)
           rw [if_pos c76] at H
           have c76b0 : decide (0 ≤ x13_4) = true := decide_eq_true c76
           clear c76
           by_cases c77 : x13_4 < (y431.length : Int)
           rotate_left
           ·rw [if_neg c77] at H
            exact absurd H (by simp)
           rw [if_pos c77] at H
           have c77b0 : decide (x13_4 < (y431.length : Int)) = true := decide_eq_true c77
           clear c77
           by_cases c78 : 0 ≤ x12_3
           rotate_left
           ·rw [if_neg c78] at H
            exact absurd H (by simp)
           rw [if_pos c78] at H
           have c78b0 : decide (0 ≤ x12_3) = true := decide_eq_true c78
           clear c78
           by_cases c79 : x12_3 < (y443.length : Int)
           rotate_left
           ·rw [if_neg c79] at H
            exact absurd H (by simp)
           rw [if_pos c79] at H
           have c79b0 : decide (x12_3 < (y443.length : Int)) = true := decide_eq_true c79
           clear c79
           by_cases c80 : 0 ≤ x11_2
           rotate_left
           ·rw [if_neg c80] at H
            exact absurd H (by simp)
           rw [if_pos c80] at H
           have c80b0 : decide (0 ≤ x11_2) = true := decide_eq_true c80
           clear c80
           by_cases c81 : x11_2 < (y455.length : Int)
           rotate_left
           ·rw [if_neg c81] at H
            exact absurd H (by simp)
           rw [if_pos c81] at H
           have c81b0 : decide (x11_2 < (y455.length : Int)) = true := decide_eq_true c81
           clear c81
           obtain ⟨ji82, hji82⟩ : ∃ j_ : Int, (wrap64 (x13_4 + 1)) = j_ := ⟨_, rfl⟩
           replace H : (if 0 ≤ (ji82) then (if 0 ≤ (wrap64 (x12_3 + 1)) then (if (wrap64 (x12_3 + 1)) < (y443.length : Int) then (if 0 ≤ (wrap64 (x11_2 + 1)) then (if (wrap64 (x11_2 + 1)) < (y455.length : Int) then ((some (([(⟨(⟨rd y431 x13_4, rd y443 x12_3, rd y455 x11_2⟩ : S24), (⟨rd y431 (ji82), rd y443 (wrap64 (x12_3 + 1)), rd y455 (wrap64 (x11_2 + 1))⟩ : S24)⟩ : S43)] : List (S43)) : List (S43))).bind fun y467 => (if x10_4.length + y467.length < 2932031007402 then (r_Parts.l3 k4 y431 y443 y455 (x10_4 ++ y467) x11_2 x12_3 ji82) else (none))) else (none)) else (none)) else (none)) else (none)) else (none)) = some r := by first | (rw [hji82] at H; exact H) | (simp only [hji82] at H ⊢; exact H)
           (try rw [hji82] at c75b0)
           have hji82w : (IntKind.i64.wrap (x13_4 + 1)) = ji82 := (i64_w _).trans hji82
           by_cases c83 : 0 ≤ (ji82)
           rotate_left
           ·rw [if_neg c83] at H
            exact absurd H (by simp)
           rw [if_pos c83] at H
           have c83b0 : decide (0 ≤ (ji82)) = true := decide_eq_true c83
           clear c83
           obtain ⟨ji84, hji84⟩ : ∃ j_ : Int, (wrap64 (x12_3 + 1)) = j_ := ⟨_, rfl⟩
           replace H : (if 0 ≤ (ji84) then (if (ji84) < (y443.length : Int) then (if 0 ≤ (wrap64 (x11_2 + 1)) then (if (wrap64 (x11_2 + 1)) < (y455.length : Int) then ((some (([(⟨(⟨rd y431 x13_4, rd y443 x12_3, rd y455 x11_2⟩ : S24), (⟨rd y431 (ji82), rd y443 (ji84), rd y455 (wrap64 (x11_2 + 1))⟩ : S24)⟩ : S43)] : List (S43)) : List (S43))).bind fun y467 => (if x10_4.length + y467.length < 2932031007402 then (r_Parts.l3 k4 y431 y443 y455 (x10_4 ++ y467) x11_2 x12_3 ji82) else (none))) else (none)) else (none)) else (none)) else (none)) = some r := by first | (rw [hji84] at H; exact H) | (simp only [hji84] at H ⊢; exact H)
           (try rw [hji84] at c73b0)
           have hji84w : (IntKind.i64.wrap (x12_3 + 1)) = ji84 := (i64_w _).trans hji84
           by_cases c85 : 0 ≤ (ji84)
           rotate_left
           ·rw [if_neg c85] at H
            exact absurd H (by simp)
           rw [if_pos c85] at H
           have c85b0 : decide (0 ≤ (ji84)) = true := decide_eq_true c85
           clear c85
           by_cases c86 : (ji84) < (y443.length : Int)
           rotate_left
           ·rw [if_neg c86] at H
            exact absurd H (by simp)
           rw [if_pos c86] at H
           have c86b0 : decide ((ji84) < (y443.length : Int)) = true := decide_eq_true c86
           clear c86
           obtain ⟨ji87, hji87⟩ : ∃ j_ : Int, (wrap64 (x11_2 + 1)) = j_ := ⟨_, rfl⟩
           replace H : (if 0 ≤ (ji87) then (if (ji87) < (y455.length : Int) then ((some (([(⟨(⟨rd y431 x13_4, rd y443 x12_3, rd y455 x11_2⟩ : S24), (⟨rd y431 (ji82), rd y443 (ji84), rd y455 (ji87)⟩ : S24)⟩ : S43)] : List (S43)) : List (S43))).bind fun y467 => (if x10_4.length + y467.length < 2932031007402 then (r_Parts.l3 k4 y431 y443 y455 (x10_4 ++ y467) x11_2 x12_3 ji82) else (none))) else (none)) else (none)) = some r := by first | (rw [hji87] at H; exact H) | (simp only [hji87] at H ⊢; exact H)
           (try rw [hji87] at c71b0)
           have hji87w : (IntKind.i64.wrap (x11_2 + 1)) = ji87 := (i64_w _).trans hji87
           by_cases c88 : 0 ≤ (ji87)
           rotate_left
           ·rw [if_neg c88] at H
            exact absurd H (by simp)
           rw [if_pos c88] at H
           have c88b0 : decide (0 ≤ (ji87)) = true := decide_eq_true c88
           clear c88
           by_cases c89 : (ji87) < (y455.length : Int)
           rotate_left
           ·rw [if_neg c89] at H
            exact absurd H (by simp)
           rw [if_pos c89] at H
           have c89b0 : decide ((ji87) < (y455.length : Int)) = true := decide_eq_true c89
           clear c89
           obtain ⟨y467, hy467⟩ : ∃ y_ : List (S43), y_ = (([(⟨(⟨rd y431 x13_4, rd y443 x12_3, rd y455 x11_2⟩ : S24), (⟨rd y431 (ji82), rd y443 (ji84), rd y455 (ji87)⟩ : S24)⟩ : S43)] : List (S43))) := ⟨_, rfl⟩
           replace H : (if x10_4.length + y467.length < 2932031007402 then (r_Parts.l3 k4 y431 y443 y455 (x10_4 ++ y467) x11_2 x12_3 ji82) else (none)) = some r := by first | (rw [hy467]; with_reducible exact H) | (have H2_ := (Option.bind_some _ _).symm.trans H; rw [hy467]; with_reducible exact H2_) | (have H2_ := (Option.bind_some _ _).symm.trans H; with_reducible exact H2_) | with_reducible exact H | (rw [hy467]; exact H) | exact H
           have Ny467 := am hy467
           clear hy467
           by_cases c90 : x10_4.length + y467.length < 2932031007402
           rotate_left
           ·rw [if_neg c90] at H
            exact absurd H (by simp)
           rw [if_pos c90] at H
           have LMc90 := am c90
           clear c90
           obtain ⟨y470, hy470⟩ : ∃ y_ : List (S43), y_ = (x10_4 ++ y467) := ⟨_, rfl⟩
           replace H : (r_Parts.l3 k4 y431 y443 y455 y470 x11_2 x12_3 ji82) = some r := by first | (rw [hy470]; with_reducible exact H) | (have H2_ := (Option.bind_some _ _).symm.trans H; rw [hy470]; with_reducible exact H2_) | (have H2_ := (Option.bind_some _ _).symm.trans H; with_reducible exact H2_) | with_reducible exact H | (rw [hy470]; exact H) | exact H
           have Ny470 := am hy470
           clear hy470
           have H' := am H
           clear H
           obtain ⟨Ao91, co91, eo91⟩ := Kd.V_slice HO_5.out
           subst eo91
           try go_wp2
           have n0_ := am (Kd.V_drew HO_5.out)
           have n1_ := am (Kd.V_drew HO_6.out)
           have n2_ := am (Kd.V_drew HO_7.out)
           have n3_ := am (Kd.R_drew HO_10.out)
           have n4_ := am (bd BK392.out)
           have n5_ := am (below_drew1 HB.out)
           clear HO_5 HO_6 HO_7 HO_10 BK392 HB
           have HO_5 := n0_
           have HO_6 := n1_
           have HO_7 := n2_
           have HO_10 := n3_
           have BK392 := n4_
           have HB := n5_
           clear n0_ n1_ n2_ n3_ n4_ n5_
           have p461 : 0 ≤ (x13_4 : Int) := of_decide_eq_true (by assumption)
           have q461 : x13_4 < (y431.length : Int) := of_decide_eq_true (by assumption)
           obtain ⟨ad461, e461, hx461_0⟩ := Kd.at_int (Kd.V_reads' HO_5.out).2.2 x13_4 p461 q461
           cases e461
           replace p461 := eq_true p461
           replace q461 := eq_true q461
           have p462 : 0 ≤ (x12_3 : Int) := of_decide_eq_true (by assumption)
           have q462 : x12_3 < (y443.length : Int) := of_decide_eq_true (by assumption)
           obtain ⟨ad462, e462, hx462_0⟩ := Kd.at_int (Kd.V_reads' HO_6.out).2.2 x12_3 p462 q462
           cases e462
           replace p462 := eq_true p462
           replace q462 := eq_true q462
           have p463 : 0 ≤ (x11_2 : Int) := of_decide_eq_true (by assumption)
           have q463 : x11_2 < (y455.length : Int) := of_decide_eq_true (by assumption)
           obtain ⟨ad463, e463, hx463_0⟩ := Kd.at_int (Kd.V_reads' HO_7.out).2.2 x11_2 p463 q463
           cases e463
           replace p463 := eq_true p463
           replace q463 := eq_true q463
           have p464 : 0 ≤ ((ji82) : Int) := of_decide_eq_true (by assumption)
           have q464 : (ji82) < (y431.length : Int) := of_decide_eq_true (by assumption)
           obtain ⟨ad464, e464, hx464_0⟩ := Kd.at_int (Kd.V_reads' HO_5.out).2.2 (ji82) p464 q464
           obtain rfl : ad461 = ad464 := (by injection e464)
           replace p464 := eq_true p464
           replace q464 := eq_true q464
           have p465 : 0 ≤ ((ji84) : Int) := of_decide_eq_true (by assumption)
           have q465 : (ji84) < (y443.length : Int) := of_decide_eq_true (by assumption)
           obtain ⟨ad465, e465, hx465_0⟩ := Kd.at_int (Kd.V_reads' HO_6.out).2.2 (ji84) p465 q465
           obtain rfl : ad462 = ad465 := (by injection e465)
           replace p465 := eq_true p465
           replace q465 := eq_true q465
           have p466 : 0 ≤ ((ji87) : Int) := of_decide_eq_true (by assumption)
           have q466 : (ji87) < (y455.length : Int) := of_decide_eq_true (by assumption)
           obtain ⟨ad466, e466, hx466_0⟩ := Kd.at_int (Kd.V_reads' HO_7.out).2.2 (ji87) p466 q466
           obtain rfl : ad463 = ad466 := (by injection e466)
           replace p466 := eq_true p466
           replace q466 := eq_true q466
           refine start_ (n := 34) (S := fun w' => w'.cell? (ad461.add (x13_4).toNat) = some (.int .i64 (rd y431 x13_4)) ∧ w'.cell? (ad462.add (x12_3).toNat) = some (.int .i64 (rd y443 x12_3)) ∧ w'.cell? (ad463.add (x11_2).toNat) = some (.int .i64 (rd y455 x11_2)) ∧ w'.cell? (ad461.add ((ji82)).toNat) = some (.int .i64 (rd y431 (ji82))) ∧ w'.cell? (ad462.add ((ji84)).toNat) = some (.int .i64 (rd y443 (ji84))) ∧ w'.cell? (ad463.add ((ji87)).toNat) = some (.int .i64 (rd y455 (ji87)))) (ds := [32]) #[false, false, false, false, false, false, false, false, false, false, false, false, false, false, false, false, false, false, false, false, false, false, false, false, false, false, false, false, false, false, false, false, false, false] (by kernel_rfl) rfl rfl ⟨hx461_0, hx462_0, hx463_0, hx464_0, hx465_0, hx466_0⟩ (fun hHeld => ?_); refine with_tabW r_Parts.tab20 r_Parts.bits20 (fun HT_ HW_ => ?_)
           generalize wr.drew = w92 at HO_5 HO_6 HO_7 HO_10 BK392 HB hx461_0 hx462_0 hx463_0 hx464_0 hx465_0 hx466_0 hHeld ⊢
           refine pu (i := 0) (N := some 146) (fl 34 1 []) HT_ ?_
           refine pu (i := 1) (N := some 147) (fl 34 2 []) HT_ ?_
           refine pu (i := 2) (N := some 148) (fl 34 3 []) HT_ ?_
           refine pu (i := 3) (N := some 149) (fl 34 4 []) HT_ ?_
           refine pu (i := 5) (N := some 151) (fl 34 4 [5]) HT_ ?_
           refine pu (i := 6) (N := some 152) (fl 34 4 [5, 6]) HT_ ?_
           refine pu (i := 7) (N := some 153) (fl 34 4 [5, 6, 7]) HT_ ?_
           refine pu (i := 9) (N := some 155) (fl 34 4 [5, 6, 7, 9]) HT_ ?_
           refine pu (i := 10) (N := some 156) (fl 34 4 [5, 6, 7, 9, 10]) HT_ ?_
           refine pu (i := 11) (N := some 157) (fl 34 4 [5, 6, 7, 9, 10, 11]) HT_ ?_
           refine pu (i := 14) (N := some 160) (fl 34 4 [5, 6, 7, 9, 10, 11, 14]) HT_ ?_
           refine pu (i := 15) (N := some 161) (fl 34 4 [5, 6, 7, 9, 10, 11, 14, 15]) HT_ ?_
           refine pu (i := 16) (N := some 162) (fl 34 4 [5, 6, 7, 9, 10, 11, 14, 15, 16]) HT_ ?_
           refine pu (i := 17) (N := some 163) (fl 34 4 [5, 6, 7, 9, 10, 11, 14, 15, 16, 17]) HT_ ?_
           refine pu (i := 19) (N := some 165) (fl 34 4 [5, 6, 7, 9, 10, 11, 14, 15, 16, 17, 19]) HT_ ?_
           refine pu (i := 20) (N := some 166) (fl 34 4 [5, 6, 7, 9, 10, 11, 14, 15, 16, 17, 19, 20]) HT_ ?_
           refine pu (i := 21) (N := some 167) (fl 34 4 [5, 6, 7, 9, 10, 11, 14, 15, 16, 17, 19, 20, 21]) HT_ ?_
           refine pu (i := 22) (N := some 168) (fl 34 4 [5, 6, 7, 9, 10, 11, 14, 15, 16, 17, 19, 20, 21, 22]) HT_ ?_
           refine pu (i := 24) (N := some 170) (fl 34 4 [5, 6, 7, 9, 10, 11, 14, 15, 16, 17, 19, 20, 21, 22, 24]) HT_ ?_
           refine pu (i := 25) (N := some 171) (fl 34 4 [5, 6, 7, 9, 10, 11, 14, 15, 16, 17, 19, 20, 21, 22, 24, 25]) HT_ ?_
           refine pu (i := 26) (N := some 172) (fl 34 4 [5, 6, 7, 9, 10, 11, 14, 15, 16, 17, 19, 20, 21, 22, 24, 25, 26]) HT_ ?_
           refine pu (i := 27) (N := some 173) (fl 34 4 [5, 6, 7, 9, 10, 11, 14, 15, 16, 17, 19, 20, 21, 22, 24, 25, 26, 27]) HT_ ?_
           refine tk (i := 4) (N := some 150) (fl 34 8 [9, 10, 11, 14, 15, 16, 17, 19, 20, 21, 22, 24, 25, 26, 27]) HT_ HW_ hHeld ?_
           refine tk (i := 8) (N := some 154) (fl 34 12 [14, 15, 16, 17, 19, 20, 21, 22, 24, 25, 26, 27]) HT_ HW_ hHeld ?_
           refine tk (i := 12) (N := some 158) (fl 34 13 [14, 15, 16, 17, 19, 20, 21, 22, 24, 25, 26, 27]) HT_ HW_ hHeld ?_
           refine pu (i := 13) (N := some 159) (fl 34 18 [19, 20, 21, 22, 24, 25, 26, 27]) HT_ ?_
           refine tk (i := 18) (N := some 164) (fl 34 23 [24, 25, 26, 27]) HT_ HW_ hHeld ?_
           refine tk (i := 23) (N := some 169) (fl 34 28 []) HT_ HW_ hHeld ?_
           refine tk (i := 28) (N := some 174) (fl 34 29 []) HT_ HW_ hHeld ?_
           refine pu (i := 29) (N := some 175) (fl 34 30 []) HT_ ?_
           refine pu (i := 30) (N := some 176) (fl 34 31 []) HT_ ?_
           refine one_ (i := 31) (N := some 177) (fl 34 32 []) rfl rfl (one_of HT_.out (by kernel_rfl)) (by decide) (fun K hK => ?_)
           refine Kd.R_lit_step k43 _ 43 ?hg (N := 177) ?hd (xs := ([(⟨(⟨rd y431 x13_4, rd y443 x12_3, rd y455 x11_2⟩ : S24), (⟨rd y431 (ji82), rd y443 (ji84), rd y455 (ji87)⟩ : S24)⟩ : S43)] : List (S43))) (inner := [.int .i64 (rd y431 x13_4), .int .i64 (rd y443 x12_3), .int .i64 (rd y455 x11_2), .int .i64 (rd y431 (ji82)), .int .i64 (rd y443 (ji84)), .int .i64 (rd y455 (ji87))]) (ok := fun _ => True) (okp := fun _ => True) ?hr ?hp (fun _ hk => hk) trivial (Below.refl _ _) (Nat.le_refl _) (by simp) ?_; (case hd | hg => rfl); (case hr => first | (go_simp; done) | (go_simp; rfl)); (case hp => exact (Reps.c6 (show Kd.M k43 _ _ _ (⟨(⟨rd y431 x13_4, rd y443 x12_3, rd y455 x11_2⟩ : S24), (⟨rd y431 (ji82), rd y443 (ji84), rd y455 (ji87)⟩ : S24)⟩ : S43) [.int .i64 (rd y431 x13_4), .int .i64 (rd y443 x12_3), .int .i64 (rd y455 x11_2), .int .i64 (rd y431 (ji82)), .int .i64 (rd y443 (ji84)), .int .i64 (rd y455 (ji87))] from (k43_mkM _ _ _ (⟨(⟨rd y431 x13_4, rd y443 x12_3, rd y455 x11_2⟩ : S24), (⟨rd y431 (ji82), rd y443 (ji84), rd y455 (ji87)⟩ : S24)⟩ : S43) )) (Reps.none _ _)))
           intro v468 w93 ho94 hb hg_ hnew_
           have HS0_ := (hb.cell (bq _ _ (hHeld.1))).trans (hHeld.1)
           have HS1_ := (hb.cell (bq _ _ (hHeld.2.1))).trans (hHeld.2.1)
           have HS2_ := (hb.cell (bq _ _ (hHeld.2.2.1))).trans (hHeld.2.2.1)
           have HS3_ := (hb.cell (bq _ _ (hHeld.2.2.2.1))).trans (hHeld.2.2.2.1)
           have HS4_ := (hb.cell (bq _ _ (hHeld.2.2.2.2.1))).trans (hHeld.2.2.2.2.1)
           have HS5_ := (hb.cell (bq _ _ (hHeld.2.2.2.2.2))).trans (hHeld.2.2.2.2.2)
           clear hg_ hnew_
           (first | rw [← Ny467.out] at ho94 | (simp only [Int.reduceToNat] at ho94; rw [← Ny467.out] at ho94))
           have n0_ := am (Kd.V_elder' (fV HO_5.out) (Kd.R_base ho94) hb)
           have n1_ := am (Kd.V_elder' (fV HO_6.out) (Kd.R_base ho94) hb)
           have n2_ := am (Kd.V_elder' (fV HO_7.out) (Kd.R_base ho94) hb)
           have n3_ := am (Kd.R_elder' (fR HO_10.out) (Kd.R_base ho94) hb)
           have n4_ := am (Kd.R_lower (Kd.R_newB (Kd.R_new' ho94 (Kd.R_lt (fR HO_10.out))) (g := gb392) (o := .cells #[.int .i64 a1_0, .int .i64 a1_1, .int .i64 a1_2, .int .i64 a1_3, .int .i64 a1_4, .int .i64 a1_5] 43 (0, 0)) (fb BK392.out)) (wz (fW HB.out)))
           have n5_ := bB BK392 hb
           have n6_ := bS HB hb
           clear HO_5 HO_6 HO_7 HO_10 BK392 HB
           have HO_5 := n0_
           have HO_6 := n1_
           have HO_7 := n2_
           have HO_10 := n3_
           have HO469 := n4_
           have BK392 := n5_
           have HB := n6_
           clear n0_ n1_ n2_ n3_ n4_ n5_ n6_ hb ho94
           obtain ⟨Ao96, co96, eo96⟩ := Kd.R_slice HO469.out
           (first | subst eo96 | (injection eo96 with f1_ f2_ f3_; have f4_ := f1_.symm; have f5_ := f3_.symm; clear f1_ f2_ f3_; subst f4_; subst f5_))
           refine hK.out _ _ ⟨HS0_, HS1_, HS2_, HS3_, HS4_, HS5_⟩ (fun hHeld => ?_)
           clear hK K
           refine norm_ (a' := ?_) ?_ ?_
           rotate_left
           ·show Act.put _ (some 177) _ = _
            simp only [Act.put, psl, i64_w, i32_w]
            rfl
           refine last_ (i := 32) (N := some 178) #[true, true, true, true, true, true, true, true, true, true, true, true, true, true, true, true, true, true, true, true, true, true, true, true, true, true, true, true, true, true, true, true, true, false] rfl rfl (one_of HT_.out (by kernel_rfl)) (by decide) (fun K hK => ?_)
           refine Kd.R_append_rows_step k43 (w0 := w) w.heap.size (by rfl) (.tmp 146) (.tmp 177) 85 43 (.agg #[(.int .i64 0), (.int .i64 0), (.int .i64 0), (.int .i64 0), (.int .i64 0), (.int .i64 0)]) 48 rfl Try.underlying85 info43 rfl (by decide) (by omega) u10 x10_4 y467 _ _ _ (fun k_ => some k_ ≠ (.slice Ao96 y467.length co96 : Value).ownBlock ∧ k_ ≠ gb392) (fun _ => False) rfl rfl ?aO ?aR (fun _ _ h => h) (fun _ h => h.elim) ?aF ?aB ?aS ?aL ?_
           (case aR => repeat (first | exact (Kd.R_reads' HO469.out).2.2 | (with_reducible refine Kd.C_alloc ?_ _) | (with_reducible refine Kd.C_drewN ?_ _) | (with_reducible refine Kd.C_drew ?_)))
           (case aB => exact (fW HB.out))
           (case aF => exact (fun k_ hk => ⟨Kd.fresh' (Kd.R_lt (fR HO469.out)) k_ hk, Kd.freshB (g := gb392) (o := .cells #[.int .i64 a1_0, .int .i64 a1_1, .int .i64 a1_2, .int .i64 a1_3, .int .i64 a1_4, .int .i64 a1_5] 43 (0, 0)) (fb BK392.out) k_ hk⟩))
           (case aO => exact (by (with_reducible repeat (first | apply Kd.R_alloc | apply Kd.R_drewN | apply Kd.R_drew)); exact Kd.R_mono HO_10.out (fun _ hk => ⟨hk.2, hk.1⟩)))
           (case aS => exact (wz (fW HB.out)))
           (case aL => have := LMc90.out; omega)
           intro v471 w95 ho hb hg hat
           rw [← Ny470.out] at ho
           have n0_ := am (Kd.V_afterv (ok := (fun k_ => some k_ ≠ (.slice Ao96 y467.length co96 : Value).ownBlock ∧ k_ ≠ gb392)) (by (with_reducible repeat (first | apply Kd.V_alloc | apply Kd.V_drewN | apply Kd.V_drew)); exact Kd.V_mono HO_5.out (fun _ hk => ⟨⟨hk.2, hk.1.2⟩, hk.1.1⟩)) hg hat)
           have n1_ := am (Kd.V_afterv (ok := (fun k_ => some k_ ≠ (.slice Ao96 y467.length co96 : Value).ownBlock ∧ k_ ≠ gb392)) (by (with_reducible repeat (first | apply Kd.V_alloc | apply Kd.V_drewN | apply Kd.V_drew)); exact Kd.V_mono HO_6.out (fun _ hk => ⟨⟨hk.2, hk.1.2⟩, hk.1.1⟩)) hg hat)
           have n2_ := am (Kd.V_afterv (ok := (fun k_ => some k_ ≠ (.slice Ao96 y467.length co96 : Value).ownBlock ∧ k_ ≠ gb392)) (by (with_reducible repeat (first | apply Kd.V_alloc | apply Kd.V_drewN | apply Kd.V_drew)); exact Kd.V_mono HO_7.out (fun _ hk => ⟨⟨hk.2, hk.1.2⟩, hk.1.1⟩)) hg hat)
           have n3_ := am (blk_grown (g := gb392) (o := .cells #[.int .i64 a1_0, .int .i64 a1_1, .int .i64 a1_2, .int .i64 a1_3, .int .i64 a1_4, .int .i64 a1_5] 43 (0, 0)) (fb BK392.out) hg (Kd.R_away HO_10.out (fun _ hk => hk.1)))
           have n4_ := am (Kd.R_after (ok := (fun k_ => k_ ≠ gb392)) (by (with_reducible repeat (first | apply Kd.R_alloc | apply Kd.R_drewN | apply Kd.R_drew)); exact Kd.R_mono HO469.out (fun _ hk => ⟨hk.2, hk.1.2⟩)) hg hat)
           have n5_ := am (hb)
           have n6_ := am (ho)
           clear HO_5 HO_6 HO_7 BK392 HO469 HB HO_10
           have HO_5 := n0_
           have HO_6 := n1_
           have HO_7 := n2_
           have BK392 := n3_
           have HO469 := n4_
           have HB := n5_
           have HO472 := n6_
           clear n0_ n1_ n2_ n3_ n4_ n5_ n6_ ho hb hg hat
           refine hK.out _ _ ?_
           clear hK K
           refine norm_ (a' := ?_) ?_ ?_
           rotate_left
           ·show Act.put _ (some 178) _ = _
            simp only [Act.put, psl, i64_w, i32_w]
            rfl
           refine pu (i := 33) (N := some 10) (fl 34 34 []) HT_ ?_
           refine done_ (done_of HT_.out (by kernel_rfl)) ?_
           try go_wp2
           subst hji84
           subst hji87
           go_roundg k4
           case measure => have := HK1.out; have := HK2.out; have := HK3.out; have := HK4.out; omega
           case rel => exact ⟨(y470), (ji82), (by first | rfl | (simp; done) | (simp only [← hji82] <;> (first | rfl | simp)) | (simp [*]; done)), H', ⟨by have := HK1.out; have := HK2.out; have := HK3.out; have := HK4.out; omega⟩, ⟨by (with_reducible repeat (first | apply Kd.V_alloc | apply Kd.V_drewN | apply Kd.V_drew)); exact Kd.V_mono HO_5.out (fun _ hk => ⟨hk.2, hk.1.2⟩)⟩, ⟨by (with_reducible repeat (first | apply Kd.V_alloc | apply Kd.V_drewN | apply Kd.V_drew)); exact Kd.V_mono HO_6.out (fun _ hk => ⟨hk.2, hk.1.2⟩)⟩, ⟨by (with_reducible repeat (first | apply Kd.V_alloc | apply Kd.V_drewN | apply Kd.V_drew)); exact Kd.V_mono HO_7.out (fun _ hk => ⟨hk.2, hk.1.2⟩)⟩, ⟨by (with_reducible repeat (first | apply Kd.R_alloc | apply Kd.R_drewN | apply Kd.R_drew)); exact Kd.R_mono HO472.out (fun _ hk => hk.2)⟩, ⟨fb BK392.out⟩, ⟨fW HB.out⟩⟩
    ·rw [if_neg c37] at H
     exact absurd H (by simp)

end Go.Proofs.Ytcofgnbopodahaa.QA
