import Derived.Test.YtcembjgpcbodcaaZQAx0
import Derived.Test.YtcembjgpcbodcaaZQAx6
import Derived.Laws.StructEq
import Derived.Lib.SliceRun
import Derived.Lib.SlicesCompact
import Derived.Shelf.SlicesE.Kit
import Derived.Shelf.SlicesQ.Reverse
namespace Go.Proofs.Ytcembjgpcbodcaa.QA
open Go.RowKit Go.Proofs.YtcembjgpcbodcaaW.PrintWords Go.Proofs.YtcembjgpcbodcaaW.PrintLast Go.Proofs.YtcembjgpcbodcaaW.PrintMore
open Go.Proofs.YtcembjgpcbodcaaW.PrintWords renaming blk_cell → bc
open Aside0 renaming mk → am
attribute [local go_sem] max2_int min2_int max_two min_two max_three min_three max_four min_four
set_option linter.unusedVariables false
set_option linter.unusedSimpArgs false

def polygon_before.f (k : Nat) (a0_0 : Int) (a0_1 : Int) (a1_0 : Int) (a1_1 : Int) : Option (Int) := (cmp_Compare_int.f a0_0 a1_0).bind fun t169 => ((cmp_Compare_int.f a0_1 a1_1).bind fun t170 => ((cmp_Or_int.f k (([t169, t170] : List Int))).bind fun t174 => (some t174)))
def polygon_before.T1 : Bool × List (List Nat × List Nat) := (true, [([], []), ([0], [0]), ([], []), ([2], [2]), ([1, 3], [1, 3]), ([], []), ([5], [5]), ([], []), ([7], [7]), ([6, 8, 4], [6, 8]), ([4, 9], [4, 9]), ([10, 9], [10]), ([11, 11, 0, 1, 2, 3, 4, 5, 6, 7, 8, 9, 10, 11], [11])])
def polygon_before.B1 : List Nat := [0, 1, 0, 4, 15, 0, 32, 0, 128, 511, 1023, 2047, 4095]
theorem polygon_before.tab1 : rtab .any (opsOf Try.f49 1) = polygon_before.T1 := by kernel_rfl
theorem polygon_before.bits1 : waitsOk polygon_before.T1.2 polygon_before.B1 = true := by kernel_rfl
set_option maxHeartbeats 8000000 in
set_option maxRecDepth 100000 in
theorem polygon_before.calls (k : Nat) (a0_0 : Int) (a0_1 : Int) (a1_0 : Int) (a1_1 : Int) (r : Int) (w : World) (h : polygon_before.f k a0_0 a0_1 a1_0 a1_1 = some r) :
  Calls Try.prog 49 #[.agg #[.int .i64 a0_0, .int .i64 a0_1], .agg #[.int .i64 a1_0, .int .i64 a1_1]] w fun e w' => e = .returned (.int .i64 r) ∧ Below w.heap.size w w' := by
 have hu23 := Try.underlying23
 have HB := am (Below.refl w.heap.size w)
 have H : ((cmp_Compare_int.f a0_0 a1_0).bind fun t169 => ((cmp_Compare_int.f a0_1 a1_1).bind fun t170 => ((cmp_Or_int.f k (([t169, t170] : List Int))).bind fun t174 => (some t174)))) = some r := h
 clear h
 replace H := Option.bind_eq_some_iff.mp H
 obtain ⟨t169, A30, H⟩ := H
 replace H : ((cmp_Compare_int.f a0_1 a1_1).bind fun t170 => ((cmp_Or_int.f k (([t169, t170] : List Int))).bind fun t174 => (some t174))) = some r := H
 have A3 := am A30
 clear A30
 replace H := Option.bind_eq_some_iff.mp H
 obtain ⟨t170, A40, H⟩ := H
 replace H : ((cmp_Or_int.f k (([t169, t170] : List Int))).bind fun t174 => (some t174)) = some r := H
 have A4 := am A40
 clear A40
 obtain ⟨y171, hy171⟩ : ∃ y_ : List Int, y_ = (([t169, t170] : List Int)) := ⟨_, rfl⟩
 replace H : ((cmp_Or_int.f k y171).bind fun t174 => (some t174)) = some r := by first | (rw [hy171]; with_reducible exact H) | (have H2_ := (Option.bind_some _ _).symm.trans H; rw [hy171]; with_reducible exact H2_) | (have H2_ := (Option.bind_some _ _).symm.trans H; with_reducible exact H2_) | with_reducible exact H | (rw [hy171]; exact H) | exact H
 have Ny171 := am hy171
 clear hy171
 replace H := Option.bind_eq_some_iff.mp H
 obtain ⟨t174, A50, H⟩ := H
 replace H : (some t174) = some r := H
 have A5 := am A50
 clear A50
 obtain rfl := Option.some.inj H
 go_enter Try.func49, Try.ntmps49
 try go_wp2_with (first | ((with_reducible refine gate_dst (N := 2) rfl ?_); refine box_event ?hg (N := 2) ?hd (cs := #[.int .i64 a0_0, .int .i64 a0_1]) (t := 23) ?hr ?_; (case hd | hg => rfl); (case hr => first | (go_simp; done) | (go_simp; rfl)); intro gb167 hg w6 hbox hb; have BK167 := am hbox; have GW167 := sG HB hg; have GE167 := sG HB hg; replace HB := bS HB hb; clear hb hbox hg) | ((with_reducible refine gate_dst (N := 3) rfl ?_); refine box_event ?hg (N := 3) ?hd (cs := #[.int .i64 a1_0, .int .i64 a1_1]) (t := 23) ?hr ?_; (case hd | hg => rfl); (case hr => first | (go_simp; done) | (go_simp; rfl)); intro gb168 hg w7 hbox hb; have BK168 := am hbox; have GW168 := sG HB hg; have GE168 := sG HB hg; replace HB := bS HB hb; have NB167_168 := nL BK167 hg; have NB168_167 := nG BK167 hg; replace BK167 := bB BK167 hb; clear hb hbox hg))
 have n0_ := am (blk_drew BK167.out)
 have n1_ := am (blk_drew BK168.out)
 have n2_ := am (below_drew1 HB.out)
 clear BK167 BK168 HB
 have BK167 := n0_
 have BK168 := n1_
 have HB := n2_
 clear n0_ n1_ n2_
 refine start_ (n := 13) (S := fun w' => w'.cell? ⟨gb167, 0, none⟩ = some (.int .i64 a0_0) ∧ w'.cell? ⟨gb167, 1, none⟩ = some (.int .i64 a0_1) ∧ w'.cell? ⟨gb168, 0, none⟩ = some (.int .i64 a1_0) ∧ w'.cell? ⟨gb168, 1, none⟩ = some (.int .i64 a1_1)) (ds := []) #[false, false, false, false, false, false, false, false, false, false, false, false, false] (by kernel_rfl) rfl rfl ⟨(bc BK167.out 0).trans rfl, (bc BK167.out 1).trans rfl, (bc BK168.out 0).trans rfl, (bc BK168.out 1).trans rfl⟩ (fun hHeld => ?_); refine with_tabW polygon_before.tab1 polygon_before.bits1 (fun HT_ HW_ => ?_)
 generalize w7.drew = w8 at BK167 BK168 HB hHeld ⊢
 refine pu (i := 0) (N := some 5) (fl 13 1 []) HT_ ?_
 refine pu (i := 2) (N := some 7) (fl 13 1 [2]) HT_ ?_
 refine pu (i := 5) (N := some 10) (fl 13 1 [2, 5]) HT_ ?_
 refine pu (i := 7) (N := some 12) (fl 13 1 [2, 5, 7]) HT_ ?_
 refine tk (i := 1) (N := some 6) (fl 13 3 [5, 7]) HT_ HW_ hHeld ?_
 refine tk (i := 3) (N := some 8) (fl 13 4 [5, 7]) HT_ HW_ hHeld ?_
 refine tk (i := 6) (N := some 11) (fl 13 4 [5, 6, 7]) HT_ HW_ hHeld ?_
 refine tk (i := 8) (N := some 13) (fl 13 4 [5, 6, 7, 8]) HT_ HW_ hHeld ?_
 refine one_ (i := 4) (N := some 9) (fl 13 9 []) rfl rfl (one_of HT_.out (by kernel_rfl)) (by decide) (fun K hK => ?_)
 refine goes_ Try.func67 (by kernel_rfl) rfl #[.int .i64 a0_0, .int .i64 a1_0] (by rfl) rfl rfl (by (try simp only [pml]); first | done | rfl | (simp only [pdt]; rfl)) ?_
 with_reducible refine (cmp_Compare_int.calls a0_0 a1_0 t169 _ A3.out).mono ?_
 rintro e w' ⟨rfl, ⟨nd, rfl⟩⟩
 refine ⟨_, rfl, ?_⟩
 refine hK.out _ _ ⟨(bc BK167.out 0).trans rfl, (bc BK167.out 1).trans rfl, (bc BK168.out 0).trans rfl, (bc BK168.out 1).trans rfl⟩ (fun hHeld => ?_)
 clear hK K
 refine norm_ (a' := ?_) ?_ ?_
 rotate_left
 ·show Act.put _ (some 9) _ = _
  simp only [Act.put, psl, i64_w, i32_w]
  rfl
 refine one_ (i := 9) (N := some 14) (fl 13 10 []) rfl rfl (one_of HT_.out (by kernel_rfl)) (by decide) (fun K hK => ?_)
 refine goes_ Try.func67 (by kernel_rfl) rfl #[.int .i64 a0_1, .int .i64 a1_1] (by rfl) rfl rfl (by (try simp only [pml]); first | done | rfl | (simp only [pdt]; rfl)) ?_
 with_reducible refine (cmp_Compare_int.calls a0_1 a1_1 t170 _ A4.out).mono ?_
 rintro e w' ⟨rfl, ⟨nd, rfl⟩⟩
 refine ⟨_, rfl, ?_⟩
 refine hK.out _ _ ⟨(bc BK167.out 0).trans rfl, (bc BK167.out 1).trans rfl, (bc BK168.out 0).trans rfl, (bc BK168.out 1).trans rfl⟩ (fun hHeld => ?_)
 clear hK K
 refine norm_ (a' := ?_) ?_ ?_
 rotate_left
 ·show Act.put _ (some 14) _ = _
  simp only [Act.put, psl, i64_w, i32_w]
  rfl
 refine one_ (i := 10) (N := some 15) (fl 13 11 []) rfl rfl (one_of HT_.out (by kernel_rfl)) (by decide) (fun K hK => ?_)
 refine Kd.R_lit_step (Kd.int .i64) _ 3 ?hg (N := 15) ?hd (xs := ([t169, t170] : List Int)) (inner := [.int .i64 t169, .int .i64 t170]) (ok := fun _ => True) (okp := fun _ => True) ?hr ?hp (fun _ hk => hk) trivial (Below.refl _ _) (Nat.le_refl _) (by simp) ?_; (case hd | hg => rfl); (case hr => first | (go_simp; done) | (go_simp; rfl)); (case hp => exact (Reps.one (show Kd.M (Kd.int .i64) _ _ _ t169 [.int .i64 t169] from rfl) (Reps.one (show Kd.M (Kd.int .i64) _ _ _ t170 [.int .i64 t170] from rfl) (Reps.none _ _))))
 intro v172 w9 ho10 hb hg_ hnew_
 clear hg_ hnew_
 (first | rw [← Ny171.out] at ho10 | (simp only [Int.reduceToNat] at ho10; rw [← Ny171.out] at ho10))
 have n0_ := am (Kd.R_lower ho10 (below_size (fW HB.out)))
 have n1_ := bB BK167 hb
 have n2_ := bB BK168 hb
 have n3_ := bS HB hb
 clear BK167 BK168 HB
 have HO173 := n0_
 have BK167 := n1_
 have BK168 := n2_
 have HB := n3_
 clear n0_ n1_ n2_ n3_ hb ho10
 obtain ⟨Ao11, co11, eo11⟩ := Kd.R_slice HO173.out
 (first | subst eo11 | (injection eo11 with f1_ f2_ f3_; have f4_ := f1_.symm; have f5_ := f3_.symm; clear f1_ f2_ f3_; subst f4_; subst f5_))
 refine hK.out _ _ ⟨(bc BK167.out 0).trans rfl, (bc BK167.out 1).trans rfl, (bc BK168.out 0).trans rfl, (bc BK168.out 1).trans rfl⟩ (fun hHeld => ?_)
 clear hK K
 refine norm_ (a' := ?_) ?_ ?_
 rotate_left
 ·show Act.put _ (some 15) _ = _
  simp only [Act.put, psl, i64_w, i32_w]
  rfl
 refine one_ (i := 11) (N := some 16) (fl 13 12 []) rfl rfl (one_of HT_.out (by kernel_rfl)) (by decide) (fun K hK => ?_)
 refine goes_ Try.func66 (by kernel_rfl) rfl #[.slice Ao11 y171.length co11] (by rfl) rfl rfl (by (try simp only [pml]); first | done | rfl | (simp only [pdt]; rfl)) ?_
 with_reducible refine (cmp_Or_int.calls k _ _ y171 t174 _ ?side1 ?side2 A5.out).mono ?_
 (case side1 => repeat (first | exact (Kd.R_reads' HO173.out).2.2 | (with_reducible refine Kd.C_alloc ?_ _) | (with_reducible refine Kd.C_drewN ?_ _) | (with_reducible refine Kd.C_drew ?_)))
 (case side2 => exact (Kd.R_reads' HO173.out).2.1)
 rintro e w' ⟨rfl, ⟨nd, rfl⟩⟩
 refine ⟨_, rfl, ?_⟩
 refine hK.out _ _ ⟨(bc BK167.out 0).trans rfl, (bc BK167.out 1).trans rfl, (bc BK168.out 0).trans rfl, (bc BK168.out 1).trans rfl⟩ (fun hHeld => ?_)
 clear hK K
 refine norm_ (a' := ?_) ?_ ?_
 rotate_left
 ·show Act.put _ (some 16) _ = _
  simp only [Act.put, psl, i64_w, i32_w]
  rfl
 refine pu (i := 12) (N := some 4) (fl 13 13 []) HT_ ?_
 refine done_ (done_of HT_.out (by kernel_rfl)) ?_
 try go_wp2
 go_ret
 exact ⟨sqE, fW HB.out⟩

instance instDecS23 : DecidableEq S23 := fun a b => if h : a.f0 = b.f0 ∧ a.f1 = b.f1 then isTrue (by cases a; cases b; simp at h; obtain ⟨rfl, rfl⟩ := h; rfl) else isFalse (fun e => h (by subst e; exact ⟨rfl, rfl⟩))
section
open Go.Sort Go.Lib
theorem eq23_run (a b c d : Int) (w : World) : Sem.run Try.prog (binOp .eql 23 (.agg #[.int .i64 a, .int .i64 b]) (.agg #[.int .i64 c, .int .i64 d])) w = .ok (.bool (decide (a = c ∧ b = d))) w := by
 have u3 := Try.underlying3
 have a3 := Try.isAgg3
 have z3 := Try.sizeOf3
 have hS : Try.prog.underlying 23 = some (.struct (Try.prog.fieldsOf 23)) := by kernel_rfl
 have hp : Try.prog.stoodInHeld 23 = false := by kernel_rfl
 rw [run_eql_struct, show (10000 : Nat) = 9999 + 1 from rfl, run_equalIn_agg w 9999 23 _ _ hS hp]
 simp only [Program.fieldsOf, Try.underlying23]
 go_simp
 by_cases h1 : a = c <;> by_cases h2 : b = d <;> simp [h1, h2]
theorem ne23_run (a b c d : Int) (w : World) : Sem.run Try.prog (binOp .neq 23 (.agg #[.int .i64 a, .int .i64 b]) (.agg #[.int .i64 c, .int .i64 d])) w = .ok (.bool (!decide (a = c ∧ b = d))) w := by
 have u3 := Try.underlying3
 have a3 := Try.isAgg3
 have z3 := Try.sizeOf3
 have hS : Try.prog.underlying 23 = some (.struct (Try.prog.fieldsOf 23)) := by kernel_rfl
 have hp : Try.prog.stoodInHeld 23 = false := by kernel_rfl
 rw [run_neq_struct, show (10000 : Nat) = 9999 + 1 from rfl, run_equalIn_agg w 9999 23 _ _ hS hp]
 simp only [Program.fieldsOf, Try.underlying23]
 go_simp
 by_cases h1 : a = c <;> by_cases h2 : b = d <;> simp [h1, h2]
theorem gd23_run (op : BinOp) (x y : Operand) (a b : Array Value) (w : World) : Sem.run Try.prog (eqGuard op 23 x y (.agg a) (.agg b)) w = .ok () w := run_eqGuard_agg w op 23 x y a b (by kernel_rfl)
theorem set_flat (d : Array S23) (i : Nat) (u : S23) (hi : i < d.size) : setMany (flatK enc23 2 d) (i * 2) (enc23 u) = flatK enc23 2 (d.setIfInBounds i u) := by
 refine ext_get! (by simp) fun t ht => ?_
 have ht' : t < d.size * 2 := by simpa using ht
 rw [get_setMany _ _ _ t (by simpa using ht'), get_flatK _ _ _ t ht', get_flatK _ _ _ t (by simpa using ht')]
 have hl : (enc23 u).length = 2 := rfl
 rw [hl]
 by_cases c : i * 2 ≤ t ∧ t < i * 2 + 2
 ·rw [if_pos c]
  have e1 : t / 2 = i := by omega
  have e2 : t - i * 2 = t % 2 := by omega
  rw [e1, e2]
  congr 2
  simp [hi]
 rw [if_neg c]
 have e1 : i ≠ t / 2 := by omega
 congr 2
 rw [getElem!_pos d _ (by omega), getElem!_pos (d.setIfInBounds i u) _ (by simp; omega), Array.getElem_setIfInBounds, if_neg e1]
theorem clear_flat (d dk : Array S23) (k : Nat) (h : CompInv d d.size k dk) : setMany (flatK enc23 2 dk) (k * 2) (List.replicate ((d.size - k) * 2) (.int .i64 0)) = flatK enc23 2 (compactUpTo d d.size ++ List.replicate (d.size - k) z23).toArray := by
 have hlen : (compactUpTo d d.size ++ List.replicate (d.size - k) z23).length = d.size := by
  rw [List.length_append, h.len, List.length_replicate]; have := h.lt; omega
 refine ext_get! (by simp [h.size, hlen, ← List.length_append]) fun t ht => ?_
 have ht' : t < d.size * 2 := by simpa [h.size] using ht
 rw [get_setMany _ _ _ t (by simpa [h.size] using ht'), get_flatK _ _ _ t (by rw [h.size]; exact ht'), get_flatK _ _ _ t (by rw [List.size_toArray, hlen]; exact ht'), List.length_replicate]
 have hk := h.lt
 by_cases c : t < k * 2
 ·rw [if_neg (by omega)]
  congr 2
  have := h.low (t / 2) (by omega)
  rw [getElem!_def, getElem!_def]
  have e : (compactUpTo d d.size ++ List.replicate (d.size - k) z23).toArray[t / 2]? = some dk[t / 2]! := by
   rw [List.getElem?_toArray, List.getElem?_append_left (by rw [h.len]; omega), this]
  rw [e, Array.getElem?_eq_getElem (by rw [h.size]; omega)]
  simp [getElem!_pos dk (t / 2) (by rw [h.size]; omega)]
 rw [if_pos ⟨by omega, by omega⟩]
 have e : (compactUpTo d d.size ++ List.replicate (d.size - k) z23).toArray[t / 2]! = z23 := by
  rw [getElem!_def, List.getElem?_toArray, List.getElem?_append_right (by rw [h.len]; omega), List.getElem?_replicate, if_pos (by rw [h.len]; omega)]
 rw [e, getElem!_def, List.getElem?_replicate, if_pos (by omega)]
 have : t % 2 = 0 ∨ t % 2 = 1 := by omega
 rcases this with q | q <;> rw [q] <;> rfl
theorem clear_run (w : World) (ty : TypeId) (g o n c : Nat) (hn : 0 < n) (F : Array Value) (hF : Holds id w g 0 F) (hb : o + n * 2 ≤ F.size) :
  (Builtin.clear_ #[28] ty #[.slice (some ⟨g, o, none⟩) n c]).run Try.prog w = .ok (.tuple #[]) (w.setCells g o (List.replicate (n * 2) (.int .i64 0))) := by
 have hzc : (Builtin.zeroCells (Value.agg #[.int .i64 0, .int .i64 0]).cells n).toList = List.replicate (n * 2) (.int .i64 0) := by
  apply List.ext_getElem
  ·simp [Builtin.zeroCells, Value.cells]
  intro i h1 h2
  simp [Builtin.zeroCells, Value.cells]
  have : i % 2 = 0 ∨ i % 2 = 1 := by omega
  rcases this with q | q <;> simp [q]
 have hst := stores_of_holds Try.prog hF o (List.replicate (n * 2) (.int .i64 0)) (by simpa using hb) (by intro v hv; rw [List.eq_of_mem_replicate hv]; rfl)
 simp only [Nat.zero_add] at hst
 obtain ⟨m, rfl⟩ : ∃ m, n = m + 1 := ⟨n - 1, by omega⟩
 simp [Builtin.clear_, run_underlying Try.underlying28, Try.zeroValue23, hzc, hst]
theorem cells_of {w : World} {g : Nat} {d : Array S23} (h : HoldsK enc23 2 w g 0 d) {i : Nat} (hi : i < d.size) : w.cell? ⟨g, i * 2, none⟩ = some (.int .i64 d[i]!.f0) ∧ w.cell? ⟨g, i * 2 + 1, none⟩ = some (.int .i64 d[i]!.f1) ∧ w.frozen? ⟨g, i * 2, none⟩ = false ∧ w.frozen? ⟨g, i * 2 + 1, none⟩ = false := by
 have h0 := h.cell hi (show 0 < 2 by omega)
 have h1 := h.cell hi (show 1 < 2 by omega)
 rw [Nat.zero_add] at h0 h1
 exact ⟨h0.1, h1.1, h0.2, h1.2⟩
theorem store_two {w wr : World} {q g : Nat} {dk : Array S23} {i : Nat} (hi : i < dk.size) (hwr : wr = putRowK enc23 2 (Go.Sort.ahead w q) g 0 dk) (u : S23) :
  ((wr.drew.setCell ⟨g, i * 2, none⟩ (.int .i64 u.f0)).setCell ⟨g, i * 2 + 1, none⟩ (.int .i64 u.f1)) = putRowK enc23 2 (Go.Sort.ahead w (q + 1)) g 0 (dk.setIfInBounds i u) := by
 subst hwr
 have e : (putRowK enc23 2 (Go.Sort.ahead w q) g 0 dk).drew = putRowK enc23 2 (Go.Sort.ahead w (q + 1)) g 0 dk := putRowK_drewN enc23 2 w q 1 g 0 dk
 rw [e]
 unfold putRowK
 have h := setCells_putRow (Go.Sort.ahead w (q + 1)) g 0 (enc23 u) (i * 2) (flatK enc23 2 dk) (by simp [enc23]; omega)
 rw [set_flat dk i u hi, Nat.zero_add] at h
 exact h
set_option maxHeartbeats 4000000 in
set_option maxRecDepth 1000000 in
theorem compact_arr (g cap : Nat) (d : Array S23) (w : World) (hH : HoldsK enc23 2 w g 0 d) (hsz : d.size ≤ 1099511627776) (hcap : d.size ≤ cap) (hm : cap ≤ 9223372036854775807) :
  Calls Try.prog 50 #[.slice (some ⟨g, 0, none⟩) d.size cap] w fun e w' => e = .returned (.slice (some ⟨g, 0, none⟩) (compactUpTo d d.size).length cap) ∧ ∃ q, w' = putRowK enc23 2 (Go.Sort.ahead w q) g 0 (compactUpTo d d.size ++ List.replicate (d.size - (compactUpTo d d.size).length) z23).toArray := by
 have heq := eq23_run
 have hne := ne23_run
 have hgd := gd23_run
 have same : ∀ q, (∀ j, j < d.size → keeps d j = true) → (compactUpTo d d.size).length = d.size ∧ w.drewN q = putRowK enc23 2 (Go.Sort.ahead w q) g 0 (compactUpTo d d.size ++ List.replicate (d.size - (compactUpTo d d.size).length) z23).toArray := by
  intro q hall
  have e : compactUpTo d d.size = d.toList := by rw [compactUpTo_all d _ hall, range_map_get]
  rw [e]
  refine ⟨by simp, ?_⟩
  simp only [Array.length_toList, Nat.sub_self, List.replicate_zero, List.append_nil, Array.toArray_toList]
  exact (putRowK_self enc23 2 (Go.Sort.ahead w q) g 0 d (holdsK_ahead enc23 2 w q g 0 d hH)).symm
 have HS := am same
 have HH := am hH
 clear same hH
 by_cases h2 : d.size < 2
 ·go_enter Try.func50, Try.ntmps50
  go_wp2
  go_ret
  obtain ⟨e1, e2⟩ := HS.out 0 (fun j hj => keeps_lt_one d j (by omega))
  exact ⟨by rw [e1]; rfl, 0, e2⟩
 go_enter Try.func50, Try.ntmps50
 go_wp2
 go_loopg [3] d.size (fun gg s3 wr => ∃ k q : Nat, 1 ≤ k ∧ k ≤ d.size ∧ d.size - k ≤ gg ∧ s3 = .int .i64 k ∧ wr = w.drewN q ∧ Aside0 (∀ j, j < k → keeps d j = true))
 case atStart => exact ⟨1, 0, Nat.le_refl _, by omega, by omega, rfl, rfl, ⟨keeps_lt_one d⟩⟩
 case round =>
  obtain ⟨k, q, hk1, hk, hgg, rfl, rfl, A⟩ := hrel
  by_cases hlt : k < d.size
  rotate_left
  ·have hkd : k = d.size := by omega
   go_wp2
   go_ret
   obtain ⟨e1, e2⟩ := HS.out q (fun j hj => A.out j (by omega))
   exact ⟨by rw [e1]; rfl, q, e2⟩
  obtain ⟨c1, c1', _, _⟩ := cells_of HH.out hlt
  obtain ⟨c0, c0', _, _⟩ := cells_of HH.out (show k - 1 < d.size by omega)
  obtain ⟨x, hx⟩ : ∃ x, d[k]! = x := ⟨_, rfl⟩
  obtain ⟨y, hy⟩ : ∃ y, d[k - 1]! = y := ⟨_, rfl⟩
  rw [hx] at c1 c1'
  rw [hy] at c0 c0'
  have B := am (And.intro hx hy)
  clear hx hy
  by_cases hdup : x = y
  rotate_left
  ·have hd : decide (x.f0 = y.f0 ∧ x.f1 = y.f1) = false := decide_eq_false (fun e => hdup (by cases x; cases y; simp at e; obtain ⟨rfl, rfl⟩ := e; rfl))
   have HD := am hdup
   clear hdup
   go_wp2_with fail
   go_region
   go_wp2
   go_roundg (d.size - (k + 1))
   case measure => omega
   case rel =>
    refine ⟨k + 1, q + 1, by omega, by omega, Nat.le_refl _, by go_num, rfl, ⟨fun j hj => ?_⟩⟩
    by_cases e : j = k
    ·subst e
     exact keeps_pos (by rw [B.out.1, B.out.2]; exact HD.out)
    exact A.out j (by omega)
  subst hdup
  go_wp2_with fail
  go_region
  go_wp2
  clear c0 c1 c0' c1'
  go_loopg [3, 5] d.size (fun gg s3 s5 wr => ∃ (kk k2 q2 : Nat) (dk : Array S23), s3 = .int .i64 kk ∧ s5 = .int .i64 k2 ∧ 1 ≤ k2 ∧ k + k2 ≤ d.size ∧ d.size - (k + k2) ≤ gg ∧ Aside0 (wr = putRowK enc23 2 (Go.Sort.ahead w q2) g 0 dk) ∧ Aside0 (CompInv d (k + k2) kk dk))
  case atStart => exact ⟨k, 1, q + 1, d, rfl, rfl, Nat.le_refl _, by omega, by omega, ⟨(putRowK_self enc23 2 (Go.Sort.ahead w (q + 1)) g 0 d (holdsK_ahead enc23 2 w (q + 1) g 0 d HH.out)).symm⟩, ⟨CompInv.start A.out (keeps_neg (by omega) (by rw [B.out.1, B.out.2]))⟩⟩
  case round =>
   obtain ⟨kk, k2, q2, dk, rfl, rfl, h1, hle, hg2, W2, I2⟩ := hrel
   have hkk := I2.out.lt
   have hds := I2.out.size
   have hHk : HoldsK enc23 2 wr g 0 dk := by rw [W2.out]; exact holdsK_putRowK enc23 2 _ g 0 d dk (holdsK_ahead enc23 2 w q2 g 0 d HH.out) hds
   by_cases hlt2 : k + k2 < d.size
   rotate_left
   ·have hend : k + k2 = d.size := by omega
    have hcl : ∀ ty, (Builtin.clear_ #[28] ty #[.slice (some ⟨g, kk * 2, none⟩) (d.size - kk) (cap - kk)]).run Try.prog wr = .ok (.tuple #[]) (wr.setCells g (kk * 2) (List.replicate ((d.size - kk) * 2) (.int .i64 0))) :=
     fun ty => clear_run wr ty g (kk * 2) (d.size - kk) (cap - kk) (by omega) (flatK enc23 2 dk) hHk (by simp; omega)
    clear hHk
    go_wp2
    go_ret
    have hI := I2.out
    rw [hend] at hI
    refine ⟨by rw [hI.len]; rfl, q2, ?_⟩
    rw [hI.len, W2.out]
    unfold putRowK
    have h := setCells_putRow (Go.Sort.ahead w q2) g 0 (List.replicate ((d.size - kk) * 2) (.int .i64 0)) (kk * 2) (flatK enc23 2 dk) (by simp; omega)
    rw [clear_flat d dk kk hI, Nat.zero_add] at h
    exact h
   obtain ⟨cm, cm', _, _⟩ := cells_of hHk (show k + k2 < dk.size by omega)
   obtain ⟨cp, cp', _, _⟩ := cells_of hHk (show k + k2 - 1 < dk.size by omega)
   obtain ⟨ck, ck', fk, fk'⟩ := cells_of hHk (show kk < dk.size by omega)
   rw [I2.out.high (k + k2) (by omega), show (k + k2) * 2 = k * 2 + k2 * 2 by omega] at cm cm'
   rw [I2.out.high (k + k2 - 1) (by omega), show (k + k2 - 1) * 2 = k * 2 + (k2 - 1) * 2 by omega] at cp cp'
   clear hHk
   obtain ⟨u, hu⟩ : ∃ u, d[k + k2]! = u := ⟨_, rfl⟩
   obtain ⟨v, hv⟩ : ∃ v, d[k + k2 - 1]! = v := ⟨_, rfl⟩
   obtain ⟨old, hold⟩ : ∃ old, dk[kk]! = old := ⟨_, rfl⟩
   rw [hu] at cm cm'
   rw [hv] at cp cp'
   rw [hold] at ck ck'
   have C := am (And.intro hu hv)
   clear hu hv hold
   by_cases huv : u = v
   ·subst huv
    go_wp2_with fail
    go_region
    go_wp2
    go_roundg (d.size - (k + (k2 + 1)))
    case measure => omega
    case rel => exact ⟨kk, k2 + 1, q2 + 1, dk, rfl, by go_num, by omega, by omega, Nat.le_refl _, ⟨by rw [W2.out]; exact putRowK_drewN enc23 2 w q2 1 g 0 dk⟩, ⟨I2.out.skip (keeps_neg (by omega) (by rw [C.out.1, C.out.2]))⟩⟩
   have hd : decide (u.f0 = v.f0 ∧ u.f1 = v.f1) = false := decide_eq_false (fun e => huv (by cases u; cases v; simp at e; obtain ⟨rfl, rfl⟩ := e; rfl))
   have HUV := am huv
   clear huv
   go_wp2_with fail
   go_region
   go_wp2
   go_roundg (d.size - (k + (k2 + 1)))
   case measure => omega
   case rel => exact ⟨kk + 1, k2 + 1, q2 + 1, dk.setIfInBounds kk u, by go_num, by go_num, by omega, by omega, Nat.le_refl _, ⟨store_two (by omega) W2.out u⟩, ⟨by have := I2.out.keep hlt2 (keeps_pos (by rw [C.out.1, C.out.2]; exact HUV.out)); rwa [C.out.1] at this⟩⟩
theorem compact_nil (A : Option Addr) (c : Nat) (w : World) : Calls Try.prog 50 #[.slice A 0 c] w fun e w' => e = .returned (.slice A 0 c) ∧ w' = w := by
 go_enter Try.func50, Try.ntmps50
 go_wp2
 go_ret
 exact ⟨rfl, rfl⟩
end
theorem compactUpTo_length (l : List S23) : (Lib.compactUpTo l.toArray l.length).length ≤ l.length := by
 unfold Lib.compactUpTo
 rw [List.length_map]
 exact Nat.le_trans (List.length_filter_le _ _) (by simp)
def api_Point_50.f (l0 : List S23) : Option (List S23) := if l0.length < 1099511627776 then some (Lib.compactUpTo l0.toArray l0.length) else none
set_option maxHeartbeats 1000000 in
set_option maxRecDepth 100000 in
theorem api_Point_50.calls (P0_ : Nat → Prop) (u9000_ : Value) (l0 : List S23) (r : List S23) (w0 w : World) (hB : Below w0.heap.size w0 w) (ho0 : Kd.R k23 23 w w0.heap.size P0_ u9000_ l0) (h : api_Point_50.f l0 = some r) :
  Calls Try.prog 50 #[u9000_] w fun e w' => ∃ v0_ : Value, e = .returned v0_ ∧ Kd.R k23 23 w' w0.heap.size (fun k_ => (P0_ k_ ∨ w.heap.size ≤ k_)) v0_ r ∧ Below w0.heap.size w0 w' ∧ Kept w w' (fun k_ => P0_ k_) := by
 unfold api_Point_50.f at h
 split at h
 case isFalse => exact absurd h (by simp)
 case isTrue hl =>
 obtain rfl := Option.some.inj h
 clear h
 rcases List.eq_nil_or_concat l0 with rfl | ⟨l', x', hx⟩
 ·obtain ⟨A1, c1, rfl⟩ := Kd.R_slice ho0
  refine Calls.mono (compact_nil A1 c1 w) ?_
  rintro e w' ⟨rfl, rfl⟩
  exact ⟨_, rfl, Kd.R_mono ho0 (fun _ hk => .inl hk), hB, Kept.refl _ _⟩
 ·have hne : l0 ≠ [] := by rw [hx]; simp
  obtain ⟨g, cap, rfl, hH, hg, hbg, hP⟩ := Go.Proofs.Ytcembjgpcbodcaa.SortRow.holds_of_R flat23 ho0 hne
  have hcap : l0.length ≤ cap ∧ cap ≤ 9223372036854775807 := by
   obtain ⟨_, inner, ho, _⟩ := ho0
   rcases ho.2 with ⟨e, _⟩ | ⟨g', cap', cur, e, _, _, q1, q2, _⟩
   ·cases e
   cases e; exact ⟨q1, by unfold maxLen at q2; omega⟩
  have hcon := compact_arr g cap l0.toArray w hH (by simp; omega) (by simpa using hcap.1) hcap.2
  refine Calls.mono hcon ?_
  rintro e w' ⟨rfl, q, rfl⟩
  have hle := compactUpTo_length l0
  have e1 : l0.toArray.size = l0.length := by simp
  rw [e1] at *
  have hlen : (Lib.compactUpTo l0.toArray l0.length ++ List.replicate (l0.length - (Lib.compactUpTo l0.toArray l0.length).length) z23).length = l0.length := by
   rw [List.length_append, List.length_replicate]; omega
  have hR := Go.Proofs.Ytcembjgpcbodcaa.SortRow.R_of_sorted flat23 (by decide) ho0 rfl hlen hne q #[]
  have ew : Go.Proofs.sortWorldK enc23 k23.sz w g 0 q (Lib.compactUpTo l0.toArray l0.length ++ List.replicate (l0.length - (Lib.compactUpTo l0.toArray l0.length).length) z23).toArray #[] = Go.Sort.putRowK enc23 2 (Go.Sort.ahead w q) g 0 (Lib.compactUpTo l0.toArray l0.length ++ List.replicate (l0.length - (Lib.compactUpTo l0.toArray l0.length).length) z23).toArray := by
   unfold Go.Proofs.sortWorldK
   exact Go.Sort.grow_empty _
  have hb := Go.Proofs.Ytcembjgpcbodcaa.SortRow.below_sorted (d := k23) (enc := enc23) hB g q (Lib.compactUpTo l0.toArray l0.length ++ List.replicate (l0.length - (Lib.compactUpTo l0.toArray l0.length).length) z23).toArray #[] hbg
  have hk := Go.Proofs.Ytcembjgpcbodcaa.SortRow.kept_sorted (d := k23) (enc := enc23) w g q (Lib.compactUpTo l0.toArray l0.length ++ List.replicate (l0.length - (Lib.compactUpTo l0.toArray l0.length).length) z23).toArray #[] P0_ hP
  rw [ew] at hR hb hk
  have hT := Kd.R_take (m := (Lib.compactUpTo l0.toArray l0.length).length) hR (by rw [hlen]; exact hle)
  rw [List.take_left] at hT
  exact ⟨_, rfl, Kd.R_mono hT (fun _ hk => .inl hk), hb, hk⟩

end Go.Proofs.Ytcembjgpcbodcaa.QA
