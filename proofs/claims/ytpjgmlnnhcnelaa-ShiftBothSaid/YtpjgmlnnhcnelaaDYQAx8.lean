import Derived.Test.YtpjgmlnnhcnelaaDYQAx0
import Derived.Test.YtpjgmlnnhcnelaaDYQAx3
import Derived.Test.YtpjgmlnnhcnelaaDYQAx4
import Derived.Test.YtpjgmlnnhcnelaaDYQAx5
import Derived.Test.YtpjgmlnnhcnelaaDYQAx6
import Derived.Test.YtpjgmlnnhcnelaaDYQAx7
namespace Go.Proofs.Ytpjgmlnnhcnelaa.QA
open Go.RowKit Go.Proofs.YtpjgmlnnhcnelaaW.PrintWords Go.Proofs.YtpjgmlnnhcnelaaW.PrintLast Go.Proofs.YtpjgmlnnhcnelaaW.PrintMore
open Go.Proofs.YtpjgmlnnhcnelaaW.PrintWords renaming blk_frozen → bf, blk_cell → bc, blk_below → bb, gate_callee → gc
open Aside0 renaming mk → am
attribute [local go_sem] max2_int min2_int max_two min_two max_three min_three max_four min_four
set_option linter.unusedVariables false
set_option linter.unusedSimpArgs false

section
open Go.Proofs.Ytpjgmlnnhcnelaa.Iter Go.Proofs.YtpjgmlnnhcnelaaW.PrintMore
attribute [local go_sem] max2_int min2_int max_two min_two Oper.semAt_some
set_option linter.unusedVariables false
set_option linter.unusedSimpArgs false
def wholeF (need : Int) : Int → Int → List (Int × Int) → Int × Int
 | _, _, [] => (0, 9)
 | b, e, x :: l => if wrap64 (x.2 - (if x.1 = e then b else x.1)) ≥ need then ((if x.1 = e then b else x.1), 0) else wholeF need (if x.1 = e then b else x.1) x.2 l
def shift_Whole.f (k : Nat) (l0_0 : List S54) (l0_1 : List Int) (a1 a2 : Int) : Option (Int × Int) :=
 (shift_minutes.f k l0_0 l0_1 [a1, a2]).bind fun e => if e = 0 then (if okB l0_0 l0_1 = true ∧ 0 ≤ a1 ∧ a1 ≤ 14400000 then some (wholeF (mx a2 1) a1 a1 (rngL l0_0 l0_1 a1)) else none) else some (0, e)
def WUpto (nd a1 : Int) (pre : List (Int × Int)) (b e : Int) : Prop := ∀ rest, wholeF nd a1 a1 (pre ++ rest) = wholeF nd b e rest
def WStop (nd a1 : Int) (pre : List (Int × Int)) (b : Int) : Prop := ∀ rest, wholeF nd a1 a1 (pre ++ rest) = (b, 0)
theorem WUpto.next {nd a1 : Int} {pre : List (Int × Int)} {b e : Int} {x : Int × Int} (h : WUpto nd a1 pre b e) {c : Int} (hc : (if x.1 = e then b else x.1) = c) (hx : ¬ wrap64 (x.2 - c) ≥ nd) : WUpto nd a1 (pre ++ [x]) c x.2 := by
 intro rest
 rw [List.append_assoc, h]
 show wholeF nd b e (x :: rest) = _
 rw [wholeF, hc, if_neg hx]
theorem WUpto.stop {nd a1 : Int} {pre : List (Int × Int)} {b e : Int} {x : Int × Int} (h : WUpto nd a1 pre b e) {c : Int} (hc : (if x.1 = e then b else x.1) = c) (hx : wrap64 (x.2 - c) ≥ nd) : WStop nd a1 (pre ++ [x]) c := by
 intro rest
 rw [List.append_assoc, h]
 show wholeF nd b e (x :: rest) = _
 rw [wholeF, hc, if_pos hx]
set_option maxRecDepth 100000 in
set_option maxHeartbeats 4000000 in
theorem shift_Whole.calls (k : Nat) (A0_0 : Option Addr) (c0_0 : Nat) (l0_0 : List S54) (A0_1 : Option Addr) (c0_1 : Nat) (l0_1 : List Int) (a1 a2 : Int) (r1 r2 : Int) (w : World) (hr0_0 : Kd.C k54 w A0_0 l0_0.length l0_0) (hc0_0 : l0_0.length ≤ c0_0) (hr0_1 : Kd.C (Kd.int .i64) w A0_1 l0_1.length l0_1) (hc0_1 : l0_1.length ≤ c0_1) (h : shift_Whole.f k l0_0 l0_1 a1 a2 = some (r1, r2)) :
  Calls Try.prog 22 #[.agg #[.slice A0_0 l0_0.length c0_0, .slice A0_1 l0_1.length c0_1], .int .i64 a1, .int .i64 a2] w fun e w' => e = .returned (.tuple #[.int .i64 r1, .int .i64 r2]) ∧ Below w.heap.size w w' := by
 have hu31 := Try.underlying31
 obtain ⟨e, h1, h2⟩ := Option.bind_eq_some_iff.1 h
 have HR0 := am hr0_0
 have HR1 := am hr0_1
 have HM := am h1
 clear hr0_0 hr0_1 h1 h
 refine callsIn_wide.1 (callsIn_of_wp_marks (n := 9) Try.func22 rfl trivial ?_ rfl)
 simp only [Try.ntmps22, List.size_toArray, List.length_cons, List.length_nil, Nat.reduceAdd, Nat.reduceSub, Array.replicate_succ, Array.replicate_zero, List.push_toArray, List.append_toArray, List.nil_append, List.cons_append]
 obtain ⟨Wn, hWn⟩ : ∃ Wn, Wn = ((((w.alloc (Obj.cells #[Value.slice A0_0 l0_0.length c0_0, Value.slice A0_1 l0_1.length c0_1] 31)).alloc (Obj.cells #[Value.int IntKind.i64 0] 3)).alloc (Obj.cells #[Value.int IntKind.i64 0] 28)).alloc (Obj.cells #[Value.int IntKind.i64 a1, Value.int IntKind.i64 a2] 3)) := ⟨_, rfl⟩
 have hWa : Wn = allocs w [Obj.cells #[Value.slice A0_0 l0_0.length c0_0, Value.slice A0_1 l0_1.length c0_1] 31, Obj.cells #[Value.int IntKind.i64 0] 3, Obj.cells #[Value.int IntKind.i64 0] 28, Obj.cells #[Value.int IntKind.i64 a1, Value.int IntKind.i64 a2] 3] := hWn
 have hbn : Below w.heap.size w Wn := by rw [hWa]; exact allocs_below _ _
 have szn : Wn.heap.size = w.heap.size + 4 := by rw [hWa]; exact allocs_size _ _
 have hz2 : Wn.heap[w.heap.size]? = some (.cells #[.slice A0_0 l0_0.length c0_0, .slice A0_1 l0_1.length c0_1] 31 (0, 0)) := by rw [hWa]; exact allocs_get w _ 0 _ rfl
 have hz4 : Wn.heap[w.heap.size + 1]? = some (.cells #[.int .i64 0] 3 (0, 0)) := by rw [hWa]; exact allocs_get w _ 1 _ rfl
 have hz5 : Wn.heap[w.heap.size + 1 + 1]? = some (.cells #[.int .i64 0] 28 (0, 0)) := by rw [hWa]; exact allocs_get w _ 2 _ rfl
 have hg : Wn.heap[w.heap.size + 1 + 1 + 1]? = some (.cells #[.int .i64 a1, .int .i64 a2] 3 (0, 0)) := by rw [hWa]; exact allocs_get w _ 3 _ rfl
 have hcon := (callsIn_wide (n := 8)).2 (shift_minutes.calls k A0_0 c0_0 l0_0 A0_1 c0_1 l0_1 (some ⟨w.heap.size + 1 + 1 + 1, 0, none⟩) 2 [a1, a2] e Wn (Kd.C_below HR0.out hbn) hc0_0 (Kd.C_below HR1.out hbn) hc0_1 (ints_C .i64 [a1, a2] hg rfl (by simp)) (by simp) HM.out)
 have HC := am hcon
 have HBN := am hbn
 have Z2 := am hz2
 have Z4 := am hz4
 have Z5 := am hz5
 have SZ := am szn
 clear hcon hbn hg hz2 hz4 hz5 szn hWa
 by_cases he : e = 0
 rotate_left
 ·rw [if_neg he] at h2
  have he1 : (e == 0) = false := beq_eq_false_iff_ne.2 he
  have he2 : (e != 0) = true := bne_iff_ne.2 he
  have HE := am he
  clear he
  gi_wp2_with (refine ⟨trivial, ?_⟩; gi_at_call 35; rw [← hWn]; refine HC.out.mono ?_; rintro e' w' ⟨rfl, hb⟩; have q4 := (bc (bb Z4.out hb) 0).trans rfl; have q5 := (bc (bb Z5.out hb) 0).trans rfl; have f4 := bf (bb Z4.out hb) 0; have f5 := bf (bb Z5.out hb) 0; have HB := am hb; clear hb)
  obtain ⟨c1, c2⟩ := put_two (x := .int .i64 0) (y := .int .i64 e) (by omega : w.heap.size + 1 ≠ w.heap.size + 1 + 1) q4 q5
  obtain ⟨rfl, rfl⟩ : r1 = 0 ∧ r2 = e := by
   have := Option.some.inj h2
   simp only [Prod.mk.injEq] at this
   exact ⟨this.1.symm, this.2.symm⟩
  refine ⟨_, two_cells (fn := Try.f22) rfl rfl rfl c1 c2, rfl, ?_⟩
  have hb1 : Below w.heap.size w w' := HBN.out.trans (HB.out.mono HBN.out.size)
  exact (hb1.setCell (p := ⟨w.heap.size + 1, 0, none⟩) (by simp) _).setCell (p := ⟨w.heap.size + 1 + 1, 0, none⟩) (by simp; omega) _
 subst he
 rw [if_pos rfl] at h2
 split at h2
 case isFalse => exact absurd h2 (by simp)
 case isTrue hok =>
 obtain ⟨hok, ha0, ha1⟩ := hok
 obtain ⟨o1, o2, o3, o4⟩ := okB_is hok
 have h2' := Option.some.inj h2
 have HN := am h2'
 have HV := am o3
 clear h2 h2' o3 hok
 by_cases hm : a2 < 1
 ·have hmx : mx a2 1 = 1 := by unfold mx; split <;> omega
  rw [hmx] at HN
  have hm1 : decide (a2 < 1) = true := decide_eq_true hm
  have hm2 : ¬ 1 ≤ a2 := by omega
  clear hmx
  gi_wp2_with (first | (refine ⟨trivial, ?_⟩; gi_at_call 35; rw [← hWn]; refine HC.out.mono ?_; rintro e' w' ⟨rfl, hb⟩; have q2 := cell_kept ((bc (bb Z2.out hb) 0).trans rfl) (grown_of_below (allocs_below w' [.cells #[.int .i64 1] 3, .cells #[.int .i64 a1] 3, .cells #[.int .i64 a1] 3])) (fun r e => by cases e); have q3 := cell_kept ((bc (bb Z2.out hb) 1).trans rfl) (grown_of_below (allocs_below w' [.cells #[.int .i64 1] 3, .cells #[.int .i64 a1] 3, .cells #[.int .i64 a1] 3])) (fun r e => by cases e); simp only [allocs, List.foldl_cons, List.foldl_nil] at q2 q3; have HB := am hb; clear hb) | (refine ⟨trivial, ?_⟩; gi_at_call 36; refine ((callsIn_wide (n := 8)).2 (ranges_calls _ _ _ _ _ _ _ _)).mono ?_; rintro e' w2 ⟨rfl, rfl⟩))
  have sW : w.heap.size + 4 ≤ w'.heap.size := by have := HB.out.size; have := SZ.out; omega
  have hb1 : Below w.heap.size w w' := HBN.out.trans (HB.out.mono HBN.out.size)
  obtain ⟨Wr, hWr⟩ : ∃ Wr, Wr = (((((w'.alloc (.cells #[.int .i64 1] 3)).alloc (.cells #[.int .i64 a1] 3)).alloc (.cells #[.int .i64 a1] 3)).alloc (.cells #[.slice A0_0 l0_0.length c0_0, .slice A0_1 l0_1.length c0_1] 31)).alloc (.cells #[.int .i64 a1] 3)) := ⟨_, rfl⟩
  have hWra : Wr = allocs w' [.cells #[.int .i64 1] 3, .cells #[.int .i64 a1] 3, .cells #[.int .i64 a1] 3, .cells #[.slice A0_0 l0_0.length c0_0, .slice A0_1 l0_1.length c0_1] 31, .cells #[.int .i64 a1] 3] := hWr
  have szr : Wr.heap.size = w'.heap.size + 5 := by rw [hWra]; exact allocs_size _ _
  have br : Below w'.heap.size w' Wr := by rw [hWra]; exact allocs_below _ _
  have k0 : Wr.heap[w'.heap.size]? = some (.cells #[.int .i64 1] 3 (0, 0)) := by rw [hWra]; exact allocs_get w' _ 0 _ rfl
  have k1 : Wr.heap[w'.heap.size + 1]? = some (.cells #[.int .i64 a1] 3 (0, 0)) := by rw [hWra]; exact allocs_get w' _ 1 _ rfl
  have k2 : Wr.heap[w'.heap.size + 1 + 1]? = some (.cells #[.int .i64 a1] 3 (0, 0)) := by rw [hWra]; exact allocs_get w' _ 2 _ rfl
  have m1 : Wr.heap[w'.heap.size + 1 + 1 + 1]? = some (.cells #[.slice A0_0 l0_0.length c0_0, .slice A0_1 l0_1.length c0_1] 31 (0, 0)) := by rw [hWra]; exact allocs_get w' _ 3 _ rfl
  have m2 : Wr.heap[w'.heap.size + 1 + 1 + 1 + 1]? = some (.cells #[.int .i64 a1] 3 (0, 0)) := by rw [hWra]; exact allocs_get w' _ 4 _ rfl
  rw [← hWr]
  have r4 := bb (bb Z4.out HB.out) br
  have r5 := bb (bb Z5.out HB.out) br
  have bwr : Below w.heap.size w Wr := hb1.trans (br.mono hb1.size)
  have keep : ∀ {A B' : World} {row : Option Nat}, A.grownBy B' row → (∀ r, row = some r → Wr.heap.size ≤ r ∧ ∃ o : Obj, A.heap[r]? = some o ∧ o.isCells = false) → ∀ {q : Nat} {o : Obj}, q < Wr.heap.size → A.heap[q]? = some o → B'.heap[q]? = some o :=
   fun {A B' row} hg hr {q o} hq ho => ownFrom_rec (β := Unit) (B := Wr.heap.size) (k := q) (by omega) o () A B' row ho hg hr
  clear q2 q3 hWra
  refine range_O (by omega) rfl rfl (enters_of Try.func50 (by kernel_rfl) rfl)
   (ranges50 w w.heap.size (w'.heap.size + 1 + 1 + 1) (Nat.le_refl _) (by omega) A0_0 A0_1 c0_0 c0_1 l0_0 l0_1 a1 HR0.out hc0_0 HR1.out hc0_1 (by omega) o4 (by omega) HV.out ha0 ha1 (w'.heap.size + 1 + 1 + 1) (w'.heap.size + 1 + 1 + 1 + 1) (.inr (Nat.le_refl _)) (.inr (by omega)) Wr (by omega) m1 m2 bwr) (by omega) (fun _ => rfl)
   (fun pre W' => ∃ b e, WUpto 1 a1 pre b e ∧ W'.heap[w.heap.size + 1]? = some (.cells #[.int .i64 0] 3 (0, 0)) ∧ W'.heap[w.heap.size + 1 + 1]? = some (.cells #[.int .i64 0] 28 (0, 0)) ∧ W'.heap[w'.heap.size]? = some (.cells #[.int .i64 1] 3 (0, 0)) ∧ W'.heap[w'.heap.size + 1]? = some (.cells #[.int .i64 b] 3 (0, 0)) ∧ W'.heap[w'.heap.size + 1 + 1]? = some (.cells #[.int .i64 e] 3 (0, 0)) ∧ Below w.heap.size w W')
   (fun c pre W' => c = .ret ∧ ∃ z, WStop 1 a1 pre z ∧ W'.cell? ⟨w.heap.size + 1, 0, none⟩ = some (.int .i64 z) ∧ W'.cell? ⟨w.heap.size + 1 + 1, 0, none⟩ = some (.int .i64 0) ∧ Below w.heap.size w W')
   ?oI ?oIx ⟨a1, a1, fun _ => rfl, r4, r5, k0, k1, k2, bwr⟩ (fun x => { tmps := #[.agg #[.slice A0_0 l0_0.length c0_0, .slice A0_1 l0_1.length c0_1], .int .i64 a1, .int .i64 a2, .pointer (some ⟨w.heap.size, 0, none⟩), undef, undef, .pointer (some ⟨w.heap.size + 1, 0, none⟩), .pointer (some ⟨w.heap.size + 1 + 1, 0, none⟩), .int .i64 0, .pointer (some ⟨w'.heap.size, 0, none⟩), .pointer (some ⟨w'.heap.size + 1, 0, none⟩), .pointer (some ⟨w'.heap.size + 1 + 1, 0, none⟩), .int .i64 x.1, .int .i64 x.2, .agg #[.slice A0_0 l0_0.length c0_0, .slice A0_1 l0_1.length c0_1], .int .i64 a1, .int .i64 a2, .slice (some ⟨w.heap.size + 1 + 1 + 1, 0, none⟩) 2 2, .int .i64 0, .int .i64 0, .bool false, undef, .int .i64 a2, .int .i64 1, .int .i64 a1, .int .i64 a1, .agg #[.slice A0_0 l0_0.length c0_0, .slice A0_1 l0_1.length c0_1], .int .i64 a1, .func (.func 50) #[] #[.pointer (some ⟨w'.heap.size + 1 + 1 + 1 + 1, 0, none⟩), .pointer (some ⟨w'.heap.size + 1 + 1 + 1, 0, none⟩)], .int .i64 x.1, .int .i64 x.2, undef, undef, undef, undef, undef, undef, undef, undef, undef, undef, undef], defers := [] }) ?assign ?body ?done ?stop
  case oI =>
   intro s A B' row hs hg hr
   obtain ⟨b, e, g0, g1, g2, g3, g4, g5, g6⟩ := hs
   exact ⟨b, e, g0, keep hg hr (by omega) g1, keep hg hr (by omega) g2, keep hg hr (by omega) g3, keep hg hr (by omega) g4, keep hg hr (by omega) g5, ownFrom_below (Nat.le_refl _) (by omega) s A B' row g6 hg hr⟩
  case oIx =>
   intro c s A B' row hs hg hr
   obtain ⟨g0, z, g1, g2, g3, g4⟩ := hs
   exact ⟨g0, z, g1, cell_kept g2 hg (fun r e => (hr r e).2), cell_kept g3 hg (fun r e => (hr r e).2), ownFrom_below (Nat.le_refl _) (by omega) s A B' row g4 hg hr⟩
  case assign =>
   intro l' x W' K hK
   simp only [enc2]
   gi_wp2
   exact hK
  case body =>
   rintro l' pre x W' hl' hrec ⟨b, e, g0, g1, g2, g3, g4, g5, g6⟩ hpx
   have q6 := (bc g1 0).trans rfl
   have q7 := (bc g2 0).trans rfl
   have q9 := (bc g3 0).trans rfl
   have q10 := (bc g4 0).trans rfl
   have q11 := (bc g5 0).trans rfl
   have f6 := bf g1 0
   have f7 := bf g2 0
   have f10 := bf g4 0
   have f11 := bf g5 0
   by_cases hb : x.1 = e
   ·have t0 : (x.1 != e) = false := bne_eq_false_iff_eq.2 hb
    have t00 : (x.1 == e) = true := beq_iff_eq.2 hb
    have HBB := am hb
    by_cases hcut : True
    rotate_left
    ·exact absurd trivial hcut
    by_cases hx : wrap64 (x.2 - b) ≥ 1
    ·have t1 : decide (1 ≤ wrap64 (x.2 - b)) = true := decide_eq_true hx
     have hs := g0.stop (x := x) (c := b) (if_pos hb) hx
     have HS := am hs
     clear hs
     gi_wp2
     refine ⟨?_, rfl, _, HS.out, ?_, ?_, ?_⟩
     ·exact ((Whole.set (by omega) _).trans (Whole.set (by omega) _)).trans (Whole.set (by omega) _)
     ·simp [go_sem, q6, q7, q10, q11]
     ·simp [go_sem, q6, q7, q10, q11]
     exact (((g6).setCell (p := ⟨w'.heap.size + 1 + 1, 0, none⟩) (by simp <;> omega) _).setCell (p := ⟨w.heap.size + 1, 0, none⟩) (by simp <;> omega) _).setCell (p := ⟨w.heap.size + 1 + 1, 0, none⟩) (by simp <;> omega) _
    have t1 : decide (1 ≤ wrap64 (x.2 - b)) = false := decide_eq_false hx
    have hu := g0.next (x := x) (c := b) (if_pos hb) hx
    have HU := am hu
    clear hu
    gi_wp2
    refine ⟨?_, ⟨?_, ?_⟩, _, _, HU.out, ?_, ?_, ?_, ?_, ?_, ?_⟩
    ·exact Whole.set (by omega) _
    ·exact (Below.refl _ W').setCell (p := ⟨w'.heap.size + 1 + 1, 0, none⟩) (by simp <;> omega) _
    ·exact fun q o hq ho hc => set_other (by omega) ho
    ·exact set_other (by omega) g1
    ·exact set_other (by omega) g2
    ·exact set_other (by omega) g3
    ·exact set_other (by omega) g4
    ·exact set_same g5
    exact (g6).setCell (p := ⟨w'.heap.size + 1 + 1, 0, none⟩) (by simp <;> omega) _
   have t0 : (x.1 != e) = true := bne_iff_ne.2 hb
   have t00 : (x.1 == e) = false := beq_eq_false_iff_ne.2 hb
   by_cases hcut : True
   rotate_left
   ·exact absurd trivial hcut
   by_cases hx : wrap64 (x.2 - x.1) ≥ 1
   ·have t1 : decide (1 ≤ wrap64 (x.2 - x.1)) = true := decide_eq_true hx
    have hs := g0.stop (x := x) (c := x.1) (if_neg hb) hx
    have HS := am hs
    clear hs
    gi_wp2
    refine ⟨?_, rfl, _, HS.out, ?_, ?_, ?_⟩
    ·exact (((Whole.set (by omega) _).trans (Whole.set (by omega) _)).trans (Whole.set (by omega) _)).trans (Whole.set (by omega) _)
    ·simp [go_sem, q6, q7, q10, q11]
    ·simp [go_sem, q6, q7, q10, q11]
    exact ((((g6).setCell (p := ⟨w'.heap.size + 1, 0, none⟩) (by simp <;> omega) _).setCell (p := ⟨w'.heap.size + 1 + 1, 0, none⟩) (by simp <;> omega) _).setCell (p := ⟨w.heap.size + 1, 0, none⟩) (by simp <;> omega) _).setCell (p := ⟨w.heap.size + 1 + 1, 0, none⟩) (by simp <;> omega) _
   have t1 : decide (1 ≤ wrap64 (x.2 - x.1)) = false := decide_eq_false hx
   have hu := g0.next (x := x) (c := x.1) (if_neg hb) hx
   have HU := am hu
   clear hu
   gi_wp2
   refine ⟨?_, ⟨?_, ?_⟩, _, _, HU.out, ?_, ?_, ?_, ?_, ?_, ?_⟩
   ·exact (Whole.set (by omega) _).trans (Whole.set (by omega) _)
   ·exact ((Below.refl _ W').setCell (p := ⟨w'.heap.size + 1, 0, none⟩) (by simp <;> omega) _).setCell (p := ⟨w'.heap.size + 1 + 1, 0, none⟩) (by simp <;> omega) _
   ·exact fun q o hq ho hc => set_other (by omega) (set_other (by omega) ho)
   ·exact set_other (by omega) (set_other (by omega) g1)
   ·exact set_other (by omega) (set_other (by omega) g2)
   ·exact set_other (by omega) (set_other (by omega) g3)
   ·exact set_other (by omega) (set_same g4)
   ·exact set_same (set_other (by omega) g5)
   exact ((g6).setCell (p := ⟨w'.heap.size + 1, 0, none⟩) (by simp <;> omega) _).setCell (p := ⟨w'.heap.size + 1 + 1, 0, none⟩) (by simp <;> omega) _
  case done =>
   rintro D W' hD ⟨b, e, g0, g1, g2, g3, g4, g5, g6⟩ hDd
   have q4 := (bc g1 0).trans rfl
   have q5 := (bc g2 0).trans rfl
   have f4 := bf g1 0
   have f5 := bf g2 0
   gi_wp2
   obtain ⟨c1, c2⟩ := put_two (x := .int .i64 0) (y := .int .i64 9) (by omega : w.heap.size + 1 ≠ w.heap.size + 1 + 1) q4 q5
   have hn := HN.out
   have hz := g0 []
   rw [List.append_nil] at hz
   obtain ⟨rfl, rfl⟩ : r1 = 0 ∧ r2 = 9 := by
    rw [hz] at hn
    simp only [wholeF, Prod.mk.injEq] at hn
    exact ⟨hn.1.symm, hn.2.symm⟩
   have hd2 := set_other (u := .int .i64 9) (g := w.heap.size + 1 + 1) (by omega) (set_other (u := .int .i64 0) (g := w.heap.size + 1) (by omega) hDd)
   refine leave_two (fn := Try.f22) rfl rfl rfl c1 c2 hd2 ⟨rfl, ?_⟩
   exact ((g6.setCell (p := ⟨w.heap.size + 1, 0, none⟩) (by simp) _).setCell (p := ⟨w.heap.size + 1 + 1, 0, none⟩) (by simp; omega) _).trans (belowK_b (w := w) (Nat.le_refl _) _ D _ _ (by omega) hd2 rfl rfl)
  case stop =>
   rintro D c pre W' hD hp ⟨rfl, z, g1, g2, g3, g4⟩ hDd
   gi_wp2
   have hn := HN.out
   obtain ⟨l, hl⟩ := hp
   have hz := g1 l
   rw [hl] at hz
   obtain ⟨rfl, rfl⟩ : r1 = z ∧ r2 = 0 := by
    rw [hz] at hn
    simp only [Prod.mk.injEq] at hn
    exact ⟨hn.1.symm, hn.2.symm⟩
   refine leave_two (fn := Try.f22) rfl rfl rfl g2 g3 hDd ⟨rfl, ?_⟩
   exact g4.trans (belowK_b (w := w) (Nat.le_refl _) _ D _ _ (by omega) hDd rfl rfl)
 have hmx : mx a2 1 = a2 := by unfold mx; split <;> omega
 rw [hmx] at HN
 have hm1 : decide (a2 < 1) = false := decide_eq_false hm
 have hm2 : 1 ≤ a2 := by omega
 clear hmx
 gi_wp2_with (first | (refine ⟨trivial, ?_⟩; gi_at_call 35; rw [← hWn]; refine HC.out.mono ?_; rintro e' w' ⟨rfl, hb⟩; have q2 := cell_kept ((bc (bb Z2.out hb) 0).trans rfl) (grown_of_below (allocs_below w' [.cells #[.int .i64 a2] 3, .cells #[.int .i64 a1] 3, .cells #[.int .i64 a1] 3])) (fun r e => by cases e); have q3 := cell_kept ((bc (bb Z2.out hb) 1).trans rfl) (grown_of_below (allocs_below w' [.cells #[.int .i64 a2] 3, .cells #[.int .i64 a1] 3, .cells #[.int .i64 a1] 3])) (fun r e => by cases e); simp only [allocs, List.foldl_cons, List.foldl_nil] at q2 q3; have HB := am hb; clear hb) | (refine ⟨trivial, ?_⟩; gi_at_call 36; refine ((callsIn_wide (n := 8)).2 (ranges_calls _ _ _ _ _ _ _ _)).mono ?_; rintro e' w2 ⟨rfl, rfl⟩))
 have sW : w.heap.size + 4 ≤ w'.heap.size := by have := HB.out.size; have := SZ.out; omega
 have hb1 : Below w.heap.size w w' := HBN.out.trans (HB.out.mono HBN.out.size)
 obtain ⟨Wr, hWr⟩ : ∃ Wr, Wr = (((((w'.alloc (.cells #[.int .i64 a2] 3)).alloc (.cells #[.int .i64 a1] 3)).alloc (.cells #[.int .i64 a1] 3)).alloc (.cells #[.slice A0_0 l0_0.length c0_0, .slice A0_1 l0_1.length c0_1] 31)).alloc (.cells #[.int .i64 a1] 3)) := ⟨_, rfl⟩
 have hWra : Wr = allocs w' [.cells #[.int .i64 a2] 3, .cells #[.int .i64 a1] 3, .cells #[.int .i64 a1] 3, .cells #[.slice A0_0 l0_0.length c0_0, .slice A0_1 l0_1.length c0_1] 31, .cells #[.int .i64 a1] 3] := hWr
 have szr : Wr.heap.size = w'.heap.size + 5 := by rw [hWra]; exact allocs_size _ _
 have br : Below w'.heap.size w' Wr := by rw [hWra]; exact allocs_below _ _
 have k0 : Wr.heap[w'.heap.size]? = some (.cells #[.int .i64 a2] 3 (0, 0)) := by rw [hWra]; exact allocs_get w' _ 0 _ rfl
 have k1 : Wr.heap[w'.heap.size + 1]? = some (.cells #[.int .i64 a1] 3 (0, 0)) := by rw [hWra]; exact allocs_get w' _ 1 _ rfl
 have k2 : Wr.heap[w'.heap.size + 1 + 1]? = some (.cells #[.int .i64 a1] 3 (0, 0)) := by rw [hWra]; exact allocs_get w' _ 2 _ rfl
 have m1 : Wr.heap[w'.heap.size + 1 + 1 + 1]? = some (.cells #[.slice A0_0 l0_0.length c0_0, .slice A0_1 l0_1.length c0_1] 31 (0, 0)) := by rw [hWra]; exact allocs_get w' _ 3 _ rfl
 have m2 : Wr.heap[w'.heap.size + 1 + 1 + 1 + 1]? = some (.cells #[.int .i64 a1] 3 (0, 0)) := by rw [hWra]; exact allocs_get w' _ 4 _ rfl
 rw [← hWr]
 have r4 := bb (bb Z4.out HB.out) br
 have r5 := bb (bb Z5.out HB.out) br
 have bwr : Below w.heap.size w Wr := hb1.trans (br.mono hb1.size)
 have keep : ∀ {A B' : World} {row : Option Nat}, A.grownBy B' row → (∀ r, row = some r → Wr.heap.size ≤ r ∧ ∃ o : Obj, A.heap[r]? = some o ∧ o.isCells = false) → ∀ {q : Nat} {o : Obj}, q < Wr.heap.size → A.heap[q]? = some o → B'.heap[q]? = some o :=
  fun {A B' row} hg hr {q o} hq ho => ownFrom_rec (β := Unit) (B := Wr.heap.size) (k := q) (by omega) o () A B' row ho hg hr
 clear q2 q3 hWra
 refine range_O (by omega) rfl rfl (enters_of Try.func50 (by kernel_rfl) rfl)
  (ranges50 w w.heap.size (w'.heap.size + 1 + 1 + 1) (Nat.le_refl _) (by omega) A0_0 A0_1 c0_0 c0_1 l0_0 l0_1 a1 HR0.out hc0_0 HR1.out hc0_1 (by omega) o4 (by omega) HV.out ha0 ha1 (w'.heap.size + 1 + 1 + 1) (w'.heap.size + 1 + 1 + 1 + 1) (.inr (Nat.le_refl _)) (.inr (by omega)) Wr (by omega) m1 m2 bwr) (by omega) (fun _ => rfl)
  (fun pre W' => ∃ b e, WUpto a2 a1 pre b e ∧ W'.heap[w.heap.size + 1]? = some (.cells #[.int .i64 0] 3 (0, 0)) ∧ W'.heap[w.heap.size + 1 + 1]? = some (.cells #[.int .i64 0] 28 (0, 0)) ∧ W'.heap[w'.heap.size]? = some (.cells #[.int .i64 a2] 3 (0, 0)) ∧ W'.heap[w'.heap.size + 1]? = some (.cells #[.int .i64 b] 3 (0, 0)) ∧ W'.heap[w'.heap.size + 1 + 1]? = some (.cells #[.int .i64 e] 3 (0, 0)) ∧ Below w.heap.size w W')
  (fun c pre W' => c = .ret ∧ ∃ z, WStop a2 a1 pre z ∧ W'.cell? ⟨w.heap.size + 1, 0, none⟩ = some (.int .i64 z) ∧ W'.cell? ⟨w.heap.size + 1 + 1, 0, none⟩ = some (.int .i64 0) ∧ Below w.heap.size w W')
  ?oI ?oIx ⟨a1, a1, fun _ => rfl, r4, r5, k0, k1, k2, bwr⟩ (fun x => { tmps := #[.agg #[.slice A0_0 l0_0.length c0_0, .slice A0_1 l0_1.length c0_1], .int .i64 a1, .int .i64 a2, .pointer (some ⟨w.heap.size, 0, none⟩), undef, undef, .pointer (some ⟨w.heap.size + 1, 0, none⟩), .pointer (some ⟨w.heap.size + 1 + 1, 0, none⟩), .int .i64 0, .pointer (some ⟨w'.heap.size, 0, none⟩), .pointer (some ⟨w'.heap.size + 1, 0, none⟩), .pointer (some ⟨w'.heap.size + 1 + 1, 0, none⟩), .int .i64 x.1, .int .i64 x.2, .agg #[.slice A0_0 l0_0.length c0_0, .slice A0_1 l0_1.length c0_1], .int .i64 a1, .int .i64 a2, .slice (some ⟨w.heap.size + 1 + 1 + 1, 0, none⟩) 2 2, .int .i64 0, .int .i64 0, .bool false, undef, .int .i64 a2, .int .i64 a2, .int .i64 a1, .int .i64 a1, .agg #[.slice A0_0 l0_0.length c0_0, .slice A0_1 l0_1.length c0_1], .int .i64 a1, .func (.func 50) #[] #[.pointer (some ⟨w'.heap.size + 1 + 1 + 1 + 1, 0, none⟩), .pointer (some ⟨w'.heap.size + 1 + 1 + 1, 0, none⟩)], .int .i64 x.1, .int .i64 x.2, undef, undef, undef, undef, undef, undef, undef, undef, undef, undef, undef], defers := [] }) ?assign ?body ?done ?stop
 case oI =>
  intro s A B' row hs hg hr
  obtain ⟨b, e, g0, g1, g2, g3, g4, g5, g6⟩ := hs
  exact ⟨b, e, g0, keep hg hr (by omega) g1, keep hg hr (by omega) g2, keep hg hr (by omega) g3, keep hg hr (by omega) g4, keep hg hr (by omega) g5, ownFrom_below (Nat.le_refl _) (by omega) s A B' row g6 hg hr⟩
 case oIx =>
  intro c s A B' row hs hg hr
  obtain ⟨g0, z, g1, g2, g3, g4⟩ := hs
  exact ⟨g0, z, g1, cell_kept g2 hg (fun r e => (hr r e).2), cell_kept g3 hg (fun r e => (hr r e).2), ownFrom_below (Nat.le_refl _) (by omega) s A B' row g4 hg hr⟩
 case assign =>
  intro l' x W' K hK
  simp only [enc2]
  gi_wp2
  exact hK
 case body =>
  rintro l' pre x W' hl' hrec ⟨b, e, g0, g1, g2, g3, g4, g5, g6⟩ hpx
  have q6 := (bc g1 0).trans rfl
  have q7 := (bc g2 0).trans rfl
  have q9 := (bc g3 0).trans rfl
  have q10 := (bc g4 0).trans rfl
  have q11 := (bc g5 0).trans rfl
  have f6 := bf g1 0
  have f7 := bf g2 0
  have f10 := bf g4 0
  have f11 := bf g5 0
  by_cases hb : x.1 = e
  ·have t0 : (x.1 != e) = false := bne_eq_false_iff_eq.2 hb
   have t00 : (x.1 == e) = true := beq_iff_eq.2 hb
   have HBB := am hb
   by_cases hcut : True
   rotate_left
   ·exact absurd trivial hcut
   by_cases hx : wrap64 (x.2 - b) ≥ a2
   ·have t1 : decide (a2 ≤ wrap64 (x.2 - b)) = true := decide_eq_true hx
    have hs := g0.stop (x := x) (c := b) (if_pos hb) hx
    have HS := am hs
    clear hs
    gi_wp2
    refine ⟨?_, rfl, _, HS.out, ?_, ?_, ?_⟩
    ·exact ((Whole.set (by omega) _).trans (Whole.set (by omega) _)).trans (Whole.set (by omega) _)
    ·simp [go_sem, q6, q7, q10, q11]
    ·simp [go_sem, q6, q7, q10, q11]
    exact (((g6).setCell (p := ⟨w'.heap.size + 1 + 1, 0, none⟩) (by simp <;> omega) _).setCell (p := ⟨w.heap.size + 1, 0, none⟩) (by simp <;> omega) _).setCell (p := ⟨w.heap.size + 1 + 1, 0, none⟩) (by simp <;> omega) _
   have t1 : decide (a2 ≤ wrap64 (x.2 - b)) = false := decide_eq_false hx
   have hu := g0.next (x := x) (c := b) (if_pos hb) hx
   have HU := am hu
   clear hu
   gi_wp2
   refine ⟨?_, ⟨?_, ?_⟩, _, _, HU.out, ?_, ?_, ?_, ?_, ?_, ?_⟩
   ·exact Whole.set (by omega) _
   ·exact (Below.refl _ W').setCell (p := ⟨w'.heap.size + 1 + 1, 0, none⟩) (by simp <;> omega) _
   ·exact fun q o hq ho hc => set_other (by omega) ho
   ·exact set_other (by omega) g1
   ·exact set_other (by omega) g2
   ·exact set_other (by omega) g3
   ·exact set_other (by omega) g4
   ·exact set_same g5
   exact (g6).setCell (p := ⟨w'.heap.size + 1 + 1, 0, none⟩) (by simp <;> omega) _
  have t0 : (x.1 != e) = true := bne_iff_ne.2 hb
  have t00 : (x.1 == e) = false := beq_eq_false_iff_ne.2 hb
  by_cases hcut : True
  rotate_left
  ·exact absurd trivial hcut
  by_cases hx : wrap64 (x.2 - x.1) ≥ a2
  ·have t1 : decide (a2 ≤ wrap64 (x.2 - x.1)) = true := decide_eq_true hx
   have hs := g0.stop (x := x) (c := x.1) (if_neg hb) hx
   have HS := am hs
   clear hs
   gi_wp2
   refine ⟨?_, rfl, _, HS.out, ?_, ?_, ?_⟩
   ·exact (((Whole.set (by omega) _).trans (Whole.set (by omega) _)).trans (Whole.set (by omega) _)).trans (Whole.set (by omega) _)
   ·simp [go_sem, q6, q7, q10, q11]
   ·simp [go_sem, q6, q7, q10, q11]
   exact ((((g6).setCell (p := ⟨w'.heap.size + 1, 0, none⟩) (by simp <;> omega) _).setCell (p := ⟨w'.heap.size + 1 + 1, 0, none⟩) (by simp <;> omega) _).setCell (p := ⟨w.heap.size + 1, 0, none⟩) (by simp <;> omega) _).setCell (p := ⟨w.heap.size + 1 + 1, 0, none⟩) (by simp <;> omega) _
  have t1 : decide (a2 ≤ wrap64 (x.2 - x.1)) = false := decide_eq_false hx
  have hu := g0.next (x := x) (c := x.1) (if_neg hb) hx
  have HU := am hu
  clear hu
  gi_wp2
  refine ⟨?_, ⟨?_, ?_⟩, _, _, HU.out, ?_, ?_, ?_, ?_, ?_, ?_⟩
  ·exact (Whole.set (by omega) _).trans (Whole.set (by omega) _)
  ·exact ((Below.refl _ W').setCell (p := ⟨w'.heap.size + 1, 0, none⟩) (by simp <;> omega) _).setCell (p := ⟨w'.heap.size + 1 + 1, 0, none⟩) (by simp <;> omega) _
  ·exact fun q o hq ho hc => set_other (by omega) (set_other (by omega) ho)
  ·exact set_other (by omega) (set_other (by omega) g1)
  ·exact set_other (by omega) (set_other (by omega) g2)
  ·exact set_other (by omega) (set_other (by omega) g3)
  ·exact set_other (by omega) (set_same g4)
  ·exact set_same (set_other (by omega) g5)
  exact ((g6).setCell (p := ⟨w'.heap.size + 1, 0, none⟩) (by simp <;> omega) _).setCell (p := ⟨w'.heap.size + 1 + 1, 0, none⟩) (by simp <;> omega) _
 case done =>
  rintro D W' hD ⟨b, e, g0, g1, g2, g3, g4, g5, g6⟩ hDd
  have q4 := (bc g1 0).trans rfl
  have q5 := (bc g2 0).trans rfl
  have f4 := bf g1 0
  have f5 := bf g2 0
  gi_wp2
  obtain ⟨c1, c2⟩ := put_two (x := .int .i64 0) (y := .int .i64 9) (by omega : w.heap.size + 1 ≠ w.heap.size + 1 + 1) q4 q5
  have hn := HN.out
  have hz := g0 []
  rw [List.append_nil] at hz
  obtain ⟨rfl, rfl⟩ : r1 = 0 ∧ r2 = 9 := by
   rw [hz] at hn
   simp only [wholeF, Prod.mk.injEq] at hn
   exact ⟨hn.1.symm, hn.2.symm⟩
  have hd2 := set_other (u := .int .i64 9) (g := w.heap.size + 1 + 1) (by omega) (set_other (u := .int .i64 0) (g := w.heap.size + 1) (by omega) hDd)
  refine leave_two (fn := Try.f22) rfl rfl rfl c1 c2 hd2 ⟨rfl, ?_⟩
  exact ((g6.setCell (p := ⟨w.heap.size + 1, 0, none⟩) (by simp) _).setCell (p := ⟨w.heap.size + 1 + 1, 0, none⟩) (by simp; omega) _).trans (belowK_b (w := w) (Nat.le_refl _) _ D _ _ (by omega) hd2 rfl rfl)
 case stop =>
  rintro D c pre W' hD hp ⟨rfl, z, g1, g2, g3, g4⟩ hDd
  gi_wp2
  have hn := HN.out
  obtain ⟨l, hl⟩ := hp
  have hz := g1 l
  rw [hl] at hz
  obtain ⟨rfl, rfl⟩ : r1 = z ∧ r2 = 0 := by
   rw [hz] at hn
   simp only [Prod.mk.injEq] at hn
   exact ⟨hn.1.symm, hn.2.symm⟩
  refine leave_two (fn := Try.f22) rfl rfl rfl g2 g3 hDd ⟨rfl, ?_⟩
  exact g4.trans (belowK_b (w := w) (Nat.le_refl _) _ D _ _ (by omega) hDd rfl rfl)
end

def shift_Week.l0 : Nat → Int → List (S54) → Int → Int → Option (Int × Int)
 | 0, _, _, _, _ => none
 | k + 1, x5, x14, x15, x16 => if x16 < x15 then (if 0 ≤ x16 then (if x16 < (x14.length : Int) then (shift_Week.l0 k (wrap64 (x5 + (wrap64 (((rd_T54 x14 x16).f2) - ((rd_T54 x14 x16).f1))))) x14 x15 (wrap64 (x16 + 1))) else (none)) else (none)) else (some (x5, 0))
def shift_Week.f (k : Nat) (l0_0 : List (S54)) (l0_1 : List Int) : Option (Int × Int) := (shift_Check.f k l0_0 l0_1).bind fun t129 => (if t129 = 0 then (shift_Week.l0 k 0 l0_0 (l0_0.length : Int) 0) else (some (0, t129)))
set_option maxHeartbeats 8000000 in
set_option maxRecDepth 100000 in
theorem shift_Week.calls (k : Nat) (A0_0 : Option Addr) (c0_0 : Nat) (l0_0 : List (S54)) (A0_1 : Option Addr) (c0_1 : Nat) (l0_1 : List Int) (r1 : Int) (r2 : Int) (w : World) (hr0_0 : Kd.C k54 w A0_0 l0_0.length l0_0) (hc0_0 : l0_0.length ≤ c0_0) (hr0_1 : Kd.C (Kd.int .i64) w A0_1 l0_1.length l0_1) (hc0_1 : l0_1.length ≤ c0_1) (h : shift_Week.f k l0_0 l0_1 = some (r1, r2)) :
  Calls Try.prog 28 #[.agg #[.slice A0_0 l0_0.length c0_0, .slice A0_1 l0_1.length c0_1]] w fun e w' => e = .returned (.tuple #[.int .i64 r1, .int .i64 r2]) ∧ Below w.heap.size w w' := by
 have hu31 := Try.underlying31
 have hu54 := Try.underlying54
 have HR0_0 := am hr0_0
 have HC0_0 := am hc0_0
 clear hr0_0 hc0_0
 have HR0_1 := am hr0_1
 have HC0_1 := am hc0_1
 clear hr0_1 hc0_1
 have HB := am (Below.refl w.heap.size w)
 have H : ((shift_Check.f k l0_0 l0_1).bind fun t129 => (if t129 = 0 then (shift_Week.l0 k 0 l0_0 (l0_0.length : Int) 0) else (some (0, t129)))) = some (r1, r2) := h
 clear h
 replace H := Option.bind_eq_some_iff.mp H
 obtain ⟨t129, A20, H⟩ := H
 replace H : (if t129 = 0 then (shift_Week.l0 k 0 l0_0 (l0_0.length : Int) 0) else (some (0, t129))) = some (r1, r2) := H
 have A2 := am A20
 clear A20
 by_cases c3 : t129 = 0
 ·rw [if_pos c3] at H
  have c3b0 : (t129 == 0) = true := beq_iff_eq.mpr c3
  have c3b1 : (t129 != 0) = false := bne_eq_false_iff_eq.mpr c3
  clear c3
  have H' := am H
  clear H
  go_enter Try.func28, Try.ntmps28
  go_wp2_with (first | ((with_reducible refine gate_dst (N := 1) rfl ?_); refine box_event ?hg (N := 1) ?hd (cs := #[.slice A0_0 l0_0.length c0_0, .slice A0_1 l0_1.length c0_1]) (t := 31) ?hr ?_; (case hd | hg => rfl); (case hr => first | (go_simp; done) | (go_simp; rfl)); intro gb128 hg w4 hbox hb; have BK128 := am hbox; have GW128 := sG HB hg; have GE128 := sG HB hg; replace HB := bS HB hb; clear hb hbox hg; obtain ⟨_, _, _, _⟩ := zC2 BK128) | ((with_reducible refine gc (f := 29) rfl ?_); refine goesL_ (some 9) rfl rfl Try.func29 (by kernel_rfl) rfl #[.agg #[.slice A0_0 l0_0.length c0_0, .slice A0_1 l0_1.length c0_1]] rfl (by (try simp only [pml]); first | done | rfl | (simp only [pdt]; rfl)) ?_; (with_reducible refine (shift_Check.calls k _ _ l0_0 _ _ l0_1 t129 _ ?side1 ?side2 ?side3 ?side4 A2.out).mono ?_); (case side1 => repeat (first | exact (Kd.C_below HR0_0.out HB.out) | (with_reducible refine Kd.C_alloc ?_ _) | (with_reducible refine Kd.C_drewN ?_ _) | (with_reducible refine Kd.C_drew ?_))); (case side2 => exact HC0_0.out); (case side3 => repeat (first | exact (Kd.C_below HR0_1.out HB.out) | (with_reducible refine Kd.C_alloc ?_ _) | (with_reducible refine Kd.C_drewN ?_ _) | (with_reducible refine Kd.C_drew ?_))); (case side4 => exact HC0_1.out); rintro e w6 ⟨rfl, hb⟩; refine ⟨_, rfl, ?_⟩; replace BK128 := bB BK128 hb; replace HB := bS HB hb; (try clear hb); (try clear hb2); (try clear hk); (try clear hi); obtain ⟨_, _, _, _⟩ := zC2 BK128))
  go_loopg [5, 16] k (fun kq v5 v16 w' => ∃ (x5_1 : Int) (x16_1 : Int), v5 = .int .i64 x5_1 ∧ v16 = .int .i64 x16_1 ∧ Aside0 (shift_Week.l0 kq x5_1 l0_0 (l0_0.length : Int) x16_1 = some (r1, r2)) ∧ Aside0 (kq ≤ k) ∧ Aside0 (w'.heap[gb128]? = some (.cells #[(.slice A0_0 l0_0.length c0_0), (.slice A0_1 l0_1.length c0_1)] 31 (0, 0))) ∧ Aside0 (Below w.heap.size w w'))
  case atStart => exact ⟨(0), (0), sqD, sqD, H', ⟨Nat.le_refl _⟩, ⟨fb BK128.out⟩, ⟨fW HB.out⟩⟩
  case round =>
   clear H'
   try clear c2;try clear p2;try clear c3;try clear c3b0;try clear c3b1
   obtain ⟨x5_1, x16_1, rfl, rfl, HA, HK1, BK128, HB⟩ := hrel
   cases gk with
   | zero => exact absurd HA.out (by simp [shift_Week.l0])
   | succ k1 =>
    have H := HA.out
    clear HA
    simp only [shift_Week.l0] at H
    by_cases c8 : x16_1 < (l0_0.length : Int)
    rotate_left
    ·rw [if_neg c8] at H
     have c8b0 : decide (x16_1 < (l0_0.length : Int)) = false := decide_eq_false c8
     clear c8
     simp only [Option.some.injEq, Prod.mk.injEq] at H
     obtain ⟨rfl, rfl⟩ := H
     go_wp2
     go_ret2
     exact ⟨sqE, fW HB.out⟩
    rw [if_pos c8] at H
    have c8b0 : decide (x16_1 < (l0_0.length : Int)) = true := decide_eq_true c8
    clear c8
    by_cases c9 : 0 ≤ x16_1
    rotate_left
    ·rw [if_neg c9] at H
     exact absurd H (by simp)
    rw [if_pos c9] at H
    have c9b0 : decide (0 ≤ x16_1) = true := decide_eq_true c9
    clear c9
    by_cases c10 : x16_1 < (l0_0.length : Int)
    rotate_left
    ·rw [if_neg c10] at H
     exact absurd H (by simp)
    rw [if_pos c10] at H
    have c10b0 : decide (x16_1 < (l0_0.length : Int)) = true := decide_eq_true c10
    clear c10
    have H' := am H
    clear H
    have p130 : 0 ≤ (x16_1 : Int) := of_decide_eq_true (by assumption)
    have q130 : x16_1 < (l0_0.length : Int) := of_decide_eq_true (by assumption)
    obtain ⟨ad130, e130, hx130_0, hx130_1, hx130_2⟩ := at_T54 HR0_0.out x16_1 p130 q130
    cases e130
    replace hx130_0 := cl HB hx130_0
    replace hx130_1 := cl HB hx130_1
    replace hx130_2 := cl HB hx130_2
    replace p130 := eq_true p130
    replace q130 := eq_true q130
    go_wp2_with (first | ((with_reducible refine gate_dst (N := 7) rfl ?_); refine box_event ?hg (N := 7) ?hd (cs := #[.int .i64 0, .int .i64 0, .int .i64 0]) (t := 54) ?hr ?_; (case hd | hg => rfl); (case hr => first | (go_simp; done) | (go_simp; rfl)); intro gb131 hg w11 hbox hb; have BK131 := am hbox; have GW131 := sG HB hg; have GE131 := sG HB hg; replace HB := bS HB hb; have NB128_131 := nL BK128 hg; have NB131_128 := nG BK128 hg; replace BK128 := bB BK128 hb; clear hb hbox hg; have hnb12 := NB131_128.out; have hnc12 := NB128_131.out; obtain ⟨_, _, _, _, _, _⟩ := zC3 BK131))
    go_roundg k1
    case measure => have := HK1.out; omega
    case rel => exact ⟨(wrap64 (x5_1 + (wrap64 (((rd_T54 l0_0 x16_1).f2) - ((rd_T54 l0_0 x16_1).f1))))), (wrap64 (x16_1 + 1)), sqD, sqD, H', ⟨by have := HK1.out; omega⟩, ⟨by (with_reducible repeat first | apply blk_drewN | apply blk_drew | apply blk_alloc); refine blk_far ?_ NB128_131.out _; (with_reducible repeat first | apply blk_drewN | apply blk_drew | apply blk_alloc); refine blk_far ?_ NB128_131.out _; (with_reducible repeat first | apply blk_drewN | apply blk_drew | apply blk_alloc); refine blk_far ?_ NB128_131.out _; (with_reducible repeat first | apply blk_drewN | apply blk_drew | apply blk_alloc); exact BK128.out⟩, ⟨fW HB.out⟩⟩
 ·rw [if_neg c3] at H
  have c3b0 : (t129 == 0) = false := beq_eq_false_iff_ne.mpr c3
  have c3b1 : (t129 != 0) = true := bne_iff_ne.mpr c3
  simp only [Option.some.injEq, Prod.mk.injEq] at H
  obtain ⟨rfl, rfl⟩ := H
  go_enter Try.func28, Try.ntmps28
  go_wp2_with (first | ((with_reducible refine gate_dst (N := 1) rfl ?_); refine box_event ?hg (N := 1) ?hd (cs := #[.slice A0_0 l0_0.length c0_0, .slice A0_1 l0_1.length c0_1]) (t := 31) ?hr ?_; (case hd | hg => rfl); (case hr => first | (go_simp; done) | (go_simp; rfl)); intro gb128 hg w14 hbox hb; have BK128 := am hbox; have GW128 := sG HB hg; have GE128 := sG HB hg; replace HB := bS HB hb; clear hb hbox hg; obtain ⟨_, _, _, _⟩ := zC2 BK128) | ((with_reducible refine gc (f := 29) rfl ?_); refine goesL_ (some 9) rfl rfl Try.func29 (by kernel_rfl) rfl #[.agg #[.slice A0_0 l0_0.length c0_0, .slice A0_1 l0_1.length c0_1]] rfl (by (try simp only [pml]); first | done | rfl | (simp only [pdt]; rfl)) ?_; (with_reducible refine (shift_Check.calls k _ _ l0_0 _ _ l0_1 t129 _ ?side1 ?side2 ?side3 ?side4 A2.out).mono ?_); (case side1 => repeat (first | exact (Kd.C_below HR0_0.out HB.out) | (with_reducible refine Kd.C_alloc ?_ _) | (with_reducible refine Kd.C_drewN ?_ _) | (with_reducible refine Kd.C_drew ?_))); (case side2 => exact HC0_0.out); (case side3 => repeat (first | exact (Kd.C_below HR0_1.out HB.out) | (with_reducible refine Kd.C_alloc ?_ _) | (with_reducible refine Kd.C_drewN ?_ _) | (with_reducible refine Kd.C_drew ?_))); (case side4 => exact HC0_1.out); rintro e w16 ⟨rfl, hb⟩; refine ⟨_, rfl, ?_⟩; replace BK128 := bB BK128 hb; replace HB := bS HB hb; (try clear hb); (try clear hb2); (try clear hk); (try clear hi)))
  go_ret2
  exact ⟨sqE, fW HB.out⟩

def w_awake.j0 : Nat → Bool → Option (Bool)
 | 0, _ => none
 | k + 1, x0 => some x0
def w_awake.f (k : Nat)  : Option (Bool) := (some (([(⟨1, 480, 720⟩ : S54), (⟨1, 780, 960⟩ : S54), (⟨2, 480, 600⟩ : S54)] : List (S54)) : List (S54))).bind fun y132 => ((some (([7] : List Int) : List Int)).bind fun y135 => ((shift_Work.f k y132 y135 0 10080).bind fun bt139 => ((shift_Next.f k y132 y135 960).bind fun bt141 => ((shift_After.f k y132 y135 700 30).bind fun bt143 => ((shift_Before.f k y132 y135 790 30).bind fun bt145 => ((shift_Whole.f k y132 y135 800 200).bind fun bt147 => ((shift_Week.f k y132 y135).bind fun bt149 => (if bt139.2 = 0 then (if bt139.1 = 540 then (if bt141.2 = 0 then (if bt141.1 = 1920 then (if bt143.2 = 0 then (if bt143.1 = 790 then (if bt145.2 = 0 then (if bt145.1 = 700 then (if bt147.2 = 0 then (if bt147.1 = 20640 then (if bt149.2 = 0 then (w_awake.j0 k (bt149.1 == 540)) else (w_awake.j0 k false)) else (w_awake.j0 k false)) else (w_awake.j0 k false)) else (w_awake.j0 k false)) else (w_awake.j0 k false)) else (w_awake.j0 k false)) else (w_awake.j0 k false)) else (w_awake.j0 k false)) else (w_awake.j0 k false)) else (w_awake.j0 k false)) else (w_awake.j0 k false)))))))))
set_option maxHeartbeats 8000000 in
set_option maxRecDepth 100000 in
theorem w_awake.calls (k : Nat)  (r : Bool) (w : World) (h : w_awake.f k  = some r) :
  Calls Try.prog 12 #[] w fun e w' => e = .returned (.bool r) ∧ Below w.heap.size w w' := by
 have hu54 := Try.underlying54
 have hu31 := Try.underlying31
 have HB := am (Below.refl w.heap.size w)
 have H : ((some (([(⟨1, 480, 720⟩ : S54), (⟨1, 780, 960⟩ : S54), (⟨2, 480, 600⟩ : S54)] : List (S54)) : List (S54))).bind fun y132 => ((some (([7] : List Int) : List Int)).bind fun y135 => ((shift_Work.f k y132 y135 0 10080).bind fun bt139 => ((shift_Next.f k y132 y135 960).bind fun bt141 => ((shift_After.f k y132 y135 700 30).bind fun bt143 => ((shift_Before.f k y132 y135 790 30).bind fun bt145 => ((shift_Whole.f k y132 y135 800 200).bind fun bt147 => ((shift_Week.f k y132 y135).bind fun bt149 => (if bt139.2 = 0 then (if bt139.1 = 540 then (if bt141.2 = 0 then (if bt141.1 = 1920 then (if bt143.2 = 0 then (if bt143.1 = 790 then (if bt145.2 = 0 then (if bt145.1 = 700 then (if bt147.2 = 0 then (if bt147.1 = 20640 then (if bt149.2 = 0 then (w_awake.j0 k (bt149.1 == 540)) else (w_awake.j0 k false)) else (w_awake.j0 k false)) else (w_awake.j0 k false)) else (w_awake.j0 k false)) else (w_awake.j0 k false)) else (w_awake.j0 k false)) else (w_awake.j0 k false)) else (w_awake.j0 k false)) else (w_awake.j0 k false)) else (w_awake.j0 k false)) else (w_awake.j0 k false)))))))))) = some r := h
 clear h
 obtain ⟨y132, hy132⟩ : ∃ y_ : List (S54), y_ = (([(⟨1, 480, 720⟩ : S54), (⟨1, 780, 960⟩ : S54), (⟨2, 480, 600⟩ : S54)] : List (S54))) := ⟨_, rfl⟩
 replace H : ((some (([7] : List Int) : List Int)).bind fun y135 => ((shift_Work.f k y132 y135 0 10080).bind fun bt139 => ((shift_Next.f k y132 y135 960).bind fun bt141 => ((shift_After.f k y132 y135 700 30).bind fun bt143 => ((shift_Before.f k y132 y135 790 30).bind fun bt145 => ((shift_Whole.f k y132 y135 800 200).bind fun bt147 => ((shift_Week.f k y132 y135).bind fun bt149 => (if bt139.2 = 0 then (if bt139.1 = 540 then (if bt141.2 = 0 then (if bt141.1 = 1920 then (if bt143.2 = 0 then (if bt143.1 = 790 then (if bt145.2 = 0 then (if bt145.1 = 700 then (if bt147.2 = 0 then (if bt147.1 = 20640 then (if bt149.2 = 0 then (w_awake.j0 k (bt149.1 == 540)) else (w_awake.j0 k false)) else (w_awake.j0 k false)) else (w_awake.j0 k false)) else (w_awake.j0 k false)) else (w_awake.j0 k false)) else (w_awake.j0 k false)) else (w_awake.j0 k false)) else (w_awake.j0 k false)) else (w_awake.j0 k false)) else (w_awake.j0 k false)) else (w_awake.j0 k false))))))))) = some r := by first | (rw [hy132]; with_reducible exact H) | (have H2_ := (Option.bind_some _ _).symm.trans H; rw [hy132]; with_reducible exact H2_) | (have H2_ := (Option.bind_some _ _).symm.trans H; with_reducible exact H2_) | with_reducible exact H | (rw [hy132]; exact H) | exact H
 have Ny132 := am hy132
 clear hy132
 obtain ⟨y135, hy135⟩ : ∃ y_ : List Int, y_ = (([7] : List Int)) := ⟨_, rfl⟩
 replace H : ((shift_Work.f k y132 y135 0 10080).bind fun bt139 => ((shift_Next.f k y132 y135 960).bind fun bt141 => ((shift_After.f k y132 y135 700 30).bind fun bt143 => ((shift_Before.f k y132 y135 790 30).bind fun bt145 => ((shift_Whole.f k y132 y135 800 200).bind fun bt147 => ((shift_Week.f k y132 y135).bind fun bt149 => (if bt139.2 = 0 then (if bt139.1 = 540 then (if bt141.2 = 0 then (if bt141.1 = 1920 then (if bt143.2 = 0 then (if bt143.1 = 790 then (if bt145.2 = 0 then (if bt145.1 = 700 then (if bt147.2 = 0 then (if bt147.1 = 20640 then (if bt149.2 = 0 then (w_awake.j0 k (bt149.1 == 540)) else (w_awake.j0 k false)) else (w_awake.j0 k false)) else (w_awake.j0 k false)) else (w_awake.j0 k false)) else (w_awake.j0 k false)) else (w_awake.j0 k false)) else (w_awake.j0 k false)) else (w_awake.j0 k false)) else (w_awake.j0 k false)) else (w_awake.j0 k false)) else (w_awake.j0 k false)))))))) = some r := by first | (rw [hy135]; with_reducible exact H) | (have H2_ := (Option.bind_some _ _).symm.trans H; rw [hy135]; with_reducible exact H2_) | (have H2_ := (Option.bind_some _ _).symm.trans H; with_reducible exact H2_) | with_reducible exact H | (rw [hy135]; exact H) | exact H
 have Ny135 := am hy135
 clear hy135
 replace H := Option.bind_eq_some_iff.mp H
 obtain ⟨⟨t139, t140⟩, A10, H⟩ := H
 replace H : ((shift_Next.f k y132 y135 960).bind fun bt141 => ((shift_After.f k y132 y135 700 30).bind fun bt143 => ((shift_Before.f k y132 y135 790 30).bind fun bt145 => ((shift_Whole.f k y132 y135 800 200).bind fun bt147 => ((shift_Week.f k y132 y135).bind fun bt149 => (if t140 = 0 then (if t139 = 540 then (if bt141.2 = 0 then (if bt141.1 = 1920 then (if bt143.2 = 0 then (if bt143.1 = 790 then (if bt145.2 = 0 then (if bt145.1 = 700 then (if bt147.2 = 0 then (if bt147.1 = 20640 then (if bt149.2 = 0 then (w_awake.j0 k (bt149.1 == 540)) else (w_awake.j0 k false)) else (w_awake.j0 k false)) else (w_awake.j0 k false)) else (w_awake.j0 k false)) else (w_awake.j0 k false)) else (w_awake.j0 k false)) else (w_awake.j0 k false)) else (w_awake.j0 k false)) else (w_awake.j0 k false)) else (w_awake.j0 k false)) else (w_awake.j0 k false))))))) = some r := H
 have A1 := am A10
 clear A10
 replace H := Option.bind_eq_some_iff.mp H
 obtain ⟨⟨t141, t142⟩, A20, H⟩ := H
 replace H : ((shift_After.f k y132 y135 700 30).bind fun bt143 => ((shift_Before.f k y132 y135 790 30).bind fun bt145 => ((shift_Whole.f k y132 y135 800 200).bind fun bt147 => ((shift_Week.f k y132 y135).bind fun bt149 => (if t140 = 0 then (if t139 = 540 then (if t142 = 0 then (if t141 = 1920 then (if bt143.2 = 0 then (if bt143.1 = 790 then (if bt145.2 = 0 then (if bt145.1 = 700 then (if bt147.2 = 0 then (if bt147.1 = 20640 then (if bt149.2 = 0 then (w_awake.j0 k (bt149.1 == 540)) else (w_awake.j0 k false)) else (w_awake.j0 k false)) else (w_awake.j0 k false)) else (w_awake.j0 k false)) else (w_awake.j0 k false)) else (w_awake.j0 k false)) else (w_awake.j0 k false)) else (w_awake.j0 k false)) else (w_awake.j0 k false)) else (w_awake.j0 k false)) else (w_awake.j0 k false)))))) = some r := H
 have A2 := am A20
 clear A20
 replace H := Option.bind_eq_some_iff.mp H
 obtain ⟨⟨t143, t144⟩, A30, H⟩ := H
 replace H : ((shift_Before.f k y132 y135 790 30).bind fun bt145 => ((shift_Whole.f k y132 y135 800 200).bind fun bt147 => ((shift_Week.f k y132 y135).bind fun bt149 => (if t140 = 0 then (if t139 = 540 then (if t142 = 0 then (if t141 = 1920 then (if t144 = 0 then (if t143 = 790 then (if bt145.2 = 0 then (if bt145.1 = 700 then (if bt147.2 = 0 then (if bt147.1 = 20640 then (if bt149.2 = 0 then (w_awake.j0 k (bt149.1 == 540)) else (w_awake.j0 k false)) else (w_awake.j0 k false)) else (w_awake.j0 k false)) else (w_awake.j0 k false)) else (w_awake.j0 k false)) else (w_awake.j0 k false)) else (w_awake.j0 k false)) else (w_awake.j0 k false)) else (w_awake.j0 k false)) else (w_awake.j0 k false)) else (w_awake.j0 k false))))) = some r := H
 have A3 := am A30
 clear A30
 replace H := Option.bind_eq_some_iff.mp H
 obtain ⟨⟨t145, t146⟩, A40, H⟩ := H
 replace H : ((shift_Whole.f k y132 y135 800 200).bind fun bt147 => ((shift_Week.f k y132 y135).bind fun bt149 => (if t140 = 0 then (if t139 = 540 then (if t142 = 0 then (if t141 = 1920 then (if t144 = 0 then (if t143 = 790 then (if t146 = 0 then (if t145 = 700 then (if bt147.2 = 0 then (if bt147.1 = 20640 then (if bt149.2 = 0 then (w_awake.j0 k (bt149.1 == 540)) else (w_awake.j0 k false)) else (w_awake.j0 k false)) else (w_awake.j0 k false)) else (w_awake.j0 k false)) else (w_awake.j0 k false)) else (w_awake.j0 k false)) else (w_awake.j0 k false)) else (w_awake.j0 k false)) else (w_awake.j0 k false)) else (w_awake.j0 k false)) else (w_awake.j0 k false)))) = some r := H
 have A4 := am A40
 clear A40
 replace H := Option.bind_eq_some_iff.mp H
 obtain ⟨⟨t147, t148⟩, A50, H⟩ := H
 replace H : ((shift_Week.f k y132 y135).bind fun bt149 => (if t140 = 0 then (if t139 = 540 then (if t142 = 0 then (if t141 = 1920 then (if t144 = 0 then (if t143 = 790 then (if t146 = 0 then (if t145 = 700 then (if t148 = 0 then (if t147 = 20640 then (if bt149.2 = 0 then (w_awake.j0 k (bt149.1 == 540)) else (w_awake.j0 k false)) else (w_awake.j0 k false)) else (w_awake.j0 k false)) else (w_awake.j0 k false)) else (w_awake.j0 k false)) else (w_awake.j0 k false)) else (w_awake.j0 k false)) else (w_awake.j0 k false)) else (w_awake.j0 k false)) else (w_awake.j0 k false)) else (w_awake.j0 k false))) = some r := H
 have A5 := am A50
 clear A50
 replace H := Option.bind_eq_some_iff.mp H
 obtain ⟨⟨t149, t150⟩, A60, H⟩ := H
 replace H : (if t140 = 0 then (if t139 = 540 then (if t142 = 0 then (if t141 = 1920 then (if t144 = 0 then (if t143 = 790 then (if t146 = 0 then (if t145 = 700 then (if t148 = 0 then (if t147 = 20640 then (if t150 = 0 then (w_awake.j0 k (t149 == 540)) else (w_awake.j0 k false)) else (w_awake.j0 k false)) else (w_awake.j0 k false)) else (w_awake.j0 k false)) else (w_awake.j0 k false)) else (w_awake.j0 k false)) else (w_awake.j0 k false)) else (w_awake.j0 k false)) else (w_awake.j0 k false)) else (w_awake.j0 k false)) else (w_awake.j0 k false)) = some r := H
 have A6 := am A60
 clear A60
 have HC7 := am H
 clear H
 go_enter Try.func12, Try.ntmps12
 go_upto_region 8 with (first | ((with_reducible refine gate_dst (N := 17) rfl ?_); refine Kd.R_lit k54 _ 54 ?hg (N := 17) ?hd (xs := ([(⟨1, 480, 720⟩ : S54), (⟨1, 780, 960⟩ : S54), (⟨2, 480, 600⟩ : S54)] : List (S54))) (inner := [.int .i64 1, .int .i64 480, .int .i64 720, .int .i64 1, .int .i64 780, .int .i64 960, .int .i64 2, .int .i64 480, .int .i64 600]) (ok := fun _ => True) (okp := fun _ => True) ?hr ?hp (fun _ hk => hk) trivial (Below.refl _ _) (Nat.le_refl _) (by simp) ?_; (case hd | hg => rfl); (case hr => first | (go_simp; done) | (go_simp; rfl)); (case hp => exact (Reps.c3 (show Kd.M k54 _ _ _ (⟨1, 480, 720⟩ : S54) [.int .i64 1, .int .i64 480, .int .i64 720] from (k54_mkM _ _ _ (⟨1, 480, 720⟩ : S54) )) (Reps.c3 (show Kd.M k54 _ _ _ (⟨1, 780, 960⟩ : S54) [.int .i64 1, .int .i64 780, .int .i64 960] from (k54_mkM _ _ _ (⟨1, 780, 960⟩ : S54) )) (Reps.c3 (show Kd.M k54 _ _ _ (⟨2, 480, 600⟩ : S54) [.int .i64 2, .int .i64 480, .int .i64 600] from (k54_mkM _ _ _ (⟨2, 480, 600⟩ : S54) )) (Reps.none _ _))))); intro v133 w8 ho9 hb hg_ hnew_; clear hg_ hnew_; (first | rw [← Ny132.out] at ho9 | (simp only [Int.reduceToNat] at ho9; rw [← Ny132.out] at ho9)); have HO134 := am (Kd.R_lower ho9 (below_size (fW HB.out))); replace HB := bS HB hb; clear hb ho9) | ((with_reducible refine gate_dst (N := 18) rfl ?_); refine Kd.R_lit (Kd.int .i64) _ 3 ?hg (N := 18) ?hd (xs := ([7] : List Int)) (inner := [.int .i64 7]) (ok := fun _ => True) (okp := fun _ => True) ?hr ?hp (fun _ hk => hk) trivial (Below.refl _ _) (Nat.le_refl _) (by simp) ?_; (case hd | hg => rfl); (case hr => first | (go_simp; done) | (go_simp; rfl)); (case hp => exact (Reps.one (show Kd.M (Kd.int .i64) _ _ _ 7 [.int .i64 7] from rfl) (Reps.none _ _))); intro v136 w10 ho11 hb hg_ hnew_; clear hg_ hnew_; (first | rw [← Ny135.out] at ho11 | (simp only [Int.reduceToNat] at ho11; rw [← Ny135.out] at ho11)); replace HO134 := dR HO134 hb; have HO137 := am (Kd.R_lower ho11 (below_size (fW HB.out))); replace HB := bS HB hb; clear hb ho11; obtain ⟨Ao12, co12, eo12⟩ := Kd.R_slice HO137.out; subst eo12; obtain ⟨Ao13, co13, eo13⟩ := Kd.R_slice HO134.out; subst eo13) | ((with_reducible refine gate_dst (N := 1) rfl ?_); refine box_event ?hg (N := 1) ?hd (cs := #[.slice none 0 0, .slice none 0 0]) (t := 31) ?hr ?_; (case hd | hg => rfl); (case hr => first | (go_simp; done) | (go_simp; rfl)); intro gb138 hg w14 hbox hb; replace HO134 := dR HO134 hb; replace HO137 := dR HO137 hb; have BK138 := am hbox; have GW138 := sG HB hg; have GE138 := sG HB hg; replace HB := bS HB hb; clear hb hbox hg; obtain ⟨_, _, _, _⟩ := zC2 BK138) | ((with_reducible refine gc (f := 13) rfl ?_); refine goesL_ (some 22) rfl rfl Try.func13 (by kernel_rfl) rfl #[.agg #[.slice Ao13 y132.length co13, .slice Ao12 y135.length co12], .int .i64 0, .int .i64 10080] rfl (by (try simp only [pml]); first | done | rfl | (simp only [pdt]; rfl)) ?_; (with_reducible refine (shift_Work.calls k _ _ y132 _ _ y135 0 10080 t139 t140 _ ?side1 ?side2 ?side3 ?side4 A1.out).mono ?_); (case side1 => refine (Kd.R_reads' (e := 54) (base := w.heap.size) (ok := fun k_ => True) (n := y132.length) (c := co13) ?_).2.2; exact (by (with_reducible repeat (first | apply Kd.R_alloc | apply Kd.R_drewN | apply Kd.R_drew)); exact (Kd.R_mono (Kd.R_far (p := ⟨gb138, 1, none⟩) (Kd.R_far (p := ⟨gb138, 0, none⟩) (Kd.R_types HO134.out BK138.out (by decide)) (fun _ hk => hk.2) (.slice Ao13 y132.length co13)) (fun _ hk => hk.2) (.slice Ao12 y135.length co12)) (fun _ h_ => h_.1)))); (case side2 => exact (Kd.R_reads' HO134.out).2.1); (case side3 => refine (Kd.R_reads' (e := 3) (base := w.heap.size) (ok := fun k_ => True) (n := y135.length) (c := co12) ?_).2.2; exact (by (with_reducible repeat (first | apply Kd.R_alloc | apply Kd.R_drewN | apply Kd.R_drew)); exact (Kd.R_mono (Kd.R_far (p := ⟨gb138, 1, none⟩) (Kd.R_far (p := ⟨gb138, 0, none⟩) (Kd.R_types HO137.out BK138.out (by decide)) (fun _ hk => hk.2) (.slice Ao13 y132.length co13)) (fun _ hk => hk.2) (.slice Ao12 y135.length co12)) (fun _ h_ => h_.1)))); (case side4 => exact (Kd.R_reads' HO137.out).2.1); rintro e w16 ⟨rfl, hb⟩; refine ⟨_, rfl, ?_⟩; replace HO134 := am (Kd.R_below (by (with_reducible repeat (first | apply Kd.R_alloc | apply Kd.R_drewN | apply Kd.R_drew)); exact (Kd.R_mono (Kd.R_far (p := ⟨gb138, 1, none⟩) (Kd.R_far (p := ⟨gb138, 0, none⟩) (Kd.R_types HO134.out BK138.out (by decide)) (fun _ hk => hk.2) (.slice Ao13 y132.length co13)) (fun _ hk => hk.2) (.slice Ao12 y135.length co12)) (fun _ h_ => h_.1))) hb); replace HO137 := am (Kd.R_below (by (with_reducible repeat (first | apply Kd.R_alloc | apply Kd.R_drewN | apply Kd.R_drew)); exact (Kd.R_mono (Kd.R_far (p := ⟨gb138, 1, none⟩) (Kd.R_far (p := ⟨gb138, 0, none⟩) (Kd.R_types HO137.out BK138.out (by decide)) (fun _ hk => hk.2) (.slice Ao13 y132.length co13)) (fun _ hk => hk.2) (.slice Ao12 y135.length co12)) (fun _ h_ => h_.1))) hb); replace BK138 := xC1 (o := .cells #[.slice Ao13 y132.length co13, .slice Ao12 y135.length co12] 31 (0, 0)) (kkC BK138.out) hb; replace HB := bS HB hb; (try clear hb); (try clear hb2); (try clear hk); (try clear hi); obtain ⟨_, _, _, _⟩ := zC2 BK138) | ((with_reducible refine gc (f := 15) rfl ?_); refine goesL_ (some 27) rfl rfl Try.func15 (by kernel_rfl) rfl #[.agg #[.slice Ao13 y132.length co13, .slice Ao12 y135.length co12], .int .i64 960] rfl (by (try simp only [pml]); first | done | rfl | (simp only [pdt]; rfl)) ?_; (with_reducible refine (shift_Next.calls k _ _ y132 _ _ y135 960 t141 t142 _ ?side1 ?side2 ?side3 ?side4 A2.out).mono ?_); (case side1 => repeat (first | exact (Kd.R_reads' HO134.out).2.2 | (with_reducible refine Kd.C_alloc ?_ _) | (with_reducible refine Kd.C_drewN ?_ _) | (with_reducible refine Kd.C_drew ?_))); (case side2 => exact (Kd.R_reads' HO134.out).2.1); (case side3 => repeat (first | exact (Kd.R_reads' HO137.out).2.2 | (with_reducible refine Kd.C_alloc ?_ _) | (with_reducible refine Kd.C_drewN ?_ _) | (with_reducible refine Kd.C_drew ?_))); (case side4 => exact (Kd.R_reads' HO137.out).2.1); rintro e w18 ⟨rfl, hb⟩; refine ⟨_, rfl, ?_⟩; replace HO134 := dR HO134 hb; replace HO137 := dR HO137 hb; replace BK138 := bB BK138 hb; replace HB := bS HB hb; (try clear hb); (try clear hb2); (try clear hk); (try clear hi); obtain ⟨_, _, _, _⟩ := zC2 BK138) | ((with_reducible refine gc (f := 20) rfl ?_); refine goesL_ (some 32) rfl rfl Try.func20 (by kernel_rfl) rfl #[.agg #[.slice Ao13 y132.length co13, .slice Ao12 y135.length co12], .int .i64 700, .int .i64 30] rfl (by (try simp only [pml]); first | done | rfl | (simp only [pdt]; rfl)) ?_; (with_reducible refine (shift_After.calls k _ _ y132 _ _ y135 700 30 t143 t144 _ ?side1 ?side2 ?side3 ?side4 A3.out).mono ?_); (case side1 => repeat (first | exact (Kd.R_reads' HO134.out).2.2 | (with_reducible refine Kd.C_alloc ?_ _) | (with_reducible refine Kd.C_drewN ?_ _) | (with_reducible refine Kd.C_drew ?_))); (case side2 => exact (Kd.R_reads' HO134.out).2.1); (case side3 => repeat (first | exact (Kd.R_reads' HO137.out).2.2 | (with_reducible refine Kd.C_alloc ?_ _) | (with_reducible refine Kd.C_drewN ?_ _) | (with_reducible refine Kd.C_drew ?_))); (case side4 => exact (Kd.R_reads' HO137.out).2.1); rintro e w20 ⟨rfl, hb⟩; refine ⟨_, rfl, ?_⟩; replace HO134 := dR HO134 hb; replace HO137 := dR HO137 hb; replace BK138 := bB BK138 hb; replace HB := bS HB hb; (try clear hb); (try clear hb2); (try clear hk); (try clear hi); obtain ⟨_, _, _, _⟩ := zC2 BK138) | ((with_reducible refine gc (f := 21) rfl ?_); refine goesL_ (some 37) rfl rfl Try.func21 (by kernel_rfl) rfl #[.agg #[.slice Ao13 y132.length co13, .slice Ao12 y135.length co12], .int .i64 790, .int .i64 30] rfl (by (try simp only [pml]); first | done | rfl | (simp only [pdt]; rfl)) ?_; (with_reducible refine (shift_Before.calls k _ _ y132 _ _ y135 790 30 t145 t146 _ ?side1 ?side2 ?side3 ?side4 A4.out).mono ?_); (case side1 => repeat (first | exact (Kd.R_reads' HO134.out).2.2 | (with_reducible refine Kd.C_alloc ?_ _) | (with_reducible refine Kd.C_drewN ?_ _) | (with_reducible refine Kd.C_drew ?_))); (case side2 => exact (Kd.R_reads' HO134.out).2.1); (case side3 => repeat (first | exact (Kd.R_reads' HO137.out).2.2 | (with_reducible refine Kd.C_alloc ?_ _) | (with_reducible refine Kd.C_drewN ?_ _) | (with_reducible refine Kd.C_drew ?_))); (case side4 => exact (Kd.R_reads' HO137.out).2.1); rintro e w22 ⟨rfl, hb⟩; refine ⟨_, rfl, ?_⟩; replace HO134 := dR HO134 hb; replace HO137 := dR HO137 hb; replace BK138 := bB BK138 hb; replace HB := bS HB hb; (try clear hb); (try clear hb2); (try clear hk); (try clear hi); obtain ⟨_, _, _, _⟩ := zC2 BK138) | ((with_reducible refine gc (f := 22) rfl ?_); refine goesL_ (some 42) rfl rfl Try.func22 (by kernel_rfl) rfl #[.agg #[.slice Ao13 y132.length co13, .slice Ao12 y135.length co12], .int .i64 800, .int .i64 200] rfl (by (try simp only [pml]); first | done | rfl | (simp only [pdt]; rfl)) ?_; (with_reducible refine (shift_Whole.calls k _ _ y132 _ _ y135 800 200 t147 t148 _ ?side1 ?side2 ?side3 ?side4 A5.out).mono ?_); (case side1 => repeat (first | exact (Kd.R_reads' HO134.out).2.2 | (with_reducible refine Kd.C_alloc ?_ _) | (with_reducible refine Kd.C_drewN ?_ _) | (with_reducible refine Kd.C_drew ?_))); (case side2 => exact (Kd.R_reads' HO134.out).2.1); (case side3 => repeat (first | exact (Kd.R_reads' HO137.out).2.2 | (with_reducible refine Kd.C_alloc ?_ _) | (with_reducible refine Kd.C_drewN ?_ _) | (with_reducible refine Kd.C_drew ?_))); (case side4 => exact (Kd.R_reads' HO137.out).2.1); rintro e w24 ⟨rfl, hb⟩; refine ⟨_, rfl, ?_⟩; replace HO134 := dR HO134 hb; replace HO137 := dR HO137 hb; replace BK138 := bB BK138 hb; replace HB := bS HB hb; (try clear hb); (try clear hb2); (try clear hk); (try clear hi); obtain ⟨_, _, _, _⟩ := zC2 BK138) | ((with_reducible refine gc (f := 28) rfl ?_); refine goesL_ (some 47) rfl rfl Try.func28 (by kernel_rfl) rfl #[.agg #[.slice Ao13 y132.length co13, .slice Ao12 y135.length co12]] rfl (by (try simp only [pml]); first | done | rfl | (simp only [pdt]; rfl)) ?_; (with_reducible refine (shift_Week.calls k _ _ y132 _ _ y135 t149 t150 _ ?side1 ?side2 ?side3 ?side4 A6.out).mono ?_); (case side1 => repeat (first | exact (Kd.R_reads' HO134.out).2.2 | (with_reducible refine Kd.C_alloc ?_ _) | (with_reducible refine Kd.C_drewN ?_ _) | (with_reducible refine Kd.C_drew ?_))); (case side2 => exact (Kd.R_reads' HO134.out).2.1); (case side3 => repeat (first | exact (Kd.R_reads' HO137.out).2.2 | (with_reducible refine Kd.C_alloc ?_ _) | (with_reducible refine Kd.C_drewN ?_ _) | (with_reducible refine Kd.C_drew ?_))); (case side4 => exact (Kd.R_reads' HO137.out).2.1); rintro e w26 ⟨rfl, hb⟩; refine ⟨_, rfl, ?_⟩; replace HO134 := dR HO134 hb; replace HO137 := dR HO137 hb; replace BK138 := bB BK138 hb; replace HB := bS HB hb; (try clear hb); (try clear hb2); (try clear hk); (try clear hi)))
 (try simp only [Act.put, psl])
 go_cut [0] (fun v0 wc => ∃ (kq : Nat) (x0_6 : Bool), v0 = .bool x0_6 ∧ Aside0 (w_awake.j0 kq x0_6 = some r) ∧ Aside0 (kq ≤ k) ∧ Aside0 (Kd.R k54 54 wc w.heap.size (fun _ => True) (.slice Ao13 y132.length co13) y132) ∧ Aside0 (Kd.R (Kd.int .i64) 3 wc w.heap.size (fun _ => True) (.slice Ao12 y135.length co12) y135) ∧ Aside0 (wc.heap[gb138]? = some (.cells #[(.slice Ao13 y132.length co13), (.slice Ao12 y135.length co12)] 31 (0, 0))) ∧ Aside0 (Below w.heap.size w wc))
 case first =>
  have H := HC7.out
  clear HC7
  by_cases c27 : t140 = 0
  rotate_left
  ·rw [if_neg c27] at H
   have c27b0 : (t140 == 0) = false := beq_eq_false_iff_ne.mpr c27
   have c27b1 : (t140 != 0) = true := bne_iff_ne.mpr c27
   (first | rw [c27b0] | (simp only [i64_w, i32_w]; rw [c27b0]) | skip)
   have H' := am H
   clear H
   go_wp2
   go_meet
   case rel => exact ⟨_, (false), sqD, H', ⟨by first | omega | exact Nat.le_refl _⟩, ⟨fR HO134.out⟩, ⟨fR HO137.out⟩, ⟨fb BK138.out⟩, ⟨fW HB.out⟩⟩
  rw [if_pos c27] at H
  have c27b0 : (t140 == 0) = true := beq_iff_eq.mpr c27
  have c27b1 : (t140 != 0) = false := bne_eq_false_iff_eq.mpr c27
  clear c27
  (first | rw [c27b0] | (simp only [i64_w, i32_w]; rw [c27b0]) | skip)
  by_cases c28 : t139 = 540
  rotate_left
  ·rw [if_neg c28] at H
   have c28b0 : (t139 == 540) = false := beq_eq_false_iff_ne.mpr c28
   have c28b1 : (t139 != 540) = true := bne_iff_ne.mpr c28
   have H' := am H
   clear H
   go_wp2
   go_meet
   case rel => exact ⟨_, (false), sqD, H', ⟨by first | omega | exact Nat.le_refl _⟩, ⟨fR HO134.out⟩, ⟨fR HO137.out⟩, ⟨fb BK138.out⟩, ⟨fW HB.out⟩⟩
  rw [if_pos c28] at H
  have c28b0 : (t139 == 540) = true := beq_iff_eq.mpr c28
  have c28b1 : (t139 != 540) = false := bne_eq_false_iff_eq.mpr c28
  clear c28
  by_cases c29 : t142 = 0
  rotate_left
  ·rw [if_neg c29] at H
   have c29b0 : (t142 == 0) = false := beq_eq_false_iff_ne.mpr c29
   have c29b1 : (t142 != 0) = true := bne_iff_ne.mpr c29
   have H' := am H
   clear H
   go_wp2
   go_meet
   case rel => exact ⟨_, (false), sqD, H', ⟨by first | omega | exact Nat.le_refl _⟩, ⟨fR HO134.out⟩, ⟨fR HO137.out⟩, ⟨fb BK138.out⟩, ⟨fW HB.out⟩⟩
  rw [if_pos c29] at H
  have c29b0 : (t142 == 0) = true := beq_iff_eq.mpr c29
  have c29b1 : (t142 != 0) = false := bne_eq_false_iff_eq.mpr c29
  clear c29
  by_cases c30 : t141 = 1920
  rotate_left
  ·rw [if_neg c30] at H
   have c30b0 : (t141 == 1920) = false := beq_eq_false_iff_ne.mpr c30
   have c30b1 : (t141 != 1920) = true := bne_iff_ne.mpr c30
   have H' := am H
   clear H
   go_wp2
   go_meet
   case rel => exact ⟨_, (false), sqD, H', ⟨by first | omega | exact Nat.le_refl _⟩, ⟨fR HO134.out⟩, ⟨fR HO137.out⟩, ⟨fb BK138.out⟩, ⟨fW HB.out⟩⟩
  rw [if_pos c30] at H
  have c30b0 : (t141 == 1920) = true := beq_iff_eq.mpr c30
  have c30b1 : (t141 != 1920) = false := bne_eq_false_iff_eq.mpr c30
  clear c30
  by_cases c31 : t144 = 0
  rotate_left
  ·rw [if_neg c31] at H
   have c31b0 : (t144 == 0) = false := beq_eq_false_iff_ne.mpr c31
   have c31b1 : (t144 != 0) = true := bne_iff_ne.mpr c31
   have H' := am H
   clear H
   go_wp2
   go_meet
   case rel => exact ⟨_, (false), sqD, H', ⟨by first | omega | exact Nat.le_refl _⟩, ⟨fR HO134.out⟩, ⟨fR HO137.out⟩, ⟨fb BK138.out⟩, ⟨fW HB.out⟩⟩
  rw [if_pos c31] at H
  have c31b0 : (t144 == 0) = true := beq_iff_eq.mpr c31
  have c31b1 : (t144 != 0) = false := bne_eq_false_iff_eq.mpr c31
  clear c31
  by_cases c32 : t143 = 790
  rotate_left
  ·rw [if_neg c32] at H
   have c32b0 : (t143 == 790) = false := beq_eq_false_iff_ne.mpr c32
   have c32b1 : (t143 != 790) = true := bne_iff_ne.mpr c32
   have H' := am H
   clear H
   go_wp2
   go_meet
   case rel => exact ⟨_, (false), sqD, H', ⟨by first | omega | exact Nat.le_refl _⟩, ⟨fR HO134.out⟩, ⟨fR HO137.out⟩, ⟨fb BK138.out⟩, ⟨fW HB.out⟩⟩
  rw [if_pos c32] at H
  have c32b0 : (t143 == 790) = true := beq_iff_eq.mpr c32
  have c32b1 : (t143 != 790) = false := bne_eq_false_iff_eq.mpr c32
  clear c32
  by_cases c33 : t146 = 0
  rotate_left
  ·rw [if_neg c33] at H
   have c33b0 : (t146 == 0) = false := beq_eq_false_iff_ne.mpr c33
   have c33b1 : (t146 != 0) = true := bne_iff_ne.mpr c33
   have H' := am H
   clear H
   go_wp2
   go_meet
   case rel => exact ⟨_, (false), sqD, H', ⟨by first | omega | exact Nat.le_refl _⟩, ⟨fR HO134.out⟩, ⟨fR HO137.out⟩, ⟨fb BK138.out⟩, ⟨fW HB.out⟩⟩
  rw [if_pos c33] at H
  have c33b0 : (t146 == 0) = true := beq_iff_eq.mpr c33
  have c33b1 : (t146 != 0) = false := bne_eq_false_iff_eq.mpr c33
  clear c33
  by_cases c34 : t145 = 700
  rotate_left
  ·rw [if_neg c34] at H
   have c34b0 : (t145 == 700) = false := beq_eq_false_iff_ne.mpr c34
   have c34b1 : (t145 != 700) = true := bne_iff_ne.mpr c34
   have H' := am H
   clear H
   go_wp2
   go_meet
   case rel => exact ⟨_, (false), sqD, H', ⟨by first | omega | exact Nat.le_refl _⟩, ⟨fR HO134.out⟩, ⟨fR HO137.out⟩, ⟨fb BK138.out⟩, ⟨fW HB.out⟩⟩
  rw [if_pos c34] at H
  have c34b0 : (t145 == 700) = true := beq_iff_eq.mpr c34
  have c34b1 : (t145 != 700) = false := bne_eq_false_iff_eq.mpr c34
  clear c34
  by_cases c35 : t148 = 0
  rotate_left
  ·rw [if_neg c35] at H
   have c35b0 : (t148 == 0) = false := beq_eq_false_iff_ne.mpr c35
   have c35b1 : (t148 != 0) = true := bne_iff_ne.mpr c35
   have H' := am H
   clear H
   go_wp2
   go_meet
   case rel => exact ⟨_, (false), sqD, H', ⟨by first | omega | exact Nat.le_refl _⟩, ⟨fR HO134.out⟩, ⟨fR HO137.out⟩, ⟨fb BK138.out⟩, ⟨fW HB.out⟩⟩
  rw [if_pos c35] at H
  have c35b0 : (t148 == 0) = true := beq_iff_eq.mpr c35
  have c35b1 : (t148 != 0) = false := bne_eq_false_iff_eq.mpr c35
  clear c35
  by_cases c36 : t147 = 20640
  rotate_left
  ·rw [if_neg c36] at H
   have c36b0 : (t147 == 20640) = false := beq_eq_false_iff_ne.mpr c36
   have c36b1 : (t147 != 20640) = true := bne_iff_ne.mpr c36
   have H' := am H
   clear H
   go_wp2
   go_meet
   case rel => exact ⟨_, (false), sqD, H', ⟨by first | omega | exact Nat.le_refl _⟩, ⟨fR HO134.out⟩, ⟨fR HO137.out⟩, ⟨fb BK138.out⟩, ⟨fW HB.out⟩⟩
  rw [if_pos c36] at H
  have c36b0 : (t147 == 20640) = true := beq_iff_eq.mpr c36
  have c36b1 : (t147 != 20640) = false := bne_eq_false_iff_eq.mpr c36
  clear c36
  by_cases c37 : t150 = 0
  ·rw [if_pos c37] at H
   have c37b0 : (t150 == 0) = true := beq_iff_eq.mpr c37
   have c37b1 : (t150 != 0) = false := bne_eq_false_iff_eq.mpr c37
   clear c37
   have H' := am H
   clear H
   go_wp2
   go_meet
   case rel => exact ⟨_, ((t149 == 540)), sqD, H', ⟨by first | omega | exact Nat.le_refl _⟩, ⟨fR HO134.out⟩, ⟨fR HO137.out⟩, ⟨fb BK138.out⟩, ⟨fW HB.out⟩⟩
  rw [if_neg c37] at H
  have c37b0 : (t150 == 0) = false := beq_eq_false_iff_ne.mpr c37
  have c37b1 : (t150 != 0) = true := bne_iff_ne.mpr c37
  have H' := am H
  clear H
  go_wp2
  go_meet
  case rel => exact ⟨_, (false), sqD, H', ⟨by first | omega | exact Nat.le_refl _⟩, ⟨fR HO134.out⟩, ⟨fR HO137.out⟩, ⟨fb BK138.out⟩, ⟨fW HB.out⟩⟩
 case rest =>
  clear HC7
  try clear c1;try clear c2;try clear p2;try clear c3;try clear c12;try clear c13;try clear c15;try clear c20;try clear c21;try clear c22;try clear c27;try clear c27b0;try clear c27b1;try clear c28;try clear c28b0;try clear c28b1;try clear c29;try clear c29b0;try clear c29b1;try clear c30;try clear c30b0;try clear c30b1;try clear c31;try clear c31b0;try clear c31b1;try clear c32;try clear c32b0;try clear c32b1;try clear c33;try clear c33b0;try clear c33b1;try clear c34;try clear c34b0;try clear c34b1;try clear c35;try clear c35b0;try clear c35b1;try clear c36;try clear c36b0;try clear c36b1;try clear c37;try clear c37b0;try clear c37b1
  obtain ⟨kq, x0_6, rfl, HA, HJ6, HO_139000, HO_139001, BK138, HB⟩ := hcut
  cases kq with
  | zero => exact absurd HA.out (by simp [w_awake.j0])
  | succ kj6 =>
   have H := HA.out
   clear HA
   simp only [w_awake.j0] at H
   obtain rfl := Option.some.inj H
   go_wp2
   go_ret
   exact ⟨sqE, fW HB.out⟩

def w_ours.f (l0_0 : List (S54)) (l0_1 : List Int) : Option ((List (S54)) × List Int) := some (l0_0, l0_1)
set_option maxHeartbeats 8000000 in
set_option maxRecDepth 100000 in
theorem w_ours.calls (P0_0_ : Nat → Prop) (A0_0 : Option Addr) (c0_0 : Nat) (l0_0 : List (S54)) (P0_1_ : Nat → Prop) (A0_1 : Option Addr) (c0_1 : Nat) (l0_1 : List Int) (r1 : List (S54)) (r2 : List Int) (w : World) (hs0_0 : Kd.V k54 54 w w.heap.size (fun k_ => P0_0_ k_) (.slice A0_0 l0_0.length c0_0) l0_0) (hs0_1 : Kd.V (Kd.int .i64) 3 w w.heap.size (fun k_ => P0_1_ k_) (.slice A0_1 l0_1.length c0_1) l0_1) (h : w_ours.f l0_0 l0_1 = some (r1, r2)) :
  Calls Try.prog 14 #[.agg #[.slice A0_0 l0_0.length c0_0, .slice A0_1 l0_1.length c0_1]] w fun e w' => ∃ v0_ v1_ : Value, e = .returned (.agg #[v0_, v1_]) ∧ Kd.V k54 54 w' w.heap.size (fun k_ => ((P0_0_ k_ ∨ P0_1_ k_) ∨ w.heap.size ≤ k_)) v0_ r1 ∧ Kd.V (Kd.int .i64) 3 w' w.heap.size (fun k_ => ((P0_0_ k_ ∨ P0_1_ k_) ∨ w.heap.size ≤ k_)) v1_ r2 ∧ Below w.heap.size w w' := by
 have hu25 := Try.underlying25
 have hu31 := Try.underlying31
 have HO0_0 := am (show Kd.V k54 54 w w.heap.size (fun k_ => ((P0_0_ k_ ∨ P0_1_ k_) ∨ w.heap.size ≤ k_)) (.slice A0_0 l0_0.length c0_0) l0_0 from Kd.V_mono hs0_0 (fun k_ hk => .inl (.inl hk)))
 have HO0_1 := am (show Kd.V (Kd.int .i64) 3 w w.heap.size (fun k_ => ((P0_0_ k_ ∨ P0_1_ k_) ∨ w.heap.size ≤ k_)) (.slice A0_1 l0_1.length c0_1) l0_1 from Kd.V_mono hs0_1 (fun k_ hk => .inl (.inr hk)))
 have HB := am (Below.refl w.heap.size w)
 have H : (some (l0_0, l0_1)) = some (r1, r2) := h
 clear h
 simp only [Option.some.injEq, Prod.mk.injEq] at H
 obtain ⟨rfl, rfl⟩ := H
 go_enter Try.func14, Try.ntmps14
 go_wp2_with (first | ((with_reducible refine gate_dst (N := 1) rfl ?_); refine box_event ?hg (N := 1) ?hd (cs := #[.slice A0_0 l0_0.length c0_0, .slice A0_1 l0_1.length c0_1]) (t := 25) ?hr ?_; (case hd | hg => rfl); (case hr => first | (go_simp; done) | (go_simp; rfl)); intro gb151 hg w2 hbox hb; replace HO0_0 := eV HO0_0 hg hb; replace HO0_1 := eV HO0_1 hg hb; have BK151 := am hbox; have GW151 := sG HB hg; have GE151 := sG HB hg; replace HB := bS HB hb; clear hb hbox hg) | ((with_reducible refine gate_dst (N := 2) rfl ?_); refine box_event ?hg (N := 2) ?hd (cs := #[.slice none 0 0, .slice none 0 0]) (t := 31) ?hr ?_; (case hd | hg => rfl); (case hr => first | (go_simp; done) | (go_simp; rfl)); intro gb152 hg w3 hbox hb; replace HO0_0 := eV HO0_0 hg hb; replace HO0_1 := eV HO0_1 hg hb; have BK152 := am hbox; have GW152 := sG HB hg; have GE152 := sG HB hg; replace HB := bS HB hb; have NB151_152 := nL BK151 hg; have NB152_151 := nG BK151 hg; replace BK151 := bB BK151 hb; clear hb hbox hg; have hnb4 := NB151_152.out; have hnc4 := NB152_151.out; obtain ⟨_, _, _, _⟩ := zC2 BK151; obtain ⟨_, _, _, _⟩ := zC2 BK152))
 refine bodyPost_ret (results_cell_row rfl _ _ gb152 31 #[.slice A0_0 l0_0.length c0_0, .slice A0_1 l0_1.length c0_1] (0, 0) _ rfl (kkC BK152.out) Try.underlying31 rfl (by kernel_rfl)) rfl ?_
 exact ⟨_, _, sqE, by (with_reducible repeat (first | apply Kd.V_alloc | apply Kd.V_drewN | apply Kd.V_drew)); exact Kd.V_mono (Kd.V_far (p := ⟨gb152, 1, none⟩) (Kd.V_far (p := ⟨gb152, 0, none⟩) (Kd.V_mono HO0_0.out (fun k_ hk => (⟨hk, hk.2⟩ : _ ∧ k_ ≠ gb152))) (fun _ hk => hk.2) (.slice A0_0 l0_0.length c0_0)) (fun _ hk => hk.2) (.slice A0_1 l0_1.length c0_1)) (fun _ hk => hk.1.1.1), by (with_reducible repeat (first | apply Kd.V_alloc | apply Kd.V_drewN | apply Kd.V_drew)); exact Kd.V_mono (Kd.V_far (p := ⟨gb152, 1, none⟩) (Kd.V_far (p := ⟨gb152, 0, none⟩) (Kd.V_mono HO0_1.out (fun k_ hk => (⟨hk, hk.2⟩ : _ ∧ k_ ≠ gb152))) (fun _ hk => hk.2) (.slice A0_0 l0_0.length c0_0)) (fun _ hk => hk.2) (.slice A0_1 l0_1.length c0_1)) (fun _ hk => hk.1.1.1), fW HB.out⟩

end Go.Proofs.Ytpjgmlnnhcnelaa.QA
