import Derived.Test.YtpjgmlnnhcnelaaDYQAx0
import Derived.Test.YtpjgmlnnhcnelaaDYQAx4
import Derived.Test.YtpjgmlnnhcnelaaDYQAx5
namespace Go.Proofs.Ytpjgmlnnhcnelaa.QA
open Go.RowKit Go.Proofs.YtpjgmlnnhcnelaaW.PrintWords Go.Proofs.YtpjgmlnnhcnelaaW.PrintLast Go.Proofs.YtpjgmlnnhcnelaaW.PrintMore
open Go.Proofs.YtpjgmlnnhcnelaaW.PrintWords renaming blk_frozen → bf, blk_cell → bc, blk_below → bb
open Aside0 renaming mk → am
attribute [local go_sem] max2_int min2_int max_two min_two max_three min_three max_four min_four
set_option linter.unusedVariables false
set_option linter.unusedSimpArgs false

section
open Go.Proofs.Ytpjgmlnnhcnelaa.Iter Go.Proofs.YtpjgmlnnhcnelaaW.PrintMore
attribute [local go_sem] max2_int min2_int max_two min_two Oper.semAt_some
set_option linter.unusedVariables false
set_option linter.unusedSimpArgs false
def nextR (l : List (Int × Int)) : Int × Int := match l with
 | [] => (0, 9)
 | x :: _ => (x.1, 0)
def shift_Next.f (k : Nat) (l0_0 : List S54) (l0_1 : List Int) (a1 : Int) : Option (Int × Int) :=
 (shift_minutes.f k l0_0 l0_1 [a1]).bind fun e => if e = 0 then (if okB l0_0 l0_1 = true ∧ 0 ≤ a1 ∧ a1 ≤ 14400000 then some (nextR (rngL l0_0 l0_1 a1)) else none) else some (0, e)
set_option maxRecDepth 100000 in
set_option maxHeartbeats 4000000 in
theorem shift_Next.calls (k : Nat) (A0_0 : Option Addr) (c0_0 : Nat) (l0_0 : List S54) (A0_1 : Option Addr) (c0_1 : Nat) (l0_1 : List Int) (a1 : Int) (r1 r2 : Int) (w : World) (hr0_0 : Kd.C k54 w A0_0 l0_0.length l0_0) (hc0_0 : l0_0.length ≤ c0_0) (hr0_1 : Kd.C (Kd.int .i64) w A0_1 l0_1.length l0_1) (hc0_1 : l0_1.length ≤ c0_1) (h : shift_Next.f k l0_0 l0_1 a1 = some (r1, r2)) :
  Calls Try.prog 15 #[.agg #[.slice A0_0 l0_0.length c0_0, .slice A0_1 l0_1.length c0_1], .int .i64 a1] w fun e w' => e = .returned (.tuple #[.int .i64 r1, .int .i64 r2]) ∧ Below w.heap.size w w' := by
 have hu31 := Try.underlying31
 obtain ⟨e, h1, h2⟩ := Option.bind_eq_some_iff.1 h
 have HR0 := am hr0_0
 have HR1 := am hr0_1
 have HM := am h1
 clear hr0_0 hr0_1 h1 h
 refine callsIn_wide.1 (callsIn_of_wp_marks (n := 9) Try.func15 rfl trivial ?_ rfl)
 simp only [Try.ntmps15, List.size_toArray, List.length_cons, List.length_nil, Nat.reduceAdd, Nat.reduceSub, Array.replicate_succ, Array.replicate_zero, List.push_toArray, List.append_toArray, List.nil_append, List.cons_append]
 obtain ⟨Wn, hWn⟩ : ∃ Wn, Wn = (((w.alloc (Obj.cells #[Value.slice A0_0 l0_0.length c0_0, Value.slice A0_1 l0_1.length c0_1] 31)).alloc (Obj.cells #[Value.int IntKind.i64 0] 3)).alloc (Obj.cells #[Value.int IntKind.i64 0] 28)).alloc (Obj.cells #[Value.int IntKind.i64 a1] 3) := ⟨_, rfl⟩
 have hbn : Below w.heap.size w Wn := by rw [hWn]; exact below_alloc (below_alloc (below_alloc (below_alloc (Below.refl _ _) _) _) _) _
 have hg : Wn.heap[w.heap.size + 1 + 1 + 1]? = some (.cells #[.int .i64 a1] 3 (0, 0)) := by
  rw [hWn]
  have h := blk_new (((w.alloc (Obj.cells #[Value.slice A0_0 l0_0.length c0_0, Value.slice A0_1 l0_1.length c0_1] 31)).alloc (Obj.cells #[Value.int IntKind.i64 0] 3)).alloc (Obj.cells #[Value.int IntKind.i64 0] 28)) (Obj.cells #[Value.int IntKind.i64 a1] 3)
  rw [World.size_alloc, World.size_alloc, World.size_alloc] at h
  exact h
 have hz2 : Wn.heap[w.heap.size]? = some (.cells #[.slice A0_0 l0_0.length c0_0, .slice A0_1 l0_1.length c0_1] 31 (0, 0)) := by
  rw [hWn]; exact blk_alloc (blk_alloc (blk_alloc (blk_new w _) _) _) _
 have hz4 : Wn.heap[w.heap.size + 1]? = some (.cells #[.int .i64 0] 3 (0, 0)) := by
  rw [hWn]
  have h := blk_new (w.alloc (Obj.cells #[Value.slice A0_0 l0_0.length c0_0, Value.slice A0_1 l0_1.length c0_1] 31)) (Obj.cells #[Value.int IntKind.i64 0] 3)
  rw [World.size_alloc] at h
  exact blk_alloc (blk_alloc h _) _
 have hz5 : Wn.heap[w.heap.size + 1 + 1]? = some (.cells #[.int .i64 0] 28 (0, 0)) := by
  rw [hWn]
  have h := blk_new ((w.alloc (Obj.cells #[Value.slice A0_0 l0_0.length c0_0, Value.slice A0_1 l0_1.length c0_1] 31)).alloc (Obj.cells #[Value.int IntKind.i64 0] 3)) (Obj.cells #[Value.int IntKind.i64 0] 28)
  rw [World.size_alloc, World.size_alloc] at h
  exact blk_alloc h _
 have hcon := (callsIn_wide (n := 8)).2 (shift_minutes.calls k A0_0 c0_0 l0_0 A0_1 c0_1 l0_1 (some ⟨w.heap.size + 1 + 1 + 1, 0, none⟩) 1 [a1] e Wn (Kd.C_below HR0.out hbn) hc0_0 (Kd.C_below HR1.out hbn) hc0_1 (ints_C .i64 [a1] hg rfl (by simp)) (by simp) HM.out)
 have HC := am hcon
 have HBN := am hbn
 have Z2 := am hz2
 have Z4 := am hz4
 have Z5 := am hz5
 clear hcon hbn hg hz2 hz4 hz5
 by_cases he : e = 0
 rotate_left
 ·rw [if_neg he] at h2
  have he1 : (e == 0) = false := beq_eq_false_iff_ne.2 he
  have he2 : (e != 0) = true := bne_iff_ne.2 he
  have HE := am he
  clear he
  gi_wp2_with (refine ⟨trivial, ?_⟩; gi_at_call 35; rw [← hWn]; refine HC.out.mono ?_; rintro e' w' ⟨rfl, hb⟩; have q2 := (bc (bb Z2.out hb) 0).trans rfl; have q3 := (bc (bb Z2.out hb) 1).trans rfl; have q4 := (bc (bb Z4.out hb) 0).trans rfl; have q5 := (bc (bb Z5.out hb) 0).trans rfl; have f4 := bf (bb Z4.out hb) 0; have f5 := bf (bb Z5.out hb) 0; have HB := am hb; clear hb)
  obtain ⟨c1, c2⟩ := put_two (x := .int .i64 0) (y := .int .i64 e) (by omega : w.heap.size + 1 ≠ w.heap.size + 1 + 1) q4 q5
  obtain ⟨rfl, rfl⟩ : r1 = 0 ∧ r2 = e := by
   have := Option.some.inj h2
   simp only [Prod.mk.injEq] at this
   exact ⟨this.1.symm, this.2.symm⟩
  refine ⟨_, two_cells (fn := Try.f15) rfl rfl rfl c1 c2, rfl, ?_⟩
  have hb1 : Below w.heap.size w w' := HBN.out.trans (HB.out.mono HBN.out.size)
  exact (hb1.setCell (p := ⟨w.heap.size + 1, 0, none⟩) (by simp) _).setCell (p := ⟨w.heap.size + 1 + 1, 0, none⟩) (by simp; omega) _
 subst he
 rw [if_pos rfl] at h2
 split at h2
 case isFalse => exact absurd h2 (by simp)
 case isTrue hok =>
 obtain ⟨hok, ha0, ha1⟩ := hok
 obtain ⟨o1, o2, o3, o4⟩ := okB_is hok
 have h2' := Option.some.inj h2
 have HN := am h2'
 have HV := am o3
 clear h2 h2' o3 hok
 gi_wp2_with (first | (refine ⟨trivial, ?_⟩; gi_at_call 35; rw [← hWn]; refine HC.out.mono ?_; rintro e' w' ⟨rfl, hb⟩; have q2 := (bc (bb Z2.out hb) 0).trans rfl; have q3 := (bc (bb Z2.out hb) 1).trans rfl; have q4 := (bc (bb Z4.out hb) 0).trans rfl; have q5 := (bc (bb Z5.out hb) 0).trans rfl; have f4 := bf (bb Z4.out hb) 0; have f5 := bf (bb Z5.out hb) 0; have HB := am hb; clear hb) | (refine ⟨trivial, ?_⟩; gi_at_call 36; refine ((callsIn_wide (n := 8)).2 (ranges_calls _ _ _ _ _ _ _ _)).mono ?_; rintro e' w2 ⟨rfl, rfl⟩))
 have sW : w.heap.size + 4 ≤ w'.heap.size := by have := HB.out.size; rw [hWn] at this; simp at this; omega
 have hb1 : Below w.heap.size w w' := HBN.out.trans (HB.out.mono HBN.out.size)
 obtain ⟨Wr, hWr⟩ : ∃ Wr, Wr = (w'.alloc (.cells #[.slice A0_0 l0_0.length c0_0, .slice A0_1 l0_1.length c0_1] 31)).alloc (.cells #[.int .i64 a1] 3) := ⟨_, rfl⟩
 have szr : Wr.heap.size = w'.heap.size + 2 := by rw [hWr]; simp
 have br : Below w'.heap.size w' Wr := by rw [hWr]; exact below_alloc (below_alloc (Below.refl _ _) _) _
 have m1 : Wr.heap[w'.heap.size]? = some (.cells #[.slice A0_0 l0_0.length c0_0, .slice A0_1 l0_1.length c0_1] 31 (0, 0)) := by rw [hWr]; exact blk_alloc (blk_new w' _) _
 have m2 : Wr.heap[w'.heap.size + 1]? = some (.cells #[.int .i64 a1] 3 (0, 0)) := by
  have h := blk_new (w'.alloc (.cells #[.slice A0_0 l0_0.length c0_0, .slice A0_1 l0_1.length c0_1] 31)) (.cells #[.int .i64 a1] 3)
  rw [World.size_alloc] at h; rw [hWr]; exact h
 rw [← hWr]
 have r4 : Wr.heap[w.heap.size + 1]? = some (.cells #[.int .i64 0] 3 (0, 0)) := bb (bb Z4.out HB.out) br
 have r5 : Wr.heap[w.heap.size + 1 + 1]? = some (.cells #[.int .i64 0] 28 (0, 0)) := bb (bb Z5.out HB.out) br
 have bwr : Below w.heap.size w Wr := hb1.trans (br.mono hb1.size)
 have keep : ∀ {A B' : World} {row : Option Nat}, A.grownBy B' row → (∀ r, row = some r → Wr.heap.size ≤ r ∧ ∃ o : Obj, A.heap[r]? = some o ∧ o.isCells = false) → ∀ {q : Nat} {o : Obj}, q < w'.heap.size → A.heap[q]? = some o → B'.heap[q]? = some o :=
  fun {A B' row} hg hr {q o} hq ho => ownFrom_rec (β := Unit) (B := Wr.heap.size) (k := q) (by omega) o () A B' row ho hg hr
 clear q2 q3 q4 q5 f4 f5
 refine range_O (by omega) rfl rfl (enters_of Try.func50 (by kernel_rfl) rfl)
  (ranges50 w w.heap.size w'.heap.size (Nat.le_refl _) (by omega) A0_0 A0_1 c0_0 c0_1 l0_0 l0_1 a1 HR0.out hc0_0 HR1.out hc0_1 (by omega) o4 (by omega) HV.out ha0 ha1 w'.heap.size (w'.heap.size + 1) (.inr (Nat.le_refl _)) (.inr (by omega)) Wr (by omega) m1 m2 bwr) (by omega) (fun _ => rfl)
  (fun pre W' => pre = [] ∧ W'.heap[w.heap.size + 1]? = some (.cells #[.int .i64 0] 3 (0, 0)) ∧ W'.heap[w.heap.size + 1 + 1]? = some (.cells #[.int .i64 0] 28 (0, 0)) ∧ Below w.heap.size w W')
  (fun c pre W' => c = .ret ∧ ∃ x, pre = [x] ∧ W'.cell? ⟨w.heap.size + 1, 0, none⟩ = some (.int .i64 x.1) ∧ W'.cell? ⟨w.heap.size + 1 + 1, 0, none⟩ = some (.int .i64 0) ∧ Below w.heap.size w W')
  ?oI ?oIx ⟨rfl, r4, r5, bwr⟩ (fun x => { tmps := #[.agg #[.slice A0_0 l0_0.length c0_0, .slice A0_1 l0_1.length c0_1], .int .i64 a1, .pointer (some ⟨w.heap.size, 0, none⟩), undef, .pointer (some ⟨w.heap.size + 1, 0, none⟩), .pointer (some ⟨w.heap.size + 1 + 1, 0, none⟩), .int .i64 0, .int .i64 x.1, .agg #[.slice A0_0 l0_0.length c0_0, .slice A0_1 l0_1.length c0_1], .int .i64 a1, .slice (some ⟨w.heap.size + 1 + 1 + 1, 0, none⟩) 1 1, .int .i64 0, .int .i64 0, .bool false, undef, .agg #[.slice A0_0 l0_0.length c0_0, .slice A0_1 l0_1.length c0_1], .int .i64 a1, .func (.func 50) #[] #[.pointer (some ⟨w'.heap.size + 1, 0, none⟩), .pointer (some ⟨w'.heap.size, 0, none⟩)], .int .i64 x.1, .int .i64 x.2, undef], defers := [] }) ?assign ?body ?done ?stop
 case oI =>
  intro s A B' row hs hg hr
  obtain ⟨g0, g1, g2, g3⟩ := hs
  exact ⟨g0, keep hg hr (by omega) g1, keep hg hr (by omega) g2, ownFrom_below (Nat.le_refl _) (by omega) s A B' row g3 hg hr⟩
 case oIx =>
  intro c s A B' row hs hg hr
  obtain ⟨g0, x, g1, g2, g3, g4⟩ := hs
  exact ⟨g0, x, g1, cell_kept g2 hg (fun r e => (hr r e).2), cell_kept g3 hg (fun r e => (hr r e).2), ownFrom_below (Nat.le_refl _) (by omega) s A B' row g4 hg hr⟩
 case assign =>
  intro l' x W' K hK
  simp only [enc2]
  gi_wp2
  exact hK
 case body =>
  rintro l' pre x W' hl' hrec ⟨rfl, g1, g2, g3⟩ hpx
  have q4 := (bc g1 0).trans rfl
  have q5 := (bc g2 0).trans rfl
  have f4 := bf g1 0
  have f5 := bf g2 0
  gi_wp2
  obtain ⟨c1, c2⟩ := put_two (x := .int .i64 x.1) (y := .int .i64 0) (by omega : w.heap.size + 1 ≠ w.heap.size + 1 + 1) q4 q5
  exact ⟨(Whole.set (by omega) _).trans (Whole.set (by omega) _), rfl, x, rfl, c1, c2, (g3.setCell (p := ⟨w.heap.size + 1, 0, none⟩) (by simp) _).setCell (p := ⟨w.heap.size + 1 + 1, 0, none⟩) (by simp; omega) _⟩
 case done =>
  rintro D W' hD ⟨g0, g1, g2, g3⟩ hDd
  have q4 := (bc g1 0).trans rfl
  have q5 := (bc g2 0).trans rfl
  have f4 := bf g1 0
  have f5 := bf g2 0
  gi_wp2
  obtain ⟨c1, c2⟩ := put_two (x := .int .i64 0) (y := .int .i64 9) (by omega : w.heap.size + 1 ≠ w.heap.size + 1 + 1) q4 q5
  have hn := HN.out
  rw [g0] at hn
  obtain ⟨rfl, rfl⟩ : r1 = 0 ∧ r2 = 9 := by
   simp only [nextR, Prod.mk.injEq] at hn
   exact ⟨hn.1.symm, hn.2.symm⟩
  have hd2 := set_other (u := .int .i64 9) (g := w.heap.size + 1 + 1) (by omega) (set_other (u := .int .i64 0) (g := w.heap.size + 1) (by omega) hDd)
  refine leave_two (fn := Try.f15) rfl rfl rfl c1 c2 hd2 ⟨rfl, ?_⟩
  exact ((g3.setCell (p := ⟨w.heap.size + 1, 0, none⟩) (by simp) _).setCell (p := ⟨w.heap.size + 1 + 1, 0, none⟩) (by simp; omega) _).trans (belowK_b (w := w) (Nat.le_refl _) _ D _ _ (by omega) hd2 rfl rfl)
 case stop =>
  rintro D c pre W' hD hp ⟨rfl, x, rfl, g2, g3, g4⟩ hDd
  gi_wp2
  have hn := HN.out
  obtain ⟨l, hl⟩ := hp
  rw [← hl] at hn
  obtain ⟨rfl, rfl⟩ : r1 = x.1 ∧ r2 = 0 := by
   simp only [nextR, List.singleton_append, Prod.mk.injEq] at hn
   exact ⟨hn.1.symm, hn.2.symm⟩
  refine leave_two (fn := Try.f15) rfl rfl rfl g2 g3 hDd ⟨rfl, ?_⟩
  exact g4.trans (belowK_b (w := w) (Nat.le_refl _) _ D _ _ (by omega) hDd rfl rfl)
end

section
open Go.Proofs.Ytpjgmlnnhcnelaa.Iter Go.Proofs.YtpjgmlnnhcnelaaW.PrintMore
attribute [local go_sem] max2_int min2_int max_two min_two Oper.semAt_some
set_option linter.unusedVariables false
set_option linter.unusedSimpArgs false
def afterF : Int → List (Int × Int) → Int × Int
 | _, [] => (0, 9)
 | z, x :: l => if wrap64 (x.2 - x.1) ≥ z then (wrap64 (x.1 + z), 0) else afterF (wrap64 (z - wrap64 (x.2 - x.1))) l
def shift_After.f (k : Nat) (l0_0 : List S54) (l0_1 : List Int) (a1 a2 : Int) : Option (Int × Int) :=
 (shift_minutes.f k l0_0 l0_1 [a1, a2]).bind fun e => if e = 0 then (if a2 = 0 then some (a1, 0) else if okB l0_0 l0_1 = true ∧ 0 ≤ a1 ∧ a1 ≤ 14400000 then some (afterF a2 (rngL l0_0 l0_1 a1)) else none) else some (0, e)
def AUpto (z : Int) (pre : List (Int × Int)) (s : Int) : Prop := ∀ rest, afterF z (pre ++ rest) = afterF s rest
def AStop (z : Int) (pre : List (Int × Int)) (s : Int) : Prop := ∀ rest, afterF z (pre ++ rest) = (s, 0)
set_option maxRecDepth 100000 in
set_option maxHeartbeats 4000000 in
theorem shift_After.calls (k : Nat) (A0_0 : Option Addr) (c0_0 : Nat) (l0_0 : List S54) (A0_1 : Option Addr) (c0_1 : Nat) (l0_1 : List Int) (a1 a2 : Int) (r1 r2 : Int) (w : World) (hr0_0 : Kd.C k54 w A0_0 l0_0.length l0_0) (hc0_0 : l0_0.length ≤ c0_0) (hr0_1 : Kd.C (Kd.int .i64) w A0_1 l0_1.length l0_1) (hc0_1 : l0_1.length ≤ c0_1) (h : shift_After.f k l0_0 l0_1 a1 a2 = some (r1, r2)) :
  Calls Try.prog 20 #[.agg #[.slice A0_0 l0_0.length c0_0, .slice A0_1 l0_1.length c0_1], .int .i64 a1, .int .i64 a2] w fun e w' => e = .returned (.tuple #[.int .i64 r1, .int .i64 r2]) ∧ Below w.heap.size w w' := by
 have hu31 := Try.underlying31
 obtain ⟨e, h1, h2⟩ := Option.bind_eq_some_iff.1 h
 have HR0 := am hr0_0
 have HR1 := am hr0_1
 have HM := am h1
 clear hr0_0 hr0_1 h1 h
 refine callsIn_wide.1 (callsIn_of_wp_marks (n := 9) Try.func20 rfl trivial ?_ rfl)
 simp only [Try.ntmps20, List.size_toArray, List.length_cons, List.length_nil, Nat.reduceAdd, Nat.reduceSub, Array.replicate_succ, Array.replicate_zero, List.push_toArray, List.append_toArray, List.nil_append, List.cons_append]
 obtain ⟨Wn, hWn⟩ : ∃ Wn, Wn = (((((w.alloc (Obj.cells #[Value.slice A0_0 l0_0.length c0_0, Value.slice A0_1 l0_1.length c0_1] 31)).alloc (Obj.cells #[Value.int IntKind.i64 a2] 3)).alloc (Obj.cells #[Value.int IntKind.i64 0] 3)).alloc (Obj.cells #[Value.int IntKind.i64 0] 28)).alloc (Obj.cells #[Value.int IntKind.i64 a1, Value.int IntKind.i64 a2] 3)) := ⟨_, rfl⟩
 have hWa : Wn = allocs w [Obj.cells #[Value.slice A0_0 l0_0.length c0_0, Value.slice A0_1 l0_1.length c0_1] 31, Obj.cells #[Value.int IntKind.i64 a2] 3, Obj.cells #[Value.int IntKind.i64 0] 3, Obj.cells #[Value.int IntKind.i64 0] 28, Obj.cells #[Value.int IntKind.i64 a1, Value.int IntKind.i64 a2] 3] := hWn
 have hbn : Below w.heap.size w Wn := by rw [hWa]; exact allocs_below _ _
 have szn : Wn.heap.size = w.heap.size + 5 := by rw [hWa]; exact allocs_size _ _
 have hz2 : Wn.heap[w.heap.size]? = some (.cells #[.slice A0_0 l0_0.length c0_0, .slice A0_1 l0_1.length c0_1] 31 (0, 0)) := by rw [hWa]; exact allocs_get w _ 0 _ rfl
 have hz3 : Wn.heap[w.heap.size + 1]? = some (.cells #[.int .i64 a2] 3 (0, 0)) := by rw [hWa]; exact allocs_get w _ 1 _ rfl
 have hz4 : Wn.heap[w.heap.size + 1 + 1]? = some (.cells #[.int .i64 0] 3 (0, 0)) := by rw [hWa]; exact allocs_get w _ 2 _ rfl
 have hz5 : Wn.heap[w.heap.size + 1 + 1 + 1]? = some (.cells #[.int .i64 0] 28 (0, 0)) := by rw [hWa]; exact allocs_get w _ 3 _ rfl
 have hg : Wn.heap[w.heap.size + 1 + 1 + 1 + 1]? = some (.cells #[.int .i64 a1, .int .i64 a2] 3 (0, 0)) := by rw [hWa]; exact allocs_get w _ 4 _ rfl
 have hcon := (callsIn_wide (n := 8)).2 (shift_minutes.calls k A0_0 c0_0 l0_0 A0_1 c0_1 l0_1 (some ⟨w.heap.size + 1 + 1 + 1 + 1, 0, none⟩) 2 [a1, a2] e Wn (Kd.C_below HR0.out hbn) hc0_0 (Kd.C_below HR1.out hbn) hc0_1 (ints_C .i64 [a1, a2] hg rfl (by simp)) (by simp) HM.out)
 have HC := am hcon
 have HBN := am hbn
 have Z2 := am hz2
 have Z3 := am hz3
 have Z4 := am hz4
 have Z5 := am hz5
 have SZ := am szn
 clear hcon hbn hg hz2 hz3 hz4 hz5 szn hWa
 by_cases he : e = 0
 rotate_left
 ·rw [if_neg he] at h2
  have he1 : (e == 0) = false := beq_eq_false_iff_ne.2 he
  have he2 : (e != 0) = true := bne_iff_ne.2 he
  have HE := am he
  clear he
  gi_wp2_with (refine ⟨trivial, ?_⟩; gi_at_call 35; rw [← hWn]; refine HC.out.mono ?_; rintro e' w' ⟨rfl, hb⟩; have q2 := (bc (bb Z2.out hb) 0).trans rfl; have q3 := (bc (bb Z2.out hb) 1).trans rfl; have q1 := (bc (bb Z3.out hb) 0).trans rfl; have q4 := (bc (bb Z4.out hb) 0).trans rfl; have q5 := (bc (bb Z5.out hb) 0).trans rfl; have f4 := bf (bb Z4.out hb) 0; have f5 := bf (bb Z5.out hb) 0; have HB := am hb; clear hb)
  obtain ⟨c1, c2⟩ := put_two (x := .int .i64 0) (y := .int .i64 e) (by omega : w.heap.size + 1 + 1 ≠ w.heap.size + 1 + 1 + 1) q4 q5
  obtain ⟨rfl, rfl⟩ : r1 = 0 ∧ r2 = e := by
   have := Option.some.inj h2
   simp only [Prod.mk.injEq] at this
   exact ⟨this.1.symm, this.2.symm⟩
  refine ⟨_, two_cells (fn := Try.f20) rfl rfl rfl c1 c2, rfl, ?_⟩
  have hb1 : Below w.heap.size w w' := HBN.out.trans (HB.out.mono HBN.out.size)
  exact (hb1.setCell (p := ⟨w.heap.size + 1 + 1, 0, none⟩) (by simp; omega) _).setCell (p := ⟨w.heap.size + 1 + 1 + 1, 0, none⟩) (by simp; omega) _
 subst he
 rw [if_pos rfl] at h2
 by_cases hzz : a2 = 0
 ·rw [if_pos hzz] at h2
  have hz1 : (a2 == 0) = true := beq_iff_eq.2 hzz
  have HZ := am hzz
  clear hzz
  gi_wp2_with (refine ⟨trivial, ?_⟩; gi_at_call 35; rw [← hWn]; refine HC.out.mono ?_; rintro e' w' ⟨rfl, hb⟩; have q1 := (bc (bb Z3.out hb) 0).trans rfl; have q4 := (bc (bb Z4.out hb) 0).trans rfl; have q5 := (bc (bb Z5.out hb) 0).trans rfl; have f4 := bf (bb Z4.out hb) 0; have f5 := bf (bb Z5.out hb) 0; have HB := am hb; clear hb)
  obtain ⟨c1, c2⟩ := put_two (x := .int .i64 a1) (y := .int .i64 0) (by omega : w.heap.size + 1 + 1 ≠ w.heap.size + 1 + 1 + 1) q4 q5
  obtain ⟨rfl, rfl⟩ : r1 = a1 ∧ r2 = 0 := by
   have := Option.some.inj h2
   simp only [Prod.mk.injEq] at this
   exact ⟨this.1.symm, this.2.symm⟩
  refine ⟨_, two_cells (fn := Try.f20) rfl rfl rfl c1 c2, rfl, ?_⟩
  have hb1 : Below w.heap.size w w' := HBN.out.trans (HB.out.mono HBN.out.size)
  exact (hb1.setCell (p := ⟨w.heap.size + 1 + 1, 0, none⟩) (by simp; omega) _).setCell (p := ⟨w.heap.size + 1 + 1 + 1, 0, none⟩) (by simp; omega) _
 rw [if_neg hzz] at h2
 have hz1 : (a2 == 0) = false := beq_eq_false_iff_ne.2 hzz
 split at h2
 case isFalse => exact absurd h2 (by simp)
 case isTrue hok =>
 obtain ⟨hok, ha0, ha1⟩ := hok
 obtain ⟨o1, o2, o3, o4⟩ := okB_is hok
 have h2' := Option.some.inj h2
 have HN := am h2'
 have HV := am o3
 clear h2 h2' o3 hok
 gi_wp2_with (first | (refine ⟨trivial, ?_⟩; gi_at_call 35; rw [← hWn]; refine HC.out.mono ?_; rintro e' w' ⟨rfl, hb⟩; have q2 := (bc (bb Z2.out hb) 0).trans rfl; have q3 := (bc (bb Z2.out hb) 1).trans rfl; have q1 := (bc (bb Z3.out hb) 0).trans rfl; have q4 := (bc (bb Z4.out hb) 0).trans rfl; have q5 := (bc (bb Z5.out hb) 0).trans rfl; have f4 := bf (bb Z4.out hb) 0; have f5 := bf (bb Z5.out hb) 0; have HB := am hb; clear hb) | (refine ⟨trivial, ?_⟩; gi_at_call 36; refine ((callsIn_wide (n := 8)).2 (ranges_calls _ _ _ _ _ _ _ _)).mono ?_; rintro e' w2 ⟨rfl, rfl⟩))
 have sW : w.heap.size + 5 ≤ w'.heap.size := by have := HB.out.size; have := SZ.out; omega
 have hb1 : Below w.heap.size w w' := HBN.out.trans (HB.out.mono HBN.out.size)
 obtain ⟨Wr, hWr⟩ : ∃ Wr, Wr = (w'.alloc (.cells #[.slice A0_0 l0_0.length c0_0, .slice A0_1 l0_1.length c0_1] 31)).alloc (.cells #[.int .i64 a1] 3) := ⟨_, rfl⟩
 have hWra : Wr = allocs w' [.cells #[.slice A0_0 l0_0.length c0_0, .slice A0_1 l0_1.length c0_1] 31, .cells #[.int .i64 a1] 3] := hWr
 have szr : Wr.heap.size = w'.heap.size + 2 := by rw [hWra]; exact allocs_size _ _
 have br : Below w'.heap.size w' Wr := by rw [hWra]; exact allocs_below _ _
 have m1 : Wr.heap[w'.heap.size]? = some (.cells #[.slice A0_0 l0_0.length c0_0, .slice A0_1 l0_1.length c0_1] 31 (0, 0)) := by rw [hWra]; exact allocs_get w' _ 0 _ rfl
 have m2 : Wr.heap[w'.heap.size + 1]? = some (.cells #[.int .i64 a1] 3 (0, 0)) := by rw [hWra]; exact allocs_get w' _ 1 _ rfl
 rw [← hWr]
 have r3 := bb (bb Z3.out HB.out) br
 have r4 := bb (bb Z4.out HB.out) br
 have r5 := bb (bb Z5.out HB.out) br
 have bwr : Below w.heap.size w Wr := hb1.trans (br.mono hb1.size)
 have keep : ∀ {A B' : World} {row : Option Nat}, A.grownBy B' row → (∀ r, row = some r → Wr.heap.size ≤ r ∧ ∃ o : Obj, A.heap[r]? = some o ∧ o.isCells = false) → ∀ {q : Nat} {o : Obj}, q < w'.heap.size → A.heap[q]? = some o → B'.heap[q]? = some o :=
  fun {A B' row} hg hr {q o} hq ho => ownFrom_rec (β := Unit) (B := Wr.heap.size) (k := q) (by omega) o () A B' row ho hg hr
 clear q1 q2 q3 q4 q5 f4 f5 hWra
 refine range_O (by omega) rfl rfl (enters_of Try.func50 (by kernel_rfl) rfl)
  (ranges50 w w.heap.size w'.heap.size (Nat.le_refl _) (by omega) A0_0 A0_1 c0_0 c0_1 l0_0 l0_1 a1 HR0.out hc0_0 HR1.out hc0_1 (by omega) o4 (by omega) HV.out ha0 ha1 w'.heap.size (w'.heap.size + 1) (.inr (Nat.le_refl _)) (.inr (by omega)) Wr (by omega) m1 m2 bwr) (by omega) (fun _ => rfl)
  (fun pre W' => ∃ z, AUpto a2 pre z ∧ W'.heap[w.heap.size + 1]? = some (.cells #[.int .i64 z] 3 (0, 0)) ∧ W'.heap[w.heap.size + 1 + 1]? = some (.cells #[.int .i64 0] 3 (0, 0)) ∧ W'.heap[w.heap.size + 1 + 1 + 1]? = some (.cells #[.int .i64 0] 28 (0, 0)) ∧ Below w.heap.size w W')
  (fun c pre W' => c = .ret ∧ ∃ z, AStop a2 pre z ∧ W'.cell? ⟨w.heap.size + 1 + 1, 0, none⟩ = some (.int .i64 z) ∧ W'.cell? ⟨w.heap.size + 1 + 1 + 1, 0, none⟩ = some (.int .i64 0) ∧ Below w.heap.size w W')
  ?oI ?oIx ⟨a2, fun _ => rfl, r3, r4, r5, bwr⟩ (fun x => { tmps := #[.agg #[.slice A0_0 l0_0.length c0_0, .slice A0_1 l0_1.length c0_1], .int .i64 a1, .int .i64 a2, .pointer (some ⟨w.heap.size, 0, none⟩), undef, .pointer (some ⟨w.heap.size + 1, 0, none⟩), .pointer (some ⟨w.heap.size + 1 + 1, 0, none⟩), .pointer (some ⟨w.heap.size + 1 + 1 + 1, 0, none⟩), .int .i64 0, .int .i64 x.1, .int .i64 x.2, .agg #[.slice A0_0 l0_0.length c0_0, .slice A0_1 l0_1.length c0_1], .int .i64 a1, .int .i64 a2, .slice (some ⟨w.heap.size + 1 + 1 + 1 + 1, 0, none⟩) 2 2, .int .i64 0, .int .i64 0, .bool false, undef, .int .i64 a2, .bool false, undef, .agg #[.slice A0_0 l0_0.length c0_0, .slice A0_1 l0_1.length c0_1], .int .i64 a1, .func (.func 50) #[] #[.pointer (some ⟨w'.heap.size + 1, 0, none⟩), .pointer (some ⟨w'.heap.size, 0, none⟩)], .int .i64 x.1, .int .i64 x.2, undef, undef, undef, undef, undef, undef, undef, undef, undef, undef, undef, undef, undef], defers := [] }) ?assign ?body ?done ?stop
 case oI =>
  intro s A B' row hs hg hr
  obtain ⟨z, g0, g1, g2, g3, g4⟩ := hs
  exact ⟨z, g0, keep hg hr (by omega) g1, keep hg hr (by omega) g2, keep hg hr (by omega) g3, ownFrom_below (Nat.le_refl _) (by omega) s A B' row g4 hg hr⟩
 case oIx =>
  intro c s A B' row hs hg hr
  obtain ⟨g0, z, g1, g2, g3, g4⟩ := hs
  exact ⟨g0, z, g1, cell_kept g2 hg (fun r e => (hr r e).2), cell_kept g3 hg (fun r e => (hr r e).2), ownFrom_below (Nat.le_refl _) (by omega) s A B' row g4 hg hr⟩
 case assign =>
  intro l' x W' K hK
  simp only [enc2]
  gi_wp2
  exact hK
 case body =>
  rintro l' pre x W' hl' hrec ⟨z, g0, g1, g2, g3, g4⟩ hpx
  have q1 := (bc g1 0).trans rfl
  have q4 := (bc g2 0).trans rfl
  have q5 := (bc g3 0).trans rfl
  have f1 := bf g1 0
  have f4 := bf g2 0
  have f5 := bf g3 0
  by_cases hx : wrap64 (x.2 - x.1) ≥ z
  ·have t1 : decide (z ≤ wrap64 (x.2 - x.1)) = true := decide_eq_true hx
   have hs : AStop a2 (pre ++ [x]) (wrap64 (x.1 + z)) := by
    intro rest
    rw [List.append_assoc, g0]
    show afterF z (x :: rest) = _
    rw [afterF, if_pos hx]
   have HS := am hs
   clear hs
   gi_wp2
   obtain ⟨c1, c2⟩ := put_two (x := .int .i64 (wrap64 (x.1 + z))) (y := .int .i64 0) (by omega : w.heap.size + 1 + 1 ≠ w.heap.size + 1 + 1 + 1) q4 q5
   exact ⟨(Whole.set (by omega) _).trans (Whole.set (by omega) _), rfl, _, HS.out, c1, c2, (g4.setCell (p := ⟨w.heap.size + 1 + 1, 0, none⟩) (by simp; omega) _).setCell (p := ⟨w.heap.size + 1 + 1 + 1, 0, none⟩) (by simp; omega) _⟩
  have t1 : decide (z ≤ wrap64 (x.2 - x.1)) = false := decide_eq_false hx
  have hu : AUpto a2 (pre ++ [x]) (wrap64 (z - wrap64 (x.2 - x.1))) := by
   intro rest
   rw [List.append_assoc, g0]
   show afterF z (x :: rest) = _
   rw [afterF, if_neg hx]
  have HU := am hu
  clear hu
  gi_wp2
  refine ⟨Whole.set (by omega) _, ⟨(Below.refl _ W').setCell (p := ⟨w.heap.size + 1, 0, none⟩) (by simp) _, fun q o hq ho hc => set_other (by omega) ho⟩, _, HU.out, set_same g1, set_other (by omega) g2, set_other (by omega) g3, g4.setCell (p := ⟨w.heap.size + 1, 0, none⟩) (by simp) _⟩
 case done =>
  rintro D W' hD ⟨z, g0, g1, g2, g3, g4⟩ hDd
  have q4 := (bc g2 0).trans rfl
  have q5 := (bc g3 0).trans rfl
  have f4 := bf g2 0
  have f5 := bf g3 0
  gi_wp2
  obtain ⟨c1, c2⟩ := put_two (x := .int .i64 0) (y := .int .i64 9) (by omega : w.heap.size + 1 + 1 ≠ w.heap.size + 1 + 1 + 1) q4 q5
  have hn := HN.out
  have hz := g0 []
  rw [List.append_nil] at hz
  obtain ⟨rfl, rfl⟩ : r1 = 0 ∧ r2 = 9 := by
   rw [hz] at hn
   simp only [afterF, Prod.mk.injEq] at hn
   exact ⟨hn.1.symm, hn.2.symm⟩
  have hd2 := set_other (u := .int .i64 9) (g := w.heap.size + 1 + 1 + 1) (by omega) (set_other (u := .int .i64 0) (g := w.heap.size + 1 + 1) (by omega) hDd)
  refine leave_two (fn := Try.f20) rfl rfl rfl c1 c2 hd2 ⟨rfl, ?_⟩
  exact ((g4.setCell (p := ⟨w.heap.size + 1 + 1, 0, none⟩) (by simp; omega) _).setCell (p := ⟨w.heap.size + 1 + 1 + 1, 0, none⟩) (by simp; omega) _).trans (belowK_b (w := w) (Nat.le_refl _) _ D _ _ (by omega) hd2 rfl rfl)
 case stop =>
  rintro D c pre W' hD hp ⟨rfl, z, g1, g2, g3, g4⟩ hDd
  gi_wp2
  have hn := HN.out
  obtain ⟨l, hl⟩ := hp
  have hz := g1 l
  rw [hl] at hz
  obtain ⟨rfl, rfl⟩ : r1 = z ∧ r2 = 0 := by
   rw [hz] at hn
   simp only [Prod.mk.injEq] at hn
   exact ⟨hn.1.symm, hn.2.symm⟩
  refine leave_two (fn := Try.f20) rfl rfl rfl g2 g3 hDd ⟨rfl, ?_⟩
  exact g4.trans (belowK_b (w := w) (Nat.le_refl _) _ D _ _ (by omega) hDd rfl rfl)
end

end Go.Proofs.Ytpjgmlnnhcnelaa.QA
