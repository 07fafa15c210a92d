import Derived.Test.YtpjgmlnnhcnelaaDYQAx0
import Derived.Test.YtpjgmlnnhcnelaaDYQAx4
import Derived.Test.YtpjgmlnnhcnelaaDYQAx5
namespace Go.Proofs.Ytpjgmlnnhcnelaa.QA
open Go.RowKit Go.Proofs.YtpjgmlnnhcnelaaW.PrintWords Go.Proofs.YtpjgmlnnhcnelaaW.PrintLast Go.Proofs.YtpjgmlnnhcnelaaW.PrintMore
open Go.Proofs.YtpjgmlnnhcnelaaW.PrintWords renaming blk_frozen → bf, blk_cell → bc
open Aside0 renaming mk → am
attribute [local go_sem] max2_int min2_int max_two min_two max_three min_three max_four min_four
set_option linter.unusedVariables false
set_option linter.unusedSimpArgs false

section
open Go.Proofs.Ytpjgmlnnhcnelaa.Iter Go.Proofs.YtpjgmlnnhcnelaaW.PrintMore
attribute [local go_sem] max2_int min2_int max_two min_two Oper.semAt_some
set_option linter.unusedVariables false
set_option linter.unusedSimpArgs false
set_option maxHeartbeats 1000000 in
theorem back_calls (A : Option Addr) (n c : Nat) (w : World) :
  Calls Try.prog 39 #[.slice A n c] w fun e w' => e = .returned (.func (.func 53) #[] #[.pointer (some ⟨w.heap.size, 0, none⟩)]) ∧ w' = w.alloc (.cells #[.slice A n c] 59 (0, 0)) := by
 go_enter Try.func39, Try.ntmps39
 go_wp2
 go_ret
 exact ⟨rfl, rfl⟩
def revD (L : List (Int × Int)) (k : Nat) : List ((Int × Int) × Nat) := (L.zipIdx.drop k).reverse
def encB (x : (Int × Int) × Nat) : Array Value := #[.int .i64 (x.2 : Int), .agg #[.int .i64 x.1.1, .int .i64 x.1.2]]
theorem revD_end (L : List (Int × Int)) : revD L L.length = [] := by simp [revD]
theorem revD_step (L : List (Int × Int)) (k : Nat) (h : k < L.length) : revD L k = revD L (k + 1) ++ [(L[k], k)] := by
 unfold revD
 rw [List.drop_eq_getElem_cons (by simpa using h), List.reverse_cons]
 simp
theorem revD_prefix (L : List (Int × Int)) (k : Nat) : revD L k <+: revD L 0 := by
 unfold revD
 rw [List.drop_zero]
 exact List.reverse_prefix.2 (List.drop_suffix _ _)
theorem revD_map (L : List (Int × Int)) : (revD L 0).map Prod.fst = L.reverse := by
 unfold revD
 rw [List.drop_zero, List.map_reverse, List.zipIdx_map_fst]
def RowAt (w : World) (A : Option Addr) (n₀ B : Nat) (L : List (Int × Int)) : Prop :=
 L = [] ∨ ∃ g cur, A = some ⟨g, 0, none⟩ ∧ w.heap[g]? = some (.cells cur 60 (0, 0)) ∧ (g < n₀ ∨ B ≤ g) ∧ ∀ j x, L[j]? = some x → cur[j * 2]? = some (.int .i64 x.1) ∧ cur[j * 2 + 1]? = some (.int .i64 x.2)
set_option maxRecDepth 100000 in
set_option maxHeartbeats 4000000 in
theorem back53 (n₀ B : Nat) (hnB : n₀ ≤ B) (A : Option Addr) (c : Nat) (L : List (Int × Int)) (hll : L.length ≤ 1000000) (hc : L.length ≤ c) (Bs : Nat) (hBs : Bs < n₀ ∨ B ≤ Bs) (w : World) (hBw : B ≤ w.heap.size) (hrow : RowAt w A n₀ B L) (hbx : w.heap[Bs]? = some (.cells #[.slice A L.length c] 59 (0, 0))) :
  SeqO Try.prog 53 #[.pointer (some ⟨Bs, 0, none⟩)] encB n₀ B (revD L 0) w := by
 intro l J Jx W hW hJ hJx hY h0
 replace hbx := blk_below hbx hW
 have hrow : RowAt W A n₀ B L := hrow.imp_right (fun ⟨g, cur, h1, h2, h3⟩ => ⟨g, cur, h1, blk_below h2 hW, h3⟩)
 have HJ := am hJ
 have HY := am hY
 have HBX := am hbx
 have HRW := am hrow
 have J0 : J (revD L L.length) W := by rw [revD_end]; exact h0
 have H0 := am J0
 clear hJ hY h0 hJx hrow J0
 have k0 : W.cell? ⟨Bs, 0, none⟩ = some (.slice A L.length c) := (bc HBX.out 0).trans rfl
 clear hbx
 refine callsIn_of_wp Try.func53 rfl trivial ?_ rfl
 simp only [Try.ntmps53, List.size_toArray, List.length_cons, List.length_nil, Nat.reduceAdd, Nat.reduceSub, Array.replicate_succ, Array.replicate_zero, List.push_toArray, List.append_toArray, List.nil_append, List.cons_append]
 gi_wp2
 gi_loopw [3] (fun i wr => ∃ k : Nat, k ≤ L.length ∧ i = .int .i64 ((k : Int) - 1) ∧ Aside0 (J (revD L k) wr) ∧ Aside0 (wr.heap[Bs]? = some (.cells #[.slice A L.length c] 59 (0, 0))) ∧ Aside0 (RowAt wr A n₀ B L))
  (fun i _ => (intOf i + 1).toNat)
 case atStart => exact ⟨L.length, Nat.le_refl _, by simp [EvKit.w64 (show (-9223372036854775808 : Int) ≤ (L.length : Int) - 1 by omega) (by omega)], ⟨H0.out⟩, ⟨HBX.out⟩, ⟨HRW.out⟩⟩
 case round =>
  clear k0
  obtain ⟨k, hk, rfl, HJs, HBs, HRs⟩ := hrel
  cases k with
  | zero =>
   gi_wp2
   go_end0
   exact ⟨⟨_, rfl⟩, .inl HJs.out⟩
  | succ k =>
   have e0 : (((k + 1 : Nat) : Int) - 1) = (k : Int) := by omega
   rw [e0]
   have k0 : wr.cell? ⟨Bs, 0, none⟩ = some (.slice A L.length c) := (bc HBs.out 0).trans rfl
   rcases HRs.out with h | ⟨g, cur, rfl, hg, hgb, hcell⟩
   ·subst h; simp at hk
   have hx := hcell k L[k] (List.getElem?_eq_getElem hk)
   have c1 : wr.cell? ⟨g, k * 2, none⟩ = some (.int .i64 L[k].1) := (bc hg _).trans hx.1
   have c2 : wr.cell? ⟨g, k * 2 + 1, none⟩ = some (.int .i64 L[k].2) := (bc hg _).trans hx.2
   have hst := revD_step L k hk
   have hp := revD_prefix L k
   have hy0 := HY.out (revD L (k + 1)) (L[k], k) wr HJs.out (by rw [← hst]; exact hp)
   rw [← hst] at hy0
   generalize L[k] = x at c1 c2 hy0
   obtain ⟨fn, tmps, assign, body, hy, hR⟩ := YieldAt.deep 8 hy0
   dsimp only [encB] at hy
   gi_wp2
   refine hR.mono ?_
   rintro e W3 (⟨rfl, hJ3, hk3, _⟩ | ⟨rfl, hJx3, _⟩)
   ·gi_wp2
    go_roundw
    case rel => exact ⟨k, by omega, by simp [EvKit.w64 (show (-9223372036854775808 : Int) ≤ (k : Int) - 1 by omega) (by omega)], ⟨hJ3⟩, ⟨hk3.heap hBs HBs.out rfl⟩, ⟨.inr ⟨g, cur, rfl, hk3.heap hgb hg rfl, hgb, hcell⟩⟩⟩
    case measure => simp [intOf, EvKit.w64 (show (-9223372036854775808 : Int) ≤ (k : Int) - 1 by omega) (by omega)]
   gi_wp2
   refine bodyPost_ret (results_none rfl _ _ _) rfl ?_
   exact ⟨⟨_, rfl⟩, .inr ⟨_, hp, hJx3⟩⟩
def cutB (z : Int) (l : List (Int × Int)) : List (Int × Int) := (l.filter (fun x => decide (x.1 < z))).map (fun x => (x.1, mn x.2 z))
theorem cutB_snoc (z : Int) (l : List (Int × Int)) (x : Int × Int) : cutB z (l ++ [x]) = cutB z l ++ (if x.1 < z then [(x.1, mn x.2 z)] else []) := by
 unfold cutB
 rw [List.filter_append, List.map_append]
 by_cases h : x.1 < z <;> simp [h]
def backF : Int → List (Int × Int) → Int × Int
 | _, [] => (0, 9)
 | z, x :: l => if wrap64 (x.2 - x.1) ≥ z then (wrap64 (x.2 - z), 0) else backF (wrap64 (z - wrap64 (x.2 - x.1))) l
def allB (sh : List S54) (fr : List Int) (t d0 : Int) : Nat → List (Int × Int)
 | 0 => []
 | k + 1 => allB sh fr t d0 k ++ (cutB t (ofL sh fr (d0 - k))).reverse
def shift_Before.f (k : Nat) (l0_0 : List S54) (l0_1 : List Int) (a1 a2 : Int) : Option (Int × Int) :=
 (shift_minutes.f k l0_0 l0_1 [a1, a2]).bind fun e => if e = 0 then (if a2 = 0 then some (a1, 0) else if okB l0_0 l0_1 = true ∧ 0 ≤ a1 ∧ a1 ≤ 14400000 then some (backF a2 (allB l0_0 l0_1 a1 (a1 / 1440) (a1 / 1440 + 1).toNat)) else none) else some (0, e)
def BUpto (z : Int) (pre : List (Int × Int)) (s : Int) : Prop := ∀ rest, backF z (pre ++ rest) = backF s rest
def BStop (z : Int) (pre : List (Int × Int)) (s : Int) : Prop := ∀ rest, backF z (pre ++ rest) = (s, 0)
theorem allB_prefix (sh : List S54) (fr : List Int) (t d0 : Int) {k m : Nat} (h : k ≤ m) : allB sh fr t d0 k <+: allB sh fr t d0 m := by
 induction m with
 | zero =>
  obtain rfl : k = 0 := by omega
  exact List.prefix_rfl
 | succ m ih =>
  by_cases e : k = m + 1
  ·rw [e]; exact List.prefix_rfl
  exact (ih (by omega)).trans (List.prefix_append _ _)
def flatB (l : List (Int × Int)) : List Value := l.flatMap (fun x => [.int .i64 x.1, .int .i64 x.2])
theorem flatB_snoc (l : List (Int × Int)) (x : Int × Int) : flatB (l ++ [x]) = flatB l ++ [.int .i64 x.1, .int .i64 x.2] := by simp [flatB]
theorem flatB_get : ∀ (l : List (Int × Int)) (j : Nat) (x : Int × Int), l[j]? = some x → (flatB l)[j * 2]? = some (.int .i64 x.1) ∧ (flatB l)[j * 2 + 1]? = some (.int .i64 x.2)
 | [], j, x, h => by simp at h
 | a :: l, 0, x, h => by
  simp at h
  subst h
  exact ⟨rfl, rfl⟩
 | a :: l, j + 1, x, h => by
  have := flatB_get l j x (by simpa using h)
  have e : flatB (a :: l) = [.int .i64 a.1, .int .i64 a.2] ++ flatB l := by simp [flatB]
  rw [e]
  refine ⟨?_, ?_⟩
  ·rw [List.getElem?_append_right (by simp; omega), show (j + 1) * 2 - [Value.int .i64 a.1, Value.int .i64 a.2].length = j * 2 by simp; omega]
   exact this.1
  rw [List.getElem?_append_right (by simp; omega), show (j + 1) * 2 + 1 - [Value.int .i64 a.1, Value.int .i64 a.2].length = j * 2 + 1 by simp; omega]
  exact this.2
def ListAt (W : World) (base Lb : Nat) (L : List (Int × Int)) : Prop := ∃ v, W.heap[Lb]? = some (.cells #[v] 59 (0, 0)) ∧ W.ownsRow base 60 2 v L.length (flatB L) ∧ L.length ≤ 64
theorem ListAt.own {base Lb D : Nat} {L : List (Int × Int)} : OwnFrom D (fun (_ : Unit) W => ListAt W base Lb L) := by
 rintro s W W' row ⟨v, h1, h2, h3⟩ hg hr
 have key : ∀ k : Nat, (∃ cs : Array Value, W.heap[k]? = some (Obj.cells cs 59 (0, 0)) ∨ W.heap[k]? = some (Obj.cells cs 60 (0, 0))) → W'.heap[k]? = W.heap[k]? := by
  rintro k ⟨cs, h⟩
  refine hg.block k (by rcases h with h | h <;> exact (Array.getElem?_eq_some_iff.1 h).1) (fun e => ?_)
  obtain ⟨_, o, ho, hc⟩ := hr k e.symm
  rcases h with h | h <;> (rw [ho] at h; cases h; cases hc)
 refine ⟨v, (key _ ⟨_, .inl h1⟩).trans h1, own_move h2 (fun k hk => ?_), h3⟩
 obtain ⟨cs, h⟩ := own_typed h2 k hk
 exact key k ⟨cs, .inr h⟩
theorem ListAt.row {W : World} {base Lb n₀ B : Nat} {L : List (Int × Int)} (h : ListAt W base Lb L) (hB : B ≤ base) : ∃ A c, W.heap[Lb]? = some (.cells #[.slice A L.length c] 59 (0, 0)) ∧ L.length ≤ c ∧ RowAt W A n₀ B L := by
 obtain ⟨v, h1, ⟨h2, h3⟩, h4⟩ := h
 rcases h3 with ⟨rfl, h0⟩ | ⟨g, cap, cur, rfl, hg, hh, hn, hm, hs, ht⟩
 ·exact ⟨none, 0, by rw [h1, h0], by omega, .inl (List.eq_nil_of_length_eq_zero h0)⟩
 refine ⟨_, cap, h1, hn, .inr ⟨g, cur, rfl, hh, .inr (by omega), fun j x hx => ?_⟩⟩
 have hj : j < L.length := (List.getElem?_eq_some_iff.1 hx).1
 obtain ⟨q1, q2⟩ := flatB_get L j x hx
 rw [← ht] at q1 q2
 rw [List.getElem?_take_of_lt (by omega), Array.getElem?_toList] at q1 q2
 exact ⟨q1, q2⟩
theorem und59 : Try.prog.underlying 59 = some (.slice 60) := by kernel_rfl
theorem inf60 : (Try.prog.info? 60).map (fun i => (i.zero, i.size, i.bytes)) = some (some (.agg #[.int .i64 0, .int .i64 0]), 2, 16) := by kernel_rfl
theorem inf60' : ∃ i, Try.prog.info? 60 = some i ∧ i.zero = some (.agg #[.int .i64 0, .int .i64 0]) ∧ i.size = 2 ∧ i.bytes = 16 := by
 have h := inf60
 cases hi : Try.prog.info? 60 with
 | none => rw [hi] at h; cases h
 | some i =>
  rw [hi] at h
  simp only [Option.map_some, Option.some.injEq, Prod.mk.injEq] at h
  exact ⟨i, rfl, h.1, h.2.1, h.2.2⟩
def St (w : World) (A0 : Option Addr) (c0 n0 : Nat) (A1 : Option Addr) (c1 n1 : Nat) (a1 a2 : Int) (done : List (Int × Int)) (Ds : List Nat) (W : World) : Prop :=
 ∃ z, BUpto a2 done z ∧ W.heap[w.heap.size + 1]? = some (.cells #[.int .i64 a1] 3 (0, 0)) ∧ W.heap[w.heap.size]? = some (.cells #[.slice A0 n0 c0, .slice A1 n1 c1] 31 (0, 0)) ∧ W.heap[w.heap.size + 1 + 1]? = some (.cells #[.int .i64 z] 3 (0, 0)) ∧
  W.heap[w.heap.size + 1 + 1 + 1]? = some (.cells #[.int .i64 0] 3 (0, 0)) ∧ W.heap[w.heap.size + 1 + 1 + 1 + 1]? = some (.cells #[.int .i64 0] 28 (0, 0)) ∧ Below w.heap.size w W ∧ w.heap.size + 6 ≤ W.heap.size ∧ Ds.Nodup ∧ ∀ D ∈ Ds, w.heap.size + 6 ≤ D ∧ W.heap[D]? = some (.deferred (some []))
theorem own_slice {W : World} {base e size n : Nat} {v : Value} {xs : List Value} (h : W.ownsRow base e size v n xs) : ∃ A c, v = .slice A n c := by
 rcases h.2 with ⟨rfl, h0⟩ | ⟨g, cap, cur, rfl, _⟩
 ·exact ⟨none, 0, by rw [h0]⟩
 exact ⟨_, _, rfl⟩
def Hold (p : Prop) : Prop := p
theorem Hold.out {p : Prop} (h : Hold p) : p := h
theorem Hold.mk {p : Prop} (h : p) : Hold p := h
theorem cells_own {β : Type} {B k : Nat} {o : Obj} (hc : o.isCells = true) : OwnFrom B (fun (_ : β) W => W.heap[k]? = some o) :=
 fun _ W W' row hs hg hr => (hg.block k (Array.getElem?_eq_some_iff.1 hs).1 (fun e => by obtain ⟨_, o', ho, h⟩ := hr k e.symm; rw [hs] at ho; cases ho; rw [hc] at h; cases h)).trans hs
theorem St.own {w : World} {A0 : Option Addr} {c0 n0 : Nat} {A1 : Option Addr} {c1 n1 : Nat} {a1 a2 : Int} {Ds : List Nat} {B : Nat} (hw : w.heap.size ≤ B) (hD : ∀ D ∈ Ds, D < B) : OwnFrom B (fun done W => St w A0 c0 n0 A1 c1 n1 a1 a2 done Ds W) := by
 rintro s W W' row ⟨z, hz, g1, g2, g3, g4, g5, gB, gS, gN, gD⟩ hg hr
 exact ⟨z, hz, cells_own (β := Unit) rfl () W W' row g1 hg hr, cells_own (β := Unit) rfl () W W' row g2 hg hr, cells_own (β := Unit) rfl () W W' row g3 hg hr, cells_own (β := Unit) rfl () W W' row g4 hg hr, cells_own (β := Unit) rfl () W W' row g5 hg hr,
  ownFrom_below (β := Unit) (Nat.le_refl _) hw () W W' row gB hg hr, Nat.le_trans gS hg.size, gN, fun D h => ⟨(gD D h).1, ownFrom_rec (β := Unit) (hD D h) _ () W W' row (gD D h).2 hg hr⟩⟩
theorem St.below {w : World} {A0 : Option Addr} {c0 n0 : Nat} {A1 : Option Addr} {c1 n1 : Nat} {a1 a2 : Int} {Ds : List Nat} {done : List (Int × Int)} {W W' : World} (h : St w A0 c0 n0 A1 c1 n1 a1 a2 done Ds W) (hb : Below W.heap.size W W') : St w A0 c0 n0 A1 c1 n1 a1 a2 done Ds W' := by
 obtain ⟨z, hz, g1, g2, g3, g4, g5, gB, gS, gN, gD⟩ := h
 exact ⟨z, hz, blk_below g1 hb, blk_below g2 hb, blk_below g3 hb, blk_below g4 hb, blk_below g5 hb, gB.trans (hb.mono gB.size), Nat.le_trans gS hb.size, gN, fun D h => ⟨(gD D h).1, blk_below (gD D h).2 hb⟩⟩
theorem St.mark {w : World} {A0 : Option Addr} {c0 n0 : Nat} {A1 : Option Addr} {c1 n1 : Nat} {a1 a2 : Int} {Ds : List Nat} {done : List (Int × Int)} {W : World} (h : St w A0 c0 n0 A1 c1 n1 a1 a2 done Ds W) {D : Nat} (hn : ∀ E ∈ Ds, E ≠ D) (h6 : w.heap.size + 6 ≤ D) (hD : W.heap[D]? = some (.deferred (some []))) : St w A0 c0 n0 A1 c1 n1 a1 a2 done (D :: Ds) W := by
 obtain ⟨z, hz, g1, g2, g3, g4, g5, gB, gS, gN, gD⟩ := h
 refine ⟨z, hz, g1, g2, g3, g4, g5, gB, gS, List.nodup_cons.2 ⟨fun hm => hn D hm rfl, gN⟩, fun E hE => ?_⟩
 rcases List.mem_cons.1 hE with rfl | hE
 ·exact ⟨h6, hD⟩
 exact gD E hE
theorem St.lt {w : World} {A0 : Option Addr} {c0 n0 : Nat} {A1 : Option Addr} {c1 n1 : Nat} {a1 a2 : Int} {Ds : List Nat} {done : List (Int × Int)} {W : World} (h : St w A0 c0 n0 A1 c1 n1 a1 a2 done Ds W) : ∀ D ∈ Ds, D < W.heap.size := by
 obtain ⟨z, hz, g1, g2, g3, g4, g5, gB, gS, gN, gD⟩ := h
 exact fun D hD => (Array.getElem?_eq_some_iff.1 (gD D hD).2).1
set_option maxRecDepth 100000 in
set_option maxHeartbeats 4000000 in
theorem shift_Before.calls (k : Nat) (A0_0 : Option Addr) (c0_0 : Nat) (l0_0 : List S54) (A0_1 : Option Addr) (c0_1 : Nat) (l0_1 : List Int) (a1 a2 : Int) (r1 r2 : Int) (w : World) (hr0_0 : Kd.C k54 w A0_0 l0_0.length l0_0) (hc0_0 : l0_0.length ≤ c0_0) (hr0_1 : Kd.C (Kd.int .i64) w A0_1 l0_1.length l0_1) (hc0_1 : l0_1.length ≤ c0_1) (h : shift_Before.f k l0_0 l0_1 a1 a2 = some (r1, r2)) :
  Calls Try.prog 21 #[.agg #[.slice A0_0 l0_0.length c0_0, .slice A0_1 l0_1.length c0_1], .int .i64 a1, .int .i64 a2] w fun e w' => e = .returned (.tuple #[.int .i64 r1, .int .i64 r2]) ∧ Below w.heap.size w w' := by
 have hu31 := Try.underlying31
 obtain ⟨e, h1, h2⟩ := Option.bind_eq_some_iff.1 h
 have HR0 := am hr0_0
 have HR1 := am hr0_1
 have HM := am h1
 clear hr0_0 hr0_1 h1 h
 refine callsIn_wide.1 (callsIn_of_wp_marks (n := 9) Try.func21 rfl trivial ?_ rfl)
 simp only [Try.ntmps21, List.size_toArray, List.length_cons, List.length_nil, Nat.reduceAdd, Nat.reduceSub, Array.replicate_succ, Array.replicate_zero, List.push_toArray, List.append_toArray, List.nil_append, List.cons_append]
 obtain ⟨Wn, hWn⟩ : ∃ Wn, Wn = ((((((w.alloc (Obj.cells #[Value.slice A0_0 l0_0.length c0_0, Value.slice A0_1 l0_1.length c0_1] 31)).alloc (Obj.cells #[Value.int IntKind.i64 a1] 3)).alloc (Obj.cells #[Value.int IntKind.i64 a2] 3)).alloc (Obj.cells #[Value.int IntKind.i64 0] 3)).alloc (Obj.cells #[Value.int IntKind.i64 0] 28)).alloc (Obj.cells #[Value.int IntKind.i64 a1, Value.int IntKind.i64 a2] 3)) := ⟨_, rfl⟩
 have hWa : Wn = allocs w [Obj.cells #[Value.slice A0_0 l0_0.length c0_0, Value.slice A0_1 l0_1.length c0_1] 31, Obj.cells #[Value.int IntKind.i64 a1] 3, Obj.cells #[Value.int IntKind.i64 a2] 3, Obj.cells #[Value.int IntKind.i64 0] 3, Obj.cells #[Value.int IntKind.i64 0] 28, Obj.cells #[Value.int IntKind.i64 a1, Value.int IntKind.i64 a2] 3] := hWn
 have hbn : Below w.heap.size w Wn := by rw [hWa]; exact allocs_below _ _
 have szn : Wn.heap.size = w.heap.size + 6 := by rw [hWa]; exact allocs_size _ _
 have hz2 : Wn.heap[w.heap.size]? = some (.cells #[.slice A0_0 l0_0.length c0_0, .slice A0_1 l0_1.length c0_1] 31 (0, 0)) := by rw [hWa]; exact allocs_get w _ 0 _ rfl
 have hz1 : Wn.heap[w.heap.size + 1]? = some (.cells #[.int .i64 a1] 3 (0, 0)) := by rw [hWa]; exact allocs_get w _ 1 _ rfl
 have hz3 : Wn.heap[w.heap.size + 1 + 1]? = some (.cells #[.int .i64 a2] 3 (0, 0)) := by rw [hWa]; exact allocs_get w _ 2 _ rfl
 have hz4 : Wn.heap[w.heap.size + 1 + 1 + 1]? = some (.cells #[.int .i64 0] 3 (0, 0)) := by rw [hWa]; exact allocs_get w _ 3 _ rfl
 have hz5 : Wn.heap[w.heap.size + 1 + 1 + 1 + 1]? = some (.cells #[.int .i64 0] 28 (0, 0)) := by rw [hWa]; exact allocs_get w _ 4 _ rfl
 have hg : Wn.heap[w.heap.size + 1 + 1 + 1 + 1 + 1]? = some (.cells #[.int .i64 a1, .int .i64 a2] 3 (0, 0)) := by rw [hWa]; exact allocs_get w _ 5 _ rfl
 have hcon := (callsIn_wide (n := 8)).2 (shift_minutes.calls k A0_0 c0_0 l0_0 A0_1 c0_1 l0_1 (some ⟨w.heap.size + 1 + 1 + 1 + 1 + 1, 0, none⟩) 2 [a1, a2] e Wn (Kd.C_below HR0.out hbn) hc0_0 (Kd.C_below HR1.out hbn) hc0_1 (ints_C .i64 [a1, a2] hg rfl (by simp)) (by simp) HM.out)
 have HC := am hcon
 have HBN := am hbn
 have Z1 := am hz1
 have Z2 := am hz2
 have Z3 := am hz3
 have Z4 := am hz4
 have Z5 := am hz5
 have SZ := am szn
 clear hcon hbn hg hz1 hz2 hz3 hz4 hz5 szn hWa
 by_cases he : e = 0
 rotate_left
 ·rw [if_neg he] at h2
  have he1 : (e == 0) = false := beq_eq_false_iff_ne.2 he
  have he2 : (e != 0) = true := bne_iff_ne.2 he
  have HE := am he
  clear he
  gi_wp2_with (refine ⟨trivial, ?_⟩; gi_at_call 35; rw [← hWn]; refine HC.out.mono ?_; rintro e' w' ⟨rfl, hb⟩; have q4 := (bc (blk_below Z4.out hb) 0).trans rfl; have q5 := (bc (blk_below Z5.out hb) 0).trans rfl; have f4 := bf (blk_below Z4.out hb) 0; have f5 := bf (blk_below Z5.out hb) 0; have HB := am hb; clear hb)
  obtain ⟨c1, c2⟩ := put_two (x := .int .i64 0) (y := .int .i64 e) (by omega : w.heap.size + 1 + 1 + 1 ≠ w.heap.size + 1 + 1 + 1 + 1) q4 q5
  obtain ⟨rfl, rfl⟩ : r1 = 0 ∧ r2 = e := by
   have := Option.some.inj h2
   simp only [Prod.mk.injEq] at this
   exact ⟨this.1.symm, this.2.symm⟩
  refine ⟨_, two_cells (fn := Try.f21) rfl rfl rfl c1 c2, rfl, ?_⟩
  have hb1 : Below w.heap.size w w' := HBN.out.trans (HB.out.mono HBN.out.size)
  exact (hb1.setCell (p := ⟨w.heap.size + 1 + 1 + 1, 0, none⟩) (by simp; omega) _).setCell (p := ⟨w.heap.size + 1 + 1 + 1 + 1, 0, none⟩) (by simp; omega) _
 subst he
 rw [if_pos rfl] at h2
 by_cases hzz : a2 = 0
 ·rw [if_pos hzz] at h2
  have hz1 : (a2 == 0) = true := beq_iff_eq.2 hzz
  have HZ := am hzz
  clear hzz
  gi_wp2_with (refine ⟨trivial, ?_⟩; gi_at_call 35; rw [← hWn]; refine HC.out.mono ?_; rintro e' w' ⟨rfl, hb⟩; have q1 := (bc (blk_below Z1.out hb) 0).trans rfl; have q3 := (bc (blk_below Z3.out hb) 0).trans rfl; have q4 := (bc (blk_below Z4.out hb) 0).trans rfl; have q5 := (bc (blk_below Z5.out hb) 0).trans rfl; have f4 := bf (blk_below Z4.out hb) 0; have f5 := bf (blk_below Z5.out hb) 0; have HB := am hb; clear hb)
  obtain ⟨c1, c2⟩ := put_two (x := .int .i64 a1) (y := .int .i64 0) (by omega : w.heap.size + 1 + 1 + 1 ≠ w.heap.size + 1 + 1 + 1 + 1) q4 q5
  obtain ⟨rfl, rfl⟩ : r1 = a1 ∧ r2 = 0 := by
   have := Option.some.inj h2
   simp only [Prod.mk.injEq] at this
   exact ⟨this.1.symm, this.2.symm⟩
  refine ⟨_, two_cells (fn := Try.f21) rfl rfl rfl c1 c2, rfl, ?_⟩
  have hb1 : Below w.heap.size w w' := HBN.out.trans (HB.out.mono HBN.out.size)
  exact (hb1.setCell (p := ⟨w.heap.size + 1 + 1 + 1, 0, none⟩) (by simp; omega) _).setCell (p := ⟨w.heap.size + 1 + 1 + 1 + 1, 0, none⟩) (by simp; omega) _
 rw [if_neg hzz] at h2
 have hz1 : (a2 == 0) = false := beq_eq_false_iff_ne.2 hzz
 split at h2
 case isFalse => exact absurd h2 (by simp)
 case isTrue hok =>
 obtain ⟨hok, ha0, ha1⟩ := hok
 obtain ⟨o1, o2, o3, o4⟩ := okB_is hok
 have h2' := Option.some.inj h2
 have HN := am h2'
 have HV := am o3
 clear h2 h2' o3 hok
 gi_wp2_with (refine ⟨trivial, ?_⟩; gi_at_call 35; rw [← hWn]; refine HC.out.mono ?_; rintro e' w' ⟨rfl, hb⟩; have q1 := (bc (blk_below Z1.out hb) 0).trans rfl; have q3 := (bc (blk_below Z3.out hb) 0).trans rfl; have HB := am hb; clear hb)
 have hb1 : Below w.heap.size w w' := HBN.out.trans (HB.out.mono HBN.out.size)
 have g2 := blk_below Z2.out HB.out
 have g1 := blk_below Z1.out HB.out
 have g3 := blk_below Z3.out HB.out
 have g4 := blk_below Z4.out HB.out
 have g5 := blk_below Z5.out HB.out
 have sW : w.heap.size + 6 ≤ w'.heap.size := by have := HB.out.size; have := SZ.out; omega
 clear q1 q3
 refine wpIn_loop (fun a wr => ∃ (k : Nat) (Ds : List Nat) (x10 x11 x12 x13 x14 x15 x16 x17 x18 x19 x20 x21 x22 x23 x24 x25 x26 x27 x28 x29 x30 x31 x32 x33 x34 x35 x36 x37 x38 x39 x40 x41 x42 x43 x44 x45 x46 x47 x48 x49 x50 x51 x52 x53 x54 x55 x56 x57 x58 x59 x60 x61 x62 x63 x64 x65 x66 x67 x68 x69 : Value), k ≤ (a1 / 1440 + 1).toNat ∧ a = { tmps := #[Value.agg #[Value.slice A0_0 l0_0.length c0_0, Value.slice A0_1 l0_1.length c0_1], Value.int IntKind.i64 (a1), Value.int IntKind.i64 (a2), Value.pointer (some ⟨w.heap.size, 0, none⟩), Value.pointer (some ⟨w.heap.size + 1, 0, none⟩), Value.pointer (some ⟨w.heap.size + 1 + 1, 0, none⟩), Value.pointer (some ⟨w.heap.size + 1 + 1 + 1, 0, none⟩), Value.pointer (some ⟨w.heap.size + 1 + 1 + 1 + 1, 0, none⟩), Value.int IntKind.i64 (0), Value.int IntKind.i64 (a1 / 1440 - (k : Int)), x10, x11, x12, x13, x14, x15, x16, x17, x18, x19, x20, x21, x22, x23, x24, x25, x26, x27, x28, x29, x30, x31, x32, x33, x34, x35, x36, x37, x38, x39, x40, x41, x42, x43, x44, x45, x46, x47, x48, x49, x50, x51, x52, x53, x54, x55, x56, x57, x58, x59, x60, x61, x62, x63, x64, x65, x66, x67, x68, x69], defers := Ds.map markOf } ∧ Aside0 (St w A0_0 c0_0 l0_0.length A0_1 c0_1 l0_1.length a1 a2 (allB l0_0 l0_1 a1 (a1 / 1440) k) Ds wr))
  (fun a _ => (intOf (a.tmps.getD 9 undef) + 1).toNat) ?start ?round
 case start =>
  exact ⟨0, [], _, _, _, _, _, _, _, _, _, _, _, _, _, _, _, _, _, _, _, _, _, _, _, _, _, _, _, _, _, _, _, _, _, _, _, _, _, _, _, _, _, _, _, _, _, _, _, _, _, _, _, _, _, _, _, _, _, _, _, _, Nat.zero_le _, (by rw [show ((0 : Nat) : Int) = 0 from rfl, Int.sub_zero]; rfl), ⟨⟨a2, fun _ => rfl, g1, g2, g3, g4, g5, hb1, sW, by simp, by simp⟩⟩⟩
 case round =>
  clear g1 g2 g3 g4 g5
  rintro a wr ⟨k, Ds, x10, x11, x12, x13, x14, x15, x16, x17, x18, x19, x20, x21, x22, x23, x24, x25, x26, x27, x28, x29, x30, x31, x32, x33, x34, x35, x36, x37, x38, x39, x40, x41, x42, x43, x44, x45, x46, x47, x48, x49, x50, x51, x52, x53, x54, x55, x56, x57, x58, x59, x60, x61, x62, x63, x64, x65, x66, x67, x68, x69, hk, rfl, HS⟩
  by_cases hlt : a1 / 1440 - (k : Int) ≥ 0
  rotate_left
  ·have hke : k = (a1 / 1440 + 1).toNat := by omega
   obtain ⟨z, hz, g1, g2, g3, g4, g5, gB, gS, gN, gD⟩ := HS.out
   have q4 := (bc g4 0).trans rfl
   have q5 := (bc g5 0).trans rfl
   have f4 := bf g4 0
   have f5 := bf g5 0
   have HZ := am hz
   have HGN := am gN
   have HGD := am gD
   have HGB := am gB
   clear g1 g2 g3 g4 g5 gN gD gB hz
   gi_wp2
   obtain ⟨c1, c2⟩ := put_two (x := .int .i64 0) (y := .int .i64 9) (by omega : w.heap.size + 1 + 1 + 1 ≠ w.heap.size + 1 + 1 + 1 + 1) q4 q5
   obtain ⟨rfl, rfl⟩ : r1 = 0 ∧ r2 = 9 := by
    have hn := HN.out
    have h0 := HZ.out []
    rw [List.append_nil, hke] at h0
    rw [h0] at hn
    simp only [backF, Prod.mk.injEq] at hn
    exact ⟨hn.1.symm, hn.2.symm⟩
   refine leaves_marks2 (v := .tuple #[.int .i64 0, .int .i64 9]) (fun W'' => W''.cell? ⟨w.heap.size + 1 + 1 + 1, 0, none⟩ = some (.int .i64 0) ∧ W''.cell? ⟨w.heap.size + 1 + 1 + 1 + 1, 0, none⟩ = some (.int .i64 9) ∧ Below w.heap.size w W'') (w.heap.size + 6) ?_ (fn := Try.f21) (fun W2 h => two_cells (fn := Try.f21) rfl rfl rfl h.1 h.2.1) (fun W2 h => ⟨rfl, h.2.2⟩) Ds _ HGN.out (fun D hD => ⟨(HGD.out D hD).1, ?_⟩) ⟨c1, c2, ?_⟩
   ·rintro W2 D h6 hD ⟨h1, h2, h3⟩
    exact ⟨cell_kept h1 (grownBy_putObj' W2 D _) (fun r e => by cases e; exact ⟨_, hD, rfl⟩), cell_kept h2 (grownBy_putObj' W2 D _) (fun r e => by cases e; exact ⟨_, hD, rfl⟩), h3.trans (belowK_b (w := w) (Nat.le_refl _) W2 D _ _ (by omega) hD rfl rfl)⟩
   ·have := HGD.out D hD
    exact set_other (by omega) (set_other (by omega) this.2)
   exact (HGB.out.setCell (p := ⟨w.heap.size + 1 + 1 + 1, 0, none⟩) (by simp; omega) _).setCell (p := ⟨w.heap.size + 1 + 1 + 1 + 1, 0, none⟩) (by simp; omega) _
  have zk : k ≤ (a1 / 1440).toNat := by omega
  obtain ⟨z, hz, g1, g2, g3, g4, g5, gB, gS, gN, gD⟩ := HS.out
  have q1 : wr.cell? ⟨w.heap.size, 0, none⟩ = some (.slice A0_0 l0_0.length c0_0) := (bc g2 0).trans rfl
  have q2 : wr.cell? ⟨w.heap.size, 1, none⟩ = some (.slice A0_1 l0_1.length c0_1) := (bc g2 1).trans rfl
  have lC := (Array.getElem?_eq_some_iff.1 g2).1
  have j1 := cell_kept q1 (World.grownBy_alloc wr (.cells #[.slice none 0 0] 59) none) (fun r e => by cases e)
  have j2 := cell_kept q2 (World.grownBy_alloc wr (.cells #[.slice none 0 0] 59) none) (fun r e => by cases e)
  clear g1 g2 g3 g4 g5 hz gD gN
  gi_wp2_with (refine ⟨trivial, ?_⟩; gi_at_call 38; refine (callsIn_wide.2 (of_calls _ _ _ _ _ _ _ _)).mono ?_; rintro e w' ⟨rfl, rfl⟩)
  clear j1 j2 q1 q2
  obtain ⟨Wl, hWl⟩ : ∃ Wl, Wl = ((wr.alloc (.cells #[.slice none 0 0] 59)).alloc (.cells #[.slice A0_0 l0_0.length c0_0, .slice A0_1 l0_1.length c0_1] 31)).alloc (.cells #[.int .i64 (a1 / 1440 - (k : Int))] 3) := ⟨_, rfl⟩
  have hWla : Wl = allocs wr [.cells #[.slice none 0 0] 59, .cells #[.slice A0_0 l0_0.length c0_0, .slice A0_1 l0_1.length c0_1] 31, .cells #[.int .i64 (a1 / 1440 - (k : Int))] 3] := hWl
  have szl : Wl.heap.size = wr.heap.size + 3 := by rw [hWla]; exact allocs_size _ _
  have bl : Below wr.heap.size wr Wl := by rw [hWla]; exact allocs_below _ _
  have m0 : Wl.heap[wr.heap.size]? = some (.cells #[.slice none 0 0] 59 (0, 0)) := by rw [hWla]; exact allocs_get wr _ 0 _ rfl
  have m1 : Wl.heap[wr.heap.size + 1]? = some (.cells #[.slice A0_0 l0_0.length c0_0, .slice A0_1 l0_1.length c0_1] 31 (0, 0)) := by rw [hWla]; exact allocs_get wr _ 1 _ rfl
  have m2 : Wl.heap[wr.heap.size + 1 + 1]? = some (.cells #[.int .i64 (a1 / 1440 - (k : Int))] 3 (0, 0)) := by rw [hWla]; exact allocs_get wr _ 2 _ rfl
  try simp only [World.size_alloc]
  rw [← hWl]
  clear hWla hWl
  refine range_P (by omega) rfl rfl (enters_of Try.func51 (by kernel_rfl) rfl)
   (of51 w w.heap.size (wr.heap.size + 1) (Nat.le_refl _) (by omega) A0_0 A0_1 c0_0 c0_1 l0_0 l0_1 (a1 / 1440 - (k : Int)) HR0.out hc0_0 HR1.out hc0_1 (by omega) o4 (by omega) HV.out (by omega) (by omega) (wr.heap.size + 1) (wr.heap.size + 1 + 1) (.inr (Nat.le_refl _)) (.inr (by omega)) Wl (by omega) m1 m2 (gB.trans (bl.mono gB.size))) (by omega) (fun _ => rfl)
   (fun pre W' => ListAt W' Wl.heap.size wr.heap.size (cutB a1 pre) ∧ Below wr.heap.size wr W')
   (fun c pre W' => False)
   ?oI ?oIx ⟨⟨.slice none 0 0, m0, ⟨rfl, .inl ⟨rfl, rfl⟩⟩, by simp [cutB]⟩, bl⟩ (fun x => { tmps := #[Value.agg #[Value.slice A0_0 l0_0.length c0_0, Value.slice A0_1 l0_1.length c0_1], Value.int IntKind.i64 (a1), Value.int IntKind.i64 (a2), Value.pointer (some ⟨w.heap.size, 0, none⟩), Value.pointer (some ⟨w.heap.size + 1, 0, none⟩), Value.pointer (some ⟨w.heap.size + 1 + 1, 0, none⟩), Value.pointer (some ⟨w.heap.size + 1 + 1 + 1, 0, none⟩), Value.pointer (some ⟨w.heap.size + 1 + 1 + 1 + 1, 0, none⟩), Value.int IntKind.i64 (0), Value.int IntKind.i64 (a1 / 1440 - (k : Int)), Value.pointer (some ⟨wr.heap.size, 0, none⟩), Value.int IntKind.i64 (x.1), Value.int IntKind.i64 (x.2), x13, x14, x15, x16, x17, x18, x19, x20, x21, x22, x23, x24, x25, x26, x27, Value.int IntKind.i64 (a1 / 1440 - (k : Int)), Value.bool true, x30, x31, Value.agg #[Value.slice A0_0 l0_0.length c0_0, Value.slice A0_1 l0_1.length c0_1], Value.int IntKind.i64 (a1 / 1440 - (k : Int)), Value.func (Fn.func 51) #[] #[Value.pointer (some ⟨wr.heap.size + 1, 0, none⟩), Value.pointer (some ⟨wr.heap.size + 1 + 1, 0, none⟩)], Value.int IntKind.i64 (x.1), Value.int IntKind.i64 (x.2), x37, x38, x39, x40, x41, x42, x43, x44, x45, x46, x47, x48, x49, x50, x51, x52, x53, x54, x55, x56, x57, x58, x59, x60, x61, x62, x63, x64, x65, x66, x67, x68, x69], defers := [] }) ?assign ?body ?done ?stop
  case oI =>
   rintro s A B' row ⟨h1, h2⟩ hg hr
   exact ⟨ListAt.own (D := Wl.heap.size) () A B' row h1 hg hr, ownFrom_below (β := Unit) (Nat.le_refl _) (by omega) () A B' row h2 hg hr⟩
  case oIx => exact fun c s A B' row hs hg hr => hs.elim
  case assign =>
   intro l' x W' K hK
   simp only [enc2]
   gi_wp2
   exact hK
  case body =>
   rintro l' pre x W' hl' hrec ⟨h1, h2⟩ hpx
   have hS' := HS.out.below h2
   obtain ⟨z', hz', g1, g2, g3, g4, g5, gB', gS', gN, gD⟩ := hS'
   have q1 := (bc g1 0).trans rfl
   obtain ⟨v, e1, e2, e3⟩ := h1
   have qL := (bc e1 0).trans rfl
   have fL := bf e1 0
   have hLlt : wr.heap.size < Wl.heap.size := by omega
   have HSN := am (cutB_snoc a1 pre x)
   have HE1 := am e1
   have HE2 := am e2
   have HH2 := am h2
   have hlen : (cutB a1 (pre ++ [x])).length ≤ 64 := by
    have h1 := hpx.length_le
    have h2 : (ofL l0_0 l0_1 (a1 / 1440 - (k : Int))).length ≤ l0_0.length := by
     unfold ofL ofS
     split
     ·rw [List.length_map]; exact List.length_filter_le _ _
     simp
    have h3 : (cutB a1 (pre ++ [x])).length ≤ (pre ++ [x]).length := by
     unfold cutB
     rw [List.length_map]; exact List.length_filter_le _ _
    omega
   have HLN := am hlen
   have hlp : (cutB a1 pre).length ≤ 64 := e3
   have HLP := am hlp
   have hbs : Wl.heap.size ≤ W'.heap.size := by
    obtain ⟨r, hr⟩ := hrec
    have := (Array.getElem?_eq_some_iff.1 hr).1
    omega
   clear g1 g2 g3 g4 g5 gD gN hz' e1 e2 h2 hlen
   by_cases hx : x.1 < a1
   rotate_left
   ·have t1 : decide (x.1 < a1) = false := decide_eq_false hx
    rw [if_neg hx, List.append_nil] at HSN
    gi_wp2
    exact ⟨KeepsFrom.refl _ _, KeepP.refl _ _ _ _, ⟨v, HE1.out, by rw [HSN.out, ← szl]; exact HE2.out, by rw [HSN.out]; exact e3⟩, HH2.out⟩
   have t1 : decide (x.1 < a1) = true := decide_eq_true hx
   rw [if_pos hx] at HSN
   have fin : ∀ (m : Int) (W2 W3 : World) (v' : Value), mn x.2 a1 = m → W2 = W'.alloc (.cells #[.int .i64 x.1, .int .i64 m] 60) → W3.ownsRow Wl.heap.size 60 2 v' ((cutB a1 pre).length + 1) (flatB (cutB a1 pre) ++ [.int .i64 x.1, .int .i64 m]) → W2.grownBy W3 v.ownBlock →
     KeepsFrom Wl.heap.size W' (W3.setCell ⟨wr.heap.size, 0, none⟩ v') ∧ KeepP w.heap.size (wr.heap.size + 1) Wl.heap.size W' (W3.setCell ⟨wr.heap.size, 0, none⟩ v') ∧ ListAt (W3.setCell ⟨wr.heap.size, 0, none⟩ v') Wl.heap.size wr.heap.size (cutB a1 (pre ++ [x])) ∧ Below wr.heap.size wr (W3.setCell ⟨wr.heap.size, 0, none⟩ v') := by
    intro m W2 W3 v' hm hW2 ho hg
    have ow : ∀ j, v.ownBlock = some j → Wl.heap.size ≤ j ∧ ∃ cs, W'.heap[j]? = some (.cells cs 60 (0, 0)) := fun j hj => ⟨own_base HE2.out j hj, own_typed HE2.out j hj⟩
    have gA : W'.grownBy W2 none := by rw [hW2]; exact World.grownBy_alloc W' _ none
    have all : ∀ j, j < W'.heap.size → j ≠ wr.heap.size → some j ≠ v.ownBlock → (W3.setCell ⟨wr.heap.size, 0, none⟩ v').heap[j]? = W'.heap[j]? := by
     intro j hj hne hno
     rw [Below.heap_setCell W3 ⟨wr.heap.size, 0, none⟩ v' j hne, hg.block j (Nat.lt_of_lt_of_le hj gA.size) hno, gA.block j hj (by simp)]
    have sz3 : W'.heap.size ≤ (W3.setCell ⟨wr.heap.size, 0, none⟩ v').heap.size := by
     rw [World.size_setCell]; exact Nat.le_trans gA.size hg.size
    have gS3 := grownBy_setCell' W3 wr.heap.size v'
    refine ⟨⟨sz3, fun j o hj ho hc => ?_⟩, ⟨⟨?_, ?_, ?_, sz3, fun j hj => all j (by omega) (by omega) (fun e => by have := (ow j e.symm).1; omega)⟩, fun j o hj1 hj2 ho hc => (all j (by omega) (by omega) (fun e => by have := (ow j e.symm).1; omega)).trans ho⟩, ⟨v', ?_, ?_, HLN.out⟩, ?_⟩
    ·refine (all j (Array.getElem?_eq_some_iff.1 ho).1 (by omega) (fun e => ?_)).trans ho
     obtain ⟨_, cs, hcs⟩ := ow j e.symm
     rw [ho] at hcs; cases hcs; cases hc
    ·exact gS3.os.trans (hg.os.trans gA.os)
    ·exact gS3.tape.trans (hg.tape.trans gA.tape)
    ·exact gS3.output.trans (hg.output.trans gA.output)
    ·have : W3.heap[wr.heap.size]? = some (.cells #[v] 59 (0, 0)) := (hg.block _ (by have := gA.size; omega) (fun e => by have := (ow _ e.symm).1; omega)).trans ((gA.block _ (by omega) (by simp)).trans HE1.out)
     exact set_same this
    ·have e4 : (cutB a1 (pre ++ [x])).length = (cutB a1 pre).length + 1 := by rw [HSN.out]; simp
     have e5 : flatB (cutB a1 (pre ++ [x])) = flatB (cutB a1 pre) ++ [.int .i64 x.1, .int .i64 m] := by rw [HSN.out, flatB_snoc, hm]
     rw [e4, e5]
     refine own_move ho (fun j hj => Below.heap_setCell W3 ⟨wr.heap.size, 0, none⟩ v' j (fun e => ?_))
     have := own_base ho j hj
     simp only at e
     omega
    exact HH2.out.trans ⟨gS3.os.trans (hg.os.trans gA.os), gS3.tape.trans (hg.tape.trans gA.tape), gS3.output.trans (hg.output.trans gA.output), sz3, fun j hj => all j (by omega) (by omega) (fun e => by have := (ow j e.symm).1; omega)⟩
   have FIN := am fin
   have hown : ∀ W2, Below W'.heap.size W' W2 → W2.ownsRow Wl.heap.size 60 2 v (cutB a1 pre).length (flatB (cutB a1 pre)) := fun W2 hb => own_move HE2.out (fun j hj => hb.block j (own_lt HE2.out j hj))
   have HO := am hown
   clear fin hown hx
   obtain ⟨i60, u1, u2, u3, u4⟩ := inf60'
   by_cases hm : x.2 ≤ a1
   ·have hmn : mn x.2 a1 = x.2 := by unfold mn; split <;> omega
    have hm3 : decide (x.2 ≤ a1) = true := decide_eq_true hm
    have HMN := am hmn
    clear hmn
    obtain ⟨W2, hW2⟩ : ∃ W2, W2 = W'.alloc (.cells #[.int .i64 x.1, .int .i64 x.2] 60) := ⟨_, rfl⟩
    have HW2 := am hW2
    have k1 : W2.cell? ⟨W'.heap.size, 0, none⟩ = some (.int .i64 x.1) := by rw [hW2]; exact (bc (blk_new W' _) 0).trans rfl
    have k2 : W2.cell? ⟨W'.heap.size, 1, none⟩ = some (.int .i64 x.2) := by rw [hW2]; exact (bc (blk_new W' _) 1).trans rfl
    have hb2 : Below W'.heap.size W' W2 := by rw [hW2]; exact below_alloc (Below.refl _ _) _
    have K1 := am k1
    have K2 := am k2
    have HB2 := am hb2
    clear k1 k2 hb2 hW2
    gi_wp2_with (rw [← HW2.out]; refine Hold.out ?_)
    refine Hold.mk ?_
    refine wpListIn_append_own W2 rfl (.tmp 40) (.tmp 46) 59 rfl Wl.heap.size 60 i60 _ 2 16 und59 u1 u2 u3 u4 rfl (by decide) v (cutB a1 pre).length (flatB (cutB a1 pre)) rfl (HO.out _ HB2.out) ⟨W'.heap.size, 0, none⟩ 1 1 [.int .i64 x.1, .int .i64 x.2] rfl rfl ?cells ?one (by have := HLP.out; simp only [maxLen]; omega) (by have := HLP.out; omega) (by have := HB2.out.size; omega) ?_
    case cells =>
     intro j u hu
     match j, hu with
     | 0, hu => cases hu; exact K1.out
     | 1, hu => cases hu; exact K2.out
    case one =>
     intro u hu
     simp at hu
     rcases hu with rfl | rfl <;> rfl
    rintro v' W3 ho3 hg3 hn3
    obtain ⟨A', c', rfl⟩ := own_slice ho3
    have qL3 : W3.heap[wr.heap.size]? = some (.cells #[v] 59 (0, 0)) := (hg3.block _ (by have := HB2.out.size; omega) (fun e => by have := own_base HE2.out _ e.symm; omega)).trans (blk_below HE1.out HB2.out)
    have qL4 := (bc qL3 0).trans rfl
    have fL4 := bf qL3 0
    have HO3 := am ho3
    have HG3 := am hg3
    clear ho3 hg3 hn3 qL3
    gi_wp2
    exact FIN.out _ _ _ _ HMN.out HW2.out HO3.out HG3.out
   have hmn : mn x.2 a1 = a1 := by unfold mn; split <;> omega
   have hm3 : decide (x.2 ≤ a1) = false := decide_eq_false hm
   have HMN := am hmn
   clear hmn
   obtain ⟨W2, hW2⟩ : ∃ W2, W2 = W'.alloc (.cells #[.int .i64 x.1, .int .i64 a1] 60) := ⟨_, rfl⟩
   have HW2 := am hW2
   have k1 : W2.cell? ⟨W'.heap.size, 0, none⟩ = some (.int .i64 x.1) := by rw [hW2]; exact (bc (blk_new W' _) 0).trans rfl
   have k2 : W2.cell? ⟨W'.heap.size, 1, none⟩ = some (.int .i64 a1) := by rw [hW2]; exact (bc (blk_new W' _) 1).trans rfl
   have hb2 : Below W'.heap.size W' W2 := by rw [hW2]; exact below_alloc (Below.refl _ _) _
   have K1 := am k1
   have K2 := am k2
   have HB2 := am hb2
   clear k1 k2 hb2 hW2
   gi_wp2_with (rw [← HW2.out]; refine Hold.out ?_)
   refine Hold.mk ?_
   refine wpListIn_append_own W2 rfl (.tmp 40) (.tmp 46) 59 rfl Wl.heap.size 60 i60 _ 2 16 und59 u1 u2 u3 u4 rfl (by decide) v (cutB a1 pre).length (flatB (cutB a1 pre)) rfl (HO.out _ HB2.out) ⟨W'.heap.size, 0, none⟩ 1 1 [.int .i64 x.1, .int .i64 a1] rfl rfl ?cells ?one (by have := HLP.out; simp only [maxLen]; omega) (by have := HLP.out; omega) (by have := HB2.out.size; omega) ?_
   case cells =>
    intro j u hu
    match j, hu with
    | 0, hu => cases hu; exact K1.out
    | 1, hu => cases hu; exact K2.out
   case one =>
    intro u hu
    simp at hu
    rcases hu with rfl | rfl <;> rfl
   rintro v' W3 ho3 hg3 hn3
   obtain ⟨A', c', rfl⟩ := own_slice ho3
   have qL3 : W3.heap[wr.heap.size]? = some (.cells #[v] 59 (0, 0)) := (hg3.block _ (by have := HB2.out.size; omega) (fun e => by have := own_base HE2.out _ e.symm; omega)).trans (blk_below HE1.out HB2.out)
   have qL4 := (bc qL3 0).trans rfl
   have fL4 := bf qL3 0
   have HO3 := am ho3
   have HG3 := am hg3
   clear ho3 hg3 hn3 qL3
   gi_wp2
   exact FIN.out _ _ _ _ HMN.out HW2.out HO3.out HG3.out
  case done =>
   rintro D W' hD ⟨h1, h2⟩ hDd
   obtain ⟨A', c', e1, e2, e3⟩ := h1.row (n₀ := w.heap.size) (B := w.heap.size + 6) (by omega)
   have hlen : (cutB a1 (ofL l0_0 l0_1 (a1 / 1440 - (k : Int)))).length ≤ 64 := by
    obtain ⟨v, _, _, h⟩ := h1
    exact h
   have hS1 := (HS.out.below h2).mark (D := D) (fun E hE e => by have := HS.out.lt E hE; omega) (by omega) hDd
   obtain ⟨L, hL⟩ : ∃ L, L = cutB a1 (ofL l0_0 l0_1 (a1 / 1440 - (k : Int))) := ⟨_, rfl⟩
   rw [← hL] at e1 e2 e3 hlen
   have HL := am hL
   clear hL
   have qL := (bc e1 0).trans rfl
   have HS1 := am hS1
   have HE3 := am e3
   have hW6 : w.heap.size + 6 ≤ W'.heap.size := by have := h2.size; omega
   have hbw : Below w.heap.size w W' := gB.trans (h2.mono gB.size)
   have HBW := am hbw
   have hDl : ∀ E ∈ D :: Ds, E < W'.heap.size := hS1.lt
   have HDL := am hDl
   clear hS1 e1 e3 h1 h2 hbw hDl
   gi_wp2_with (refine ⟨trivial, ?_⟩; gi_at_call 39; refine (callsIn_wide.2 (back_calls _ _ _ _)).mono ?_; rintro e w' ⟨rfl, rfl⟩)
   obtain ⟨Wb, hWb⟩ : ∃ Wb, Wb = W'.alloc (.cells #[.slice A' L.length c'] 59) := ⟨_, rfl⟩
   have szb : Wb.heap.size = W'.heap.size + 1 := by rw [hWb]; simp
   have bb : Below W'.heap.size W' Wb := by rw [hWb]; exact below_alloc (Below.refl _ _) _
   have mb : Wb.heap[W'.heap.size]? = some (.cells #[.slice A' L.length c'] 59 (0, 0)) := by rw [hWb]; exact blk_new W' _
   rw [← hWb]
   have rb : RowAt Wb A' w.heap.size (w.heap.size + 6) L := HE3.out.imp_right (fun ⟨g, cur, q1, q2, q3⟩ => ⟨g, cur, q1, blk_below q2 bb, q3⟩)
   refine range_A (by omega) rfl rfl (enters_of Try.func53 (by kernel_rfl) rfl)
    (back53 w.heap.size (w.heap.size + 6) (by omega) A' c' L (by omega) e2 W'.heap.size (.inr hW6) Wb (by omega) rb mb) (by omega) (fun _ => rfl)
    (fun pre W2 => St w A0_0 c0_0 l0_0.length A0_1 c0_1 l0_1.length a1 a2 (allB l0_0 l0_1 a1 (a1 / 1440) k ++ pre.map Prod.fst) (D :: Ds) W2)
    (fun c pre W2 => c = .ret ∧ ∃ z, BStop a2 (allB l0_0 l0_1 a1 (a1 / 1440) k ++ pre.map Prod.fst) z ∧ W2.cell? ⟨w.heap.size + 1 + 1 + 1, 0, none⟩ = some (.int .i64 z) ∧ W2.cell? ⟨w.heap.size + 1 + 1 + 1 + 1, 0, none⟩ = some (.int .i64 0) ∧ Below w.heap.size w W2 ∧ (D :: Ds).Nodup ∧ ∀ E ∈ D :: Ds, w.heap.size + 6 ≤ E ∧ W2.heap[E]? = some (.deferred (some [])))
    ?oI2 ?oIx2 (by rw [List.map_nil, List.append_nil]; exact HS1.out.below bb)
    (fun pre x a W2 => ∃ bx, a = { tmps := #[Value.agg #[Value.slice A0_0 l0_0.length c0_0, Value.slice A0_1 l0_1.length c0_1], Value.int IntKind.i64 (a1), Value.int IntKind.i64 (a2), Value.pointer (some ⟨w.heap.size, 0, none⟩), Value.pointer (some ⟨w.heap.size + 1, 0, none⟩), Value.pointer (some ⟨w.heap.size + 1 + 1, 0, none⟩), Value.pointer (some ⟨w.heap.size + 1 + 1 + 1, 0, none⟩), Value.pointer (some ⟨w.heap.size + 1 + 1 + 1 + 1, 0, none⟩), Value.int IntKind.i64 (0), Value.int IntKind.i64 (a1 / 1440 - (k : Int)), Value.pointer (some ⟨wr.heap.size, 0, none⟩), x11, x12, x13, Value.pointer (some ⟨bx, 0, none⟩), x15, x16, x17, x18, x19, x20, x21, x22, x23, x24, x25, x26, x27, Value.int IntKind.i64 (a1 / 1440 - (k : Int)), Value.bool true, x30, x31, Value.agg #[Value.slice A0_0 l0_0.length c0_0, Value.slice A0_1 l0_1.length c0_1], Value.int IntKind.i64 (a1 / 1440 - (k : Int)), Value.func (Fn.func 51) #[] #[Value.pointer (some ⟨wr.heap.size + 1, 0, none⟩), Value.pointer (some ⟨wr.heap.size + 1 + 1, 0, none⟩)], x35, x36, x37, x38, x39, x40, x41, x42, x43, x44, x45, x46, x47, Value.slice A' L.length c', Value.func (Fn.func 53) #[] #[Value.pointer (some ⟨W'.heap.size, 0, none⟩)], Value.int IntKind.i64 (x.2 : Int), Value.agg #[Value.int IntKind.i64 x.1.1, Value.int IntKind.i64 x.1.2], x52, x53, x54, x55, x56, x57, x58, x59, x60, x61, x62, x63, x64, x65, x66, x67, x68, x69], defers := [] } ∧ w.heap.size + 6 ≤ bx ∧ W2.heap[bx]? = some (.cells #[.int .i64 x.1.1, .int .i64 x.1.2] 60 (0, 0)) ∧ St w A0_0 c0_0 l0_0.length A0_1 c0_1 l0_1.length a1 a2 (allB l0_0 l0_1 a1 (a1 / 1440) k ++ pre.map Prod.fst) (D :: Ds) W2)
    ?oIa2 ?assign2 ?body2 ?done2 ?stop2
   case oI2 =>
    intro s A B' row hs hg hr
    exact St.own (B := Wb.heap.size) (by omega) (fun E hE => by have := HDL.out E hE; omega) _ A B' row hs hg hr
   case oIx2 =>
    rintro c s A B' row ⟨q0, z2, q1, q2, q3, q4, q5, q6⟩ hg hr
    exact ⟨q0, z2, q1, cell_kept q2 hg (fun r e => (hr r e).2), cell_kept q3 hg (fun r e => (hr r e).2), ownFrom_below (β := Unit) (Nat.le_refl _) (by omega) () A B' row q4 hg hr, q5, fun E hE => ⟨(q6 E hE).1, ownFrom_rec (β := Unit) (B := Wb.heap.size) (by have := HDL.out E hE; omega) _ () A B' row (q6 E hE).2 hg hr⟩⟩
   case oIa2 =>
    rintro pre x a₁ s A B' row ⟨bx, q1, q2, q3, q4⟩ hg hr
    exact ⟨bx, q1, q2, cells_own (β := Unit) rfl () A B' row q3 hg hr, St.own (B := Wb.heap.size) (by omega) (fun E hE => by have := HDL.out E hE; omega) _ A B' row q4 hg hr⟩
   case assign2 =>
    intro l' pre x W2 K hl' hI hK
    simp only [encB]
    gi_wp2
    have hst := hI
    obtain ⟨_, _, _, _, _, _, _, gB2, gS2, _, _⟩ := hI
    exact hK _ _ (Whole.of_below (below_alloc (Below.refl _ _) _)) (Keep.alloc gB2.size _) ⟨W2.heap.size, rfl, by omega, blk_new W2 _, hst.below (below_alloc (Below.refl _ _) _)⟩
   case body2 =>
    rintro l' pre x a₁ W2 hl' hrec ⟨bx, rfl, hbx, hbc, hst⟩ hpx
    obtain ⟨z, hz, g1, g2, g3, g4, g5, gB2, gS2, gN, gD⟩ := hst
    have b0 : W2.cell? ⟨bx, 0, none⟩ = some (.int .i64 x.1.1) := (bc hbc 0).trans rfl
    have b1 : W2.cell? ⟨bx, 1, none⟩ = some (.int .i64 x.1.2) := (bc hbc 1).trans rfl
    have q3 := (bc g3 0).trans rfl
    have q4 := (bc g4 0).trans rfl
    have q5 := (bc g5 0).trans rfl
    have f3 := bf g3 0
    have f4 := bf g4 0
    have f5 := bf g5 0
    have HZ := am hz
    have HG := am (And.intro g1 (And.intro g2 (And.intro g3 (And.intro g4 (And.intro g5 gD)))))
    have HGN := am gN
    have HGB := am gB2
    clear g1 g2 g3 g4 g5 gD gN gB2 hz hbc hpx
    have hj : allB l0_0 l0_1 a1 (a1 / 1440) k ++ (pre ++ [x]).map Prod.fst = (allB l0_0 l0_1 a1 (a1 / 1440) k ++ pre.map Prod.fst) ++ [x.1] := by simp
    have HJ := am hj
    clear hj
    by_cases hx : wrap64 (x.1.2 - x.1.1) ≥ z
    ·have t1 : decide (z ≤ wrap64 (x.1.2 - x.1.1)) = true := decide_eq_true hx
     have hs : BStop a2 (allB l0_0 l0_1 a1 (a1 / 1440) k ++ (pre ++ [x]).map Prod.fst) (wrap64 (x.1.2 - z)) := by
      intro rest
      rw [HJ.out, List.append_assoc, HZ.out]
      show backF z (x.1 :: rest) = _
      rw [backF, if_pos hx]
     have HSS := am hs
     clear hs
     gi_wp2
     obtain ⟨c1, c2⟩ := put_two (x := .int .i64 (wrap64 (x.1.2 - z))) (y := .int .i64 0) (by omega : w.heap.size + 1 + 1 + 1 ≠ w.heap.size + 1 + 1 + 1 + 1) q4 q5
     exact ⟨(Whole.set (by omega) _).trans (Whole.set (by omega) _), rfl, _, HSS.out, c1, c2, (HGB.out.setCell (p := ⟨w.heap.size + 1 + 1 + 1, 0, none⟩) (by simp; omega) _).setCell (p := ⟨w.heap.size + 1 + 1 + 1 + 1, 0, none⟩) (by simp; omega) _, HGN.out, fun E hE => ⟨(HG.out.2.2.2.2.2 E hE).1, set_other (by have := (HG.out.2.2.2.2.2 E hE).1; omega) (set_other (by have := (HG.out.2.2.2.2.2 E hE).1; omega) (HG.out.2.2.2.2.2 E hE).2)⟩⟩
    have t1 : decide (z ≤ wrap64 (x.1.2 - x.1.1)) = false := decide_eq_false hx
    have hu : BUpto a2 (allB l0_0 l0_1 a1 (a1 / 1440) k ++ (pre ++ [x]).map Prod.fst) (wrap64 (z - wrap64 (x.1.2 - x.1.1))) := by
     intro rest
     rw [HJ.out, List.append_assoc, HZ.out]
     show backF z (x.1 :: rest) = _
     rw [backF, if_neg hx]
    have HU := am hu
    clear hu
    gi_wp2
    obtain ⟨g1, g2, g3, g4, g5, gD⟩ := HG.out
    refine ⟨Whole.set (by omega) _, ⟨(Below.refl _ W2).setCell (p := ⟨w.heap.size + 1 + 1, 0, none⟩) (by simp; omega) _, fun q o hq ho hc => set_other (by omega) ho⟩, _, HU.out, set_other (by omega) g1, set_other (by omega) g2, set_same g3, set_other (by omega) g4, set_other (by omega) g5, HGB.out.setCell (p := ⟨w.heap.size + 1 + 1, 0, none⟩) (by simp; omega) _, ?_, HGN.out, fun E hE => ⟨(gD E hE).1, set_other (by have := (gD E hE).1; omega) (gD E hE).2⟩⟩
    rw [World.size_setCell]; exact gS2
   case done2 =>
    rintro D2 W2 hD2 hst hD2d
    have hst2 := hst.mark (D := D2) (fun E hE e => by have := HDL.out E hE; omega) (by omega) hD2d
    have hd : a1 / 1440 - (k : Int) - 1 = a1 / 1440 - ((k + 1 : Nat) : Int) := by omega
    have HD := am hd
    have HST := am hst2
    clear hd hst hst2
    gi_wp2
    refine ⟨⟨k + 1, D2 :: D :: Ds, _, _, _, _, _, _, _, _, _, _, _, _, _, _, _, _, _, _, _, _, _, _, _, _, _, _, _, _, _, _, _, _, _, _, _, _, _, _, _, _, _, _, _, _, _, _, _, _, _, _, _, _, _, _, _, _, _, _, _, _, by omega, (by rw [HD.out]; rfl), ⟨?_⟩⟩, ?_⟩
    ·have e : allB l0_0 l0_1 a1 (a1 / 1440) (k + 1) = allB l0_0 l0_1 a1 (a1 / 1440) k ++ (revD L 0).map Prod.fst := by rw [revD_map, HL.out]; rfl
     rw [e]
     exact HST.out
    simp [intOf]; omega
   case stop2 =>
    rintro D2 c pre W2 hD2 hp ⟨rfl, z2, q1, q2, q3, q4, q5, q6⟩ hD2d
    gi_wp2
    obtain ⟨rfl, rfl⟩ : r1 = z2 ∧ r2 = 0 := by
     have hn := HN.out
     have e : allB l0_0 l0_1 a1 (a1 / 1440) (k + 1) = allB l0_0 l0_1 a1 (a1 / 1440) k ++ (revD L 0).map Prod.fst := by rw [revD_map, HL.out]; rfl
     have hpp : allB l0_0 l0_1 a1 (a1 / 1440) k ++ pre.map Prod.fst <+: allB l0_0 l0_1 a1 (a1 / 1440) (a1 / 1440 + 1).toNat := by
      refine ((List.prefix_append_right_inj _).2 (hp.map Prod.fst)).trans ?_
      rw [← e]
      exact allB_prefix _ _ _ _ (by omega)
     obtain ⟨rest, hr⟩ := hpp
     have := q1 rest
     rw [hr, hn] at this
     simp only [Prod.mk.injEq] at this
     exact this
    refine leaves_marks2 (v := .tuple #[.int .i64 r1, .int .i64 0]) (fun W'' => W''.cell? ⟨w.heap.size + 1 + 1 + 1, 0, none⟩ = some (.int .i64 r1) ∧ W''.cell? ⟨w.heap.size + 1 + 1 + 1 + 1, 0, none⟩ = some (.int .i64 0) ∧ Below w.heap.size w W'') (w.heap.size + 6) ?_ (fn := Try.f21) (fun W3 h => two_cells (fn := Try.f21) rfl rfl rfl h.1 h.2.1) (fun W3 h => ⟨rfl, h.2.2⟩) (D2 :: D :: Ds) _ (List.nodup_cons.2 ⟨fun hm => by have := HDL.out D2 hm; omega, q5⟩) (fun E hE => ?_) ⟨q2, q3, q4⟩
    ·rintro W3 D h6 hD ⟨h1, h2, h3⟩
     exact ⟨cell_kept h1 (grownBy_putObj' W3 D _) (fun r e => by cases e; exact ⟨_, hD, rfl⟩), cell_kept h2 (grownBy_putObj' W3 D _) (fun r e => by cases e; exact ⟨_, hD, rfl⟩), h3.trans (belowK_b (w := w) (Nat.le_refl _) W3 D _ _ (by omega) hD rfl rfl)⟩
    rcases List.mem_cons.1 hE with rfl | hE
    ·exact ⟨by omega, hD2d⟩
    exact q6 E hE
  case stop => exact fun D c pre W' hD hp h _ => h.elim
end

end Go.Proofs.Ytpjgmlnnhcnelaa.QA
