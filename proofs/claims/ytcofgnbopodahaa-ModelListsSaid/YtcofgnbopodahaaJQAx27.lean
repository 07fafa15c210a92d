import Derived.Test.YtcofgnbopodahaaJQAx0
import Derived.Test.YtcofgnbopodahaaJQAx5
import Derived.Test.YtcofgnbopodahaaJQAx10
import Derived.Test.YtcofgnbopodahaaJEvKit
import Derived.Test.YtcofgnbopodahaaJMapKit
import Derived.Test.YtcofgnbopodahaaJMapS
import Derived.Test.YtcofgnbopodahaaJRegInv
import Derived.Carry
import Derived.Deep.RegionHeld3
import Derived.Deep.RegionLaw
import Derived.IntWalk
import Derived.Lib.SlicesCompact
import Derived.LoopN
import Derived.RegionTactic
import Derived.StillTailTactics
import Derived.WalkSpells
namespace Go.Proofs.Ytcofgnbopodahaa.QA
open Go.RowKit Go.Proofs.YtcofgnbopodahaaW.PrintWords Go.Proofs.YtcofgnbopodahaaW.PrintLast Go.Proofs.YtcofgnbopodahaaW.PrintMore
open Go.Proofs.YtcofgnbopodahaaW.PrintWords renaming blk_frozen → bf, blk_cell → bc, blk_below → bb
open Aside0 renaming mk → am
attribute [local go_sem] max2_int min2_int max_two min_two max_three min_three max_four min_four
set_option linter.unusedVariables false
set_option linter.unusedSimpArgs false

section
open Go.Proofs.Ytcofgnbopodahaa.EvKit Go.Proofs.Ytcofgnbopodahaa.MapKit
attribute [local go_sem] max2_int min2_int max_two min_two Oper.semAt_some
set_option linter.unusedVariables false
set_option linter.unusedSimpArgs false
theorem clo63 (W : World) (g3 : Nat) (src : ByteArray) (x : S68) (h3 : W.heap[g3]? = some (.cells #[.string src] 9 (0, 0))) :
  Calls Try.prog 63 #[.agg #[.string x.f0, .int .i64 x.f1.f0.f0, .int .i64 x.f1.f0.f1, .int .i64 x.f1.f0.f2, .int .i64 x.f1.f1.f0, .int .i64 x.f1.f1.f1, .int .i64 x.f1.f1.f2, .int .i64 x.f2], .pointer (some ⟨g3, 0, none⟩)] W fun e w' => e = .returned (.bool (x.f0.toList == src.toList)) ∧ Below W.heap.size W w' := by
 have hu68 := Try.underlying68
 have c3 := (bc (blk_alloc h3 (.cells #[.string x.f0, .int .i64 x.f1.f0.f0, .int .i64 x.f1.f0.f1, .int .i64 x.f1.f0.f2, .int .i64 x.f1.f1.f0, .int .i64 x.f1.f1.f1, .int .i64 x.f1.f1.f2, .int .i64 x.f2] 68)) 0).trans rfl
 have HB1 := am (below_alloc (Below.refl W.heap.size W) (.cells #[.string x.f0, .int .i64 x.f1.f0.f0, .int .i64 x.f1.f0.f1, .int .i64 x.f1.f0.f2, .int .i64 x.f1.f1.f0, .int .i64 x.f1.f1.f1, .int .i64 x.f1.f1.f2, .int .i64 x.f2] 68))
 clear h3
 go_enter Try.func63, Try.ntmps63
 go_wp2
 go_ret
 exact ⟨rfl, HB1.out⟩
def keepB (src : ByteArray) (x : S68) : Bool := !(x.f0.toList == src.toList)
set_option maxHeartbeats 1000000 in
set_option maxRecDepth 100000 in
theorem index63 (g3 : Nat) (src : ByteArray) (A0 : Option Addr) (c0 : Nat) (l0 : List S68) (w : World) (hr0 : Kd.C k68 w A0 l0.length l0) (hc0 : l0.length ≤ c0) (h3 : w.heap[g3]? = some (.cells #[.string src] 9 (0, 0))) :
  Calls Try.prog 70 #[.slice A0 l0.length c0, .func (.func 63) #[] #[.pointer (some ⟨g3, 0, none⟩)]] w fun e w' => Below w.heap.size w w' ∧ ((e = .returned (.int .i64 (-1)) ∧ ∀ x ∈ l0, keepB src x = true) ∨ ∃ i : Nat, e = .returned (.int .i64 i) ∧ i < l0.length ∧ keepB src (rd_T68 l0 (i : Int)) = false ∧ ∀ x ∈ l0.take i, keepB src x = true) := by
 have hn := hr0.2.1
 have HR := am hr0
 have H3 := am h3
 clear hr0 h3
 go_enter Try.func70, Try.ntmps70
 go_wp2
 go_loopw [8] (fun i wr => ∃ j : Nat, j ≤ l0.length ∧ i = .int .i64 j ∧ Aside0 (∀ x ∈ l0.take j, keepB src x = true) ∧ Aside0 (Below w.heap.size w wr))
  (fun i _ => l0.length - (intOf i).toNat)
 case atStart => exact ⟨0, Nat.zero_le _, rfl, ⟨fun x hx => by simp at hx⟩, ⟨Below.refl _ _⟩⟩
 case round =>
  obtain ⟨j, hk, rfl, HP, HB⟩ := hrel
  by_cases hlt : j < l0.length
  rotate_left
  ·obtain rfl : j = l0.length := by omega
   go_wp2
   go_ret
   refine ⟨HB.out, .inl ⟨rfl, ?_⟩⟩
   have := HP.out
   rwa [List.take_length] at this
  obtain ⟨ad, e, h0, h1, h2, h3, h4, h5, h6, h7⟩ := at_T68 HR.out (j : Int) (by omega) (by omega)
  cases e
  replace h0 := cl HB h0
  replace h1 := cl HB h1
  replace h2 := cl HB h2
  replace h3 := cl HB h3
  replace h4 := cl HB h4
  replace h5 := cl HB h5
  replace h6 := cl HB h6
  replace h7 := cl HB h7
  rw [Int.toNat_natCast] at h0 h1 h2 h3 h4 h5 h6 h7
  obtain ⟨x, hx⟩ : ∃ x, x = rd_T68 l0 (j : Int) := ⟨_, rfl⟩
  rw [← hx] at h0 h1 h2 h3 h4 h5 h6 h7
  have HX := am hx
  clear hx
  obtain ⟨b, hb⟩ : ∃ b, b = (x.f0.toList == src.toList) := ⟨_, rfl⟩
  have HQ : Aside0 (∀ W, W.heap[g3]? = some (.cells #[.string src] 9 (0, 0)) → Calls Try.prog 63 #[.agg #[.string x.f0, .int .i64 x.f1.f0.f0, .int .i64 x.f1.f0.f1, .int .i64 x.f1.f0.f2, .int .i64 x.f1.f1.f0, .int .i64 x.f1.f1.f1, .int .i64 x.f1.f1.f2, .int .i64 x.f2], .pointer (some ⟨g3, 0, none⟩)] W fun e w' => e = .returned (.bool b) ∧ Below W.heap.size W w') := ⟨fun W hW => by rw [hb]; exact clo63 W g3 src x hW⟩
  have HBB := am hb
  clear hb
  cases b with
  | true =>
   go_wp2_with (go_at_call 63; refine (HQ.out _ (by first | exact bb H3.out HB.out | exact bb (blk_drew H3.out) HB.out)).mono ?_; rintro e w' ⟨rfl, hb⟩; have HB2 := am (below_step HB.out hb); clear hb)
   go_ret
   refine ⟨HB2.out, .inr ⟨j, rfl, hlt, ?_, HP.out⟩⟩
   rw [← HX.out]; unfold keepB; rw [← HBB.out]; rfl
  | false =>
   go_wp2_with (go_at_call 63; refine (HQ.out _ (by first | exact bb H3.out HB.out | exact bb (blk_drew H3.out) HB.out)).mono ?_; rintro e w' ⟨rfl, hb⟩; have HB2 := am (below_step HB.out hb); clear hb)
   go_roundw
   case rel =>
    refine ⟨j + 1, by omega, by go_num, ⟨fun y hy => ?_⟩, HB2⟩
    rw [List.take_succ_eq_append_getElem hlt, List.mem_append, List.mem_singleton] at hy
    rcases hy with hy | rfl
    ·exact HP.out y hy
    have e : l0[j] = x := by rw [HX.out]; simp [rd_T68, hlt]
    rw [e]; unfold keepB; rw [← HBB.out]; rfl
   case measure => simp [intOf]; omega
theorem slot68 {g n cap base : Nat} {ok : Nat → Prop} {xs : List S68} {W : World} (h : Kd.R k68 68 W base ok (.slice (some ⟨g, 0, none⟩) n cap) xs) (i : Nat) (hi : i < n) : W.cell? ⟨g, i * 8, none⟩ = some (.string (rd_T68 xs i).f0) ∧ W.cell? ⟨g, i * 8 + 1, none⟩ = some (.int .i64 (rd_T68 xs i).f1.f0.f0) ∧ W.cell? ⟨g, i * 8 + 2, none⟩ = some (.int .i64 (rd_T68 xs i).f1.f0.f1) ∧ W.cell? ⟨g, i * 8 + 3, none⟩ = some (.int .i64 (rd_T68 xs i).f1.f0.f2) ∧ W.cell? ⟨g, i * 8 + 4, none⟩ = some (.int .i64 (rd_T68 xs i).f1.f1.f0) ∧ W.cell? ⟨g, i * 8 + 5, none⟩ = some (.int .i64 (rd_T68 xs i).f1.f1.f1) ∧ W.cell? ⟨g, i * 8 + 6, none⟩ = some (.int .i64 (rd_T68 xs i).f1.f1.f2) ∧ W.cell? ⟨g, i * 8 + 7, none⟩ = some (.int .i64 (rd_T68 xs i).f2) := by
 obtain ⟨ad, e, h0, h1, h2, h3, h4, h5, h6, h7⟩ := at_T68 (Kd.R_reads' h).2.2 (i : Int) (by omega) (by have := (Kd.R_reads' h).1; omega)
 cases e
 have ea : (⟨g, 0, none⟩ : Addr).add ((i : Int).toNat * 8) = ⟨g, i * 8, none⟩ := by
  rw [Int.toNat_natCast]; unfold Addr.add; split <;> simp_all
 rw [ea] at h0 h1 h2 h3 h4 h5 h6 h7
 exact ⟨h0, h1, h2, h3, h4, h5, h6, h7⟩
theorem tail68 {g n cap base : Nat} {ok : Nat → Prop} {xs : List S68} {W : World} (h : Kd.R k68 68 W base ok (.slice (some ⟨g, 0, none⟩) n cap) xs) (i : Nat) (hi : i < n) : ∃ W2, (∀ ty, (Builtin.clear_ #[22] ty #[.slice (some ⟨g, i * 8, none⟩) (n - i) (cap - i)]).run Try.prog W = .ok (.tuple #[]) W2) ∧ Kd.R k68 68 W2 base ok (.slice (some ⟨g, 0, none⟩) i cap) (xs.take i) ∧ W.grownBy W2 (some g) := by
 have hn : n = xs.length := (Kd.R_reads' h).1
 have hT := Kd.R_take h (m := i) (by omega)
 obtain ⟨_, _, hownF, _⟩ := h
 obtain ⟨hok, inner, hown, hreps⟩ := hT
 have hL : (xs.take i).length = i := by rw [List.length_take]; omega
 rcases hownF.2 with ⟨he, _⟩ | ⟨g', cap', cur, he, hb, hh, h1, h2, h3, h4⟩
 ·cases he
 injection he with he1 he2 he3
 injection he1 with he1
 injection he1 with he1
 subst he1 he3
 rcases hown.2 with ⟨he, _⟩ | ⟨g', cap', cur', he', hb', hh', h1', h2', h3', h4'⟩
 ·cases he
 injection he' with he1 _ he3
 injection he1 with he1
 injection he1 with he1
 subst he1 he3
 obtain rfl : cur = cur' := by rw [hh] at hh'; injection hh' with e; injection e
 have hcap : xs.length ≤ cap := h1
 have hcur : cur.size = cap * 8 := h3
 have hcl' : cur.toList.length = cap * 8 := by rw [Array.length_toList (xs := cur)]; exact hcur
 have hE : cur.toList.take (i * 8) = inner := by have q := h4'; rw [hL] at q; exact q
 obtain ⟨zs, z1, z2⟩ := clear68 (n - i) (by omega)
 obtain ⟨cur2, m1, m2, m3⟩ := blk_sets zs (i * 8) W cur hh (by omega)
 refine ⟨W.setCells g (i * 8) zs, fun ty => z2 W g (i * 8) (cap - i) ty (fun t ht => by rw [bc hh, Array.getElem?_eq_getElem (by omega)]; rfl) (fun t ht => bf hh _), ?_, grown_sets (blk_lt hh) zs _⟩
 have hE2 : cur2.toList.take (i * 8) = inner := by
  rw [m3, List.append_assoc, List.take_append_of_le_length (by rw [List.length_take]; omega), List.take_take, Nat.min_self, hE]
 refine ⟨hok, inner, ⟨hown.1, .inr ⟨g, cap, cur2, by rw [hL], hb, m1, by rw [hL]; omega, h2, by rw [m2]; exact h3, by rw [hL]; exact hE2⟩⟩, ?_⟩
 exact hreps.imp_ fun p c hp => m68_any hp
theorem slotF {g n cap base : Nat} {ok : Nat → Prop} {xs : List S68} {W : World} (h : Kd.R k68 68 W base ok (.slice (some ⟨g, 0, none⟩) n cap) xs) (hn : 0 < n) (k : Nat) : W.frozen? ⟨g, k, none⟩ = false := by
 obtain ⟨g', cap', e, -, -, cells, hc⟩ := Kd.R_form h (by have := (Kd.R_reads' h).1; omega)
 injection e with e1
 injection e1 with e1
 injection e1 with e1
 subst e1
 exact bf hc k
theorem grown_trans {w w1 w2 : World} {row : Option Nat} (h : w.grownBy w1 row) (k : w1.grownBy w2 row) : w.grownBy w2 row := ⟨k.os.trans h.os, k.tape.trans h.tape, k.output.trans h.output, Nat.le_trans h.size k.size, fun i hi hne => (k.block i (Nat.lt_of_lt_of_le hi h.size) hne).trans (h.block i hi hne)⟩
theorem wogen {P : Program} {c : Code} {Q : Exit → Act → World → Prop} {a : Act} {W : World} (φ : World → Prop) (h : φ W) (k : ∀ V, φ V → Code.wp P c Q a V) : Code.wp P c Q a W := k W h
theorem grown_below {w w' : World} {row : Option Nat} (h : Below w.heap.size w w') : w.grownBy w' row := ⟨h.os, h.tape, h.output, h.size, fun i hi _ => h.block i hi⟩
theorem take_filter (src : ByteArray) (l : List S68) (j : Nat) (hj : j < l.length) : (l.take (j + 1)).filter (keepB src) = (l.take j).filter (keepB src) ++ if keepB src (rd_T68 l (j : Int)) = true then [rd_T68 l (j : Int)] else [] := by
 have e : rd_T68 l (j : Int) = l[j] := by simp [rd_T68, hj]
 rw [List.take_succ_eq_append_getElem hj, List.filter_append, e]
 congr 1
 cases h : keepB src l[j] <;> simp [h]
theorem filter_all (src : ByteArray) (l : List S68) (h : ∀ x ∈ l, keepB src x = true) : l.filter (keepB src) = l := List.filter_eq_self.2 h
set_option maxHeartbeats 4000000 in
set_option maxRecDepth 1000000 in
theorem delf (g3 : Nat) (src : ByteArray) {g cap base : Nat} {ok : Nat → Prop} {l : List S68} {w : World} (i0 : Nat) (hi0 : i0 < l.length) (hd0 : keepB src (rd_T68 l (i0 : Int)) = false) (hk0 : ∀ x ∈ l.take i0, keepB src x = true)
  (hix : ∀ W : World, Kd.C k68 W (some ⟨g, 0, none⟩) l.length l → W.heap[g3]? = some (.cells #[.string src] 9 (0, 0)) → Calls Try.prog 70 #[.slice (some ⟨g, 0, none⟩) l.length cap, .func (.func 63) #[] #[.pointer (some ⟨g3, 0, none⟩)]] W fun e w' => e = .returned (.int .i64 i0) ∧ Below W.heap.size W w')
  (hR : Kd.R k68 68 w base ok (.slice (some ⟨g, 0, none⟩) l.length cap) l) (h3 : w.heap[g3]? = some (.cells #[.string src] 9 (0, 0))) (h3g : g3 ≠ g) :
  Calls Try.prog 61 #[.slice (some ⟨g, 0, none⟩) l.length cap, .func (.func 63) #[] #[.pointer (some ⟨g3, 0, none⟩)]] w fun e w' => ∃ v, e = .returned v ∧ Kd.R k68 68 w' base ok v (l.filter (keepB src)) ∧ w.grownBy w' (some g) := by
 have HIX := am hix
 have HO := am hR
 have H3 := am h3
 have H3G := am h3g
 have HI0 := am hi0
 have HD0 := am hd0
 have HK0 := am hk0
 have hn : Aside0 (l.length ≤ maxLen) := ⟨(Kd.R_reads' hR).2.2.2.1⟩
 have hlc : Aside0 (l.length ≤ cap) := ⟨(Kd.R_reads' hR).2.1⟩
 have n1 : (((i0 : Int) == -1) : Bool) = false := by first | (simp; done) | (simp; omega)
 clear hix hR h3 h3g hi0 hd0 hk0
 go_enter Try.func61, Try.ntmps61
 go_wp2_with (go_at_call 70; refine (HIX.out _ (by first | exact (Kd.R_reads' HO.out).2.2 | exact Kd.C_drew (Kd.R_reads' HO.out).2.2) (by first | exact H3.out | exact blk_drew H3.out)).mono ?_; rintro e w2 ⟨rfl, hb⟩; have HB := am hb; clear hb)
 go_loopw [5, 6] (fun v5 v6 wr => ∃ (i j : Nat) (xs : List S68), v5 = .int .i64 i ∧ v6 = .int .i64 j ∧ Aside0 (i < j ∧ j ≤ l.length ∧ xs.take i = (l.take j).filter (keepB src) ∧ xs.drop j = l.drop j) ∧ Aside0 (Kd.R k68 68 wr base ok (.slice (some ⟨g, 0, none⟩) l.length cap) xs) ∧ Aside0 (w.grownBy wr (some g)) ∧ Aside0 (wr.heap[g3]? = some (.cells #[.string src] 9 (0, 0))))
  (fun _ v6 _ => l.length - (intOf v6).toNat)
 case atStart =>
  have hi0 := HI0.out
  have hn' := hn.out
  unfold maxLen at hn'
  refine ⟨i0, i0 + 1, l, rfl, by rw [EvKit.w64 (by omega) (by omega)]; simp, ⟨by omega, by omega, ?_, rfl⟩, ⟨Kd.R_below HO.out HB.out⟩, ⟨grown_below HB.out⟩, ⟨bb H3.out HB.out⟩⟩
  rw [take_filter src l i0 hi0, if_neg (by rw [HD0.out]; decide), List.append_nil, filter_all src _ HK0.out]
 case round =>
  clear HB HO H3 HIX n1 HD0 HK0
  obtain ⟨i, j, xs, rfl, rfl, HS, HO, HG, H3⟩ := hrel
  have hij := HS.out.1
  have hjl := HS.out.2.1
  have hlc' := hlc.out
  by_cases hlt : j < l.length
  rotate_left
  ·obtain rfl : j = l.length := by omega
   obtain ⟨W2, hc, hR2, hG2⟩ := tail68 HO.out i (by omega)
   have hres : xs.take i = l.filter (keepB src) := by rw [HS.out.2.2.1, List.take_length]
   rw [hres] at hR2
   have HR2 := am hR2
   have HG2 := am (grown_trans HG.out hG2)
   have hil : i < l.length := by omega
   have hic : i ≤ cap := by omega
   have hne : ¬ cap = i := by omega
   have hnl : ¬ i = cap := by omega
   clear hR2 hG2 hres
   go_wp2
   go_ret
   exact ⟨_, rfl, HR2.out, HG2.out⟩
  obtain ⟨h0, h1, h2, h3, h4, h5, h6, h7⟩ := slot68 HO.out j hlt
  obtain ⟨x, hx⟩ : ∃ x, x = rd_T68 xs (j : Int) := ⟨_, rfl⟩
  rw [← hx] at h0 h1 h2 h3 h4 h5 h6 h7
  have HX := am hx
  clear hx
  go_upto_region 8 with (((with_reducible refine gate_dst (N := 7) rfl ?_); (try (refine gate_guard (by rfl) ?_; dsimp only)); refine box_event ?hg (N := 7) ?hd (cs := #[.string (⟨#[]⟩ : ByteArray), .int .i64 0, .int .i64 0, .int .i64 0, .int .i64 0, .int .i64 0, .int .i64 0, .int .i64 0]) (t := 68) ?hr ?_; (case hd | hg => rfl); (case hr => first | (go_simp; done) | (go_simp; rfl)); intro g7 hg w25 hbox hb; have G7 := am (by rw [hg]; exact Nat.le_refl _ : wr.heap.size ≤ g7); have HB := am hb; have B7 := am hbox; clear hb hbox hg; obtain ⟨z0, z1, z2, z3, z4, z5, z6, z7⟩ := (⟨(bc B7.out 0).trans rfl, (bc B7.out 1).trans rfl, (bc B7.out 2).trans rfl, (bc B7.out 3).trans rfl, (bc B7.out 4).trans rfl, (bc B7.out 5).trans rfl, (bc B7.out 6).trans rfl, (bc B7.out 7).trans rfl⟩ : w25.cell? ⟨g7, 0, none⟩ = some (.string (⟨#[]⟩ : ByteArray)) ∧ w25.cell? ⟨g7, 1, none⟩ = some (.int .i64 0) ∧ w25.cell? ⟨g7, 2, none⟩ = some (.int .i64 0) ∧ w25.cell? ⟨g7, 3, none⟩ = some (.int .i64 0) ∧ w25.cell? ⟨g7, 4, none⟩ = some (.int .i64 0) ∧ w25.cell? ⟨g7, 5, none⟩ = some (.int .i64 0) ∧ w25.cell? ⟨g7, 6, none⟩ = some (.int .i64 0) ∧ w25.cell? ⟨g7, 7, none⟩ = some (.int .i64 0)); have f0 := bf B7.out 0; have f1 := bf B7.out 1; have f2 := bf B7.out 2; have f3 := bf B7.out 3; have f4 := bf B7.out 4; have f5 := bf B7.out 5; have f6 := bf B7.out 6; have f7 := bf B7.out 7))
  clear z0 z1 z2 z3 z4 z5 z6 z7 f0 f1 f2 f3 f4 f5 f6 f7 h0 h1 h2 h3 h4 h5 h6 h7
  refine wogen (fun V => Kd.R k68 68 V base ok (.slice (some ⟨g, 0, none⟩) l.length cap) xs ∧ V.heap[g7]? = some (Obj.cells #[.string x.f0, .int .i64 x.f1.f0.f0, .int .i64 x.f1.f0.f1, .int .i64 x.f1.f0.f2, .int .i64 x.f1.f1.f0, .int .i64 x.f1.f1.f1, .int .i64 x.f1.f1.f2, .int .i64 x.f2] 68 (0, 0)) ∧ w.grownBy V (some g) ∧ V.heap[g3]? = some (.cells #[.string src] 9 (0, 0))) ?_ ?_
  ·have hbv := below_set (j := 7) (v := .int .i64 x.f2) (below_set (j := 6) (v := .int .i64 x.f1.f1.f2) (below_set (j := 5) (v := .int .i64 x.f1.f1.f1) (below_set (j := 4) (v := .int .i64 x.f1.f1.f0) (below_set (j := 3) (v := .int .i64 x.f1.f0.f2) (below_set (j := 2) (v := .int .i64 x.f1.f0.f1) (below_set (j := 1) (v := .int .i64 x.f1.f0.f0) (below_set (j := 0) (v := .string x.f0) HB.out G7.out) G7.out) G7.out) G7.out) G7.out) G7.out) G7.out) G7.out
   exact ⟨Kd.R_below HO.out hbv, blk_put (blk_put (blk_put (blk_put (blk_put (blk_put (blk_put (blk_put B7.out 0 _ rfl) 1 _ rfl) 2 _ rfl) 3 _ rfl) 4 _ rfl) 5 _ rfl) 6 _ rfl) 7 _ rfl, grown_trans HG.out (grown_below hbv), bb H3.out hbv⟩
  clear HB B7 HO HG H3
  rintro V ⟨hO, hB7, hG, hH3⟩
  have HO := am hO
  have B7 := am hB7
  have HG := am hG
  have H3 := am hH3
  clear hO hB7 hG hH3
  obtain ⟨b, hb⟩ : ∃ b, b = (x.f0.toList == src.toList) := ⟨_, rfl⟩
  have HQ : Aside0 (∀ W, W.heap[g3]? = some (.cells #[.string src] 9 (0, 0)) → Calls Try.prog 63 #[.agg #[.string x.f0, .int .i64 x.f1.f0.f0, .int .i64 x.f1.f0.f1, .int .i64 x.f1.f0.f2, .int .i64 x.f1.f1.f0, .int .i64 x.f1.f1.f1, .int .i64 x.f1.f1.f2, .int .i64 x.f2], .pointer (some ⟨g3, 0, none⟩)] W fun e w' => e = .returned (.bool b) ∧ Below W.heap.size W w') := ⟨fun W hW => by rw [hb]; exact clo63 W g3 src x hW⟩
  have HBB := am hb
  clear hb
  obtain ⟨y0, y1, y2, y3, y4, y5, y6, y7⟩ : V.cell? ⟨g7, 0, none⟩ = some (.string x.f0) ∧ V.cell? ⟨g7, 1, none⟩ = some (.int .i64 x.f1.f0.f0) ∧ V.cell? ⟨g7, 2, none⟩ = some (.int .i64 x.f1.f0.f1) ∧ V.cell? ⟨g7, 3, none⟩ = some (.int .i64 x.f1.f0.f2) ∧ V.cell? ⟨g7, 4, none⟩ = some (.int .i64 x.f1.f1.f0) ∧ V.cell? ⟨g7, 5, none⟩ = some (.int .i64 x.f1.f1.f1) ∧ V.cell? ⟨g7, 6, none⟩ = some (.int .i64 x.f1.f1.f2) ∧ V.cell? ⟨g7, 7, none⟩ = some (.int .i64 x.f2) := ⟨(bc B7.out 0).trans rfl, (bc B7.out 1).trans rfl, (bc B7.out 2).trans rfl, (bc B7.out 3).trans rfl, (bc B7.out 4).trans rfl, (bc B7.out 5).trans rfl, (bc B7.out 6).trans rfl, (bc B7.out 7).trans rfl⟩
  have step : Aside0 ((l.take (j + 1)).filter (keepB src) = (l.take j).filter (keepB src) ++ if keepB src x = true then [x] else []) := ⟨by
   have hxl : x = rd_T68 l (j : Int) := by
    rw [HX.out]
    have q := HS.out.2.2.2
    have e1 : (xs.drop j)[0]? = (l.drop j)[0]? := by rw [q]
    rw [List.getElem?_drop, List.getElem?_drop] at e1
    simp only [Nat.add_zero] at e1
    unfold rd_T68
    rw [Int.toNat_natCast, List.getD_eq_getElem?_getD, List.getD_eq_getElem?_getD, e1]
   rw [hxl]; exact take_filter src l j hlt⟩
  have hn' := hn.out
  unfold maxLen at hn'
  have HW : Aside0 (wrap64 ((j : Int) + 1) = ((j + 1 : Nat) : Int)) := ⟨by rw [EvKit.w64 (by omega) (by omega)]; omega⟩
  have HV : Aside0 (wrap64 ((i : Int) + 1) = ((i + 1 : Nat) : Int)) := ⟨by rw [EvKit.w64 (by omega) (by omega)]; omega⟩
  have hil : i < l.length := by omega
  cases b with
  | true =>
   go_wp2_with (go_at_call 63; refine (HQ.out _ H3.out).mono ?_; rintro e w3 ⟨rfl, hb⟩; have HB := am hb; clear hb)
   go_roundw
   case rel =>
    refine ⟨i, j + 1, xs, rfl, by first | rfl | go_num | (rw [HW.out]; done), ⟨by omega, by omega, ?_, ?_⟩, ⟨Kd.R_below HO.out HB.out⟩, ⟨grown_trans HG.out (grown_below HB.out)⟩, ⟨bb H3.out HB.out⟩⟩
    ·rw [step.out, if_neg (by unfold keepB; rw [← HBB.out]; decide), List.append_nil]; exact HS.out.2.2.1
    have q := HS.out.2.2.2
    rw [← List.tail_drop, ← List.tail_drop, q]
   case measure => simp [intOf, HW.out]; omega
  | false =>
   go_wp2_with (go_at_call 63; refine (HQ.out _ H3.out).mono ?_; rintro e w3 ⟨rfl, hb⟩; have HB := am hb; have HO3 := am (Kd.R_below HO.out hb); have B73 := am (bb B7.out hb); clear hb y0 y1 y2 y3 y4 y5 y6 y7; obtain ⟨y0, y1, y2, y3, y4, y5, y6, y7⟩ : w3.cell? ⟨g7, 0, none⟩ = some (.string x.f0) ∧ w3.cell? ⟨g7, 1, none⟩ = some (.int .i64 x.f1.f0.f0) ∧ w3.cell? ⟨g7, 2, none⟩ = some (.int .i64 x.f1.f0.f1) ∧ w3.cell? ⟨g7, 3, none⟩ = some (.int .i64 x.f1.f0.f2) ∧ w3.cell? ⟨g7, 4, none⟩ = some (.int .i64 x.f1.f1.f0) ∧ w3.cell? ⟨g7, 5, none⟩ = some (.int .i64 x.f1.f1.f1) ∧ w3.cell? ⟨g7, 6, none⟩ = some (.int .i64 x.f1.f1.f2) ∧ w3.cell? ⟨g7, 7, none⟩ = some (.int .i64 x.f2) := ⟨(bc B73.out 0).trans rfl, (bc B73.out 1).trans rfl, (bc B73.out 2).trans rfl, (bc B73.out 3).trans rfl, (bc B73.out 4).trans rfl, (bc B73.out 5).trans rfl, (bc B73.out 6).trans rfl, (bc B73.out 7).trans rfl⟩; obtain ⟨s0, s1, s2, s3, s4, s5, s6, s7⟩ := slot68 HO3.out i hil; have q0 := slotF HO3.out (by omega : 0 < l.length) (i * 8); have q1 := slotF HO3.out (by omega : 0 < l.length) (i * 8 + 1); have q2 := slotF HO3.out (by omega : 0 < l.length) (i * 8 + 2); have q3 := slotF HO3.out (by omega : 0 < l.length) (i * 8 + 3); have q4 := slotF HO3.out (by omega : 0 < l.length) (i * 8 + 4); have q5 := slotF HO3.out (by omega : 0 < l.length) (i * 8 + 5); have q6 := slotF HO3.out (by omega : 0 < l.length) (i * 8 + 6); have q7 := slotF HO3.out (by omega : 0 < l.length) (i * 8 + 7))
   have hseg := Kd.R_seg HO3.out (i : Int) (by omega) (by omega) (c := [.string (rd_T68 xs i).f0, .int .i64 (rd_T68 xs i).f1.f0.f0, .int .i64 (rd_T68 xs i).f1.f0.f1, .int .i64 (rd_T68 xs i).f1.f0.f2, .int .i64 (rd_T68 xs i).f1.f1.f0, .int .i64 (rd_T68 xs i).f1.f1.f1, .int .i64 (rd_T68 xs i).f1.f1.f2, .int .i64 (rd_T68 xs i).f2]) (seg := [.string x.f0, .int .i64 x.f1.f0.f0, .int .i64 x.f1.f0.f1, .int .i64 x.f1.f0.f2, .int .i64 x.f1.f1.f0, .int .i64 x.f1.f1.f1, .int .i64 x.f1.f1.f2, .int .i64 x.f2]) (j := 0) rfl ?hcc (Nat.le_refl 8) (x' := x) (okp := fun _ => False) (k68_mkM _ _ _ x) (fun _ h => h.elim)
   case hcc =>
    intro t u hu
    rw [Int.toNat_natCast]
    match t with
    | 0 => injection hu with e; subst e; exact s0
    | 1 => injection hu with e; subst e; exact s1
    | 2 => injection hu with e; subst e; exact s2
    | 3 => injection hu with e; subst e; exact s3
    | 4 => injection hu with e; subst e; exact s4
    | 5 => injection hu with e; subst e; exact s5
    | 6 => injection hu with e; subst e; exact s6
    | 7 => injection hu with e; subst e; exact s7
    | t + 8 => simp at hu
   rw [Int.toNat_natCast] at hseg
   have HSEG := am hseg
   clear hseg
   go_roundw
   case rel =>
    refine ⟨i + 1, j + 1, xs.set i x, by first | rfl | go_num | (rw [HV.out]; done), by first | rfl | go_num | (rw [HW.out]; done), ⟨by omega, by omega, ?_, ?_⟩, ⟨HSEG.out.1⟩, ⟨grown_trans (grown_trans HG.out (grown_below HB.out)) HSEG.out.2⟩, ⟨blk_grown (bb H3.out HB.out) HSEG.out.2 (fun e => H3G.out (by injection e))⟩⟩
    ·have hxl : xs.length = l.length := ((Kd.R_reads' HO.out).1).symm
     rw [step.out, if_pos (by unfold keepB; rw [← HBB.out]; rfl), set_take _ _ _ (by omega), HS.out.2.2.1]
    have q := HS.out.2.2.2
    rw [List.drop_set_of_lt (by omega), ← List.tail_drop, ← List.tail_drop, q]
   case measure => simp [intOf, HW.out]; omega
theorem first_bad (src : ByteArray) : ∀ l : List S68, (∀ x ∈ l, keepB src x = true) ∨ ∃ i : Nat, i < l.length ∧ keepB src (rd_T68 l (i : Int)) = false ∧ ∀ x ∈ l.take i, keepB src x = true
 | [] => .inl fun x hx => by simp at hx
 | a :: l => by
  cases ha : keepB src a with
  | false => exact .inr ⟨0, by simp, by simpa [rd_T68] using ha, fun x hx => by simp at hx⟩
  | true =>
   rcases first_bad src l with h | ⟨i, h1, h2, h3⟩
   ·exact .inl fun x hx => (List.mem_cons.1 hx).elim (fun e => e ▸ ha) (h x)
   refine .inr ⟨i + 1, by simpa using h1, ?_, fun x hx => ?_⟩
   ·have e : rd_T68 (a :: l) ((i + 1 : Nat) : Int) = rd_T68 l (i : Int) := by simp [rd_T68]
    rw [e]; exact h2
   rw [List.take_succ_cons] at hx
   exact (List.mem_cons.1 hx).elim (fun e => e ▸ ha) (h3 x)
theorem rd_mem {l : List S68} {i : Nat} (h : i < l.length) : rd_T68 l (i : Int) ∈ l := by
 have e : rd_T68 l (i : Int) = l[i] := by simp [rd_T68, h]
 rw [e]; exact List.getElem_mem h
theorem rd_mem_take {l : List S68} {i j : Nat} (h : i < j) (hj : i < l.length) : rd_T68 l (i : Int) ∈ l.take j := by
 have e : rd_T68 l (i : Int) = l[i] := by simp [rd_T68, hj]
 have h2 : i < (l.take j).length := by rw [List.length_take]; omega
 have e2 : l[i] = (l.take j)[i] := by simp
 rw [e, e2]; exact List.getElem_mem h2
set_option maxHeartbeats 4000000 in
set_option maxRecDepth 1000000 in
theorem deleteF (g3 : Nat) (src : ByteArray) {base : Nat} {ok : Nat → Prop} {l : List S68} {v : Value} {w : World} (hR : Kd.R k68 68 w base ok v l) (h3 : w.heap[g3]? = some (.cells #[.string src] 9 (0, 0))) :
  Calls Try.prog 61 #[v, .func (.func 63) #[] #[.pointer (some ⟨g3, 0, none⟩)]] w fun e w' => ∃ v', e = .returned v' ∧ Kd.R k68 68 w' base ok v' (l.filter (keepB src)) ∧ w.grownBy w' v.ownBlock := by
 have hne := Kd.R_ne hR h3 (by decide)
 rcases first_bad src l with hall | ⟨i0, hi0, hd0, hk0⟩
 ·obtain ⟨A, c, rfl⟩ := Kd.R_slice hR
  have HIX : Aside0 (∀ W : World, Kd.C k68 W A l.length l → W.heap[g3]? = some (.cells #[.string src] 9 (0, 0)) → Calls Try.prog 70 #[.slice A l.length c, .func (.func 63) #[] #[.pointer (some ⟨g3, 0, none⟩)]] W fun e w' => e = .returned (.int .i64 (-1)) ∧ Below W.heap.size W w') := ⟨by
   intro W hC hW
   refine (index63 g3 src A c l W hC (Kd.R_reads' hR).2.1 hW).mono ?_
   rintro e w' ⟨hb, ⟨rfl, _⟩ | ⟨i, rfl, hi, hd, _⟩⟩
   ·exact ⟨rfl, hb⟩
   rw [hall _ (rd_mem hi)] at hd; cases hd⟩
  have HO := am hR
  have H3 := am h3
  have HALL := am hall
  clear hR h3 hall hne
  go_enter Try.func61, Try.ntmps61
  go_wp2_with (go_at_call 70; refine (HIX.out _ (Kd.R_reads' HO.out).2.2 H3.out).mono ?_; rintro e w2 ⟨rfl, hb⟩; have HB := am hb; clear hb)
  go_ret
  exact ⟨_, rfl, by rw [filter_all src l HALL.out]; exact Kd.R_below HO.out HB.out, grown_below HB.out⟩
 obtain ⟨g, cap, rfl, -, -, -⟩ := Kd.R_form hR (by omega)
 have hg3 : g3 ≠ g := fun e => hne (by rw [e]; rfl)
 refine (delf g3 src i0 hi0 hd0 hk0 ?_ hR h3 hg3).mono ?_
 ·intro W hC hW
  refine (index63 g3 src _ cap l W hC (Kd.R_reads' hR).2.1 hW).mono ?_
  rintro e w' ⟨hb, ⟨rfl, ha⟩ | ⟨i, rfl, hi, hd, hk⟩⟩
  ·rw [ha _ (rd_mem hi0)] at hd0; cases hd0
  have : i = i0 := by
   rcases Nat.lt_trichotomy i i0 with h | h | h
   ·rw [hk0 _ (rd_mem_take h hi)] at hd; cases hd
   ·exact h
   rw [hk _ (rd_mem_take h hi0)] at hd0; cases hd0
  subst this
  exact ⟨rfl, hb⟩
 rintro e w' ⟨v', rfl, h1, h2⟩
 exact ⟨v', rfl, h1, h2⟩
def model_Without.f (k : Nat) (l0 : List S68) (a1 : ByteArray) : Option (List S68 × Int) := (model_Check.f k l0).bind fun e => if e = 0 then (if l0.length < 1099511627776 then some (l0.filter (keepB a1), 0) else none) else some ([], e)
set_option maxHeartbeats 4000000 in
set_option maxRecDepth 100000 in
theorem model_Without.calls (k : Nat) (A0 : Option Addr) (c0 : Nat) (l0 : List S68) (a1 : ByteArray) (r1 : List S68) (r2 : Int) (w : World) (hr0 : Kd.C k68 w A0 l0.length l0) (hc0 : l0.length ≤ c0) (h : model_Without.f k l0 a1 = some (r1, r2)) :
  Calls Try.prog 28 #[.slice A0 l0.length c0, .string a1] w fun e w' => ∃ v0_ : Value, e = .returned (.tuple #[v0_, .int .i64 r2]) ∧ Kd.R k68 68 w' w.heap.size (fun _ => True) v0_ r1 ∧ Below w.heap.size w w' := by
 obtain ⟨e, he, hh⟩ := Option.bind_eq_some_iff.1 h
 have HR := am hr0
 have HC := am hc0
 have HE := am he
 have HB1 := am (below_alloc (Below.refl w.heap.size w) (.cells #[.string a1] 9 (0, 0)))
 have H3 := am (blk_new w (.cells #[.string a1] 9 (0, 0)))
 clear hr0 hc0 he h
 by_cases h0 : e = 0
 ·subst h0
  rw [if_pos rfl] at hh
  by_cases hl : l0.length < 1099511627776
  rotate_left
  ·rw [if_neg hl] at hh; cases hh
  rw [if_pos hl] at hh
  have hh2 := Option.some.inj hh
  obtain ⟨rfl, rfl⟩ : l0.filter (keepB a1) = r1 ∧ (0 : Int) = r2 := by injection hh2 with p q; exact ⟨p, q⟩
  have hcl : api_Evidence_62.f l0 = some l0 := if_pos hl
  have HCL := am hcl
  clear hh hh2 hl hcl
  go_enter Try.func28, Try.ntmps28
  go_wp2_with (first
   | (go_at_call 15; refine (model_Check.calls k A0 c0 l0 0 _ (Kd.C_below HR.out HB1.out) HC.out HE.out).mono ?_; rintro e w2 ⟨rfl, hb⟩; have HB2 := am (below_step HB1.out hb); have H32 := am (bb H3.out hb); clear hb)
   | (go_at_call 62; refine (api_Evidence_62.calls A0 c0 l0 l0 _ (Kd.C_below HR.out HB2.out) HC.out HCL.out).mono ?_; rintro e w3 ⟨v, rfl, hr, hb⟩; have HV := am hr; have HB3 := am (below_step HB2.out hb); have HBS := am hb; have H33 := am (bb H32.out hb); have HSZ := am (below_size HB2.out); clear hr hb)
   | (go_at_call 61; refine (deleteF _ a1 HV.out H33.out).mono ?_; rintro e w4 ⟨v2, rfl, hr, hg⟩; have HV2 := am (Kd.R_lower hr HSZ.out); have HB4 := am (pw_below_grown HB3.out v.ownBlock HB3.out.size hg (fun k hk => Nat.le_trans HSZ.out (Kd.R_base HV.out k hk))); clear hr hg))
  go_ret2
  exact ⟨_, rfl, HV2.out, HB4.out⟩
 rw [if_neg h0] at hh
 have hh2 := Option.some.inj hh
 obtain ⟨rfl, rfl⟩ : ([] : List S68) = r1 ∧ e = r2 := by injection hh2 with p q; exact ⟨p, q⟩
 have d1 : (e != 0) = true := bne_iff_ne.2 h0
 clear hh hh2
 have HN := am h0
 clear h0
 go_enter Try.func28, Try.ntmps28
 go_wp2_with (go_at_call 15; refine (model_Check.calls k A0 c0 l0 e _ (Kd.C_below HR.out HB1.out) HC.out HE.out).mono ?_; rintro e' w2 ⟨rfl, hb⟩; have HB2 := am (below_step HB1.out hb); clear hb)
 go_ret2
 exact ⟨_, rfl, Kd.R_nil _ _ _ _ _, HB2.out⟩
end

def r_overlap.j0 : Nat → Bool → Option (Bool)
 | 0, _ => none
 | k + 1, x4 => some x4
def r_overlap.f (k : Nat) (a0_0 : Int) (a0_1 : Int) (a0_2 : Int) (a0_3 : Int) (a0_4 : Int) (a0_5 : Int) (a1_0 : Int) (a1_1 : Int) (a1_2 : Int) (a1_3 : Int) (a1_4 : Int) (a1_5 : Int) : Option (Bool) := if a0_0 < a1_3 then (if a1_0 < a0_3 then (if a0_1 < a1_4 then (if a1_1 < a0_4 then (if a0_2 < a1_5 then (r_overlap.j0 k (decide (a1_2 < a0_5))) else (r_overlap.j0 k false)) else (r_overlap.j0 k false)) else (r_overlap.j0 k false)) else (r_overlap.j0 k false)) else (r_overlap.j0 k false)
set_option maxHeartbeats 8000000 in
set_option maxRecDepth 100000 in
theorem r_overlap.calls (k : Nat) (a0_0 : Int) (a0_1 : Int) (a0_2 : Int) (a0_3 : Int) (a0_4 : Int) (a0_5 : Int) (a1_0 : Int) (a1_1 : Int) (a1_2 : Int) (a1_3 : Int) (a1_4 : Int) (a1_5 : Int) (r : Bool) (w : World) (h : r_overlap.f k a0_0 a0_1 a0_2 a0_3 a0_4 a0_5 a1_0 a1_1 a1_2 a1_3 a1_4 a1_5 = some r) :
  Calls Try.prog 66 #[.agg #[.int .i64 a0_0, .int .i64 a0_1, .int .i64 a0_2, .int .i64 a0_3, .int .i64 a0_4, .int .i64 a0_5], .agg #[.int .i64 a1_0, .int .i64 a1_1, .int .i64 a1_2, .int .i64 a1_3, .int .i64 a1_4, .int .i64 a1_5]] w fun e w' => e = .returned (.bool r) ∧ Below w.heap.size w w' := by
 have hu43 := Try.underlying43
 have HB := am (Below.refl w.heap.size w)
 have H : (if a0_0 < a1_3 then (if a1_0 < a0_3 then (if a0_1 < a1_4 then (if a1_1 < a0_4 then (if a0_2 < a1_5 then (r_overlap.j0 k (decide (a1_2 < a0_5))) else (r_overlap.j0 k false)) else (r_overlap.j0 k false)) else (r_overlap.j0 k false)) else (r_overlap.j0 k false)) else (r_overlap.j0 k false)) = some r := h
 clear h
 have HC3 := am H
 clear H
 go_enter Try.func66, Try.ntmps66
 go_upto_region 1 with (first | ((with_reducible refine gate_dst (N := 2) rfl ?_); refine box_event ?hg (N := 2) ?hd (cs := #[.int .i64 a0_0, .int .i64 a0_1, .int .i64 a0_2, .int .i64 a0_3, .int .i64 a0_4, .int .i64 a0_5]) (t := 43) ?hr ?_; (case hd | hg => rfl); (case hr => first | (go_simp; done) | (go_simp; rfl)); intro gb529 hg w4 hbox hb; have BK529 := am hbox; have GW529 := sG HB hg; have GE529 := sG HB hg; replace HB := bS HB hb; clear hb hbox hg) | ((with_reducible refine gate_dst (N := 3) rfl ?_); refine box_event ?hg (N := 3) ?hd (cs := #[.int .i64 a1_0, .int .i64 a1_1, .int .i64 a1_2, .int .i64 a1_3, .int .i64 a1_4, .int .i64 a1_5]) (t := 43) ?hr ?_; (case hd | hg => rfl); (case hr => first | (go_simp; done) | (go_simp; rfl)); intro gb530 hg w5 hbox hb; have BK530 := am hbox; have GW530 := sG HB hg; have GE530 := sG HB hg; replace HB := bS HB hb; have NB529_530 := nL BK529 hg; have NB530_529 := nG BK529 hg; replace BK529 := bB BK529 hb; clear hb hbox hg))
 (try simp only [Act.put, psl])
 go_cut [4] (fun v4 wc => ∃ (kq : Nat) (x4_2 : Bool), v4 = .bool x4_2 ∧ Aside0 (r_overlap.j0 kq x4_2 = some r) ∧ Aside0 (kq ≤ k) ∧ Aside0 (wc.heap[gb529]? = some (.cells #[.int .i64 a0_0, .int .i64 a0_1, .int .i64 a0_2, .int .i64 a0_3, .int .i64 a0_4, .int .i64 a0_5] 43 (0, 0))) ∧ Aside0 (wc.heap[gb530]? = some (.cells #[.int .i64 a1_0, .int .i64 a1_1, .int .i64 a1_2, .int .i64 a1_3, .int .i64 a1_4, .int .i64 a1_5] 43 (0, 0))) ∧ Aside0 (Below w.heap.size w wc))
 case first =>
  have H := HC3.out
  clear HC3
  by_cases c6 : a0_0 < a1_3
  rotate_left
  ·rw [if_neg c6] at H
   have c6b0 : decide (a0_0 < a1_3) = false := decide_eq_false c6
   clear c6
   (first | rw [c6b0] | (simp only [i64_w, i32_w]; rw [c6b0]) | skip)
   have H' := am H
   clear H
   have hnb26 := NB529_530.out
   have hnc26 := NB530_529.out
   have := yC1 BK529
   have := kC1 BK529
   have := kC2 BK529
   have := kC3 BK529
   have := kC4 BK529
   have := kC5 BK529
   have := bf BK529.out 0
   have := bf BK529.out 1
   have := bf BK529.out 2
   have := bf BK529.out 3
   have := bf BK529.out 4
   have := bf BK529.out 5
   have := yC1 BK530
   have := kC1 BK530
   have := kC2 BK530
   have := kC3 BK530
   have := kC4 BK530
   have := kC5 BK530
   have := bf BK530.out 0
   have := bf BK530.out 1
   have := bf BK530.out 2
   have := bf BK530.out 3
   have := bf BK530.out 4
   have := bf BK530.out 5
   go_wp2
   go_meet
   case rel => exact ⟨_, (false), sqD, H', ⟨by first | omega | exact Nat.le_refl _⟩, ⟨fb BK529.out⟩, ⟨fb BK530.out⟩, ⟨fW HB.out⟩⟩
  rw [if_pos c6] at H
  have c6b0 : decide (a0_0 < a1_3) = true := decide_eq_true c6
  clear c6
  (first | rw [c6b0] | (simp only [i64_w, i32_w]; rw [c6b0]) | skip)
  by_cases c7 : a1_0 < a0_3
  rotate_left
  ·rw [if_neg c7] at H
   have c7b0 : decide (a1_0 < a0_3) = false := decide_eq_false c7
   clear c7
   have H' := am H
   clear H
   have hnb23 := NB529_530.out
   have hnc23 := NB530_529.out
   have := yC1 BK529
   have := kC1 BK529
   have := kC2 BK529
   have := kC3 BK529
   have := kC4 BK529
   have := kC5 BK529
   have := bf BK529.out 0
   have := bf BK529.out 1
   have := bf BK529.out 2
   have := bf BK529.out 3
   have := bf BK529.out 4
   have := bf BK529.out 5
   have := yC1 BK530
   have := kC1 BK530
   have := kC2 BK530
   have := kC3 BK530
   have := kC4 BK530
   have := kC5 BK530
   have := bf BK530.out 0
   have := bf BK530.out 1
   have := bf BK530.out 2
   have := bf BK530.out 3
   have := bf BK530.out 4
   have := bf BK530.out 5
   go_wp2
   go_meet
   case rel => exact ⟨_, (false), sqD, H', ⟨by first | omega | exact Nat.le_refl _⟩, ⟨fb BK529.out⟩, ⟨fb BK530.out⟩, ⟨fW HB.out⟩⟩
  rw [if_pos c7] at H
  have c7b0 : decide (a1_0 < a0_3) = true := decide_eq_true c7
  clear c7
  by_cases c8 : a0_1 < a1_4
  rotate_left
  ·rw [if_neg c8] at H
   have c8b0 : decide (a0_1 < a1_4) = false := decide_eq_false c8
   clear c8
   have H' := am H
   clear H
   have hnb20 := NB529_530.out
   have hnc20 := NB530_529.out
   have := yC1 BK529
   have := kC1 BK529
   have := kC2 BK529
   have := kC3 BK529
   have := kC4 BK529
   have := kC5 BK529
   have := bf BK529.out 0
   have := bf BK529.out 1
   have := bf BK529.out 2
   have := bf BK529.out 3
   have := bf BK529.out 4
   have := bf BK529.out 5
   have := yC1 BK530
   have := kC1 BK530
   have := kC2 BK530
   have := kC3 BK530
   have := kC4 BK530
   have := kC5 BK530
   have := bf BK530.out 0
   have := bf BK530.out 1
   have := bf BK530.out 2
   have := bf BK530.out 3
   have := bf BK530.out 4
   have := bf BK530.out 5
   go_wp2
   go_meet
   case rel => exact ⟨_, (false), sqD, H', ⟨by first | omega | exact Nat.le_refl _⟩, ⟨fb BK529.out⟩, ⟨fb BK530.out⟩, ⟨fW HB.out⟩⟩
  rw [if_pos c8] at H
  have c8b0 : decide (a0_1 < a1_4) = true := decide_eq_true c8
  clear c8
  by_cases c9 : a1_1 < a0_4
  rotate_left
  ·rw [if_neg c9] at H
   have c9b0 : decide (a1_1 < a0_4) = false := decide_eq_false c9
   clear c9
   have H' := am H
   clear H
   have hnb17 := NB529_530.out
   have hnc17 := NB530_529.out
   have := yC1 BK529
   have := kC1 BK529
   have := kC2 BK529
   have := kC3 BK529
   have := kC4 BK529
   have := kC5 BK529
   have := bf BK529.out 0
   have := bf BK529.out 1
   have := bf BK529.out 2
   have := bf BK529.out 3
   have := bf BK529.out 4
   have := bf BK529.out 5
   have := yC1 BK530
   have := kC1 BK530
   have := kC2 BK530
   have := kC3 BK530
   have := kC4 BK530
   have := kC5 BK530
   have := bf BK530.out 0
   have := bf BK530.out 1
   have := bf BK530.out 2
   have := bf BK530.out 3
   have := bf BK530.out 4
   have := bf BK530.out 5
   go_wp2
   go_meet
   case rel => exact ⟨_, (false), sqD, H', ⟨by first | omega | exact Nat.le_refl _⟩, ⟨fb BK529.out⟩, ⟨fb BK530.out⟩, ⟨fW HB.out⟩⟩
  rw [if_pos c9] at H
  have c9b0 : decide (a1_1 < a0_4) = true := decide_eq_true c9
  clear c9
  by_cases c10 : a0_2 < a1_5
  ·rw [if_pos c10] at H
   have c10b0 : decide (a0_2 < a1_5) = true := decide_eq_true c10
   clear c10
   have H' := am H
   clear H
   have hnb11 := NB529_530.out
   have hnc11 := NB530_529.out
   have := yC1 BK529
   have := kC1 BK529
   have := kC2 BK529
   have := kC3 BK529
   have := kC4 BK529
   have := kC5 BK529
   have := bf BK529.out 0
   have := bf BK529.out 1
   have := bf BK529.out 2
   have := bf BK529.out 3
   have := bf BK529.out 4
   have := bf BK529.out 5
   have := yC1 BK530
   have := kC1 BK530
   have := kC2 BK530
   have := kC3 BK530
   have := kC4 BK530
   have := kC5 BK530
   have := bf BK530.out 0
   have := bf BK530.out 1
   have := bf BK530.out 2
   have := bf BK530.out 3
   have := bf BK530.out 4
   have := bf BK530.out 5
   go_wp2
   go_meet
   case rel => exact ⟨_, (decide (a1_2 < a0_5)), sqD, H', ⟨by first | omega | exact Nat.le_refl _⟩, ⟨fb BK529.out⟩, ⟨fb BK530.out⟩, ⟨fW HB.out⟩⟩
  rw [if_neg c10] at H
  have c10b0 : decide (a0_2 < a1_5) = false := decide_eq_false c10
  clear c10
  have H' := am H
  clear H
  have hnb14 := NB529_530.out
  have hnc14 := NB530_529.out
  have := yC1 BK529
  have := kC1 BK529
  have := kC2 BK529
  have := kC3 BK529
  have := kC4 BK529
  have := kC5 BK529
  have := bf BK529.out 0
  have := bf BK529.out 1
  have := bf BK529.out 2
  have := bf BK529.out 3
  have := bf BK529.out 4
  have := bf BK529.out 5
  have := yC1 BK530
  have := kC1 BK530
  have := kC2 BK530
  have := kC3 BK530
  have := kC4 BK530
  have := kC5 BK530
  have := bf BK530.out 0
  have := bf BK530.out 1
  have := bf BK530.out 2
  have := bf BK530.out 3
  have := bf BK530.out 4
  have := bf BK530.out 5
  go_wp2
  go_meet
  case rel => exact ⟨_, (false), sqD, H', ⟨by first | omega | exact Nat.le_refl _⟩, ⟨fb BK529.out⟩, ⟨fb BK530.out⟩, ⟨fW HB.out⟩⟩
 case rest =>
  clear HC3
  try clear c1;try clear c2;try clear p2;try clear c6;try clear c6b0;try clear c7;try clear c7b0;try clear c8;try clear c8b0;try clear c9;try clear c9b0;try clear c10;try clear c10b0;try clear c11;try clear c14;try clear c17;try clear c20;try clear c23;try clear c26
  obtain ⟨kq, x4_2, rfl, HA, HJ2, BK529, BK530, HB⟩ := hcut
  cases kq with
  | zero => exact absurd HA.out (by simp [r_overlap.j0])
  | succ kj2 =>
   have H := HA.out
   clear HA
   simp only [r_overlap.j0] at H
   obtain rfl := Option.some.inj H
   go_wp2
   go_ret
   exact ⟨sqE, fW HB.out⟩

end Go.Proofs.Ytcofgnbopodahaa.QA
