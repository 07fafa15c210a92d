import Derived.Test.YtpjgmlnnhcnelaaDYQAx0
import Derived.Test.YtpjgmlnnhcnelaaDYQAx2
import Derived.Test.YtpjgmlnnhcnelaaDYQAx4
import Derived.Test.YtpjgmlnnhcnelaaDYEvKit
import Derived.Test.YtpjgmlnnhcnelaaDYRangeO
namespace Go.Proofs.Ytpjgmlnnhcnelaa.QA
open Go.RowKit Go.Proofs.YtpjgmlnnhcnelaaW.PrintWords Go.Proofs.YtpjgmlnnhcnelaaW.PrintLast Go.Proofs.YtpjgmlnnhcnelaaW.PrintMore
open Go.Proofs.YtpjgmlnnhcnelaaW.PrintWords renaming below_alloc → wa, blk_frozen → bf, blk_cell → bc, blk_below → bb
open Aside0 renaming mk → am
attribute [local go_sem] max2_int min2_int max_two min_two max_three min_three max_four min_four
set_option linter.unusedVariables false
set_option linter.unusedSimpArgs false

section
open Go.Proofs.Ytpjgmlnnhcnelaa.Iter Go.Proofs.YtpjgmlnnhcnelaaW.PrintMore
attribute [local go_sem] max2_int min2_int max_two min_two Oper.semAt_some
set_option linter.unusedVariables false
set_option linter.unusedSimpArgs false
theorem bs_l0 (l : List Int) (d : Int) (hl : l.length ≤ 1000000) (hs : l.Pairwise (· < ·)) : ∀ n i j : Nat, j ≤ i + n → i ≤ j → j ≤ l.length → (∀ q, q < i → rd l (q : Int) < d) → (∀ q, j ≤ q → q < l.length → d ≤ rd l (q : Int)) →
  ∃ p : Int, Ev (fun k => slices_BinarySearch_int_int.l0 k l d (l.length : Int) (i : Int) (j : Int)) (p, decide (d ∈ l)) := by
 have rdv : ∀ q, (h : q < l.length) → rd l (q : Int) = l[q] := fun q h => by simp [rd, List.getD_eq_getElem?_getD, List.getElem?_eq_getElem h]
 have less : ∀ a b : Int, cmp_Less_int.f a b = some (decide (a < b)) := by
  intro a b
  unfold cmp_Less_int.f cmp_isNaN_int.f
  simp
 intro n
 induction n with
 | zero =>
  intro i j h1 h2 h3 h4 h5
  refine ⟨i, EvKit.Ev.succ ?_⟩
  simp only [slices_BinarySearch_int_int.l0]
  refine EvKit.Ev.neg (by omega) ?_
  obtain rfl : i = j := by omega
  by_cases h : i < l.length
  ·refine EvKit.Ev.pos (by omega) (EvKit.Ev.pos (by omega) (EvKit.Ev.pos (by omega) ?_))
   refine EvKit.Ev.ite (fun hc => EvKit.Ev.eq (Ev.now _) ?_) (fun hc => ?_)
   ·have : d ∈ l := by rw [← hc, rdv i h]; exact List.getElem_mem h
    simp [this]
   have na : ∀ x, slices_isNaN_int.f x = some false := fun x => by unfold slices_isNaN_int.f; simp
   refine EvKit.Ev.cbind (na _) (EvKit.Ev.neg (by simp) (EvKit.Ev.eq (Ev.now _) ?_))
   have : d ∉ l := by
    intro hm
    obtain ⟨q, hq, e⟩ := List.getElem_of_mem hm
    rcases Nat.lt_trichotomy q i with r | r | r
    ·have := h4 q r; rw [rdv q hq, e] at this; omega
    ·subst r; exact hc (by rw [rdv q hq, e])
    have a := h5 i (Nat.le_refl _) h
    have b := (List.pairwise_iff_getElem.1 hs) i q h hq r
    rw [rdv i h] at a; omega
   simp [this]
  refine EvKit.Ev.neg (by omega) (EvKit.Ev.eq (Ev.now _) ?_)
  have : d ∉ l := by
   intro hm
   obtain ⟨q, hq, e⟩ := List.getElem_of_mem hm
   have := h4 q (by omega); rw [rdv q hq, e] at this; omega
  simp [this]
 | succ n ih =>
  intro i j h1 h2 h3 h4 h5
  by_cases hij : i < j
  rotate_left
  ·exact (by
    obtain ⟨p, hp⟩ := ih i j (by omega) h2 h3 h4 h5
    exact ⟨p, hp⟩)
  have hm : wrap64 ((IntKind.u64.wrap (wrap64 ((i : Int) + (j : Int)))) / 2) = (((i + j) / 2 : Nat) : Int) := by
   have e1 : wrap64 ((i : Int) + (j : Int)) = (i : Int) + j := EvKit.w64 (by omega) (by omega)
   have e2 : IntKind.u64.wrap ((i : Int) + j) = (i : Int) + j := by
    have : IntKind.u64.wrap ((i : Int) + j) = ((i : Int) + j) % 18446744073709551616 := by simp [IntKind.wrap, IntKind.bits, IntKind.signed]
    rw [this]; omega
   rw [e1, e2, EvKit.w64 (by omega) (by omega)]
   omega
  obtain ⟨m, hmm⟩ : ∃ m, m = (i + j) / 2 := ⟨_, rfl⟩
  rw [← hmm] at hm
  have hml : m < l.length := by omega
  by_cases hc : rd l (m : Int) < d
  ·obtain ⟨p, hp⟩ := ih (m + 1) j (by omega) (by omega) h3 (fun q hq => by
    by_cases e : q = m
    ·rw [e]; exact hc
    have b := (List.pairwise_iff_getElem.1 hs) q m (by omega) hml (by omega)
    rw [rdv m hml] at hc; rw [rdv q (by omega)]; omega) h5
   refine ⟨p, EvKit.Ev.succ ?_⟩
   simp only [slices_BinarySearch_int_int.l0]
   rw [hm]
   refine EvKit.Ev.pos (by omega) (EvKit.Ev.pos (by omega) (EvKit.Ev.pos (by omega) (EvKit.Ev.cbind (less _ _) (EvKit.Ev.pos (by simpa using hc) ?_))))
   rw [EvKit.w64 (n := (m : Int) + 1) (by omega) (by omega)]
   exact hp
  obtain ⟨p, hp⟩ := ih i m (by omega) (by omega) (by omega) h4 (fun q hq hql => by
   by_cases e : q = m
   ·rw [e]; omega
   have b := (List.pairwise_iff_getElem.1 hs) m q hml hql (by omega)
   rw [rdv m hml] at hc; rw [rdv q hql]; omega)
  refine ⟨p, EvKit.Ev.succ ?_⟩
  simp only [slices_BinarySearch_int_int.l0]
  rw [hm]
  refine EvKit.Ev.pos (by omega) (EvKit.Ev.pos (by omega) (EvKit.Ev.pos (by omega) (EvKit.Ev.cbind (less _ _) (EvKit.Ev.neg (by simpa using hc) ?_))))
  exact hp
theorem bs_calls (A0 : Option Addr) (c0 : Nat) (l : List Int) (d : Int) (w : World) (hr0 : Kd.C (Kd.int .i64) w A0 l.length l) (hc0 : l.length ≤ c0) (hl : l.length ≤ 1000000) (hs : l.Pairwise (· < ·)) :
  Calls Try.prog 52 #[.slice A0 l.length c0, .int .i64 d] w fun e w' => ∃ p : Int, e = .returned (.tuple #[.int .i64 p, .bool (decide (d ∈ l))]) ∧ Drawn0 w w' := by
 obtain ⟨p, hp⟩ := bs_l0 l d hl hs l.length 0 l.length (by omega) (Nat.zero_le _) (Nat.le_refl _) (fun q hq => absurd hq (Nat.not_lt_zero _)) (fun q h1 h2 => absurd h2 (by omega))
 obtain ⟨k, hk⟩ : ∃ k, slices_BinarySearch_int_int.f k l d = some (p, decide (d ∈ l)) := by
  obtain ⟨k, hk⟩ := hp
  exact ⟨k, hk k (Nat.le_refl _)⟩
 exact (slices_BinarySearch_int_int.calls k A0 c0 l d p _ w hr0 hc0 hk).mono (fun e w' ⟨h1, h2⟩ => ⟨p, h1, h2⟩)
def dayOn (fr : List Int) (d : Int) : Bool := !(decide (d ∈ fr)) && decide (0 ≤ d) && decide (d < 10000)
def ofS (sh : List S54) (d : Int) : List (Int × Int) := (sh.filter (fun s => s.f0 == d % 7 + 1)).map (fun s => (d * 1440 + s.f1, d * 1440 + s.f2))
def ofL (sh : List S54) (fr : List Int) (d : Int) : List (Int × Int) := if dayOn fr d then ofS sh d else []
def enc2 (x : Int × Int) : Array Value := #[.int .i64 x.1, .int .i64 x.2]
set_option maxHeartbeats 1000000 in
theorem of_calls (A0 A1 : Option Addr) (n0 c0 n1 c1 : Nat) (d : Int) (w : World) :
  Calls Try.prog 38 #[.agg #[.slice A0 n0 c0, .slice A1 n1 c1], .int .i64 d] w fun e w' => e = .returned (.func (.func 51) #[] #[.pointer (some ⟨w.heap.size, 0, none⟩), .pointer (some ⟨w.heap.size + 1, 0, none⟩)]) ∧ w' = (w.alloc (.cells #[.slice A0 n0 c0, .slice A1 n1 c1] 31 (0, 0))).alloc (.cells #[.int .i64 d] 3 (0, 0)) := by
 have hu31 := Try.underlying31
 go_enter Try.func38, Try.ntmps38
 go_wp2
 go_ret
 exact ⟨rfl, rfl⟩
theorem grown_of_below {W W' : World} (h : Below W.heap.size W W') : W.grownBy W' none := ⟨h.os, h.tape, h.output, h.size, fun k hk _ => h.block k hk⟩
theorem ownFrom_step {β : Type} {B : Nat} {J : β → World → Prop} (hJ : OwnFrom B J) {s : β} {W W' : World} (h : Below W.heap.size W W') (hs : J s W) : J s W' := hJ s W W' none hs (grown_of_below h) (fun r e => by cases e)
theorem ofS_snoc (sh : List S54) (d : Int) (k : Nat) (h : k < sh.length) : ofS (sh.take (k + 1)) d = ofS (sh.take k) d ++ (if (rd_T54 sh (k : Int)).f0 = d % 7 + 1 then [(d * 1440 + (rd_T54 sh (k : Int)).f1, d * 1440 + (rd_T54 sh (k : Int)).f2)] else []) := by
 have e : sh[k] = rd_T54 sh (k : Int) := by simp [rd_T54, List.getD_eq_getElem?_getD, List.getElem?_eq_getElem h]
 unfold ofS
 rw [List.take_succ_eq_append_getElem h, List.filter_append, List.map_append, e]
 congr 1
 by_cases hc : (rd_T54 sh (k : Int)).f0 = d % 7 + 1 <;> simp [hc]
theorem ofS_prefix (sh : List S54) (d : Int) (k : Nat) : ofS (sh.take k) d <+: ofS sh d := by
 unfold ofS
 exact ((List.take_prefix k sh).filter _).map _
set_option maxRecDepth 100000 in
set_option maxHeartbeats 4000000 in
theorem of51 (w0 : World) (n₀ B : Nat) (hn : w0.heap.size ≤ n₀) (hnB : n₀ ≤ B) (A0 A1 : Option Addr) (c0 c1 : Nat) (sh : List S54) (fr : List Int) (d : Int) (hr0 : Kd.C k54 w0 A0 sh.length sh) (hc0 : sh.length ≤ c0) (hr1 : Kd.C (Kd.int .i64) w0 A1 fr.length fr) (hc1 : fr.length ≤ c1)
  (hfl : fr.length ≤ 1000000) (hfs : fr.Pairwise (· < ·)) (hsl : sh.length ≤ 1000000) (hsv : ∀ s ∈ sh, 0 ≤ s.f1 ∧ s.f1 ≤ 1440 ∧ 0 ≤ s.f2 ∧ s.f2 ≤ 1440) (hd0 : -1000000 ≤ d) (hd1 : d ≤ 1000000)
  (Bc Bd : Nat) (hBc : Bc < n₀ ∨ B ≤ Bc) (hBd : Bd < n₀ ∨ B ≤ Bd) (w : World) (hBw : B ≤ w.heap.size) (hcc : w.heap[Bc]? = some (.cells #[.slice A0 sh.length c0, .slice A1 fr.length c1] 31 (0, 0))) (hcd : w.heap[Bd]? = some (.cells #[.int .i64 d] 3 (0, 0))) (hb0 : Below w0.heap.size w0 w) :
  SeqP Try.prog 51 #[.pointer (some ⟨Bc, 0, none⟩), .pointer (some ⟨Bd, 0, none⟩)] enc2 n₀ B (ofL sh fr d) w := by
 intro l J Jx W hW hJ hJx hY h0
 have hLc : Bc < n₀ ∨ (B ≤ Bc ∧ Bc < w.heap.size) := hBc.imp_right (fun h => ⟨h, (Array.getElem?_eq_some_iff.1 hcc).1⟩)
 have hLd : Bd < n₀ ∨ (B ≤ Bd ∧ Bd < w.heap.size) := hBd.imp_right (fun h => ⟨h, (Array.getElem?_eq_some_iff.1 hcd).1⟩)
 replace hcc := bb hcc hW
 replace hcd := bb hcd hW
 replace hb0 := hb0.trans (hW.mono hb0.size)
 have hBW : B ≤ W.heap.size := Nat.le_trans hBw hW.size
 have HJ := am hJ
 have HY := am hY
 have H0 := am h0
 have HB := am hb0
 have HR1 := am hr1
 have HR0 := am hr0
 have HV := am hsv
 have HCC := am hcc
 have HCD := am hcd
 clear hJ hY h0 hb0 hr1 hr0 hsv hJx
 have k0 : W.cell? ⟨Bc, 0, none⟩ = some (.slice A0 sh.length c0) := (bc HCC.out 0).trans rfl
 have k1 : W.cell? ⟨Bc, 1, none⟩ = some (.slice A1 fr.length c1) := (bc HCC.out 1).trans rfl
 have k2 : W.cell? ⟨Bd, 0, none⟩ = some (.int .i64 d) := (bc HCD.out 0).trans rfl
 clear hcc hcd
 refine callsIn_of_wp Try.func51 rfl trivial ?_ rfl
 simp only [Try.ntmps51, List.size_toArray, List.length_cons, List.length_nil, Nat.reduceAdd, Nat.reduceSub, Array.replicate_succ, Array.replicate_zero, List.push_toArray, List.append_toArray, List.nil_append, List.cons_append]
 have off : dayOn fr d = false → ∀ W', Below W.heap.size W W' → J (ofL sh fr d) W' := by
  intro h W' hb
  have : ofL sh fr d = [] := by unfold ofL; rw [h]; rfl
  rw [this]
  exact ownFrom_step HJ.out hb H0.out
 have HOFF := am off
 clear off
 cases hF : decide (d ∈ fr) with
 | true =>
  have HE := am hF
  have hoff : dayOn fr d = false := by unfold dayOn; rw [hF]; rfl
  clear hF
  gi_wp2_with (refine ⟨trivial, ?_⟩; gi_at_call 52; refine (callsIn_wide.2 (bs_calls A1 c1 fr d _ (Kd.C_below HR1.out HB.out) hc1 hfl hfs)).mono ?_; rintro e w' ⟨p, rfl, ⟨nd, rfl⟩⟩; rw [HE.out])
  refine bodyPost_ret (results_none rfl _ _ _) rfl ?_
  exact ⟨⟨_, rfl⟩, .inl (HOFF.out hoff _ (by apply pw_below_drewN; exact Below.refl _ _))⟩
 | false =>
  have HE := am hF
  by_cases hlt : d < 0
  ·have hoff : dayOn fr d = false := by unfold dayOn; rw [decide_eq_false (show ¬ 0 ≤ d by omega)]; simp
   clear hF
   gi_wp2_with (refine ⟨trivial, ?_⟩; gi_at_call 52; refine (callsIn_wide.2 (bs_calls A1 c1 fr d _ (Kd.C_below HR1.out HB.out) hc1 hfl hfs)).mono ?_; rintro e w' ⟨p, rfl, ⟨nd, rfl⟩⟩; rw [HE.out])
   refine bodyPost_ret (results_none rfl _ _ _) rfl ?_
   exact ⟨⟨_, rfl⟩, .inl (HOFF.out hoff _ (by apply pw_below_drewN; exact Below.refl _ _))⟩
  by_cases hge : d ≥ 10000
  ·have hoff : dayOn fr d = false := by unfold dayOn; rw [decide_eq_false (show ¬ d < 10000 by omega)]; simp
   clear hF
   gi_wp2_with (refine ⟨trivial, ?_⟩; gi_at_call 52; refine (callsIn_wide.2 (bs_calls A1 c1 fr d _ (Kd.C_below HR1.out HB.out) hc1 hfl hfs)).mono ?_; rintro e w' ⟨p, rfl, ⟨nd, rfl⟩⟩; rw [HE.out])
   refine bodyPost_ret (results_none rfl _ _ _) rfl ?_
   exact ⟨⟨_, rfl⟩, .inl (HOFF.out hoff _ (by apply pw_below_drewN; exact Below.refl _ _))⟩
  have eZ : ofL sh fr d = ofS sh d := by
   have : dayOn fr d = true := by unfold dayOn; rw [hF, decide_eq_true (show 0 ≤ d by omega), decide_eq_true (show d < 10000 by omega)]; rfl
   unfold ofL; rw [this]; rfl
  have EZ := am eZ
  clear hF eZ HOFF
  gi_wp2_with (refine ⟨trivial, ?_⟩; gi_at_call 52; refine (callsIn_wide.2 (bs_calls A1 c1 fr d _ (Kd.C_below HR1.out HB.out) hc1 hfl hfs)).mono ?_; rintro e w' ⟨p, rfl, ⟨nd, rfl⟩⟩; rw [HE.out])
  have B0 : Below w0.heap.size w0 (W.drewN nd) := by apply pw_below_drewN; exact HB.out
  have J0 : J (ofS (sh.take 0) d) (W.drewN nd) := ownFrom_step HJ.out (by apply pw_below_drewN; exact Below.refl _ _) H0.out
  gi_loopw [27] (fun i wr => ∃ k : Nat, k ≤ sh.length ∧ i = .int .i64 k ∧ Aside0 (J (ofS (sh.take k) d) wr) ∧ Aside0 (Below w0.heap.size w0 wr) ∧ Aside0 (wr.heap[Bc]? = some (.cells #[.slice A0 sh.length c0, .slice A1 fr.length c1] 31 (0, 0))) ∧ Aside0 (wr.heap[Bd]? = some (.cells #[.int .i64 d] 3 (0, 0))) ∧ Aside0 (B ≤ wr.heap.size))
   (fun i _ => sh.length - (intOf i).toNat)
  case atStart => exact ⟨0, Nat.zero_le _, rfl, ⟨J0⟩, ⟨B0⟩, ⟨HCC.out⟩, ⟨HCD.out⟩, ⟨hBW⟩⟩
  case round =>
   clear J0 B0 k0 k1 k2
   obtain ⟨k, hk, rfl, HJs, HBs, HCCs, HCDs, HSs⟩ := hrel
   by_cases hlts : k < sh.length
   rotate_left
   ·obtain rfl : k = sh.length := by omega
    gi_wp2
    go_end0
    rw [List.take_length] at HJs
    exact ⟨⟨_, rfl⟩, .inl (by rw [EZ.out]; exact HJs.out)⟩
   obtain ⟨ad, e, h0, h1, h2⟩ := at_T54 HR0.out (k : Int) (by omega) (by omega)
   cases e
   replace h0 := (HBs.out.cell (World.block_lt_of_cell? w0 _ h0)).trans h0
   replace h1 := (HBs.out.cell (World.block_lt_of_cell? w0 _ h1)).trans h1
   replace h2 := (HBs.out.cell (World.block_lt_of_cell? w0 _ h2)).trans h2
   rw [Int.toNat_natCast] at h0 h1 h2
   have snoc := ofS_snoc sh d k hlts
   have hmem : rd_T54 sh (k : Int) ∈ sh := by
    have : rd_T54 sh (k : Int) = sh[k] := by simp [rd_T54, List.getD_eq_getElem?_getD, List.getElem?_eq_getElem hlts]
    rw [this]; exact List.getElem_mem hlts
   have hv := HV.out _ hmem
   have hpre := ofS_prefix sh d (k + 1)
   rw [snoc] at hpre
   clear hmem
   generalize rd_T54 sh (k : Int) = x at h0 h1 h2 snoc hv hpre
   have k2 : wr.cell? ⟨Bd, 0, none⟩ = some (.int .i64 d) := (bc HCDs.out 0).trans rfl
   have k3 := cell_kept k2 (World.grownBy_alloc wr (.cells #[.int .i64 x.f0, .int .i64 x.f1, .int .i64 x.f2] 54) none) (fun r e => by cases e)
   have SN := am snoc
   have HP := am hpre
   have HX := am hv
   clear snoc hpre hv
   by_cases hw : x.f0 = d % 7 + 1
   rotate_left
   ·have hw1 : (x.f0 == d % 7 + 1) = false := beq_eq_false_iff_ne.2 hw
    have e1 : ofS (sh.take (k + 1)) d = ofS (sh.take k) d := by rw [SN.out, if_neg hw, List.append_nil]
    have HE1 := am e1
    clear hw e1
    gi_wp2
    refine ⟨fun _ h => (by cases h), ?_⟩
    gi_wp2
    go_roundw
    case rel => exact ⟨k + 1, by omega, by simp, ⟨by rw [HE1.out]; exact ownFrom_step HJ.out (wa (Below.refl _ _) _) HJs.out⟩, ⟨wa HBs.out _⟩, ⟨blk_alloc HCCs.out _⟩, ⟨blk_alloc HCDs.out _⟩, ⟨by have := HSs.out; simp; omega⟩⟩
    case measure => simp [intOf]; omega
   have hw1 : (x.f0 == d % 7 + 1) = true := beq_iff_eq.2 hw
   have hx := HX.out
   have ew1 : wrap64 (d * 1440 + x.f1) = d * 1440 + x.f1 := EvKit.w64 (by omega) (by omega)
   have ew2 : wrap64 (d * 1440 + x.f2) = d * 1440 + x.f2 := EvKit.w64 (by omega) (by omega)
   have e1 : ofS (sh.take (k + 1)) d = ofS (sh.take k) d ++ [(wrap64 (d * 1440 + x.f1), wrap64 (d * 1440 + x.f2))] := by rw [SN.out, if_pos hw, ew1, ew2]
   have hp1 : ofS (sh.take k) d ++ [(wrap64 (d * 1440 + x.f1), wrap64 (d * 1440 + x.f2))] <+: ofL sh fr d := by
    have := HP.out
    rw [if_pos hw] at this
    rw [EZ.out, ew1, ew2]; exact this
   obtain ⟨fn, tmps, assign, body, hy, hR⟩ := YieldAt.deep 8 (HY.out (ofS (sh.take k) d) (wrap64 (d * 1440 + x.f1), wrap64 (d * 1440 + x.f2)) (wr.alloc (.cells #[.int .i64 x.f0, .int .i64 x.f1, .int .i64 x.f2] 54)) (ownFrom_step HJ.out (wa (Below.refl _ _) _) HJs.out) hp1)
   dsimp only [enc2] at hy
   have HE1 := am e1
   have HP1 := am hp1
   clear hw hx ew1 ew2 e1 hp1
   gi_wp2
   refine hR.mono ?_
   rintro e W3 (⟨rfl, hJ3, hk3⟩ | ⟨rfl, hJx3⟩)
   ·gi_wp2
    go_roundw
    case rel => exact ⟨k + 1, by omega, by simp, ⟨by rw [HE1.out]; exact hJ3⟩, ⟨(wa HBs.out _).trans (hk3.below.mono hn)⟩, ⟨hk3.heap hLc (blk_alloc HCCs.out _) rfl⟩, ⟨hk3.heap hLd (blk_alloc HCDs.out _) rfl⟩, ⟨by have := HSs.out; have := hk3.below.size; simp at this; omega⟩⟩
    case measure => simp [intOf]; omega
   gi_wp2
   refine bodyPost_ret (results_none rfl _ _ _) rfl ?_
   exact ⟨⟨_, rfl⟩, .inr ⟨_, HP1.out, hJx3⟩⟩
set_option maxHeartbeats 1000000 in
theorem ranges_calls (A0 A1 : Option Addr) (n0 c0 n1 c1 : Nat) (d : Int) (w : World) :
  Calls Try.prog 36 #[.agg #[.slice A0 n0 c0, .slice A1 n1 c1], .int .i64 d] w fun e w' => e = .returned (.func (.func 50) #[] #[.pointer (some ⟨w.heap.size + 1, 0, none⟩), .pointer (some ⟨w.heap.size, 0, none⟩)]) ∧ w' = (w.alloc (.cells #[.slice A0 n0 c0, .slice A1 n1 c1] 31 (0, 0))).alloc (.cells #[.int .i64 d] 3 (0, 0)) := by
 have hu31 := Try.underlying31
 go_enter Try.func36, Try.ntmps36
 go_wp2
 go_ret
 exact ⟨rfl, rfl⟩
def cutL (t : Int) (l : List (Int × Int)) : List (Int × Int) := (l.filter (fun x => decide (x.2 > t))).map (fun x => (mx x.1 t, x.2))
theorem cutL_append (t : Int) (l m : List (Int × Int)) : cutL t (l ++ m) = cutL t l ++ cutL t m := by simp [cutL]
theorem cutL_prefix (t : Int) {l m : List (Int × Int)} (h : l <+: m) : cutL t l <+: cutL t m := by
 obtain ⟨r, rfl⟩ := h
 rw [cutL_append]
 exact List.prefix_append _ _
def rngK (sh : List S54) (fr : List Int) (t d0 : Int) : Nat → List (Int × Int)
 | 0 => []
 | k + 1 => rngK sh fr t d0 k ++ cutL t (ofL sh fr (d0 + k))
theorem rngK_prefix (sh : List S54) (fr : List Int) (t d0 : Int) {k m : Nat} (h : k ≤ m) : rngK sh fr t d0 k <+: rngK sh fr t d0 m := by
 induction m with
 | zero =>
  obtain rfl : k = 0 := by omega
  exact List.prefix_rfl
 | succ m ih =>
  by_cases e : k = m + 1
  ·rw [e]; exact List.prefix_rfl
  exact (ih (by omega)).trans (List.prefix_append _ _)
def rngL (sh : List S54) (fr : List Int) (t : Int) : List (Int × Int) := rngK sh fr t (t / 1440) (10000 - t / 1440).toNat
set_option maxRecDepth 100000 in
set_option maxHeartbeats 4000000 in
theorem ranges50 (w0 : World) (n₀ B : Nat) (hn : w0.heap.size ≤ n₀) (hnB : n₀ ≤ B) (A0 A1 : Option Addr) (c0 c1 : Nat) (sh : List S54) (fr : List Int) (t : Int) (hr0 : Kd.C k54 w0 A0 sh.length sh) (hc0 : sh.length ≤ c0) (hr1 : Kd.C (Kd.int .i64) w0 A1 fr.length fr) (hc1 : fr.length ≤ c1)
  (hfl : fr.length ≤ 1000000) (hfs : fr.Pairwise (· < ·)) (hsl : sh.length ≤ 1000000) (hsv : ∀ s ∈ sh, 0 ≤ s.f1 ∧ s.f1 ≤ 1440 ∧ 0 ≤ s.f2 ∧ s.f2 ≤ 1440) (hd0 : 0 ≤ t) (hd1 : t ≤ 14400000)
  (Bc Bt : Nat) (hBc : Bc < n₀ ∨ B ≤ Bc) (hBt : Bt < n₀ ∨ B ≤ Bt) (w : World) (hBw : B ≤ w.heap.size) (hcc : w.heap[Bc]? = some (.cells #[.slice A0 sh.length c0, .slice A1 fr.length c1] 31 (0, 0))) (hct : w.heap[Bt]? = some (.cells #[.int .i64 t] 3 (0, 0))) (hb0 : Below w0.heap.size w0 w) :
  SeqO Try.prog 50 #[.pointer (some ⟨Bt, 0, none⟩), .pointer (some ⟨Bc, 0, none⟩)] enc2 n₀ B (rngL sh fr t) w := by
 intro l J Jx W hW hJ hJx hY h0
 replace hcc := bb hcc hW
 replace hct := bb hct hW
 replace hb0 := hb0.trans (hW.mono hb0.size)
 have hBW : B ≤ W.heap.size := Nat.le_trans hBw hW.size
 have HJ := am hJ
 have HJx := am hJx
 have HY := am hY
 have H0 := am h0
 have HB := am hb0
 have HR1 := am hr1
 have HR0 := am hr0
 have HV := am hsv
 have HCC := am hcc
 have HCT := am hct
 clear hJ hY h0 hb0 hr1 hr0 hsv hJx
 have k0 : W.cell? ⟨Bt, 0, none⟩ = some (.int .i64 t) := (bc HCT.out 0).trans rfl
 have k1 := cell_kept k0 (World.grownBy_alloc W (.cells #[.func (.yield l) #[] #[]] 72) none) (fun r e => by cases e)
 clear hcc hct
 refine callsIn_of_wp_marks Try.func50 rfl trivial ?_ rfl
 simp only [Try.ntmps50, List.size_toArray, List.length_cons, List.length_nil, Nat.reduceAdd, Nat.reduceSub, Array.replicate_succ, Array.replicate_zero, List.push_toArray, List.append_toArray, List.nil_append, List.cons_append]
 gi_wp2
 have hyw : (W.alloc (.cells #[.func (.yield l) #[] #[]] 72)).heap[W.heap.size]? = some (.cells #[.func (.yield l) #[] #[]] 72 (0, 0)) := blk_new W _
 refine wpIn_loop (fun a wr => ∃ (k : Nat) (Ds : List Nat) (x5 x6 x9 x10 x11 x12 x13 x14 x15 x16 x17 x18 x19 x20 x21 x22 x23 x24 x25 x26 x27 x28 x29 : Value), k ≤ (10000 - t / 1440).toNat ∧ a = { tmps := #[.func (.yield l) #[] #[], .pointer (some ⟨Bt, 0, none⟩), .pointer (some ⟨Bc, 0, none⟩), .pointer (some ⟨W.heap.size, 0, none⟩), .int .i64 (t / 1440 + (k : Int)), x5, x6, .int .i64 t, .int .i64 (t / 1440), x9, x10, x11, x12, x13, x14, x15, x16, x17, x18, x19, x20, x21, x22, x23, x24, x25, x26, x27, x28, x29], defers := Ds.map markOf } ∧
   Aside0 (J (rngK sh fr t (t / 1440) k) wr) ∧ Aside0 (Below w0.heap.size w0 wr) ∧ Aside0 (wr.heap[Bc]? = some (.cells #[.slice A0 sh.length c0, .slice A1 fr.length c1] 31 (0, 0))) ∧ Aside0 (wr.heap[Bt]? = some (.cells #[.int .i64 t] 3 (0, 0))) ∧ Aside0 (wr.heap[W.heap.size]? = some (.cells #[.func (.yield l) #[] #[]] 72 (0, 0))) ∧ Aside0 (W.heap.size ≤ wr.heap.size) ∧ Aside0 (Ds.Nodup ∧ ∀ D ∈ Ds, W.heap.size ≤ D ∧ wr.heap[D]? = some (.deferred (some []))))
  (fun a _ => 10000 - (intOf (a.tmps.getD 4 undef)).toNat) ?start ?round
 case start =>
  exact ⟨0, [], undef, undef, undef, undef, undef, undef, undef, undef, undef, undef, undef, undef, undef, undef, undef, undef, undef, undef, undef, undef, undef, undef, undef, Nat.zero_le _, by simp, ⟨ownFrom_step HJ.out (wa (Below.refl _ _) _) H0.out⟩, ⟨wa HB.out _⟩, ⟨blk_alloc HCC.out _⟩, ⟨blk_alloc HCT.out _⟩, ⟨hyw⟩, ⟨by simp⟩, ⟨by simp⟩⟩
 case round =>
  clear k0 k1 hyw
  rintro a wr ⟨k, Ds, x5, x6, x9, x10, x11, x12, x13, x14, x15, x16, x17, x18, x19, x20, x21, x22, x23, x24, x25, x26, x27, x28, x29, hk, rfl, HJs, HBs, HCCs, HCTs, HYs, HSs, HDs⟩
  have k0 : wr.cell? ⟨Bt, 0, none⟩ = some (.int .i64 t) := (bc HCTs.out 0).trans rfl
  have k1 : wr.cell? ⟨Bc, 0, none⟩ = some (.slice A0 sh.length c0) := (bc HCCs.out 0).trans rfl
  have k2 : wr.cell? ⟨Bc, 1, none⟩ = some (.slice A1 fr.length c1) := (bc HCCs.out 1).trans rfl
  have k3 : wr.cell? ⟨W.heap.size, 0, none⟩ = some (.func (.yield l) #[] #[]) := (bc HYs.out 0).trans rfl
  have hu31 := Try.underlying31
  by_cases hlt : t / 1440 + (k : Int) < 10000
  rotate_left
  ·gi_wp2
   refine leaves_marks (v := .tuple #[]) (J (rngL sh fr t)) W.heap.size (fun W' D hD hd hJ' => HJ.out.putObj _ hJ' hD hd rfl) (fn := Try.f50) (fun _ => results_none rfl _ _ _) (fun W' h => ⟨⟨_, rfl⟩, .inl h⟩) Ds wr HDs.out.1 HDs.out.2 ?_
   have : k = (10000 - t / 1440).toNat := by omega
   rw [this] at HJs
   exact HJs.out
  gi_wp2_with (refine ⟨trivial, ?_⟩; gi_at_call 38; refine (callsIn_wide.2 (of_calls _ _ _ _ _ _ _ _)).mono ?_; rintro e w' ⟨rfl, rfl⟩)
  have zk : (t / 1440).toNat + k < 10000 := by omega
  obtain ⟨Wl, hWl⟩ : ∃ Wl, Wl = (wr.alloc (.cells #[.slice A0 sh.length c0, .slice A1 fr.length c1] 31)).alloc (.cells #[.int .i64 (t / 1440 + (k : Int))] 3) := ⟨_, rfl⟩
  have szl : Wl.heap.size = wr.heap.size + 2 := by rw [hWl]; simp
  have bl : Below wr.heap.size wr Wl := by rw [hWl]; exact wa (wa (Below.refl _ _) _) _
  have c1l : Wl.heap[wr.heap.size]? = some (.cells #[.slice A0 sh.length c0, .slice A1 fr.length c1] 31 (0, 0)) := by rw [hWl]; exact blk_alloc (blk_new wr _) _
  have c2l : Wl.heap[wr.heap.size + 1]? = some (.cells #[.int .i64 (t / 1440 + (k : Int))] 3 (0, 0)) := by
   have h := blk_new (wr.alloc (.cells #[.slice A0 sh.length c0, .slice A1 fr.length c1] 31)) (.cells #[.int .i64 (t / 1440 + (k : Int))] 3)
   rw [World.size_alloc] at h; rw [hWl]; exact h
  rw [← hWl]
  have dsl : ∀ D ∈ Ds, D < wr.heap.size := fun D hD => (Array.getElem?_eq_some_iff.1 (HDs.out.2 D hD).2).1
  have HSZ := HSs.out
  have lBc : Bc < wr.heap.size := (Array.getElem?_eq_some_iff.1 HCCs.out).1
  have lBt : Bt < wr.heap.size := (Array.getElem?_eq_some_iff.1 HCTs.out).1
  have lY : W.heap.size < wr.heap.size := (Array.getElem?_eq_some_iff.1 HYs.out).1
  have keep : ∀ {A B' : World} {row : Option Nat}, A.grownBy B' row → (∀ r, row = some r → Wl.heap.size ≤ r ∧ ∃ o : Obj, A.heap[r]? = some o ∧ o.isCells = false) → ∀ {q : Nat} {o : Obj}, q < wr.heap.size → A.heap[q]? = some o → B'.heap[q]? = some o :=
   fun {A B' row} hg hr {q o} hq ho => ownFrom_rec (β := Unit) (B := Wl.heap.size) (k := q) (by omega) o () A B' row ho hg hr
  refine range_O (by omega) rfl rfl (enters_of Try.func51 (by kernel_rfl) rfl)
   (of51 w0 n₀ B hn hnB A0 A1 c0 c1 sh fr (t / 1440 + (k : Int)) HR0.out hc0 HR1.out hc1 hfl hfs hsl HV.out (by omega) (by omega) wr.heap.size (wr.heap.size + 1) (.inr (by omega)) (.inr (by omega)) Wl (by omega) c1l c2l (HBs.out.trans (bl.mono HBs.out.size))).toO (by omega) (fun _ => rfl)
   (fun pre W' => J (rngK sh fr t (t / 1440) k ++ cutL t pre) W' ∧ Below w0.heap.size w0 W' ∧ W'.heap[Bc]? = some (.cells #[.slice A0 sh.length c0, .slice A1 fr.length c1] 31 (0, 0)) ∧ W'.heap[Bt]? = some (.cells #[.int .i64 t] 3 (0, 0)) ∧ W'.heap[W.heap.size]? = some (.cells #[.func (.yield l) #[] #[]] 72 (0, 0)) ∧ ∀ D ∈ Ds, W'.heap[D]? = some (.deferred (some [])))
   (fun c pre W' => c = .ret ∧ (∃ p, p <+: rngL sh fr t ∧ Jx p W') ∧ ∀ D ∈ Ds, W'.heap[D]? = some (.deferred (some [])))
   ?oI ?oIx ?h0 (fun x => { tmps := #[.func (.yield l) #[] #[], .pointer (some ⟨Bt, 0, none⟩), .pointer (some ⟨Bc, 0, none⟩), .pointer (some ⟨W.heap.size, 0, none⟩), .int .i64 (t / 1440 + (k : Int)), .int .i64 x.1, .int .i64 x.2, .int .i64 t, .int .i64 (t / 1440), .int .i64 (t / 1440 + (k : Int)), .bool true, x11, x12, .agg #[.slice A0 sh.length c0, .slice A1 fr.length c1], .int .i64 (t / 1440 + (k : Int)), .func (.func 51) #[] #[.pointer (some ⟨wr.heap.size, 0, none⟩), .pointer (some ⟨wr.heap.size + 1, 0, none⟩)], .int .i64 x.1, .int .i64 x.2, x18, x19, x20, x21, x22, x23, x24, x25, x26, x27, x28, x29], defers := [] }) ?assign ?body ?done ?stop
  case oI =>
   intro s A B' row hs hg hr
   obtain ⟨g1, g2, g3, g4, g5, g6⟩ := hs
   exact ⟨ownFrom_mono (B' := Wl.heap.size) (by omega) HJ.out _ A B' row g1 hg hr, ownFrom_below (Nat.le_refl _) (by have := HBs.out.size; omega) s A B' row g2 hg hr, keep hg hr lBc g3, keep hg hr lBt g4, keep hg hr lY g5, fun D hD => keep hg hr (dsl D hD) (g6 D hD)⟩
  case oIx =>
   intro c s A B' row hs hg hr
   obtain ⟨g1, ⟨p, g2, g3⟩, g6⟩ := hs
   exact ⟨g1, ⟨p, g2, ownFrom_mono (B' := Wl.heap.size) (by omega) HJx.out _ A B' row g3 hg hr⟩, fun D hD => keep hg hr (dsl D hD) (g6 D hD)⟩
  case h0 =>
   refine ⟨?_, HBs.out.trans (bl.mono HBs.out.size), bb HCCs.out bl, bb HCTs.out bl, bb HYs.out bl, fun D hD => bb (HDs.out.2 D hD).2 bl⟩
   have : cutL t [] = [] := rfl
   rw [this, List.append_nil]
   exact ownFrom_step HJ.out bl HJs.out
  case assign =>
   intro l' x W' K hK
   simp only [enc2]
   gi_wp2
   exact hK
  case body =>
   intro l' pre x W' hl' hrec hI hpx
   obtain ⟨g1, g2, g3, g4, g5, g6⟩ := hI
   have q0 : W'.cell? ⟨Bt, 0, none⟩ = some (.int .i64 t) := (bc g4 0).trans rfl
   have q3 : W'.cell? ⟨W.heap.size, 0, none⟩ = some (.func (.yield l) #[] #[]) := (bc g5 0).trans rfl
   have lim : rngK sh fr t (t / 1440) (k + 1) <+: rngL sh fr t := rngK_prefix sh fr t _ (by omega)
   have HG := am (And.intro g1 (And.intro g2 (And.intro g3 (And.intro g4 (And.intro g5 g6)))))
   have HPX := am hpx
   have LIM := am lim
   clear g1 g2 g3 g4 g5 g6 hpx lim
   by_cases hc : x.2 > t
   rotate_left
   ·have hc1 : decide (t < x.2) = false := decide_eq_false hc
    have snoc : cutL t (pre ++ [x]) = cutL t pre := by rw [cutL_append]; simp [cutL, hc]
    have SN := am snoc
    clear snoc
    gi_wp2
    refine ⟨fun _ h => (by cases h), ?_⟩
    gi_wp2
    refine ⟨Whole.refl _ _, Keep.refl _ _ _, ?_⟩
    show J (rngK sh fr t (t / 1440) k ++ cutL t (pre ++ [x])) _ ∧ _
    rw [SN.out]
    exact HG.out
   have hc1 : decide (t < x.2) = true := decide_eq_true hc
   have snoc : cutL t (pre ++ [x]) = cutL t pre ++ [(mx x.1 t, x.2)] := by rw [cutL_append]; simp [cutL, hc]
   have hp2 : rngK sh fr t (t / 1440) k ++ cutL t pre ++ [(mx x.1 t, x.2)] <+: rngL sh fr t := by
    rw [List.append_assoc, ← snoc]
    exact ((List.prefix_append_right_inj _).2 (cutL_prefix t HPX.out)).trans LIM.out
   have fin : ∀ W3, J (rngK sh fr t (t / 1440) k ++ cutL t pre ++ [(mx x.1 t, x.2)]) W3 → Keep n₀ B W' W3 → Whole W.heap.size W' W3 → Whole Wl.heap.size W' W3 ∧ Keep n₀ B W' W3 ∧ J (rngK sh fr t (t / 1440) k ++ cutL t (pre ++ [x])) W3 ∧ Below w0.heap.size w0 W3 ∧ W3.heap[Bc]? = some (.cells #[.slice A0 sh.length c0, .slice A1 fr.length c1] 31 (0, 0)) ∧ W3.heap[Bt]? = some (.cells #[.int .i64 t] 3 (0, 0)) ∧ W3.heap[W.heap.size]? = some (.cells #[.func (.yield l) #[] #[]] 72 (0, 0)) ∧ ∀ D ∈ Ds, W3.heap[D]? = some (.deferred (some [])) := by
    intro W3 h1 h2 h3
    obtain ⟨g1, g2, g3, g4, g5, g6⟩ := HG.out
    exact ⟨h3.mono (by omega), h2, by rw [snoc, ← List.append_assoc]; exact h1, g2.trans (h2.below.mono hn), h2.heap hBc g3 rfl, h2.heap hBt g4 rfl, h2.heap (.inr hBW) g5 rfl, fun D hD => h3.2 D _ (HDs.out.2 D hD).1 (g6 D hD)⟩
   have FIN := am fin
   have HP2 := am hp2
   clear snoc fin hp2 hc
   by_cases hm : x.1 < t
   ·have hmx : mx x.1 t = t := by unfold mx; split <;> omega
    rw [hmx] at FIN HP2
    have hm1 : decide (x.1 < t) = true := decide_eq_true hm
    have hm2 : ¬ t ≤ x.1 := by omega
    obtain ⟨fn, tmps, assign, body, hy, hR⟩ := YieldAt.deep 6 (HY.out (rngK sh fr t (t / 1440) k ++ cutL t pre) (t, x.2) W' HG.out.1 HP2.out)
    dsimp only [enc2] at hy
    clear hmx
    gi_wp2
    refine hR.mono ?_
    rintro e W3 (⟨rfl, hJ3, hk3, hw3⟩ | ⟨rfl, hJx3, hw3⟩)
    ·gi_wp2
     exact FIN.out W3 hJ3 hk3 hw3
    gi_wp2
    exact ⟨hw3.mono (by omega), rfl, ⟨_, HP2.out, hJx3⟩, fun D hD => hw3.2 D _ (HDs.out.2 D hD).1 (HG.out.2.2.2.2.2 D hD)⟩
   have hmx : mx x.1 t = x.1 := by unfold mx; split <;> omega
   rw [hmx] at FIN HP2
   have hm1 : decide (x.1 < t) = false := decide_eq_false hm
   have hm2 : t ≤ x.1 := by omega
   obtain ⟨fn, tmps, assign, body, hy, hR⟩ := YieldAt.deep 6 (HY.out (rngK sh fr t (t / 1440) k ++ cutL t pre) (x.1, x.2) W' HG.out.1 HP2.out)
   dsimp only [enc2] at hy
   clear hmx
   gi_wp2
   refine hR.mono ?_
   rintro e W3 (⟨rfl, hJ3, hk3, hw3⟩ | ⟨rfl, hJx3, hw3⟩)
   ·gi_wp2
    exact FIN.out W3 hJ3 hk3 hw3
   gi_wp2
   exact ⟨hw3.mono (by omega), rfl, ⟨_, HP2.out, hJx3⟩, fun D hD => hw3.2 D _ (HDs.out.2 D hD).1 (HG.out.2.2.2.2.2 D hD)⟩
  case done =>
   rintro D W' hD ⟨g1, g2, g3, g4, g5, g6⟩ hDd
   gi_wp2
   refine ⟨⟨k + 1, D :: Ds, _, _, _, _, _, _, _, _, _, _, _, _, _, _, _, _, _, _, _, _, _, _, _, by omega, (by rw [show (((k + 1 : Nat)) : Int) = (k : Int) + 1 from by omega, ← Int.add_assoc]; rfl), ⟨g1⟩, ⟨g2⟩, ⟨g3⟩, ⟨g4⟩, ⟨g5⟩, ⟨?_⟩, ⟨?_, ?_⟩⟩, ?_⟩
   ·have := (Array.getElem?_eq_some_iff.1 g5).1; omega
   ·rw [List.nodup_cons]
    exact ⟨fun hm => by have := dsl D hm; omega, HDs.out.1⟩
   ·intro E hE
    rcases List.mem_cons.1 hE with rfl | hE
    ·exact ⟨by omega, hDd⟩
    exact ⟨(HDs.out.2 E hE).1, g6 E hE⟩
   simp [intOf]; omega
  case stop =>
   rintro D c pre W' hD hp ⟨rfl, ⟨p, g2, g3⟩, g6⟩ hDd
   gi_wp2
   refine leaves_marks (v := .tuple #[]) (fun W'' => ∃ p, p <+: rngL sh fr t ∧ Jx p W'') W.heap.size (fun W2 E hE hd ⟨q, h1, h2⟩ => ⟨q, h1, HJx.out.putObj _ h2 hE hd rfl⟩) (fn := Try.f50) (fun _ => results_none rfl _ _ _) (fun W2 h => ⟨⟨_, rfl⟩, .inr h⟩) (D :: Ds) W' ?_ ?_ ⟨p, g2, g3⟩
   ·rw [List.nodup_cons]
    exact ⟨fun hm => by have := dsl D hm; omega, HDs.out.1⟩
   intro E hE
   rcases List.mem_cons.1 hE with rfl | hE
   ·exact ⟨by omega, hDd⟩
   exact ⟨(HDs.out.2 E hE).1, g6 E hE⟩
def allocs (w : World) (os : List Obj) : World := os.foldl World.alloc w
theorem allocs_below (w : World) : ∀ os : List Obj, Below w.heap.size w (allocs w os) := by
 intro os
 have key : ∀ (os : List Obj) (W : World), Below w.heap.size w W → Below w.heap.size w (os.foldl World.alloc W) := by
  intro os
  induction os with
  | nil => exact fun W h => h
  | cons o os ih => exact fun W h => ih _ (wa h o)
 exact key os w (Below.refl _ _)
theorem allocs_size (w : World) (os : List Obj) : (allocs w os).heap.size = w.heap.size + os.length := by
 have key : ∀ (os : List Obj) (W : World), (os.foldl World.alloc W).heap.size = W.heap.size + os.length := by
  intro os
  induction os with
  | nil => exact fun W => rfl
  | cons o os ih => intro W; rw [List.foldl_cons, ih, World.size_alloc, List.length_cons]; omega
 exact key os w
theorem allocs_get (w : World) (os : List Obj) (i : Nat) (o : Obj) (h : os[i]? = some o) : (allocs w os).heap[w.heap.size + i]? = some o := by
 have key : ∀ (os : List Obj) (W : World) (i : Nat), os[i]? = some o → (os.foldl World.alloc W).heap[W.heap.size + i]? = some o := by
  intro os
  induction os with
  | nil => intro W i h; simp at h
  | cons a os ih =>
   intro W i h
   cases i with
   | zero =>
    simp at h
    subst h
    exact (allocs_below (W.alloc a) os).block _ (by simp) |>.trans (blk_new W a)
   | succ i =>
    have := ih (W.alloc a) i (by simpa using h)
    rw [World.size_alloc] at this
    rw [List.foldl_cons, show W.heap.size + (i + 1) = W.heap.size + 1 + i by omega]
    exact this
 exact key os w i h
theorem ints_C {W : World} {g : Nat} {t : TypeId} {cs : Array Value} (k : IntKind) (l : List Int) (h : W.heap[g]? = some (.cells cs t (0, 0))) (hc : cs.toList = l.map (Value.int k)) (hl : l.length ≤ 9223372036854775807) : (Kd.int k).C W (some ⟨g, 0, none⟩) l.length l := by
 refine ⟨rfl, hl, fun _ => ⟨_, rfl, fun j p hp => ⟨[.int k p], rfl, rfl, fun i u hu => ?_⟩⟩⟩
 cases i with
 | succ i => simp at hu
 | zero =>
  simp at hu
  subst hu
  have e : (⟨g, 0, none⟩ : Addr).add (j * 1 + 0) = ⟨g, j, none⟩ := by
   unfold Addr.add
   by_cases h0 : j = 0 <;> simp [h0]
  show W.cell? ((⟨g, 0, none⟩ : Addr).add (j * 1 + 0)) = _
  rw [e]
  refine (bc h j).trans ?_
  rw [← Array.getElem?_toList, hc, List.getElem?_map, hp]
  rfl
theorem two_cells {fn : Func} {p q : Tmp} (h : fn.results = #[.cell p 3, .cell q 28]) {tmps : Array Value} {W : World} {g1 g2 : Nat} {a b : Int} (hp : tmps.getD p undef = .pointer (some ⟨g1, 0, none⟩)) (hq : tmps.getD q undef = .pointer (some ⟨g2, 0, none⟩)) (h1 : W.cell? ⟨g1, 0, none⟩ = some (.int .i64 a)) (h2 : W.cell? ⟨g2, 0, none⟩ = some (.int .i64 b)) :
  (results fn tmps).run Try.prog W = .ok (.tuple #[.int .i64 a, .int .i64 b]) W := by
 have hp' : tmps[p]?.getD undef = .pointer (some ⟨g1, 0, none⟩) := by simpa using hp
 have hq' : tmps[q]?.getD undef = .pointer (some ⟨g2, 0, none⟩) := by simpa using hq
 simp [results, h, go_sem, hp', hq', h1, h2]
theorem put_two {W : World} {g1 g2 : Nat} {x y u v : Value} (hne : g1 ≠ g2) (h1 : W.cell? ⟨g1, 0, none⟩ = some u) (h2 : W.cell? ⟨g2, 0, none⟩ = some v) :
  ((W.setCell ⟨g1, 0, none⟩ x).setCell ⟨g2, 0, none⟩ y).cell? ⟨g1, 0, none⟩ = some x ∧ ((W.setCell ⟨g1, 0, none⟩ x).setCell ⟨g2, 0, none⟩ y).cell? ⟨g2, 0, none⟩ = some y := by
 constructor
 ·simp [go_sem, h1, h2, hne, hne.symm]
 simp [go_sem, h1, h2, hne, hne.symm]
theorem Whole.of_grown {D : Nat} {W W' : World} {row : Option Nat} (h : W.grownBy W' row) (hr : ∀ r, row = some r → r < D) : Whole D W W' :=
 ⟨h.size, fun k o hk ho => (h.block k (Array.getElem?_eq_some_iff.1 ho).1 (fun e => by have := hr k e.symm; omega)).trans ho⟩
theorem Whole.set {D g : Nat} {W : World} (hg : g < D) (v : Value) : Whole D W (W.setCell ⟨g, 0, none⟩ v) := Whole.of_grown (grownBy_setCell' W g v) (fun r e => by cases e; exact hg)
theorem set_other {W : World} {g D : Nat} {u : Value} {o : Obj} (hne : D ≠ g) (h : W.heap[D]? = some o) : (W.setCell ⟨g, 0, none⟩ u).heap[D]? = some o :=
 ((grownBy_setCell' W g u).block D (Array.getElem?_eq_some_iff.1 h).1 (fun e => hne (by cases e; rfl))).trans h
theorem leave_two {fn : Func} {p q : Tmp} (h : fn.results = #[.cell p 3, .cell q 28]) {n : Nat} {tmps : Array Value} {W : World} {g1 g2 D : Nat} {a b : Int} {R : Ending → World → Prop} (hp : tmps.getD p undef = .pointer (some ⟨g1, 0, none⟩)) (hq : tmps.getD q undef = .pointer (some ⟨g2, 0, none⟩)) (h1 : W.cell? ⟨g1, 0, none⟩ = some (.int .i64 a)) (h2 : W.cell? ⟨g2, 0, none⟩ = some (.int .i64 b))
  (hD : W.heap[D]? = some (.deferred (some []))) (hR : R (.returned (.tuple #[.int .i64 a, .int .i64 b])) (W.putObj D (.deferred none))) : LeavesInM Fence.wide n Try.prog fn tmps R [{ target := .collected D, args := #[] }] .returning W :=
 ⟨by simp, .inl ⟨D, _, rfl, run_takeDeferred hD, _, two_cells h hp hq (cell_kept h1 (grownBy_putObj' W D _) (fun r e => by cases e; exact ⟨_, hD, rfl⟩)) (cell_kept h2 (grownBy_putObj' W D _) (fun r e => by cases e; exact ⟨_, hD, rfl⟩)), hR⟩⟩
theorem set_same {W : World} {g : Nat} {t : TypeId} {u v : Value} (h : W.heap[g]? = some (.cells #[u] t (0, 0))) : (W.setCell ⟨g, 0, none⟩ v).heap[g]? = some (.cells #[v] t (0, 0)) := by
 have : Boxed W g t u := h
 exact this.set v
def okB (sh : List S54) (fr : List Int) : Bool := decide (sh.length ≤ 64) && decide (fr.length ≤ 64) && sh.all (fun s => !wrongS s) && decide (fr.Pairwise (· < ·))
theorem okB_is {sh : List S54} {fr : List Int} (h : okB sh fr = true) : sh.length ≤ 64 ∧ fr.length ≤ 64 ∧ (∀ s ∈ sh, 0 ≤ s.f1 ∧ s.f1 ≤ 1440 ∧ 0 ≤ s.f2 ∧ s.f2 ≤ 1440) ∧ fr.Pairwise (· < ·) := by
 unfold okB at h
 simp only [Bool.and_eq_true, decide_eq_true_eq, List.all_eq_true] at h
 obtain ⟨⟨⟨h1, h2⟩, h3⟩, h4⟩ := h
 refine ⟨h1, h2, fun s hs => ?_, h4⟩
 have := h3 s hs
 simp [wrongS, inR] at this
 omega
theorem two_cells_b {fn : Func} {p q : Tmp} (h : fn.results = #[.cell p 4, .cell q 28]) {tmps : Array Value} {W : World} {g1 g2 : Nat} {a : Bool} {b : Int} (hp : tmps.getD p undef = .pointer (some ⟨g1, 0, none⟩)) (hq : tmps.getD q undef = .pointer (some ⟨g2, 0, none⟩)) (h1 : W.cell? ⟨g1, 0, none⟩ = some (.bool a)) (h2 : W.cell? ⟨g2, 0, none⟩ = some (.int .i64 b)) :
  (results fn tmps).run Try.prog W = .ok (.tuple #[.bool a, .int .i64 b]) W := by
 have hp' : tmps[p]?.getD undef = .pointer (some ⟨g1, 0, none⟩) := by simpa using hp
 have hq' : tmps[q]?.getD undef = .pointer (some ⟨g2, 0, none⟩) := by simpa using hq
 simp [results, h, go_sem, hp', hq', h1, h2]
theorem leave_two_b {fn : Func} {p q : Tmp} (h : fn.results = #[.cell p 4, .cell q 28]) {n : Nat} {tmps : Array Value} {W : World} {g1 g2 D : Nat} {a : Bool} {b : Int} {R : Ending → World → Prop} (hp : tmps.getD p undef = .pointer (some ⟨g1, 0, none⟩)) (hq : tmps.getD q undef = .pointer (some ⟨g2, 0, none⟩)) (h1 : W.cell? ⟨g1, 0, none⟩ = some (.bool a)) (h2 : W.cell? ⟨g2, 0, none⟩ = some (.int .i64 b))
  (hD : W.heap[D]? = some (.deferred (some []))) (hR : R (.returned (.tuple #[.bool a, .int .i64 b])) (W.putObj D (.deferred none))) : LeavesInM Fence.wide n Try.prog fn tmps R [{ target := .collected D, args := #[] }] .returning W :=
 ⟨by simp, .inl ⟨D, _, rfl, run_takeDeferred hD, _, two_cells_b h hp hq (cell_kept h1 (grownBy_putObj' W D _) (fun r e => by cases e; exact ⟨_, hD, rfl⟩)) (cell_kept h2 (grownBy_putObj' W D _) (fun r e => by cases e; exact ⟨_, hD, rfl⟩)), hR⟩⟩
def inside (m : Int) (x : Int × Int) : Bool := decide (x.1 ≤ m) && decide (m < x.2)
def openR (l : List (Int × Int)) (m : Int) : Bool := l.any (inside m)
def Non (m : Int) (l : List (Int × Int)) : Prop := l.any (inside m) = false
def shift_Open.f (k : Nat) (l0_0 : List S54) (l0_1 : List Int) (a1 : Int) : Option (Bool × Int) :=
 (shift_minutes.f k l0_0 l0_1 [a1]).bind fun e => if e = 0 then (if okB l0_0 l0_1 = true ∧ 0 ≤ a1 ∧ a1 ≤ 14400000 then some (openR (ofL l0_0 l0_1 (a1 / 1440)) a1, 0) else none) else some (false, e)
set_option maxRecDepth 100000 in
set_option maxHeartbeats 4000000 in
theorem shift_Open.calls (k : Nat) (A0_0 : Option Addr) (c0_0 : Nat) (l0_0 : List S54) (A0_1 : Option Addr) (c0_1 : Nat) (l0_1 : List Int) (a1 : Int) (r1 : Bool) (r2 : Int) (w : World) (hr0_0 : Kd.C k54 w A0_0 l0_0.length l0_0) (hc0_0 : l0_0.length ≤ c0_0) (hr0_1 : Kd.C (Kd.int .i64) w A0_1 l0_1.length l0_1) (hc0_1 : l0_1.length ≤ c0_1) (h : shift_Open.f k l0_0 l0_1 a1 = some (r1, r2)) :
  Calls Try.prog 27 #[.agg #[.slice A0_0 l0_0.length c0_0, .slice A0_1 l0_1.length c0_1], .int .i64 a1] w fun e w' => e = .returned (.tuple #[.bool r1, .int .i64 r2]) ∧ Below w.heap.size w w' := by
 have hu31 := Try.underlying31
 obtain ⟨e, h1, h2⟩ := Option.bind_eq_some_iff.1 h
 have HR0 := am hr0_0
 have HR1 := am hr0_1
 have HM := am h1
 clear hr0_0 hr0_1 h1 h
 refine callsIn_wide.1 (callsIn_of_wp_marks (n := 9) Try.func27 rfl trivial ?_ rfl)
 simp only [Try.ntmps27, List.size_toArray, List.length_cons, List.length_nil, Nat.reduceAdd, Nat.reduceSub, Array.replicate_succ, Array.replicate_zero, List.push_toArray, List.append_toArray, List.nil_append, List.cons_append]
 obtain ⟨Wn, hWn⟩ : ∃ Wn, Wn = (((((w.alloc (Obj.cells #[Value.slice A0_0 l0_0.length c0_0, Value.slice A0_1 l0_1.length c0_1] 31)).alloc (Obj.cells #[Value.int IntKind.i64 a1] 3)).alloc (Obj.cells #[Value.bool false] 4)).alloc (Obj.cells #[Value.int IntKind.i64 0] 28)).alloc (Obj.cells #[Value.int IntKind.i64 a1] 3)) := ⟨_, rfl⟩
 have hWa : Wn = allocs w [Obj.cells #[Value.slice A0_0 l0_0.length c0_0, Value.slice A0_1 l0_1.length c0_1] 31, Obj.cells #[Value.int IntKind.i64 a1] 3, Obj.cells #[Value.bool false] 4, Obj.cells #[Value.int IntKind.i64 0] 28, Obj.cells #[Value.int IntKind.i64 a1] 3] := hWn
 have hbn : Below w.heap.size w Wn := by rw [hWa]; exact allocs_below _ _
 have szn : Wn.heap.size = w.heap.size + 5 := by rw [hWa]; exact allocs_size _ _
 have hz2 : Wn.heap[w.heap.size]? = some (.cells #[.slice A0_0 l0_0.length c0_0, .slice A0_1 l0_1.length c0_1] 31 (0, 0)) := by rw [hWa]; exact allocs_get w _ 0 _ rfl
 have hz3 : Wn.heap[w.heap.size + 1]? = some (.cells #[.int .i64 a1] 3 (0, 0)) := by rw [hWa]; exact allocs_get w _ 1 _ rfl
 have hz4 : Wn.heap[w.heap.size + 1 + 1]? = some (.cells #[.bool false] 4 (0, 0)) := by rw [hWa]; exact allocs_get w _ 2 _ rfl
 have hz5 : Wn.heap[w.heap.size + 1 + 1 + 1]? = some (.cells #[.int .i64 0] 28 (0, 0)) := by rw [hWa]; exact allocs_get w _ 3 _ rfl
 have hg : Wn.heap[w.heap.size + 1 + 1 + 1 + 1]? = some (.cells #[.int .i64 a1] 3 (0, 0)) := by rw [hWa]; exact allocs_get w _ 4 _ rfl
 have hcon := (callsIn_wide (n := 8)).2 (shift_minutes.calls k A0_0 c0_0 l0_0 A0_1 c0_1 l0_1 (some ⟨w.heap.size + 1 + 1 + 1 + 1, 0, none⟩) 1 [a1] e Wn (Kd.C_below HR0.out hbn) hc0_0 (Kd.C_below HR1.out hbn) hc0_1 (ints_C .i64 [a1] hg rfl (by simp)) (by simp) HM.out)
 have HC := am hcon
 have HBN := am hbn
 have Z2 := am hz2
 have Z3 := am hz3
 have Z4 := am hz4
 have Z5 := am hz5
 have SZ := am szn
 clear hcon hbn hg hz2 hz3 hz4 hz5 szn hWa
 by_cases he : e = 0
 rotate_left
 ·rw [if_neg he] at h2
  have he1 : (e == 0) = false := beq_eq_false_iff_ne.2 he
  have he2 : (e != 0) = true := bne_iff_ne.2 he
  have HE := am he
  clear he
  gi_wp2_with (refine ⟨trivial, ?_⟩; gi_at_call 35; rw [← hWn]; refine HC.out.mono ?_; rintro e' w' ⟨rfl, hb⟩; have q4 := (bc (bb Z4.out hb) 0).trans rfl; have q5 := (bc (bb Z5.out hb) 0).trans rfl; have f4 := bf (bb Z4.out hb) 0; have f5 := bf (bb Z5.out hb) 0; have HB := am hb; clear hb)
  obtain ⟨c1, c2⟩ := put_two (x := .bool false) (y := .int .i64 e) (by omega : w.heap.size + 1 + 1 ≠ w.heap.size + 1 + 1 + 1) q4 q5
  obtain ⟨rfl, rfl⟩ : r1 = false ∧ r2 = e := by
   have := Option.some.inj h2
   simp only [Prod.mk.injEq] at this
   exact ⟨this.1.symm, this.2.symm⟩
  refine ⟨_, two_cells_b (fn := Try.f27) rfl rfl rfl c1 c2, rfl, ?_⟩
  have hb1 : Below w.heap.size w w' := HBN.out.trans (HB.out.mono HBN.out.size)
  exact (hb1.setCell (p := ⟨w.heap.size + 1 + 1, 0, none⟩) (by simp; omega) _).setCell (p := ⟨w.heap.size + 1 + 1 + 1, 0, none⟩) (by simp; omega) _
 subst he
 rw [if_pos rfl] at h2
 split at h2
 case isFalse => exact absurd h2 (by simp)
 case isTrue hok =>
 obtain ⟨hok, ha0, ha1⟩ := hok
 obtain ⟨o1, o2, o3, o4⟩ := okB_is hok
 have h2' := Option.some.inj h2
 have HN := am h2'
 have HV := am o3
 clear h2 h2' o3 hok
 gi_wp2_with (first | (refine ⟨trivial, ?_⟩; gi_at_call 35; rw [← hWn]; refine HC.out.mono ?_; rintro e' w' ⟨rfl, hb⟩; have q2 := (bc (bb Z2.out hb) 0).trans rfl; have q3 := (bc (bb Z2.out hb) 1).trans rfl; have q1 := (bc (bb Z3.out hb) 0).trans rfl; have q4 := (bc (bb Z4.out hb) 0).trans rfl; have q5 := (bc (bb Z5.out hb) 0).trans rfl; have f4 := bf (bb Z4.out hb) 0; have f5 := bf (bb Z5.out hb) 0; have HB := am hb; clear hb) | (refine ⟨trivial, ?_⟩; gi_at_call 38; refine ((callsIn_wide (n := 8)).2 (of_calls _ _ _ _ _ _ _ _)).mono ?_; rintro e' w2 ⟨rfl, rfl⟩))
 have sW : w.heap.size + 5 ≤ w'.heap.size := by have := HB.out.size; have := SZ.out; omega
 have hb1 : Below w.heap.size w w' := HBN.out.trans (HB.out.mono HBN.out.size)
 obtain ⟨Wr, hWr⟩ : ∃ Wr, Wr = (w'.alloc (.cells #[.slice A0_0 l0_0.length c0_0, .slice A0_1 l0_1.length c0_1] 31)).alloc (.cells #[.int .i64 (a1 / 1440)] 3) := ⟨_, rfl⟩
 have hWra : Wr = allocs w' [.cells #[.slice A0_0 l0_0.length c0_0, .slice A0_1 l0_1.length c0_1] 31, .cells #[.int .i64 (a1 / 1440)] 3] := hWr
 have szr : Wr.heap.size = w'.heap.size + 2 := by rw [hWra]; exact allocs_size _ _
 have br : Below w'.heap.size w' Wr := by rw [hWra]; exact allocs_below _ _
 have m1 : Wr.heap[w'.heap.size]? = some (.cells #[.slice A0_0 l0_0.length c0_0, .slice A0_1 l0_1.length c0_1] 31 (0, 0)) := by rw [hWra]; exact allocs_get w' _ 0 _ rfl
 have m2 : Wr.heap[w'.heap.size + 1]? = some (.cells #[.int .i64 (a1 / 1440)] 3 (0, 0)) := by rw [hWra]; exact allocs_get w' _ 1 _ rfl
 rw [← hWr]
 have r3 := bb (bb Z3.out HB.out) br
 have r4 := bb (bb Z4.out HB.out) br
 have r5 := bb (bb Z5.out HB.out) br
 have bwr : Below w.heap.size w Wr := hb1.trans (br.mono hb1.size)
 have keep : ∀ {A B' : World} {row : Option Nat}, A.grownBy B' row → (∀ r, row = some r → Wr.heap.size ≤ r ∧ ∃ o : Obj, A.heap[r]? = some o ∧ o.isCells = false) → ∀ {q : Nat} {o : Obj}, q < w'.heap.size → A.heap[q]? = some o → B'.heap[q]? = some o :=
  fun {A B' row} hg hr {q o} hq ho => ownFrom_rec (β := Unit) (B := Wr.heap.size) (k := q) (by omega) o () A B' row ho hg hr
 clear q1 q2 q3 q4 q5 f4 f5 hWra
 refine range_O (by omega) rfl rfl (enters_of Try.func51 (by kernel_rfl) rfl)
  (of51 w w.heap.size w'.heap.size (Nat.le_refl _) (by omega) A0_0 A0_1 c0_0 c0_1 l0_0 l0_1 (a1 / 1440) HR0.out hc0_0 HR1.out hc0_1 (by omega) o4 (by omega) HV.out (by omega) (by omega) w'.heap.size (w'.heap.size + 1) (.inr (Nat.le_refl _)) (.inr (by omega)) Wr (by omega) m1 m2 bwr).toO (by omega) (fun _ => rfl)
  (fun pre W' => Non a1 pre ∧ W'.heap[w.heap.size + 1]? = some (.cells #[.int .i64 a1] 3 (0, 0)) ∧ W'.heap[w.heap.size + 1 + 1]? = some (.cells #[.bool false] 4 (0, 0)) ∧ W'.heap[w.heap.size + 1 + 1 + 1]? = some (.cells #[.int .i64 0] 28 (0, 0)) ∧ Below w.heap.size w W')
  (fun c pre W' => c = .ret ∧ pre.any (inside a1) = true ∧ W'.cell? ⟨w.heap.size + 1 + 1, 0, none⟩ = some (.bool true) ∧ W'.cell? ⟨w.heap.size + 1 + 1 + 1, 0, none⟩ = some (.int .i64 0) ∧ Below w.heap.size w W')
  ?oI ?oIx ⟨rfl, r3, r4, r5, bwr⟩ (fun x => { tmps := #[.agg #[.slice A0_0 l0_0.length c0_0, .slice A0_1 l0_1.length c0_1], .int .i64 a1, .pointer (some ⟨w.heap.size, 0, none⟩), .pointer (some ⟨w.heap.size + 1, 0, none⟩), .pointer (some ⟨w.heap.size + 1 + 1, 0, none⟩), .pointer (some ⟨w.heap.size + 1 + 1 + 1, 0, none⟩), .int .i64 0, .int .i64 x.1, .int .i64 x.2, .agg #[.slice A0_0 l0_0.length c0_0, .slice A0_1 l0_1.length c0_1], .int .i64 a1, .slice (some ⟨w.heap.size + 1 + 1 + 1 + 1, 0, none⟩) 1 1, .int .i64 0, .int .i64 0, .bool false, undef, .agg #[.slice A0_0 l0_0.length c0_0, .slice A0_1 l0_1.length c0_1], .int .i64 a1, .int .i64 (a1 / 1440), .func (.func 51) #[] #[.pointer (some ⟨w'.heap.size, 0, none⟩), .pointer (some ⟨w'.heap.size + 1, 0, none⟩)], .int .i64 x.1, .int .i64 x.2, undef, undef, undef, undef, undef, undef, undef, undef], defers := [] }) ?assign ?body ?done ?stop
 case oI =>
  intro s A B' row hs hg hr
  obtain ⟨g0, g1, g2, g3, g4⟩ := hs
  exact ⟨g0, keep hg hr (by omega) g1, keep hg hr (by omega) g2, keep hg hr (by omega) g3, ownFrom_below (Nat.le_refl _) (by omega) s A B' row g4 hg hr⟩
 case oIx =>
  intro c s A B' row hs hg hr
  obtain ⟨g0, g1, g2, g3, g4⟩ := hs
  exact ⟨g0, g1, cell_kept g2 hg (fun r e => (hr r e).2), cell_kept g3 hg (fun r e => (hr r e).2), ownFrom_below (Nat.le_refl _) (by omega) s A B' row g4 hg hr⟩
 case assign =>
  intro l' x W' K hK
  simp only [enc2]
  gi_wp2
  exact hK
 case body =>
  rintro l' pre x W' hl' hrec ⟨g0, g1, g2, g3, g4⟩ hpx
  have q1 := (bc g1 0).trans rfl
  have q4 := (bc g2 0).trans rfl
  have q5 := (bc g3 0).trans rfl
  have f4 := bf g2 0
  have f5 := bf g3 0
  by_cases hx1 : x.1 ≤ a1
  ·by_cases hx2 : a1 < x.2
   ·have t1 : decide (x.1 ≤ a1) = true := decide_eq_true hx1
    have t2 : decide (a1 < x.2) = true := decide_eq_true hx2
    have ha : (pre ++ [x]).any (inside a1) = true := by simp [inside, hx1, hx2]
    have HA := am ha
    clear ha
    gi_wp2
    obtain ⟨c1, c2⟩ := put_two (x := .bool true) (y := .int .i64 0) (by omega : w.heap.size + 1 + 1 ≠ w.heap.size + 1 + 1 + 1) q4 q5
    exact ⟨(Whole.set (by omega) _).trans (Whole.set (by omega) _), rfl, HA.out, c1, c2, (g4.setCell (p := ⟨w.heap.size + 1 + 1, 0, none⟩) (by simp; omega) _).setCell (p := ⟨w.heap.size + 1 + 1 + 1, 0, none⟩) (by simp; omega) _⟩
   have t1 : decide (x.1 ≤ a1) = true := decide_eq_true hx1
   have t2 : decide (a1 < x.2) = false := decide_eq_false hx2
   have ha : Non a1 (pre ++ [x]) := by unfold Non at g0 ⊢; rw [List.any_append, g0]; simp [inside, t2]
   have HA := am ha
   clear ha
   gi_wp2
   exact ⟨Whole.refl _ _, Keep.refl _ _ _, HA.out, g1, g2, g3, g4⟩
  have t1 : decide (x.1 ≤ a1) = false := decide_eq_false hx1
  have ha : Non a1 (pre ++ [x]) := by unfold Non at g0 ⊢; rw [List.any_append, g0]; simp [inside, t1]
  have HA := am ha
  clear ha
  gi_wp2
  exact ⟨Whole.refl _ _, Keep.refl _ _ _, HA.out, g1, g2, g3, g4⟩
 case done =>
  rintro D W' hD ⟨g0, g1, g2, g3, g4⟩ hDd
  have q4 := (bc g2 0).trans rfl
  have q5 := (bc g3 0).trans rfl
  have f4 := bf g2 0
  have f5 := bf g3 0
  gi_wp2
  obtain ⟨c1, c2⟩ := put_two (x := .bool false) (y := .int .i64 0) (by omega : w.heap.size + 1 + 1 ≠ w.heap.size + 1 + 1 + 1) q4 q5
  have hn := HN.out
  unfold Non at g0
  obtain ⟨rfl, rfl⟩ : r1 = false ∧ r2 = 0 := by
   simp only [openR, g0, Prod.mk.injEq] at hn
   exact ⟨hn.1.symm, hn.2.symm⟩
  have hd2 := set_other (u := .int .i64 0) (g := w.heap.size + 1 + 1 + 1) (by omega) (set_other (u := .bool false) (g := w.heap.size + 1 + 1) (by omega) hDd)
  refine leave_two_b (fn := Try.f27) rfl rfl rfl c1 c2 hd2 ⟨rfl, ?_⟩
  exact ((g4.setCell (p := ⟨w.heap.size + 1 + 1, 0, none⟩) (by simp; omega) _).setCell (p := ⟨w.heap.size + 1 + 1 + 1, 0, none⟩) (by simp; omega) _).trans (belowK_b (w := w) (Nat.le_refl _) _ D _ _ (by omega) hd2 rfl rfl)
 case stop =>
  rintro D c pre W' hD hp ⟨rfl, g1, g2, g3, g4⟩ hDd
  gi_wp2
  have hn := HN.out
  obtain ⟨l, hl⟩ := hp
  obtain ⟨rfl, rfl⟩ : r1 = true ∧ r2 = 0 := by
   simp only [openR, ← hl, List.any_append, g1, Bool.true_or, Prod.mk.injEq] at hn
   exact ⟨hn.1.symm, hn.2.symm⟩
  refine leave_two_b (fn := Try.f27) rfl rfl rfl g2 g3 hDd ⟨rfl, ?_⟩
  exact g4.trans (belowK_b (w := w) (Nat.le_refl _) _ D _ _ (by omega) hDd rfl rfl)
end

section
open Go.Proofs.Ytpjgmlnnhcnelaa.Iter Go.Proofs.YtpjgmlnnhcnelaaW.PrintMore
attribute [local go_sem] max2_int min2_int max_two min_two Oper.semAt_some
set_option linter.unusedVariables false
set_option linter.unusedSimpArgs false
def workF (z : Int) : Int → List (Int × Int) → Int
 | s, [] => s
 | s, x :: l => if x.1 ≥ z then s else workF z (wrap64 (s + wrap64 (mn x.2 z - x.1))) l
def shift_Work.f (k : Nat) (l0_0 : List S54) (l0_1 : List Int) (a1 a2 : Int) : Option (Int × Int) :=
 (shift_minutes.f k l0_0 l0_1 [a1, a2]).bind fun e => if e = 0 then (if a1 > a2 then some (0, 6) else if okB l0_0 l0_1 = true ∧ 0 ≤ a1 ∧ a1 ≤ 14400000 then some (workF a2 0 (rngL l0_0 l0_1 a1), 0) else none) else some (0, e)
def Upto (z : Int) (pre : List (Int × Int)) (s : Int) : Prop := ∀ rest, workF z 0 (pre ++ rest) = workF z s rest
def Stop (z : Int) (pre : List (Int × Int)) (s : Int) : Prop := ∀ rest, workF z 0 (pre ++ rest) = s
theorem leave_tmps {fn : Func} {p q : Tmp} (h : fn.results = #[.tmp p, .tmp q]) {n : Nat} {tmps : Array Value} {W : World} {D : Nat} {R : Ending → World → Prop}
  (hD : W.heap[D]? = some (.deferred (some []))) (hR : R (.returned (.tuple #[tmps.getD p undef, tmps.getD q undef])) (W.putObj D (.deferred none))) : LeavesInM Fence.wide n Try.prog fn tmps R [{ target := .collected D, args := #[] }] .returning W :=
 ⟨by simp, .inl ⟨D, _, rfl, run_takeDeferred hD, _, results_tmp2 h _ _ _, hR⟩⟩
set_option maxRecDepth 100000 in
set_option maxHeartbeats 4000000 in
theorem shift_Work.calls (k : Nat) (A0_0 : Option Addr) (c0_0 : Nat) (l0_0 : List S54) (A0_1 : Option Addr) (c0_1 : Nat) (l0_1 : List Int) (a1 a2 : Int) (r1 r2 : Int) (w : World) (hr0_0 : Kd.C k54 w A0_0 l0_0.length l0_0) (hc0_0 : l0_0.length ≤ c0_0) (hr0_1 : Kd.C (Kd.int .i64) w A0_1 l0_1.length l0_1) (hc0_1 : l0_1.length ≤ c0_1) (h : shift_Work.f k l0_0 l0_1 a1 a2 = some (r1, r2)) :
  Calls Try.prog 13 #[.agg #[.slice A0_0 l0_0.length c0_0, .slice A0_1 l0_1.length c0_1], .int .i64 a1, .int .i64 a2] w fun e w' => e = .returned (.tuple #[.int .i64 r1, .int .i64 r2]) ∧ Below w.heap.size w w' := by
 have hu31 := Try.underlying31
 obtain ⟨e, h1, h2⟩ := Option.bind_eq_some_iff.1 h
 have HR0 := am hr0_0
 have HR1 := am hr0_1
 have HM := am h1
 clear hr0_0 hr0_1 h1 h
 refine callsIn_wide.1 (callsIn_of_wp_marks (n := 9) Try.func13 rfl trivial ?_ rfl)
 simp only [Try.ntmps13, List.size_toArray, List.length_cons, List.length_nil, Nat.reduceAdd, Nat.reduceSub, Array.replicate_succ, Array.replicate_zero, List.push_toArray, List.append_toArray, List.nil_append, List.cons_append]
 obtain ⟨Wn, hWn⟩ : ∃ Wn, Wn = (((w.alloc (Obj.cells #[Value.slice A0_0 l0_0.length c0_0, Value.slice A0_1 l0_1.length c0_1] 31)).alloc (Obj.cells #[Value.int IntKind.i64 a2] 3)).alloc (Obj.cells #[Value.int IntKind.i64 a1, Value.int IntKind.i64 a2] 3)) := ⟨_, rfl⟩
 have hWa : Wn = allocs w [Obj.cells #[Value.slice A0_0 l0_0.length c0_0, Value.slice A0_1 l0_1.length c0_1] 31, Obj.cells #[Value.int IntKind.i64 a2] 3, Obj.cells #[Value.int IntKind.i64 a1, Value.int IntKind.i64 a2] 3] := hWn
 have hbn : Below w.heap.size w Wn := by rw [hWa]; exact allocs_below _ _
 have szn : Wn.heap.size = w.heap.size + 3 := by rw [hWa]; exact allocs_size _ _
 have hz2 : Wn.heap[w.heap.size]? = some (.cells #[.slice A0_0 l0_0.length c0_0, .slice A0_1 l0_1.length c0_1] 31 (0, 0)) := by rw [hWa]; exact allocs_get w _ 0 _ rfl
 have hz3 : Wn.heap[w.heap.size + 1]? = some (.cells #[.int .i64 a2] 3 (0, 0)) := by rw [hWa]; exact allocs_get w _ 1 _ rfl
 have hg : Wn.heap[w.heap.size + 1 + 1]? = some (.cells #[.int .i64 a1, .int .i64 a2] 3 (0, 0)) := by rw [hWa]; exact allocs_get w _ 2 _ rfl
 have hcon := (callsIn_wide (n := 8)).2 (shift_minutes.calls k A0_0 c0_0 l0_0 A0_1 c0_1 l0_1 (some ⟨w.heap.size + 1 + 1, 0, none⟩) 2 [a1, a2] e Wn (Kd.C_below HR0.out hbn) hc0_0 (Kd.C_below HR1.out hbn) hc0_1 (ints_C .i64 [a1, a2] hg rfl (by simp)) (by simp) HM.out)
 have HC := am hcon
 have HBN := am hbn
 have Z2 := am hz2
 have Z3 := am hz3
 have SZ := am szn
 clear hcon hbn hg hz2 hz3 szn hWa
 by_cases he : e = 0
 rotate_left
 ·rw [if_neg he] at h2
  have he1 : (e == 0) = false := beq_eq_false_iff_ne.2 he
  have he2 : (e != 0) = true := bne_iff_ne.2 he
  have HE := am he
  clear he
  gi_wp2_with (refine ⟨trivial, ?_⟩; gi_at_call 35; rw [← hWn]; refine HC.out.mono ?_; rintro e' w' ⟨rfl, hb⟩; have HB := am hb; clear hb)
  obtain ⟨rfl, rfl⟩ : r1 = 0 ∧ r2 = e := by
   have := Option.some.inj h2
   simp only [Prod.mk.injEq] at this
   exact ⟨this.1.symm, this.2.symm⟩
  exact ⟨_, results_tmp2 (fn := Try.f13) rfl _ _ _, rfl, HBN.out.trans (HB.out.mono HBN.out.size)⟩
 subst he
 rw [if_pos rfl] at h2
 by_cases hgt : a1 > a2
 ·rw [if_pos hgt] at h2
  have hgt1 : decide (a2 < a1) = true := decide_eq_true hgt
  gi_wp2_with (refine ⟨trivial, ?_⟩; gi_at_call 35; rw [← hWn]; refine HC.out.mono ?_; rintro e' w' ⟨rfl, hb⟩; have q1 := (bc (bb Z3.out hb) 0).trans rfl; have HB := am hb; clear hb)
  obtain ⟨rfl, rfl⟩ : r1 = 0 ∧ r2 = 6 := by
   have := Option.some.inj h2
   simp only [Prod.mk.injEq] at this
   exact ⟨this.1.symm, this.2.symm⟩
  exact ⟨_, results_tmp2 (fn := Try.f13) rfl _ _ _, rfl, HBN.out.trans (HB.out.mono HBN.out.size)⟩
 rw [if_neg hgt] at h2
 split at h2
 case isFalse => exact absurd h2 (by simp)
 case isTrue hok =>
 obtain ⟨hok, ha0, ha1⟩ := hok
 obtain ⟨o1, o2, o3, o4⟩ := okB_is hok
 have h2' := Option.some.inj h2
 have HN := am h2'
 have HV := am o3
 clear h2 h2' o3 hok
 gi_wp2_with (first | (refine ⟨trivial, ?_⟩; gi_at_call 35; rw [← hWn]; refine HC.out.mono ?_; rintro e' w' ⟨rfl, hb⟩; have q2 := (bc (bb Z2.out hb) 0).trans rfl; have q3 := (bc (bb Z2.out hb) 1).trans rfl; have q1 := (bc (bb Z3.out hb) 0).trans rfl; have p2 := cell_kept q2 (World.grownBy_alloc w' (.cells #[.int .i64 0] 3) none) (fun r e => by cases e); have p3 := cell_kept q3 (World.grownBy_alloc w' (.cells #[.int .i64 0] 3) none) (fun r e => by cases e); have HB := am hb; clear hb) | (refine ⟨trivial, ?_⟩; gi_at_call 36; refine ((callsIn_wide (n := 8)).2 (ranges_calls _ _ _ _ _ _ _ _)).mono ?_; rintro e' w2 ⟨rfl, rfl⟩))
 have sW : w.heap.size + 3 ≤ w'.heap.size := by have := HB.out.size; have := SZ.out; omega
 have hb1 : Below w.heap.size w w' := HBN.out.trans (HB.out.mono HBN.out.size)
 obtain ⟨Wr, hWr⟩ : ∃ Wr, Wr = ((w'.alloc (Obj.cells #[Value.int IntKind.i64 0] 3)).alloc (Obj.cells #[Value.slice A0_0 l0_0.length c0_0, Value.slice A0_1 l0_1.length c0_1] 31)).alloc (Obj.cells #[Value.int IntKind.i64 a1] 3) := ⟨_, rfl⟩
 have hWra : Wr = allocs w' [Obj.cells #[Value.int IntKind.i64 0] 3, Obj.cells #[Value.slice A0_0 l0_0.length c0_0, Value.slice A0_1 l0_1.length c0_1] 31, Obj.cells #[Value.int IntKind.i64 a1] 3] := hWr
 have szr : Wr.heap.size = w'.heap.size + 3 := by rw [hWra]; exact allocs_size _ _
 have br : Below w'.heap.size w' Wr := by rw [hWra]; exact allocs_below _ _
 have m0 : Wr.heap[w'.heap.size]? = some (.cells #[.int .i64 0] 3 (0, 0)) := by rw [hWra]; exact allocs_get w' _ 0 _ rfl
 have m1 : Wr.heap[w'.heap.size + 1]? = some (.cells #[.slice A0_0 l0_0.length c0_0, .slice A0_1 l0_1.length c0_1] 31 (0, 0)) := by rw [hWra]; exact allocs_get w' _ 1 _ rfl
 have m2 : Wr.heap[w'.heap.size + 1 + 1]? = some (.cells #[.int .i64 a1] 3 (0, 0)) := by rw [hWra]; exact allocs_get w' _ 2 _ rfl
 rw [← hWr]
 have r3 := bb (bb Z3.out HB.out) br
 have bwr : Below w.heap.size w Wr := hb1.trans (br.mono hb1.size)
 have keep : ∀ {A B' : World} {row : Option Nat}, A.grownBy B' row → (∀ r, row = some r → Wr.heap.size ≤ r ∧ ∃ o : Obj, A.heap[r]? = some o ∧ o.isCells = false) → ∀ {q : Nat} {o : Obj}, q < Wr.heap.size → A.heap[q]? = some o → B'.heap[q]? = some o :=
  fun {A B' row} hg hr {q o} hq ho => ownFrom_rec (β := Unit) (B := Wr.heap.size) (k := q) (by omega) o () A B' row ho hg hr
 clear q1 q2 q3 p2 p3 hWra
 refine range_O (by omega) rfl rfl (enters_of Try.func50 (by kernel_rfl) rfl)
  (ranges50 w w.heap.size (w'.heap.size + 1) (Nat.le_refl _) (by omega) A0_0 A0_1 c0_0 c0_1 l0_0 l0_1 a1 HR0.out hc0_0 HR1.out hc0_1 (by omega) o4 (by omega) HV.out ha0 ha1 (w'.heap.size + 1) (w'.heap.size + 1 + 1) (.inr (Nat.le_refl _)) (.inr (by omega)) Wr (by omega) m1 m2 bwr) (by omega) (fun _ => rfl)
  (fun pre W' => ∃ s, Upto a2 pre s ∧ W'.heap[w.heap.size + 1]? = some (.cells #[.int .i64 a2] 3 (0, 0)) ∧ W'.heap[w'.heap.size]? = some (.cells #[.int .i64 s] 3 (0, 0)) ∧ Below w.heap.size w W')
  (fun c pre W' => c = .exit 0 ∧ ∃ s, Stop a2 pre s ∧ W'.heap[w'.heap.size]? = some (.cells #[.int .i64 s] 3 (0, 0)) ∧ Below w.heap.size w W')
  ?oI ?oIx ⟨0, fun rest => rfl, r3, m0, bwr⟩ (fun x => { tmps := #[.agg #[.slice A0_0 l0_0.length c0_0, .slice A0_1 l0_1.length c0_1], .int .i64 a1, .int .i64 a2, .pointer (some ⟨w.heap.size, 0, none⟩), undef, .pointer (some ⟨w.heap.size + 1, 0, none⟩), .int .i64 0, .int .i64 0, .int .i64 0, .pointer (some ⟨w'.heap.size, 0, none⟩), .int .i64 x.1, .int .i64 x.2, .agg #[.slice A0_0 l0_0.length c0_0, .slice A0_1 l0_1.length c0_1], .int .i64 a1, .int .i64 a2, .slice (some ⟨w.heap.size + 1 + 1, 0, none⟩) 2 2, .int .i64 0, .int .i64 0, .bool false, undef, .int .i64 a1, .int .i64 a2, .bool (decide (a2 < a1)), .agg #[.slice A0_0 l0_0.length c0_0, .slice A0_1 l0_1.length c0_1], .int .i64 a1, .func (.func 50) #[] #[.pointer (some ⟨w'.heap.size + 1 + 1, 0, none⟩), .pointer (some ⟨w'.heap.size + 1, 0, none⟩)], .int .i64 x.1, .int .i64 x.2, undef, undef, undef, undef, undef, undef, undef, undef, undef, undef, undef], defers := [] }) ?assign ?body ?done ?stop
 case oI =>
  intro s A B' row hs hg hr
  obtain ⟨z, g0, g1, g2, g3⟩ := hs
  exact ⟨z, g0, keep hg hr (by omega) g1, keep hg hr (by omega) g2, ownFrom_below (Nat.le_refl _) (by omega) s A B' row g3 hg hr⟩
 case oIx =>
  intro c s A B' row hs hg hr
  obtain ⟨g0, z, g1, g2, g3⟩ := hs
  exact ⟨g0, z, g1, keep hg hr (by omega) g2, ownFrom_below (Nat.le_refl _) (by omega) s A B' row g3 hg hr⟩
 case assign =>
  intro l' x W' K hK
  simp only [enc2]
  gi_wp2
  exact hK
 case body =>
  rintro l' pre x W' hl' hrec ⟨z, g0, g1, g2, g3⟩ hpx
  have q1 := (bc g1 0).trans rfl
  have q4 := (bc g2 0).trans rfl
  have f4 := bf g2 0
  by_cases hx : x.1 ≥ a2
  ·have t1 : decide (a2 ≤ x.1) = true := decide_eq_true hx
   have hs : Stop a2 (pre ++ [x]) z := by
    intro rest
    rw [List.append_assoc, g0]
    show workF a2 z (x :: rest) = z
    rw [workF, if_pos hx]
   have HS := am hs
   clear hs
   gi_wp2
   exact ⟨Whole.refl _ _, rfl, z, HS.out, g2, g3⟩
  have t1 : decide (a2 ≤ x.1) = false := decide_eq_false hx
  have hu : Upto a2 (pre ++ [x]) (wrap64 (z + wrap64 (mn x.2 a2 - x.1))) := by
   intro rest
   rw [List.append_assoc, g0]
   show workF a2 z (x :: rest) = _
   rw [workF, if_neg hx]
  have HU := am hu
  clear hu
  by_cases hm : x.2 ≤ a2
  ·have hmn : mn x.2 a2 = x.2 := by unfold mn; split <;> omega
   rw [hmn] at HU
   have hm3 : decide (x.2 ≤ a2) = true := decide_eq_true hm
   clear hmn
   gi_wp2
   refine ⟨Whole.set (by omega) _, ⟨(Below.refl _ W').setCell (p := ⟨w'.heap.size, 0, none⟩) (by simp; omega) _, fun q o hq ho hc => set_other (by omega) ho⟩, _, HU.out, set_other (by omega) g1, ?_, g3.setCell (p := ⟨w'.heap.size, 0, none⟩) (by simp; omega) _⟩
   exact set_same g2
  have hmn : mn x.2 a2 = a2 := by unfold mn; split <;> omega
  rw [hmn] at HU
  have hm3 : decide (x.2 ≤ a2) = false := decide_eq_false hm
  clear hmn
  gi_wp2
  refine ⟨Whole.set (by omega) _, ⟨(Below.refl _ W').setCell (p := ⟨w'.heap.size, 0, none⟩) (by simp; omega) _, fun q o hq ho hc => set_other (by omega) ho⟩, _, HU.out, set_other (by omega) g1, ?_, g3.setCell (p := ⟨w'.heap.size, 0, none⟩) (by simp; omega) _⟩
  exact set_same g2
 case done =>
  rintro D W' hD ⟨z, g0, g1, g2, g3⟩ hDd
  have q4 := (bc g2 0).trans rfl
  gi_wp2
  have hn := HN.out
  have hz := g0 []
  rw [List.append_nil] at hz
  obtain ⟨rfl, rfl⟩ : r1 = z ∧ r2 = 0 := by
   simp only [Prod.mk.injEq] at hn
   exact ⟨by rw [← hn.1, hz]; rfl, hn.2.symm⟩
  refine leave_tmps (fn := Try.f13) rfl hDd ⟨rfl, ?_⟩
  exact g3.trans (belowK_b (w := w) (Nat.le_refl _) _ D _ _ (by omega) hDd rfl rfl)
 case stop =>
  rintro D c pre W' hD hp ⟨rfl, z, g1, g2, g3⟩ hDd
  have q4 := (bc g2 0).trans rfl
  gi_wp2
  have hn := HN.out
  obtain ⟨l, hl⟩ := hp
  have hz := g1 l
  rw [hl] at hz
  obtain ⟨rfl, rfl⟩ : r1 = z ∧ r2 = 0 := by
   simp only [Prod.mk.injEq] at hn
   exact ⟨by rw [← hn.1, hz], hn.2.symm⟩
  refine leave_tmps (fn := Try.f13) rfl hDd ⟨rfl, ?_⟩
  exact g3.trans (belowK_b (w := w) (Nat.le_refl _) _ D _ _ (by omega) hDd rfl rfl)
end

end Go.Proofs.Ytpjgmlnnhcnelaa.QA
