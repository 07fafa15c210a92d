import Derived.Test.YtmmdikhmlmoolaaZQAx0
import Derived.Test.YtmmdikhmlmoolaaZQAx3
import Derived.Test.YtmmdikhmlmoolaaZQAx4
import Derived.Test.YtmmdikhmlmoolaaZRegInv
import Derived.LoopN
import Derived.StillTailTactics
namespace Go.Proofs.Ytmmdikhmlmoolaa.QA
open Go.RowKit Go.Proofs.YtmmdikhmlmoolaaW.PrintWords Go.Proofs.YtmmdikhmlmoolaaW.PrintLast Go.Proofs.YtmmdikhmlmoolaaW.PrintMore
open Go.Proofs.YtmmdikhmlmoolaaW.PrintWords renaming blk_drew → bd, blk_alloc → ba, below_alloc → wa, below_drew1 → wd, below_set → ws, blk_below → bb, blk_far → bF, blk_lt → bl
open Aside0 renaming mk → am
attribute [local go_sem] max2_int min2_int max_two min_two max_three min_three max_four min_four
set_option linter.unusedVariables false
set_option linter.unusedSimpArgs false

section
open Go.Proofs.Ytmmdikhmlmoolaa.RegInv
attribute [local go_sem] max2_int min2_int max_two min_two Oper.semAt_some
def nb (k : Nat) (l0 l1 l2 l3 l4 l5 lo hi : Int) : S25 := if k = 0 then (⟨⟨lo, l2, l4⟩, ⟨hi, l3, l5⟩⟩ : S25) else if k = 1 then (⟨⟨l0, lo, l4⟩, ⟨l1, hi, l5⟩⟩ : S25) else (⟨⟨l0, l2, lo⟩, ⟨l1, l3, hi⟩⟩ : S25)
theorem info25' : (Try.prog.info? 25).map (fun i => (i.zero, i.size, i.bytes)) = some (some (.agg #[.int .i64 0, .int .i64 0, .int .i64 0, .int .i64 0, .int .i64 0, .int .i64 0]), 6, 48) := by kernel_rfl
theorem one_C {W : World} {g : Nat} {t : TypeId} (x : S25) (h : W.heap[g]? = some (Obj.cells #[.int .i64 x.f0.f0, .int .i64 x.f0.f1, .int .i64 x.f0.f2, .int .i64 x.f1.f0, .int .i64 x.f1.f1, .int .i64 x.f1.f2] t (0, 0))) : Kd.C k25 W (some ⟨g, 0, none⟩) 1 [x] := by
 refine ⟨rfl, by decide, fun _ => ⟨_, rfl, fun j p hp => ?_⟩⟩
 match j with
 | 0 =>
  obtain rfl : x = p := by simpa using hp
  refine ⟨_, rfl, k25_mk W x, fun i u hu => ?_⟩
  match i with
  | 0 | 1 | 2 | 3 | 4 | 5 => simp at hu; subst hu; exact (blk_cell h _).trans rfl
  | i + 6 => simp at hu
 | j + 1 => simp at hp
theorem one_R {w0 W : World} (x : S25) (hb : w0.heap.size ≤ W.heap.size) : Kd.R k25 25 (W.alloc (.cells #[.int .i64 x.f0.f0, .int .i64 x.f0.f1, .int .i64 x.f0.f2, .int .i64 x.f1.f0, .int .i64 x.f1.f1, .int .i64 x.f1.f2] 25)) w0.heap.size (fun _ => True) (.slice (some ⟨W.heap.size, 0, none⟩) 1 1) [x] := by
 refine ⟨fun k hk => trivial, [.int .i64 x.f0.f0, .int .i64 x.f0.f1, .int .i64 x.f0.f2, .int .i64 x.f1.f0, .int .i64 x.f1.f1, .int .i64 x.f1.f2], ?_, rfl, fun j p hp => ?_⟩
 rotate_left
 ·match j with
  | 0 =>
   obtain rfl : x = p := by simpa using hp
   exact k25_mkM _ _ _ x
  | j + 1 => simp at hp
 have h2 := World.ownsRow_lit (base := w0.heap.size) (e := 25) (size := k25.sz) W #[.int .i64 x.f0.f0, .int .i64 x.f0.f1, .int .i64 x.f0.f2, .int .i64 x.f1.f0, .int .i64 x.f1.f1, .int .i64 x.f1.f2] 1 hb (by simp [maxLen]) rfl
 simpa using h2
def PutPost (w0 W : World) (g5 : Nat) (okp : Nat → Prop) (xs : List S25) (e : Ending) (w' : World) : Prop := e = .returned (.tuple #[]) ∧ ∃ v' : Value, w'.heap[g5]? = some (Obj.cells #[v'] 26 (0, 0)) ∧ Kd.R k25 25 w' w0.heap.size okp v' xs ∧ Below w0.heap.size w0 w' ∧ ∀ g o, W.heap[g]? = some o → g ≠ g5 → ¬ okp g → w'.heap[g]? = some o
set_option maxHeartbeats 4000000 in
set_option maxRecDepth 100000 in
theorem put_calls0 (lo hi : Int) (g6 g5 : Nat) (l0 l1 l2 l3 l4 l5 : Int) (v : Value) (xs : List S25) (w0 W : World) (okp : Nat → Prop) (hg : g5 ≠ g6) (hlen : xs.length < 1000) (hb : Below w0.heap.size w0 W) (h5 : w0.heap.size ≤ g5) (b6 : W.heap[g6]? = some (Obj.cells #[.int .i64 l0, .int .i64 l1, .int .i64 l2, .int .i64 l3, .int .i64 l4, .int .i64 l5] 73 (0, 0))) (b5 : W.heap[g5]? = some (Obj.cells #[v] 26 (0, 0))) (hR : Kd.R k25 25 W w0.heap.size okp v xs) (hok5 : ∀ k, okp k → k ≠ g5) (hfresh : ∀ k, W.heap.size ≤ k → okp k) (hlt : lo < hi) :
  Calls Try.prog 69 #[.int .i64 0, .int .i64 lo, .int .i64 hi, .pointer (some ⟨g6, 0, none⟩), .pointer (some ⟨g5, 0, none⟩)] W (PutPost w0 W g5 okp (xs ++ [(⟨⟨lo, l2, l4⟩, ⟨hi, l3, l5⟩⟩ : S25)])) := by
 have hu25 := Try.underlying25
 have hu26 := Try.underlying26
 have hu73 := Try.underlying73
 have hu72 := Try.underlying72
 have hl : decide (lo < hi) = true := decide_eq_true hlt
 obtain ⟨p0, p1, p2, p3, p4, p5⟩ := RegInv.cells6 b6
 have KP := am (show ∀ g o, W.heap[g]? = some o → g ≠ g5 → ¬ okp g → W.heap[g]? = some o from fun _ _ h _ _ => h)
 have B5 := am b5
 have HR := am hR
 have HB := am hb
 have OK := am (And.intro hok5 hfresh)
 have h5s := bl b5
 clear hlt b5 hR hb b6 hok5 hfresh
 go_enter Try.func69, Try.ntmps69
 go_wp2_with fail
 have KS := am (blk_new W (.cells #[.int .i64 lo, .int .i64 hi, .int .i64 l2, .int .i64 l3, .int .i64 l4, .int .i64 l5] 73))
 have HJ := am (fun W => box_join.calls lo hi l2 l3 l4 l5 lo l2 l4 hi l3 l5 W rfl)
 replace B5 := am (ba B5.out (.cells #[.int .i64 lo, .int .i64 hi, .int .i64 l2, .int .i64 l3, .int .i64 l4, .int .i64 l5] 73))
 replace KP := am (show ∀ g o, W.heap[g]? = some o → g ≠ g5 → ¬ okp g → (W.alloc (.cells #[.int .i64 lo, .int .i64 hi, .int .i64 l2, .int .i64 l3, .int .i64 l4, .int .i64 l5] 73)).heap[g]? = some o from fun g o h _ _ => ba h _)
 replace HR := am (Kd.R_alloc HR.out (.cells #[.int .i64 lo, .int .i64 hi, .int .i64 l2, .int .i64 l3, .int .i64 l4, .int .i64 l5] 73))
 replace HB := am (wa HB.out (.cells #[.int .i64 lo, .int .i64 hi, .int .i64 l2, .int .i64 l3, .int .i64 l4, .int .i64 l5] 73))
 have szA : W.heap.size < (W.alloc (.cells #[.int .i64 lo, .int .i64 hi, .int .i64 l2, .int .i64 l3, .int .i64 l4, .int .i64 l5] 73)).heap.size := by simp
 have FR := am (show ∀ k, (W.alloc (.cells #[.int .i64 lo, .int .i64 hi, .int .i64 l2, .int .i64 l3, .int .i64 l4, .int .i64 l5] 73)).heap.size ≤ k → okp k from fun k hk => OK.out.2 k (by simp at hk; omega))
 clear p0 p1 p2 p3 p4 p5
 generalize W.alloc (.cells #[.int .i64 lo, .int .i64 hi, .int .i64 l2, .int .i64 l3, .int .i64 l4, .int .i64 l5] 73) = V at KS B5 KP HR HB szA FR ⊢
 have OK5 := am OK.out.1
 clear OK
 refine RegInv.region_inv (fun f a W' => ∃ s18 s19 s20 s21 s22 : Value, a = { tmps := #[.int .i64 0, .int .i64 lo, .int .i64 hi, .pointer (some ⟨g6, 0, none⟩), .pointer (some ⟨g5, 0, none⟩), undef, undef, undef, .pointer (some ⟨W.heap.size, 0, none⟩), .int .i64 lo, .int .i64 hi, .bool true, .agg #[.int .i64 l0, .int .i64 l1, .int .i64 l2, .int .i64 l3, .int .i64 l4, .int .i64 l5], .int .i64 0, .int .i64 lo, .int .i64 hi, .agg #[.int .i64 lo, .int .i64 hi], .pointer (some ⟨W.heap.size, 0, none⟩), s18, s19, s20, s21, s22], defers := [] } ∧ (f 0 = true → s18 = v) ∧ (f 1 = true → s19 = .agg #[.int .i64 lo, .int .i64 hi, .int .i64 l2, .int .i64 l3, .int .i64 l4, .int .i64 l5]) ∧ (f 2 = true → s20 = .agg #[.int .i64 lo, .int .i64 l2, .int .i64 l4, .int .i64 hi, .int .i64 l3, .int .i64 l5]) ∧ (f 3 = true → ∃ gl, s21 = .slice (some ⟨gl, 0, none⟩) 1 1 ∧ (f 4 = false → W'.heap[gl]? = some (Obj.cells #[.int .i64 lo, .int .i64 l2, .int .i64 l4, .int .i64 hi, .int .i64 l3, .int .i64 l5] 25 (0, 0)))) ∧ (f 5 = true → f 4 = true) ∧ (f 4 = true → f 3 = true ∧ f 0 = true) ∧ Kd.R k25 25 W' w0.heap.size okp (if f 4 = true then s22 else v) (if f 4 = true then xs ++ [(⟨⟨lo, l2, l4⟩, ⟨hi, l3, l5⟩⟩ : S25)] else xs) ∧ W'.heap[g5]? = some (Obj.cells #[if f 5 = true then s22 else v] 26 (0, 0)) ∧ W'.heap[W.heap.size]? = some (Obj.cells #[.int .i64 lo, .int .i64 hi, .int .i64 l2, .int .i64 l3, .int .i64 l4, .int .i64 l5] 73 (0, 0)) ∧ Below w0.heap.size w0 W' ∧ (∀ g o, W.heap[g]? = some o → g ≠ g5 → ¬ okp g → W'.heap[g]? = some o) ∧ V.heap.size ≤ W'.heap.size) (by kernel_rfl) (by kernel_rfl) ?h0 ?hstep ?hend
 case h0 => exact ⟨_, _, _, _, _, rfl, nofun, nofun, nofun, nofun, nofun, nofun, Kd.R_drew HR.out, bd B5.out, bd KS.out, wd HB.out, fun g o h1 h2 h3 => bd (KP.out g o h1 h2 h3), Nat.le_refl _⟩
 case hstep =>
  clear KS B5 KP HR HB
  intro i o ho f a W' hI hfi hdep K hK
  obtain ⟨s18, s19, s20, s21, s22, rfl, h0, h1, h2, h3, d5, d4, r, k5, ks, hb, kp, sz⟩ := hI
  have HK := am hK
  clear hK
  rcases i with _ | _ | _ | _ | _ | _ | i
  all_goals (first | obtain rfl := Option.some.inj ho | skip)
  all_goals have A := am (And.intro h0 (And.intro h1 (And.intro h2 (And.intro h3 (And.intro d5 (And.intro d4 (And.intro r (And.intro k5 (And.intro ks (And.intro hb (And.intro kp hdep)))))))))))
  all_goals clear h0 h1 h2 h3 d5 d4 r k5 ks hb kp hdep
  ·obtain ⟨h0, h1, h2, h3, d5, d4, r, k5, ks, hb, kp, hdep⟩ := A.out
   have n4 : ¬ f 4 = true := fun h => by rw [(d4 h).2] at hfi; cases hfi
   have c5 := k5
   rw [if_neg (fun h => n4 (d5 h))] at c5
   have c50 := (blk_cell c5 0).trans rfl
   clear h0 h1 h2 h3 d5 d4 r k5 ks hb kp hdep c5 n4
   go_wp2_with fail
   obtain ⟨h0, h1, h2, h3, d5, d4, r, k5, ks, hb, kp, hdep⟩ := A.out
   exact HK.out _ _ ⟨_, _, _, _, _, rfl, fun _ => rfl, h1, h2, h3, d5, fun h => ⟨(d4 h).1, rfl⟩, r, k5, ks, hb, kp, sz⟩
  ·obtain ⟨p0, p1, p2, p3, p4, p5⟩ := RegInv.cells6 A.out.2.2.2.2.2.2.2.2.1
   go_wp2_with fail
   obtain ⟨h0, h1, h2, h3, d5, d4, r, k5, ks, hb, kp, hdep⟩ := A.out
   exact HK.out _ _ ⟨_, _, _, _, _, rfl, h0, fun _ => rfl, h2, h3, d5, d4, r, k5, ks, hb, kp, sz⟩
  ·obtain ⟨h0, h1, h2, h3, d5, d4, r, k5, ks, hb, kp, hdep⟩ := A.out
   obtain rfl := h1 (hdep { on := 1, ground := .data } (by simp) rfl)
   clear h0 h1 h2 h3 d5 d4 r k5 ks hb kp hdep
   go_wp2_with (go_at_call 54; refine (HJ.out _).mono ?_; rintro e w2 ⟨rfl, hb2⟩; have HB2 := am hb2; clear hb2)
   obtain ⟨h0, h1, h2, h3, d5, d4, r, k5, ks, hb, kp, hdep⟩ := A.out
   have hb2 := HB2.out
   exact HK.out _ _ ⟨_, _, _, _, _, rfl, h0, fun _ => rfl, fun _ => rfl, (fun h => by obtain ⟨gl, e1, e2⟩ := h3 h; exact ⟨gl, e1, fun h4 => bb (e2 h4) hb2⟩), d5, d4, Kd.R_below r hb2, bb k5 hb2, bb ks hb2, below_step hb hb2, fun g o x1 x2 x3 => bb (kp g o x1 x2 x3) hb2, Nat.le_trans sz hb2.size⟩
  ·obtain ⟨h0, h1, h2, h3, d5, d4, r, k5, ks, hb, kp, hdep⟩ := A.out
   obtain rfl := h2 (hdep { on := 2, ground := .data } (by simp) rfl)
   have n4 : ¬ f 4 = true := fun h => by rw [(d4 h).1] at hfi; cases hfi
   clear h0 h1 h2 h3 d5 d4 r k5 ks hb kp hdep
   go_wp2_with fail
   obtain ⟨h0, h1, h2, h3, d5, d4, r, k5, ks, hb, kp, hdep⟩ := A.out
   exact HK.out _ _ ⟨_, _, _, _, _, rfl, h0, h1, fun _ => rfl, (fun _ => ⟨W'.heap.size, rfl, fun _ => blk_new W' _⟩), d5, (fun h => absurd h n4), Kd.R_alloc r _, ba k5 _, ba ks _, wa hb _, fun g o x1 x2 x3 => ba (kp g o x1 x2 x3) _, Nat.le_trans sz (by simp)⟩
  ·obtain ⟨h0, h1, h2, h3, d5, d4, r, k5, ks, hb, kp, hdep⟩ := A.out
   have f0 := hdep { on := 0, ground := .data } (by simp) rfl
   have f3 := hdep { on := 3, ground := .data } (by simp) rfl
   obtain rfl := h0 f0
   obtain ⟨gl, rfl, hgl⟩ := h3 f3
   have hgl := hgl hfi
   have n4 : ¬ f 4 = true := by rw [hfi]; decide
   have n5 : ¬ f 5 = true := fun h => n4 (d5 h)
   rw [if_neg n4, if_neg n4] at r
   refine Kd.R_append_rows_step k25 (w0 := w0) w0.heap.size (by rfl) (.tmp 18) (.tmp 21) 26 25 (.agg #[(.int .i64 0), (.int .i64 0), (.int .i64 0), (.int .i64 0), (.int .i64 0), (.int .i64 0)]) 48 rfl Try.underlying26 info25' rfl (by decide) (by omega) _ xs [(⟨⟨lo, l2, l4⟩, ⟨hi, l3, l5⟩⟩ : S25)] _ 1 1 okp (fun _ => False) rfl rfl r (one_C (⟨⟨lo, l2, l4⟩, ⟨hi, l3, l5⟩⟩ : S25) hgl) (fun _ _ h => h) (fun _ h => h.elim) (fun k hk => FR.out k (Nat.le_trans sz hk)) hb hb.size (by omega) ?_
   intro v1 w1 hr1 hb1 hg1 hat1
   refine HK.out _ _ ⟨_, _, _, _, _, rfl, fun _ => rfl, h1, h2, (fun _ => ⟨gl, rfl, nofun⟩), (fun h => absurd h n5), (fun _ => ⟨f3, f0⟩), hr1, ?_, blk_grown ks hg1 (Kd.R_ne r ks (by decide)), hb1, fun g o x1 x2 x3 => blk_grown (kp g o x1 x2 x3) hg1 (fun e => x3 (r.1 g e.symm)), Nat.le_trans sz hg1.size⟩
   have k6 := blk_grown k5 hg1 (Kd.R_ne r k5 (by decide))
   rw [if_neg n5] at k6
   show w1.heap[g5]? = some (Obj.cells #[if f 5 = true then v1 else _] 26 (0, 0))
   rw [if_neg n5]
   exact k6
  ·obtain ⟨h0, h1, h2, h3, d5, d4, r, k5, ks, hb, kp, hdep⟩ := A.out
   have f4 := hdep { on := 4, ground := .data } (by simp) rfl
   have n5 : ¬ f 5 = true := by rw [hfi]; decide
   rw [if_neg n5] at k5
   rw [if_pos f4, if_pos f4] at r
   obtain ⟨Ar, cr, er⟩ := Kd.R_slice r
   obtain ⟨nn, hnn⟩ : ∃ n, n = (xs ++ [(⟨⟨lo, l2, l4⟩, ⟨hi, l3, l5⟩⟩ : S25)]).length := ⟨_, rfl⟩
   rw [← hnn] at er
   clear hnn
   subst er
   have c5 := (blk_cell k5 0).trans rfl
   have z5 := blk_frozen k5 0
   have A2 := am (And.intro r (And.intro k5 (And.intro f4 n5)))
   clear h0 h1 h2 h3 d5 d4 r k5 ks hb kp hdep f4 n5
   go_wp2_with fail
   obtain ⟨h0, h1, h2, h3, d5, d4, _, _, ks, hb, kp, hdep⟩ := A.out
   obtain ⟨r, k5, f4, n5⟩ := A2.out
   refine HK.out _ (W'.setCell ⟨g5, 0, none⟩ (.slice Ar nn cr)) ⟨s18, s19, s20, s21, (.slice Ar nn cr), rfl, h0, h1, h2, (fun h => by obtain ⟨gl, e1, e2⟩ := h3 h; exact ⟨gl, e1, fun h4 => absurd f4 (by show ¬ f 4 = true; rw [show f 4 = false from h4]; decide)⟩), (fun _ => f4), d4, ?_, ?_, bF ks (by simp; omega) _, ws hb h5, (fun g o x1 x2 x3 => (Below.heap_setCell W' ⟨g5, 0, none⟩ _ g (by simpa using x2)).trans (kp g o x1 x2 x3)), by simpa using sz⟩
   rotate_left
   ·show (W'.setCell ⟨g5, 0, none⟩ (.slice Ar nn cr)).heap[g5]? = some (Obj.cells #[if true = true then (.slice Ar nn cr) else v] 26 (0, 0))
    rw [if_pos rfl]
    exact blk_put k5 0 _ rfl
   show Kd.R k25 25 _ _ okp (if f 4 = true then (.slice Ar nn cr) else v) (if f 4 = true then _ else xs)
   rw [if_pos f4, if_pos f4]
   exact Kd.R_far r (p := ⟨g5, 0, none⟩) (fun k hk => OK5.out k hk) _
  simp at ho
 case hend =>
  clear KS B5 KP HR HB
  intro f a W' hI hall
  obtain ⟨s18, s19, s20, s21, s22, rfl, h0, h1, h2, h3, d5, d4, r, k5, ks, hb, kp, sz⟩ := hI
  rw [if_pos (hall 4 (by decide)), if_pos (hall 4 (by decide))] at r
  rw [if_pos (hall 5 (by decide))] at k5
  have Z := am (And.intro r (And.intro k5 (And.intro hb kp)))
  clear r k5 hb kp h0 h1 h2 h3 d5 d4 ks sz hall
  try dsimp only
  go_wp2
  first | go_end0 | ((try simp only [Exit.inBlock, Exit.then]); refine bodyPost_ret (results_none rfl _ _ _) rfl ?_)
  obtain ⟨r, k5, hb, kp⟩ := Z.out
  exact ⟨rfl, s22, k5, r, hb, kp⟩
set_option maxHeartbeats 4000000 in
set_option maxRecDepth 100000 in
theorem put_calls1 (lo hi : Int) (g6 g5 : Nat) (l0 l1 l2 l3 l4 l5 : Int) (v : Value) (xs : List S25) (w0 W : World) (okp : Nat → Prop) (hg : g5 ≠ g6) (hlen : xs.length < 1000) (hb : Below w0.heap.size w0 W) (h5 : w0.heap.size ≤ g5) (b6 : W.heap[g6]? = some (Obj.cells #[.int .i64 l0, .int .i64 l1, .int .i64 l2, .int .i64 l3, .int .i64 l4, .int .i64 l5] 73 (0, 0))) (b5 : W.heap[g5]? = some (Obj.cells #[v] 26 (0, 0))) (hR : Kd.R k25 25 W w0.heap.size okp v xs) (hok5 : ∀ k, okp k → k ≠ g5) (hfresh : ∀ k, W.heap.size ≤ k → okp k) (hlt : lo < hi) :
  Calls Try.prog 69 #[.int .i64 1, .int .i64 lo, .int .i64 hi, .pointer (some ⟨g6, 0, none⟩), .pointer (some ⟨g5, 0, none⟩)] W (PutPost w0 W g5 okp (xs ++ [(⟨⟨l0, lo, l4⟩, ⟨l1, hi, l5⟩⟩ : S25)])) := by
 have hu25 := Try.underlying25
 have hu26 := Try.underlying26
 have hu73 := Try.underlying73
 have hu72 := Try.underlying72
 have hl : decide (lo < hi) = true := decide_eq_true hlt
 obtain ⟨p0, p1, p2, p3, p4, p5⟩ := RegInv.cells6 b6
 have KP := am (show ∀ g o, W.heap[g]? = some o → g ≠ g5 → ¬ okp g → W.heap[g]? = some o from fun _ _ h _ _ => h)
 have B5 := am b5
 have HR := am hR
 have HB := am hb
 have OK := am (And.intro hok5 hfresh)
 have h5s := bl b5
 clear hlt b5 hR hb b6 hok5 hfresh
 go_enter Try.func69, Try.ntmps69
 go_wp2_with fail
 have KS := am (blk_new W (.cells #[.int .i64 l0, .int .i64 l1, .int .i64 lo, .int .i64 hi, .int .i64 l4, .int .i64 l5] 73))
 have HJ := am (fun W => box_join.calls l0 l1 lo hi l4 l5 l0 lo l4 l1 hi l5 W rfl)
 replace B5 := am (ba B5.out (.cells #[.int .i64 l0, .int .i64 l1, .int .i64 lo, .int .i64 hi, .int .i64 l4, .int .i64 l5] 73))
 replace KP := am (show ∀ g o, W.heap[g]? = some o → g ≠ g5 → ¬ okp g → (W.alloc (.cells #[.int .i64 l0, .int .i64 l1, .int .i64 lo, .int .i64 hi, .int .i64 l4, .int .i64 l5] 73)).heap[g]? = some o from fun g o h _ _ => ba h _)
 replace HR := am (Kd.R_alloc HR.out (.cells #[.int .i64 l0, .int .i64 l1, .int .i64 lo, .int .i64 hi, .int .i64 l4, .int .i64 l5] 73))
 replace HB := am (wa HB.out (.cells #[.int .i64 l0, .int .i64 l1, .int .i64 lo, .int .i64 hi, .int .i64 l4, .int .i64 l5] 73))
 have szA : W.heap.size < (W.alloc (.cells #[.int .i64 l0, .int .i64 l1, .int .i64 lo, .int .i64 hi, .int .i64 l4, .int .i64 l5] 73)).heap.size := by simp
 have FR := am (show ∀ k, (W.alloc (.cells #[.int .i64 l0, .int .i64 l1, .int .i64 lo, .int .i64 hi, .int .i64 l4, .int .i64 l5] 73)).heap.size ≤ k → okp k from fun k hk => OK.out.2 k (by simp at hk; omega))
 clear p0 p1 p2 p3 p4 p5
 generalize W.alloc (.cells #[.int .i64 l0, .int .i64 l1, .int .i64 lo, .int .i64 hi, .int .i64 l4, .int .i64 l5] 73) = V at KS B5 KP HR HB szA FR ⊢
 have OK5 := am OK.out.1
 clear OK
 refine RegInv.region_inv (fun f a W' => ∃ s18 s19 s20 s21 s22 : Value, a = { tmps := #[.int .i64 1, .int .i64 lo, .int .i64 hi, .pointer (some ⟨g6, 0, none⟩), .pointer (some ⟨g5, 0, none⟩), undef, undef, undef, .pointer (some ⟨W.heap.size, 0, none⟩), .int .i64 lo, .int .i64 hi, .bool true, .agg #[.int .i64 l0, .int .i64 l1, .int .i64 l2, .int .i64 l3, .int .i64 l4, .int .i64 l5], .int .i64 1, .int .i64 lo, .int .i64 hi, .agg #[.int .i64 lo, .int .i64 hi], .pointer (some ⟨W.heap.size, 2, none⟩), s18, s19, s20, s21, s22], defers := [] } ∧ (f 0 = true → s18 = v) ∧ (f 1 = true → s19 = .agg #[.int .i64 l0, .int .i64 l1, .int .i64 lo, .int .i64 hi, .int .i64 l4, .int .i64 l5]) ∧ (f 2 = true → s20 = .agg #[.int .i64 l0, .int .i64 lo, .int .i64 l4, .int .i64 l1, .int .i64 hi, .int .i64 l5]) ∧ (f 3 = true → ∃ gl, s21 = .slice (some ⟨gl, 0, none⟩) 1 1 ∧ (f 4 = false → W'.heap[gl]? = some (Obj.cells #[.int .i64 l0, .int .i64 lo, .int .i64 l4, .int .i64 l1, .int .i64 hi, .int .i64 l5] 25 (0, 0)))) ∧ (f 5 = true → f 4 = true) ∧ (f 4 = true → f 3 = true ∧ f 0 = true) ∧ Kd.R k25 25 W' w0.heap.size okp (if f 4 = true then s22 else v) (if f 4 = true then xs ++ [(⟨⟨l0, lo, l4⟩, ⟨l1, hi, l5⟩⟩ : S25)] else xs) ∧ W'.heap[g5]? = some (Obj.cells #[if f 5 = true then s22 else v] 26 (0, 0)) ∧ W'.heap[W.heap.size]? = some (Obj.cells #[.int .i64 l0, .int .i64 l1, .int .i64 lo, .int .i64 hi, .int .i64 l4, .int .i64 l5] 73 (0, 0)) ∧ Below w0.heap.size w0 W' ∧ (∀ g o, W.heap[g]? = some o → g ≠ g5 → ¬ okp g → W'.heap[g]? = some o) ∧ V.heap.size ≤ W'.heap.size) (by kernel_rfl) (by kernel_rfl) ?h0 ?hstep ?hend
 case h0 => exact ⟨_, _, _, _, _, rfl, nofun, nofun, nofun, nofun, nofun, nofun, Kd.R_drew HR.out, bd B5.out, bd KS.out, wd HB.out, fun g o h1 h2 h3 => bd (KP.out g o h1 h2 h3), Nat.le_refl _⟩
 case hstep =>
  clear KS B5 KP HR HB
  intro i o ho f a W' hI hfi hdep K hK
  obtain ⟨s18, s19, s20, s21, s22, rfl, h0, h1, h2, h3, d5, d4, r, k5, ks, hb, kp, sz⟩ := hI
  have HK := am hK
  clear hK
  rcases i with _ | _ | _ | _ | _ | _ | i
  all_goals (first | obtain rfl := Option.some.inj ho | skip)
  all_goals have A := am (And.intro h0 (And.intro h1 (And.intro h2 (And.intro h3 (And.intro d5 (And.intro d4 (And.intro r (And.intro k5 (And.intro ks (And.intro hb (And.intro kp hdep)))))))))))
  all_goals clear h0 h1 h2 h3 d5 d4 r k5 ks hb kp hdep
  ·obtain ⟨h0, h1, h2, h3, d5, d4, r, k5, ks, hb, kp, hdep⟩ := A.out
   have n4 : ¬ f 4 = true := fun h => by rw [(d4 h).2] at hfi; cases hfi
   have c5 := k5
   rw [if_neg (fun h => n4 (d5 h))] at c5
   have c50 := (blk_cell c5 0).trans rfl
   clear h0 h1 h2 h3 d5 d4 r k5 ks hb kp hdep c5 n4
   go_wp2_with fail
   obtain ⟨h0, h1, h2, h3, d5, d4, r, k5, ks, hb, kp, hdep⟩ := A.out
   exact HK.out _ _ ⟨_, _, _, _, _, rfl, fun _ => rfl, h1, h2, h3, d5, fun h => ⟨(d4 h).1, rfl⟩, r, k5, ks, hb, kp, sz⟩
  ·obtain ⟨p0, p1, p2, p3, p4, p5⟩ := RegInv.cells6 A.out.2.2.2.2.2.2.2.2.1
   go_wp2_with fail
   obtain ⟨h0, h1, h2, h3, d5, d4, r, k5, ks, hb, kp, hdep⟩ := A.out
   exact HK.out _ _ ⟨_, _, _, _, _, rfl, h0, fun _ => rfl, h2, h3, d5, d4, r, k5, ks, hb, kp, sz⟩
  ·obtain ⟨h0, h1, h2, h3, d5, d4, r, k5, ks, hb, kp, hdep⟩ := A.out
   obtain rfl := h1 (hdep { on := 1, ground := .data } (by simp) rfl)
   clear h0 h1 h2 h3 d5 d4 r k5 ks hb kp hdep
   go_wp2_with (go_at_call 54; refine (HJ.out _).mono ?_; rintro e w2 ⟨rfl, hb2⟩; have HB2 := am hb2; clear hb2)
   obtain ⟨h0, h1, h2, h3, d5, d4, r, k5, ks, hb, kp, hdep⟩ := A.out
   have hb2 := HB2.out
   exact HK.out _ _ ⟨_, _, _, _, _, rfl, h0, fun _ => rfl, fun _ => rfl, (fun h => by obtain ⟨gl, e1, e2⟩ := h3 h; exact ⟨gl, e1, fun h4 => bb (e2 h4) hb2⟩), d5, d4, Kd.R_below r hb2, bb k5 hb2, bb ks hb2, below_step hb hb2, fun g o x1 x2 x3 => bb (kp g o x1 x2 x3) hb2, Nat.le_trans sz hb2.size⟩
  ·obtain ⟨h0, h1, h2, h3, d5, d4, r, k5, ks, hb, kp, hdep⟩ := A.out
   obtain rfl := h2 (hdep { on := 2, ground := .data } (by simp) rfl)
   have n4 : ¬ f 4 = true := fun h => by rw [(d4 h).1] at hfi; cases hfi
   clear h0 h1 h2 h3 d5 d4 r k5 ks hb kp hdep
   go_wp2_with fail
   obtain ⟨h0, h1, h2, h3, d5, d4, r, k5, ks, hb, kp, hdep⟩ := A.out
   exact HK.out _ _ ⟨_, _, _, _, _, rfl, h0, h1, fun _ => rfl, (fun _ => ⟨W'.heap.size, rfl, fun _ => blk_new W' _⟩), d5, (fun h => absurd h n4), Kd.R_alloc r _, ba k5 _, ba ks _, wa hb _, fun g o x1 x2 x3 => ba (kp g o x1 x2 x3) _, Nat.le_trans sz (by simp)⟩
  ·obtain ⟨h0, h1, h2, h3, d5, d4, r, k5, ks, hb, kp, hdep⟩ := A.out
   have f0 := hdep { on := 0, ground := .data } (by simp) rfl
   have f3 := hdep { on := 3, ground := .data } (by simp) rfl
   obtain rfl := h0 f0
   obtain ⟨gl, rfl, hgl⟩ := h3 f3
   have hgl := hgl hfi
   have n4 : ¬ f 4 = true := by rw [hfi]; decide
   have n5 : ¬ f 5 = true := fun h => n4 (d5 h)
   rw [if_neg n4, if_neg n4] at r
   refine Kd.R_append_rows_step k25 (w0 := w0) w0.heap.size (by rfl) (.tmp 18) (.tmp 21) 26 25 (.agg #[(.int .i64 0), (.int .i64 0), (.int .i64 0), (.int .i64 0), (.int .i64 0), (.int .i64 0)]) 48 rfl Try.underlying26 info25' rfl (by decide) (by omega) _ xs [(⟨⟨l0, lo, l4⟩, ⟨l1, hi, l5⟩⟩ : S25)] _ 1 1 okp (fun _ => False) rfl rfl r (one_C (⟨⟨l0, lo, l4⟩, ⟨l1, hi, l5⟩⟩ : S25) hgl) (fun _ _ h => h) (fun _ h => h.elim) (fun k hk => FR.out k (Nat.le_trans sz hk)) hb hb.size (by omega) ?_
   intro v1 w1 hr1 hb1 hg1 hat1
   refine HK.out _ _ ⟨_, _, _, _, _, rfl, fun _ => rfl, h1, h2, (fun _ => ⟨gl, rfl, nofun⟩), (fun h => absurd h n5), (fun _ => ⟨f3, f0⟩), hr1, ?_, blk_grown ks hg1 (Kd.R_ne r ks (by decide)), hb1, fun g o x1 x2 x3 => blk_grown (kp g o x1 x2 x3) hg1 (fun e => x3 (r.1 g e.symm)), Nat.le_trans sz hg1.size⟩
   have k6 := blk_grown k5 hg1 (Kd.R_ne r k5 (by decide))
   rw [if_neg n5] at k6
   show w1.heap[g5]? = some (Obj.cells #[if f 5 = true then v1 else _] 26 (0, 0))
   rw [if_neg n5]
   exact k6
  ·obtain ⟨h0, h1, h2, h3, d5, d4, r, k5, ks, hb, kp, hdep⟩ := A.out
   have f4 := hdep { on := 4, ground := .data } (by simp) rfl
   have n5 : ¬ f 5 = true := by rw [hfi]; decide
   rw [if_neg n5] at k5
   rw [if_pos f4, if_pos f4] at r
   obtain ⟨Ar, cr, er⟩ := Kd.R_slice r
   obtain ⟨nn, hnn⟩ : ∃ n, n = (xs ++ [(⟨⟨l0, lo, l4⟩, ⟨l1, hi, l5⟩⟩ : S25)]).length := ⟨_, rfl⟩
   rw [← hnn] at er
   clear hnn
   subst er
   have c5 := (blk_cell k5 0).trans rfl
   have z5 := blk_frozen k5 0
   have A2 := am (And.intro r (And.intro k5 (And.intro f4 n5)))
   clear h0 h1 h2 h3 d5 d4 r k5 ks hb kp hdep f4 n5
   go_wp2_with fail
   obtain ⟨h0, h1, h2, h3, d5, d4, _, _, ks, hb, kp, hdep⟩ := A.out
   obtain ⟨r, k5, f4, n5⟩ := A2.out
   refine HK.out _ (W'.setCell ⟨g5, 0, none⟩ (.slice Ar nn cr)) ⟨s18, s19, s20, s21, (.slice Ar nn cr), rfl, h0, h1, h2, (fun h => by obtain ⟨gl, e1, e2⟩ := h3 h; exact ⟨gl, e1, fun h4 => absurd f4 (by show ¬ f 4 = true; rw [show f 4 = false from h4]; decide)⟩), (fun _ => f4), d4, ?_, ?_, bF ks (by simp; omega) _, ws hb h5, (fun g o x1 x2 x3 => (Below.heap_setCell W' ⟨g5, 0, none⟩ _ g (by simpa using x2)).trans (kp g o x1 x2 x3)), by simpa using sz⟩
   rotate_left
   ·show (W'.setCell ⟨g5, 0, none⟩ (.slice Ar nn cr)).heap[g5]? = some (Obj.cells #[if true = true then (.slice Ar nn cr) else v] 26 (0, 0))
    rw [if_pos rfl]
    exact blk_put k5 0 _ rfl
   show Kd.R k25 25 _ _ okp (if f 4 = true then (.slice Ar nn cr) else v) (if f 4 = true then _ else xs)
   rw [if_pos f4, if_pos f4]
   exact Kd.R_far r (p := ⟨g5, 0, none⟩) (fun k hk => OK5.out k hk) _
  simp at ho
 case hend =>
  clear KS B5 KP HR HB
  intro f a W' hI hall
  obtain ⟨s18, s19, s20, s21, s22, rfl, h0, h1, h2, h3, d5, d4, r, k5, ks, hb, kp, sz⟩ := hI
  rw [if_pos (hall 4 (by decide)), if_pos (hall 4 (by decide))] at r
  rw [if_pos (hall 5 (by decide))] at k5
  have Z := am (And.intro r (And.intro k5 (And.intro hb kp)))
  clear r k5 hb kp h0 h1 h2 h3 d5 d4 ks sz hall
  try dsimp only
  go_wp2
  first | go_end0 | ((try simp only [Exit.inBlock, Exit.then]); refine bodyPost_ret (results_none rfl _ _ _) rfl ?_)
  obtain ⟨r, k5, hb, kp⟩ := Z.out
  exact ⟨rfl, s22, k5, r, hb, kp⟩
set_option maxHeartbeats 4000000 in
set_option maxRecDepth 100000 in
theorem put_calls2 (lo hi : Int) (g6 g5 : Nat) (l0 l1 l2 l3 l4 l5 : Int) (v : Value) (xs : List S25) (w0 W : World) (okp : Nat → Prop) (hg : g5 ≠ g6) (hlen : xs.length < 1000) (hb : Below w0.heap.size w0 W) (h5 : w0.heap.size ≤ g5) (b6 : W.heap[g6]? = some (Obj.cells #[.int .i64 l0, .int .i64 l1, .int .i64 l2, .int .i64 l3, .int .i64 l4, .int .i64 l5] 73 (0, 0))) (b5 : W.heap[g5]? = some (Obj.cells #[v] 26 (0, 0))) (hR : Kd.R k25 25 W w0.heap.size okp v xs) (hok5 : ∀ k, okp k → k ≠ g5) (hfresh : ∀ k, W.heap.size ≤ k → okp k) (hlt : lo < hi) :
  Calls Try.prog 69 #[.int .i64 2, .int .i64 lo, .int .i64 hi, .pointer (some ⟨g6, 0, none⟩), .pointer (some ⟨g5, 0, none⟩)] W (PutPost w0 W g5 okp (xs ++ [(⟨⟨l0, l2, lo⟩, ⟨l1, l3, hi⟩⟩ : S25)])) := by
 have hu25 := Try.underlying25
 have hu26 := Try.underlying26
 have hu73 := Try.underlying73
 have hu72 := Try.underlying72
 have hl : decide (lo < hi) = true := decide_eq_true hlt
 obtain ⟨p0, p1, p2, p3, p4, p5⟩ := RegInv.cells6 b6
 have KP := am (show ∀ g o, W.heap[g]? = some o → g ≠ g5 → ¬ okp g → W.heap[g]? = some o from fun _ _ h _ _ => h)
 have B5 := am b5
 have HR := am hR
 have HB := am hb
 have OK := am (And.intro hok5 hfresh)
 have h5s := bl b5
 clear hlt b5 hR hb b6 hok5 hfresh
 go_enter Try.func69, Try.ntmps69
 go_wp2_with fail
 have KS := am (blk_new W (.cells #[.int .i64 l0, .int .i64 l1, .int .i64 l2, .int .i64 l3, .int .i64 lo, .int .i64 hi] 73))
 have HJ := am (fun W => box_join.calls l0 l1 l2 l3 lo hi l0 l2 lo l1 l3 hi W rfl)
 replace B5 := am (ba B5.out (.cells #[.int .i64 l0, .int .i64 l1, .int .i64 l2, .int .i64 l3, .int .i64 lo, .int .i64 hi] 73))
 replace KP := am (show ∀ g o, W.heap[g]? = some o → g ≠ g5 → ¬ okp g → (W.alloc (.cells #[.int .i64 l0, .int .i64 l1, .int .i64 l2, .int .i64 l3, .int .i64 lo, .int .i64 hi] 73)).heap[g]? = some o from fun g o h _ _ => ba h _)
 replace HR := am (Kd.R_alloc HR.out (.cells #[.int .i64 l0, .int .i64 l1, .int .i64 l2, .int .i64 l3, .int .i64 lo, .int .i64 hi] 73))
 replace HB := am (wa HB.out (.cells #[.int .i64 l0, .int .i64 l1, .int .i64 l2, .int .i64 l3, .int .i64 lo, .int .i64 hi] 73))
 have szA : W.heap.size < (W.alloc (.cells #[.int .i64 l0, .int .i64 l1, .int .i64 l2, .int .i64 l3, .int .i64 lo, .int .i64 hi] 73)).heap.size := by simp
 have FR := am (show ∀ k, (W.alloc (.cells #[.int .i64 l0, .int .i64 l1, .int .i64 l2, .int .i64 l3, .int .i64 lo, .int .i64 hi] 73)).heap.size ≤ k → okp k from fun k hk => OK.out.2 k (by simp at hk; omega))
 clear p0 p1 p2 p3 p4 p5
 generalize W.alloc (.cells #[.int .i64 l0, .int .i64 l1, .int .i64 l2, .int .i64 l3, .int .i64 lo, .int .i64 hi] 73) = V at KS B5 KP HR HB szA FR ⊢
 have OK5 := am OK.out.1
 clear OK
 refine RegInv.region_inv (fun f a W' => ∃ s18 s19 s20 s21 s22 : Value, a = { tmps := #[.int .i64 2, .int .i64 lo, .int .i64 hi, .pointer (some ⟨g6, 0, none⟩), .pointer (some ⟨g5, 0, none⟩), undef, undef, undef, .pointer (some ⟨W.heap.size, 0, none⟩), .int .i64 lo, .int .i64 hi, .bool true, .agg #[.int .i64 l0, .int .i64 l1, .int .i64 l2, .int .i64 l3, .int .i64 l4, .int .i64 l5], .int .i64 2, .int .i64 lo, .int .i64 hi, .agg #[.int .i64 lo, .int .i64 hi], .pointer (some ⟨W.heap.size, 4, none⟩), s18, s19, s20, s21, s22], defers := [] } ∧ (f 0 = true → s18 = v) ∧ (f 1 = true → s19 = .agg #[.int .i64 l0, .int .i64 l1, .int .i64 l2, .int .i64 l3, .int .i64 lo, .int .i64 hi]) ∧ (f 2 = true → s20 = .agg #[.int .i64 l0, .int .i64 l2, .int .i64 lo, .int .i64 l1, .int .i64 l3, .int .i64 hi]) ∧ (f 3 = true → ∃ gl, s21 = .slice (some ⟨gl, 0, none⟩) 1 1 ∧ (f 4 = false → W'.heap[gl]? = some (Obj.cells #[.int .i64 l0, .int .i64 l2, .int .i64 lo, .int .i64 l1, .int .i64 l3, .int .i64 hi] 25 (0, 0)))) ∧ (f 5 = true → f 4 = true) ∧ (f 4 = true → f 3 = true ∧ f 0 = true) ∧ Kd.R k25 25 W' w0.heap.size okp (if f 4 = true then s22 else v) (if f 4 = true then xs ++ [(⟨⟨l0, l2, lo⟩, ⟨l1, l3, hi⟩⟩ : S25)] else xs) ∧ W'.heap[g5]? = some (Obj.cells #[if f 5 = true then s22 else v] 26 (0, 0)) ∧ W'.heap[W.heap.size]? = some (Obj.cells #[.int .i64 l0, .int .i64 l1, .int .i64 l2, .int .i64 l3, .int .i64 lo, .int .i64 hi] 73 (0, 0)) ∧ Below w0.heap.size w0 W' ∧ (∀ g o, W.heap[g]? = some o → g ≠ g5 → ¬ okp g → W'.heap[g]? = some o) ∧ V.heap.size ≤ W'.heap.size) (by kernel_rfl) (by kernel_rfl) ?h0 ?hstep ?hend
 case h0 => exact ⟨_, _, _, _, _, rfl, nofun, nofun, nofun, nofun, nofun, nofun, Kd.R_drew HR.out, bd B5.out, bd KS.out, wd HB.out, fun g o h1 h2 h3 => bd (KP.out g o h1 h2 h3), Nat.le_refl _⟩
 case hstep =>
  clear KS B5 KP HR HB
  intro i o ho f a W' hI hfi hdep K hK
  obtain ⟨s18, s19, s20, s21, s22, rfl, h0, h1, h2, h3, d5, d4, r, k5, ks, hb, kp, sz⟩ := hI
  have HK := am hK
  clear hK
  rcases i with _ | _ | _ | _ | _ | _ | i
  all_goals (first | obtain rfl := Option.some.inj ho | skip)
  all_goals have A := am (And.intro h0 (And.intro h1 (And.intro h2 (And.intro h3 (And.intro d5 (And.intro d4 (And.intro r (And.intro k5 (And.intro ks (And.intro hb (And.intro kp hdep)))))))))))
  all_goals clear h0 h1 h2 h3 d5 d4 r k5 ks hb kp hdep
  ·obtain ⟨h0, h1, h2, h3, d5, d4, r, k5, ks, hb, kp, hdep⟩ := A.out
   have n4 : ¬ f 4 = true := fun h => by rw [(d4 h).2] at hfi; cases hfi
   have c5 := k5
   rw [if_neg (fun h => n4 (d5 h))] at c5
   have c50 := (blk_cell c5 0).trans rfl
   clear h0 h1 h2 h3 d5 d4 r k5 ks hb kp hdep c5 n4
   go_wp2_with fail
   obtain ⟨h0, h1, h2, h3, d5, d4, r, k5, ks, hb, kp, hdep⟩ := A.out
   exact HK.out _ _ ⟨_, _, _, _, _, rfl, fun _ => rfl, h1, h2, h3, d5, fun h => ⟨(d4 h).1, rfl⟩, r, k5, ks, hb, kp, sz⟩
  ·obtain ⟨p0, p1, p2, p3, p4, p5⟩ := RegInv.cells6 A.out.2.2.2.2.2.2.2.2.1
   go_wp2_with fail
   obtain ⟨h0, h1, h2, h3, d5, d4, r, k5, ks, hb, kp, hdep⟩ := A.out
   exact HK.out _ _ ⟨_, _, _, _, _, rfl, h0, fun _ => rfl, h2, h3, d5, d4, r, k5, ks, hb, kp, sz⟩
  ·obtain ⟨h0, h1, h2, h3, d5, d4, r, k5, ks, hb, kp, hdep⟩ := A.out
   obtain rfl := h1 (hdep { on := 1, ground := .data } (by simp) rfl)
   clear h0 h1 h2 h3 d5 d4 r k5 ks hb kp hdep
   go_wp2_with (go_at_call 54; refine (HJ.out _).mono ?_; rintro e w2 ⟨rfl, hb2⟩; have HB2 := am hb2; clear hb2)
   obtain ⟨h0, h1, h2, h3, d5, d4, r, k5, ks, hb, kp, hdep⟩ := A.out
   have hb2 := HB2.out
   exact HK.out _ _ ⟨_, _, _, _, _, rfl, h0, fun _ => rfl, fun _ => rfl, (fun h => by obtain ⟨gl, e1, e2⟩ := h3 h; exact ⟨gl, e1, fun h4 => bb (e2 h4) hb2⟩), d5, d4, Kd.R_below r hb2, bb k5 hb2, bb ks hb2, below_step hb hb2, fun g o x1 x2 x3 => bb (kp g o x1 x2 x3) hb2, Nat.le_trans sz hb2.size⟩
  ·obtain ⟨h0, h1, h2, h3, d5, d4, r, k5, ks, hb, kp, hdep⟩ := A.out
   obtain rfl := h2 (hdep { on := 2, ground := .data } (by simp) rfl)
   have n4 : ¬ f 4 = true := fun h => by rw [(d4 h).1] at hfi; cases hfi
   clear h0 h1 h2 h3 d5 d4 r k5 ks hb kp hdep
   go_wp2_with fail
   obtain ⟨h0, h1, h2, h3, d5, d4, r, k5, ks, hb, kp, hdep⟩ := A.out
   exact HK.out _ _ ⟨_, _, _, _, _, rfl, h0, h1, fun _ => rfl, (fun _ => ⟨W'.heap.size, rfl, fun _ => blk_new W' _⟩), d5, (fun h => absurd h n4), Kd.R_alloc r _, ba k5 _, ba ks _, wa hb _, fun g o x1 x2 x3 => ba (kp g o x1 x2 x3) _, Nat.le_trans sz (by simp)⟩
  ·obtain ⟨h0, h1, h2, h3, d5, d4, r, k5, ks, hb, kp, hdep⟩ := A.out
   have f0 := hdep { on := 0, ground := .data } (by simp) rfl
   have f3 := hdep { on := 3, ground := .data } (by simp) rfl
   obtain rfl := h0 f0
   obtain ⟨gl, rfl, hgl⟩ := h3 f3
   have hgl := hgl hfi
   have n4 : ¬ f 4 = true := by rw [hfi]; decide
   have n5 : ¬ f 5 = true := fun h => n4 (d5 h)
   rw [if_neg n4, if_neg n4] at r
   refine Kd.R_append_rows_step k25 (w0 := w0) w0.heap.size (by rfl) (.tmp 18) (.tmp 21) 26 25 (.agg #[(.int .i64 0), (.int .i64 0), (.int .i64 0), (.int .i64 0), (.int .i64 0), (.int .i64 0)]) 48 rfl Try.underlying26 info25' rfl (by decide) (by omega) _ xs [(⟨⟨l0, l2, lo⟩, ⟨l1, l3, hi⟩⟩ : S25)] _ 1 1 okp (fun _ => False) rfl rfl r (one_C (⟨⟨l0, l2, lo⟩, ⟨l1, l3, hi⟩⟩ : S25) hgl) (fun _ _ h => h) (fun _ h => h.elim) (fun k hk => FR.out k (Nat.le_trans sz hk)) hb hb.size (by omega) ?_
   intro v1 w1 hr1 hb1 hg1 hat1
   refine HK.out _ _ ⟨_, _, _, _, _, rfl, fun _ => rfl, h1, h2, (fun _ => ⟨gl, rfl, nofun⟩), (fun h => absurd h n5), (fun _ => ⟨f3, f0⟩), hr1, ?_, blk_grown ks hg1 (Kd.R_ne r ks (by decide)), hb1, fun g o x1 x2 x3 => blk_grown (kp g o x1 x2 x3) hg1 (fun e => x3 (r.1 g e.symm)), Nat.le_trans sz hg1.size⟩
   have k6 := blk_grown k5 hg1 (Kd.R_ne r k5 (by decide))
   rw [if_neg n5] at k6
   show w1.heap[g5]? = some (Obj.cells #[if f 5 = true then v1 else _] 26 (0, 0))
   rw [if_neg n5]
   exact k6
  ·obtain ⟨h0, h1, h2, h3, d5, d4, r, k5, ks, hb, kp, hdep⟩ := A.out
   have f4 := hdep { on := 4, ground := .data } (by simp) rfl
   have n5 : ¬ f 5 = true := by rw [hfi]; decide
   rw [if_neg n5] at k5
   rw [if_pos f4, if_pos f4] at r
   obtain ⟨Ar, cr, er⟩ := Kd.R_slice r
   obtain ⟨nn, hnn⟩ : ∃ n, n = (xs ++ [(⟨⟨l0, l2, lo⟩, ⟨l1, l3, hi⟩⟩ : S25)]).length := ⟨_, rfl⟩
   rw [← hnn] at er
   clear hnn
   subst er
   have c5 := (blk_cell k5 0).trans rfl
   have z5 := blk_frozen k5 0
   have A2 := am (And.intro r (And.intro k5 (And.intro f4 n5)))
   clear h0 h1 h2 h3 d5 d4 r k5 ks hb kp hdep f4 n5
   go_wp2_with fail
   obtain ⟨h0, h1, h2, h3, d5, d4, _, _, ks, hb, kp, hdep⟩ := A.out
   obtain ⟨r, k5, f4, n5⟩ := A2.out
   refine HK.out _ (W'.setCell ⟨g5, 0, none⟩ (.slice Ar nn cr)) ⟨s18, s19, s20, s21, (.slice Ar nn cr), rfl, h0, h1, h2, (fun h => by obtain ⟨gl, e1, e2⟩ := h3 h; exact ⟨gl, e1, fun h4 => absurd f4 (by show ¬ f 4 = true; rw [show f 4 = false from h4]; decide)⟩), (fun _ => f4), d4, ?_, ?_, bF ks (by simp; omega) _, ws hb h5, (fun g o x1 x2 x3 => (Below.heap_setCell W' ⟨g5, 0, none⟩ _ g (by simpa using x2)).trans (kp g o x1 x2 x3)), by simpa using sz⟩
   rotate_left
   ·show (W'.setCell ⟨g5, 0, none⟩ (.slice Ar nn cr)).heap[g5]? = some (Obj.cells #[if true = true then (.slice Ar nn cr) else v] 26 (0, 0))
    rw [if_pos rfl]
    exact blk_put k5 0 _ rfl
   show Kd.R k25 25 _ _ okp (if f 4 = true then (.slice Ar nn cr) else v) (if f 4 = true then _ else xs)
   rw [if_pos f4, if_pos f4]
   exact Kd.R_far r (p := ⟨g5, 0, none⟩) (fun k hk => OK5.out k hk) _
  simp at ho
 case hend =>
  clear KS B5 KP HR HB
  intro f a W' hI hall
  obtain ⟨s18, s19, s20, s21, s22, rfl, h0, h1, h2, h3, d5, d4, r, k5, ks, hb, kp, sz⟩ := hI
  rw [if_pos (hall 4 (by decide)), if_pos (hall 4 (by decide))] at r
  rw [if_pos (hall 5 (by decide))] at k5
  have Z := am (And.intro r (And.intro k5 (And.intro hb kp)))
  clear r k5 hb kp h0 h1 h2 h3 d5 d4 ks sz hall
  try dsimp only
  go_wp2
  first | go_end0 | ((try simp only [Exit.inBlock, Exit.then]); refine bodyPost_ret (results_none rfl _ _ _) rfl ?_)
  obtain ⟨r, k5, hb, kp⟩ := Z.out
  exact ⟨rfl, s22, k5, r, hb, kp⟩
set_option maxHeartbeats 4000000 in
set_option maxRecDepth 100000 in
theorem put_no (k : Nat) (hk : k < 3) (lo hi : Int) (g6 g5 : Nat) (l0 l1 l2 l3 l4 l5 : Int) (v : Value) (xs : List S25) (w0 W : World) (okp : Nat → Prop) (hg : g5 ≠ g6) (hlen : xs.length < 1000) (hb : Below w0.heap.size w0 W) (h5 : w0.heap.size ≤ g5) (b6 : W.heap[g6]? = some (Obj.cells #[.int .i64 l0, .int .i64 l1, .int .i64 l2, .int .i64 l3, .int .i64 l4, .int .i64 l5] 73 (0, 0))) (b5 : W.heap[g5]? = some (Obj.cells #[v] 26 (0, 0))) (hR : Kd.R k25 25 W w0.heap.size okp v xs) (hok5 : ∀ k, okp k → k ≠ g5) (hfresh : ∀ k, W.heap.size ≤ k → okp k) (hge : ¬ lo < hi) :
  Calls Try.prog 69 #[.int .i64 k, .int .i64 lo, .int .i64 hi, .pointer (some ⟨g6, 0, none⟩), .pointer (some ⟨g5, 0, none⟩)] W (PutPost w0 W g5 okp xs) := by
 have hl : decide (lo < hi) = false := decide_eq_false hge
 have Z := am (show ∃ v' : Value, W.heap[g5]? = some (Obj.cells #[v'] 26 (0, 0)) ∧ Kd.R k25 25 W w0.heap.size okp v' xs ∧ Below w0.heap.size w0 W ∧ ∀ g o, W.heap[g]? = some o → g ≠ g5 → ¬ okp g → W.heap[g]? = some o from ⟨v, b5, hR, hb, fun _ _ h _ _ => h⟩)
 clear hge b5 b6 hR hb hok5 hfresh hg hlen h5
 go_enter Try.func69, Try.ntmps69
 go_wp2
 first | go_end0 | ((try simp only [Exit.inBlock, Exit.then]); refine bodyPost_ret (results_none rfl _ _ _) rfl ?_)
 exact ⟨rfl, Z.out⟩
def pt (k : Nat) (l0 l1 l2 l3 l4 l5 lo hi : Int) : List S25 := if lo < hi then [nb k l0 l1 l2 l3 l4 l5 lo hi] else []
theorem pt_len (k : Nat) (l0 l1 l2 l3 l4 l5 lo hi : Int) : (pt k l0 l1 l2 l3 l4 l5 lo hi).length ≤ 1 := by unfold pt; split <;> simp
theorem put_any (k : Nat) (hk : k < 3) (lo hi : Int) (g6 g5 : Nat) (l0 l1 l2 l3 l4 l5 : Int) (v : Value) (xs : List S25) (w0 W : World) (okp : Nat → Prop) (hg : g5 ≠ g6) (hlen : xs.length < 1000) (hb : Below w0.heap.size w0 W) (h5 : w0.heap.size ≤ g5) (b6 : W.heap[g6]? = some (Obj.cells #[.int .i64 l0, .int .i64 l1, .int .i64 l2, .int .i64 l3, .int .i64 l4, .int .i64 l5] 73 (0, 0))) (b5 : W.heap[g5]? = some (Obj.cells #[v] 26 (0, 0))) (hR : Kd.R k25 25 W w0.heap.size okp v xs) (hok5 : ∀ k, okp k → k ≠ g5) (hfresh : ∀ k, W.heap.size ≤ k → okp k) :
  Calls Try.prog 69 #[.int .i64 k, .int .i64 lo, .int .i64 hi, .pointer (some ⟨g6, 0, none⟩), .pointer (some ⟨g5, 0, none⟩)] W (PutPost w0 W g5 okp (xs ++ pt k l0 l1 l2 l3 l4 l5 lo hi)) := by
 unfold pt
 by_cases h : lo < hi
 ·rw [if_pos h]
  match k, hk with
  | 0, _ => exact put_calls0 lo hi g6 g5 _ _ _ _ _ _ v xs w0 W okp hg hlen hb h5 b6 b5 hR hok5 hfresh h
  | 1, _ => exact put_calls1 lo hi g6 g5 _ _ _ _ _ _ v xs w0 W okp hg hlen hb h5 b6 b5 hR hok5 hfresh h
  | 2, _ => exact put_calls2 lo hi g6 g5 _ _ _ _ _ _ v xs w0 W okp hg hlen hb h5 b6 b5 hR hok5 hfresh h
 rw [if_neg h, List.append_nil]
 exact put_no k hk lo hi g6 g5 _ _ _ _ _ _ v xs w0 W okp hg hlen hb h5 b6 b5 hR hok5 hfresh h
def subt (a0_0 a0_1 a0_2 a0_3 a0_4 a0_5 c0 c1 c2 c3 c4 c5 : Int) : List S25 := (((((([] ++ pt 2 a0_0 a0_3 a0_1 a0_4 a0_2 a0_5 a0_2 c4) ++ pt 2 a0_0 a0_3 a0_1 a0_4 a0_2 a0_5 c5 a0_5) ++ pt 1 a0_0 a0_3 a0_1 a0_4 c4 c5 a0_1 c2) ++ pt 1 a0_0 a0_3 a0_1 a0_4 c4 c5 c3 a0_4) ++ pt 0 a0_0 a0_3 c2 c3 c4 c5 a0_0 c0) ++ pt 0 a0_0 a0_3 c2 c3 c4 c5 c1 a0_3)
def box_subtract.f (a0_0 a0_1 a0_2 a0_3 a0_4 a0_5 a1_0 a1_1 a1_2 a1_3 a1_4 a1_5 : Int) : Option (List S25) := some (if (decide ((mx a0_0 a1_0) < (mn a0_3 a1_3)) && (decide ((mx a0_1 a1_1) < (mn a0_4 a1_4)) && decide ((mx a0_2 a1_2) < (mn a0_5 a1_5)))) = true then subt a0_0 a0_1 a0_2 a0_3 a0_4 a0_5 (mx a0_0 a1_0) (mn a0_3 a1_3) (mx a0_1 a1_1) (mn a0_4 a1_4) (mx a0_2 a1_2) (mn a0_5 a1_5) else [(⟨⟨a0_0, a0_1, a0_2⟩, ⟨a0_3, a0_4, a0_5⟩⟩ : S25)])
theorem ov_is (a0_0 a0_1 a0_2 a0_3 a0_4 a0_5 a1_0 a1_1 a1_2 a1_3 a1_4 a1_5 : Int) (w : World) : Calls Try.prog 17 #[.agg #[.int .i64 a0_0, .int .i64 a0_1, .int .i64 a0_2, .int .i64 a0_3, .int .i64 a0_4, .int .i64 a0_5], .agg #[.int .i64 a1_0, .int .i64 a1_1, .int .i64 a1_2, .int .i64 a1_3, .int .i64 a1_4, .int .i64 a1_5]] w fun e w' => e = .returned (.bool (decide ((mx a0_0 a1_0) < (mn a0_3 a1_3)) && (decide ((mx a0_1 a1_1) < (mn a0_4 a1_4)) && decide ((mx a0_2 a1_2) < (mn a0_5 a1_5))))) ∧ Below w.heap.size w w' := box_Overlap.calls a0_0 a0_1 a0_2 a0_3 a0_4 a0_5 a1_0 a1_1 a1_2 a1_3 a1_4 a1_5 _ w rfl
set_option maxHeartbeats 4000000 in
set_option maxRecDepth 100000 in
theorem box_subtract.calls (a0_0 a0_1 a0_2 a0_3 a0_4 a0_5 a1_0 a1_1 a1_2 a1_3 a1_4 a1_5 : Int) (r : List S25) (w : World) (h : box_subtract.f a0_0 a0_1 a0_2 a0_3 a0_4 a0_5 a1_0 a1_1 a1_2 a1_3 a1_4 a1_5 = some r) :
  Calls Try.prog 51 #[.agg #[.int .i64 a0_0, .int .i64 a0_1, .int .i64 a0_2, .int .i64 a0_3, .int .i64 a0_4, .int .i64 a0_5], .agg #[.int .i64 a1_0, .int .i64 a1_1, .int .i64 a1_2, .int .i64 a1_3, .int .i64 a1_4, .int .i64 a1_5]] w fun e w' => ∃ v0_ : Value, e = .returned v0_ ∧ Kd.R k25 25 w' w.heap.size (fun _ => True) v0_ r ∧ Below w.heap.size w w' := by
 have hu25 := Try.underlying25
 have hu73 := Try.underlying73
 have hu72 := Try.underlying72
 have hu26 := Try.underlying26
 have HS := am sides_is
 obtain rfl := Option.some.inj h
 clear h
 obtain ⟨c0, hc0⟩ : ∃ c, c = mx a0_0 a1_0 := ⟨_, rfl⟩
 obtain ⟨c1, hc1⟩ : ∃ c, c = mn a0_3 a1_3 := ⟨_, rfl⟩
 obtain ⟨c2, hc2⟩ : ∃ c, c = mx a0_1 a1_1 := ⟨_, rfl⟩
 obtain ⟨c3, hc3⟩ : ∃ c, c = mn a0_4 a1_4 := ⟨_, rfl⟩
 obtain ⟨c4, hc4⟩ : ∃ c, c = mx a0_2 a1_2 := ⟨_, rfl⟩
 obtain ⟨c5, hc5⟩ : ∃ c, c = mn a0_5 a1_5 := ⟨_, rfl⟩
 have HC := am (show ∀ W, Calls Try.prog 56 #[.agg #[.int .i64 a0_0, .int .i64 a0_1, .int .i64 a0_2, .int .i64 a0_3, .int .i64 a0_4, .int .i64 a0_5], .agg #[.int .i64 a1_0, .int .i64 a1_1, .int .i64 a1_2, .int .i64 a1_3, .int .i64 a1_4, .int .i64 a1_5]] W fun e w' => e = .returned (.agg #[.int .i64 c0, .int .i64 c1, .int .i64 c2, .int .i64 c3, .int .i64 c4, .int .i64 c5]) ∧ Below W.heap.size W w' from fun W => by rw [hc0, hc1, hc2, hc3, hc4, hc5]; exact common_is a0_0 a0_1 a0_2 a0_3 a0_4 a0_5 a1_0 a1_1 a1_2 a1_3 a1_4 a1_5 W)
 have hov := ov_is a0_0 a0_1 a0_2 a0_3 a0_4 a0_5 a1_0 a1_1 a1_2 a1_3 a1_4 a1_5
 rw [← hc0, ← hc1, ← hc2, ← hc3, ← hc4, ← hc5] at hov ⊢
 clear hc0 hc1 hc2 hc3 hc4 hc5
 obtain ⟨ob, hob⟩ : ∃ b, b = (decide (c0 < c1) && (decide (c2 < c3) && decide (c4 < c5))) := ⟨_, rfl⟩
 rw [← hob] at hov ⊢
 clear hob
 have HO := am hov
 clear hov
 cases ob with
 | false =>
  go_enter Try.func51, Try.ntmps51
  go_wp2_with fail
  obtain ⟨W, hW⟩ : ∃ W, W = (w.alloc (.cells #[.int .i64 a0_0, .int .i64 a0_1, .int .i64 a0_2, .int .i64 a0_3, .int .i64 a0_4, .int .i64 a0_5] 25)).alloc (.cells #[.int .i64 a1_0, .int .i64 a1_1, .int .i64 a1_2, .int .i64 a1_3, .int .i64 a1_4, .int .i64 a1_5] 25) := ⟨_, rfl⟩
  have B_0 : W.heap[w.heap.size]? = some (Obj.cells #[.int .i64 a0_0, .int .i64 a0_1, .int .i64 a0_2, .int .i64 a0_3, .int .i64 a0_4, .int .i64 a0_5] 25 (0, 0)) := by
   rw [hW]; have h := blk_new w (.cells #[.int .i64 a0_0, .int .i64 a0_1, .int .i64 a0_2, .int .i64 a0_3, .int .i64 a0_4, .int .i64 a0_5] 25)
   exact ba (h) _
  have B_1 : W.heap[w.heap.size + 1]? = some (Obj.cells #[.int .i64 a1_0, .int .i64 a1_1, .int .i64 a1_2, .int .i64 a1_3, .int .i64 a1_4, .int .i64 a1_5] 25 (0, 0)) := by
   rw [hW]; have h := blk_new (w.alloc (.cells #[.int .i64 a0_0, .int .i64 a0_1, .int .i64 a0_2, .int .i64 a0_3, .int .i64 a0_4, .int .i64 a0_5] 25)) (.cells #[.int .i64 a1_0, .int .i64 a1_1, .int .i64 a1_2, .int .i64 a1_3, .int .i64 a1_4, .int .i64 a1_5] 25)
   rw [World.size_alloc] at h; exact h
  have hb0 : Below w.heap.size w W := by rw [hW]; exact wa (wa ((Below.refl _ _)) _) _
  rw [← hW]
  clear hW
  have HB := am hb0
  have K0 := am B_0
  have K1 := am B_1
  clear hb0 B_0 B_1
  go_wp2_with (go_at_call 17; refine (HO.out _).mono ?_; rintro e w2 ⟨rfl, hb⟩; replace K0 := am (bb K0.out hb); replace K1 := am (bb K1.out hb); replace HB := am (below_step HB.out hb); clear hb; obtain ⟨p0, p1, p2, p3, p4, p5⟩ := RegInv.cells6 K0.out)
  go_ret
  exact ⟨_, rfl, one_R (⟨⟨a0_0, a0_1, a0_2⟩, ⟨a0_3, a0_4, a0_5⟩⟩ : S25) HB.out.size, wa HB.out _⟩
 | true =>
  rw [if_pos rfl]
  go_enter Try.func51, Try.ntmps51
  go_wp2_with fail
  obtain ⟨W, hW⟩ : ∃ W, W = (w.alloc (.cells #[.int .i64 a0_0, .int .i64 a0_1, .int .i64 a0_2, .int .i64 a0_3, .int .i64 a0_4, .int .i64 a0_5] 25)).alloc (.cells #[.int .i64 a1_0, .int .i64 a1_1, .int .i64 a1_2, .int .i64 a1_3, .int .i64 a1_4, .int .i64 a1_5] 25) := ⟨_, rfl⟩
  have B_0 : W.heap[w.heap.size]? = some (Obj.cells #[.int .i64 a0_0, .int .i64 a0_1, .int .i64 a0_2, .int .i64 a0_3, .int .i64 a0_4, .int .i64 a0_5] 25 (0, 0)) := by
   rw [hW]; have h := blk_new w (.cells #[.int .i64 a0_0, .int .i64 a0_1, .int .i64 a0_2, .int .i64 a0_3, .int .i64 a0_4, .int .i64 a0_5] 25)
   exact ba (h) _
  have B_1 : W.heap[w.heap.size + 1]? = some (Obj.cells #[.int .i64 a1_0, .int .i64 a1_1, .int .i64 a1_2, .int .i64 a1_3, .int .i64 a1_4, .int .i64 a1_5] 25 (0, 0)) := by
   rw [hW]; have h := blk_new (w.alloc (.cells #[.int .i64 a0_0, .int .i64 a0_1, .int .i64 a0_2, .int .i64 a0_3, .int .i64 a0_4, .int .i64 a0_5] 25)) (.cells #[.int .i64 a1_0, .int .i64 a1_1, .int .i64 a1_2, .int .i64 a1_3, .int .i64 a1_4, .int .i64 a1_5] 25)
   rw [World.size_alloc] at h; exact h
  have hb0 : Below w.heap.size w W := by rw [hW]; exact wa (wa ((Below.refl _ _)) _) _
  rw [← hW]
  clear hW
  have HB := am hb0
  have K0 := am B_0
  have K1 := am B_1
  clear hb0 B_0 B_1
  go_wp2_with (go_at_call 17; refine (HO.out _).mono ?_; rintro e w2 ⟨rfl, hb⟩; replace K0 := am (bb K0.out hb); replace K1 := am (bb K1.out hb); replace HB := am (below_step HB.out hb); clear hb; have le2 := bl K1.out)
  have KO := am (blk_new w2 (.cells #[.slice none 0 0] 26))
  replace K0 := am (ba K0.out (.cells #[.slice none 0 0] 26))
  replace K1 := am (ba K1.out (.cells #[.slice none 0 0] 26))
  replace HB := am (wa HB.out (.cells #[.slice none 0 0] 26))
  generalize w2.alloc (.cells #[.slice none 0 0] 26) = w3 at K0 K1 KO HB ⊢
  refine RegInv.region_inv (fun f a W' => ∃ s16 s17 s18 s19 s20 s6 s7 : Value, a = { tmps := #[.agg #[.int .i64 a0_0, .int .i64 a0_1, .int .i64 a0_2, .int .i64 a0_3, .int .i64 a0_4, .int .i64 a0_5], .agg #[.int .i64 a1_0, .int .i64 a1_1, .int .i64 a1_2, .int .i64 a1_3, .int .i64 a1_4, .int .i64 a1_5], .pointer (some ⟨w.heap.size, 0, none⟩), .pointer (some ⟨w.heap.size + 1, 0, none⟩), .slice none 0 0, .pointer (some ⟨w2.heap.size, 0, none⟩), s6, s7, undef, undef, .agg #[.int .i64 a0_0, .int .i64 a0_1, .int .i64 a0_2, .int .i64 a0_3, .int .i64 a0_4, .int .i64 a0_5], .agg #[.int .i64 a1_0, .int .i64 a1_1, .int .i64 a1_2, .int .i64 a1_3, .int .i64 a1_4, .int .i64 a1_5], .bool true, .bool false, undef, undef, s16, s17, s18, s19, s20, undef, undef, undef, undef, undef, undef, undef, undef, undef, undef, undef, undef, undef, undef, undef, undef, undef, undef, undef, undef, undef, undef, undef, undef, undef, undef, undef, undef, undef, undef, undef, undef, undef], defers := [] } ∧ (f 0 = true → s16 = .agg #[.int .i64 a0_0, .int .i64 a0_1, .int .i64 a0_2, .int .i64 a0_3, .int .i64 a0_4, .int .i64 a0_5]) ∧ (f 1 = true → s17 = .agg #[.int .i64 a0_0, .int .i64 a0_3, .int .i64 a0_1, .int .i64 a0_4, .int .i64 a0_2, .int .i64 a0_5]) ∧ (f 2 = true → s18 = .agg #[.int .i64 a0_0, .int .i64 a0_1, .int .i64 a0_2, .int .i64 a0_3, .int .i64 a0_4, .int .i64 a0_5]) ∧ (f 3 = true → s19 = .agg #[.int .i64 a1_0, .int .i64 a1_1, .int .i64 a1_2, .int .i64 a1_3, .int .i64 a1_4, .int .i64 a1_5]) ∧ (f 4 = true → s20 = .agg #[.int .i64 c0, .int .i64 c1, .int .i64 c2, .int .i64 c3, .int .i64 c4, .int .i64 c5]) ∧ (f 5 = true → ∃ g, s6 = .pointer (some ⟨g, 0, none⟩) ∧ w2.heap.size + 1 ≤ g ∧ W'.heap[g]? = some (Obj.cells (if f 7 = true then #[.int .i64 a0_0, .int .i64 a0_3, .int .i64 a0_1, .int .i64 a0_4, .int .i64 a0_2, .int .i64 a0_5] else #[.int .i64 0, .int .i64 0, .int .i64 0, .int .i64 0, .int .i64 0, .int .i64 0]) 73 (0, 0))) ∧ (f 6 = true → ∃ g, s7 = .pointer (some ⟨g, 0, none⟩) ∧ w2.heap.size + 1 ≤ g ∧ W'.heap[g]? = some (Obj.cells (if f 8 = true then #[.int .i64 c0, .int .i64 c1, .int .i64 c2, .int .i64 c3, .int .i64 c4, .int .i64 c5] else #[.int .i64 0, .int .i64 0, .int .i64 0, .int .i64 0, .int .i64 0, .int .i64 0]) 73 (0, 0))) ∧ (s6 = s7 → f 5 = true → f 6 = true → False) ∧ (f 7 = true → f 5 = true) ∧ (f 8 = true → f 6 = true) ∧ W'.heap[w.heap.size]? = some (Obj.cells #[.int .i64 a0_0, .int .i64 a0_1, .int .i64 a0_2, .int .i64 a0_3, .int .i64 a0_4, .int .i64 a0_5] 25 (0, 0)) ∧ W'.heap[w.heap.size + 1]? = some (Obj.cells #[.int .i64 a1_0, .int .i64 a1_1, .int .i64 a1_2, .int .i64 a1_3, .int .i64 a1_4, .int .i64 a1_5] 25 (0, 0)) ∧ W'.heap[w2.heap.size]? = some (Obj.cells #[.slice none 0 0] 26 (0, 0)) ∧ Below w.heap.size w W') (by kernel_rfl) (by kernel_rfl) ?h0 ?hstep ?hend
  case h0 => exact ⟨_, _, _, _, _, _, _, rfl, nofun, nofun, nofun, nofun, nofun, nofun, nofun, nofun, nofun, nofun, bd K0.out, bd K1.out, bd KO.out, wd HB.out⟩
  case hstep =>
   clear K0 K1 KO HB
   intro i o ho f a W' hI hfi hdep K hK
   obtain ⟨s16, s17, s18, s19, s20, s6, s7, rfl, h0, h1, h2, h3, h4, h5, h6, n5_6, d7, d8, k0, k1, kO, hb⟩ := hI
   have HK := am hK
   clear hK
   rcases i with _ | _ | _ | _ | _ | _ | _ | _ | _ | i
   all_goals (first | obtain rfl := Option.some.inj ho | skip)
   all_goals have A := am (And.intro h0 (And.intro h1 (And.intro h2 (And.intro h3 (And.intro h4 (And.intro h5 (And.intro h6 (And.intro n5_6 (And.intro d7 d8)))))))))
   all_goals clear h0 h1 h2 h3 h4 h5 h6 n5_6 d7 d8
   ·clear hdep
    obtain ⟨p0, p1, p2, p3, p4, p5⟩ := RegInv.cells6 k0
    go_wp2_with fail
    obtain ⟨h0, h1, h2, h3, h4, h5, h6, n5_6, d7, d8⟩ := A.out
    exact HK.out _ _ ⟨_, _, _, _, _, _, _, rfl, (fun _ => rfl), h1, h2, h3, h4, h5, h6, n5_6, d7, d8, k0, k1, kO, hb⟩
   ·obtain ⟨h0, h1, h2, h3, h4, h5, h6, n5_6, d7, d8⟩ := A.out
    obtain rfl := h0 (hdep { on := 0, ground := .data } (by simp) rfl)
    clear hdep h0 h1 h2 h3 h4 h5 h6 n5_6 d7 d8
    go_wp2_with (go_at_call 52; refine (HS.out _ _ _ _ _ _ _).mono ?_; rintro e w2 ⟨rfl, hb2⟩; have HB2 := am hb2; clear hb2)
    obtain ⟨h0, h1, h2, h3, h4, h5, h6, n5_6, d7, d8⟩ := A.out
    have hb2 := HB2.out
    exact HK.out _ _ ⟨_, _, _, _, _, _, _, rfl, (fun _ => rfl), (fun _ => rfl), h2, h3, h4, (fun h => by obtain ⟨g', f1, f2, f3⟩ := h5 h; exact ⟨g', f1, f2, bb f3 hb2⟩), (fun h => by obtain ⟨g', f1, f2, f3⟩ := h6 h; exact ⟨g', f1, f2, bb f3 hb2⟩), n5_6, d7, d8, bb k0 hb2, bb k1 hb2, bb kO hb2, below_step hb hb2⟩
   ·clear hdep
    obtain ⟨p0, p1, p2, p3, p4, p5⟩ := RegInv.cells6 k0
    go_wp2_with fail
    obtain ⟨h0, h1, h2, h3, h4, h5, h6, n5_6, d7, d8⟩ := A.out
    exact HK.out _ _ ⟨_, _, _, _, _, _, _, rfl, h0, h1, (fun _ => rfl), h3, h4, h5, h6, n5_6, d7, d8, k0, k1, kO, hb⟩
   ·clear hdep
    obtain ⟨p0, p1, p2, p3, p4, p5⟩ := RegInv.cells6 k1
    go_wp2_with fail
    obtain ⟨h0, h1, h2, h3, h4, h5, h6, n5_6, d7, d8⟩ := A.out
    exact HK.out _ _ ⟨_, _, _, _, _, _, _, rfl, h0, h1, h2, (fun _ => rfl), h4, h5, h6, n5_6, d7, d8, k0, k1, kO, hb⟩
   ·obtain ⟨h0, h1, h2, h3, h4, h5, h6, n5_6, d7, d8⟩ := A.out
    obtain rfl := h2 (hdep { on := 2, ground := .data } (by simp) rfl)
    obtain rfl := h3 (hdep { on := 3, ground := .data } (by simp) rfl)
    clear hdep h0 h1 h2 h3 h4 h5 h6 n5_6 d7 d8
    go_wp2_with (go_at_call 56; refine (HC.out _).mono ?_; rintro e w2 ⟨rfl, hb2⟩; have HB2 := am hb2; clear hb2)
    obtain ⟨h0, h1, h2, h3, h4, h5, h6, n5_6, d7, d8⟩ := A.out
    have hb2 := HB2.out
    exact HK.out _ _ ⟨_, _, _, _, _, _, _, rfl, h0, h1, (fun _ => rfl), (fun _ => rfl), (fun _ => rfl), (fun h => by obtain ⟨g', f1, f2, f3⟩ := h5 h; exact ⟨g', f1, f2, bb f3 hb2⟩), (fun h => by obtain ⟨g', f1, f2, f3⟩ := h6 h; exact ⟨g', f1, f2, bb f3 hb2⟩), n5_6, d7, d8, bb k0 hb2, bb k1 hb2, bb kO hb2, below_step hb hb2⟩
   ·clear hdep
    have sz := bl kO
    go_wp2_with fail
    obtain ⟨h0, h1, h2, h3, h4, h5, h6, n5_6, d7, d8⟩ := A.out
    have hf : ¬ f 7 = true := fun h => by rw [d7 h] at hfi; cases hfi
    refine HK.out _ _ ⟨_, _, _, _, _, _, _, rfl, h0, h1, h2, h3, h4, (fun _ => ⟨_, rfl, by omega, ?_⟩), (fun h => by obtain ⟨g', f1, f2, f3⟩ := h6 h; exact ⟨g', f1, f2, ba f3 _⟩), (fun he h1 h2 => by obtain ⟨g, e1, e2, e3⟩ := h6 h2; have := bl e3; rw [e1] at he; cases he; omega), (fun _ => rfl), d8, ba k0 _, ba k1 _, ba kO _, wa hb _⟩
    show (W'.alloc _).heap[_]? = some (Obj.cells (if f 7 = true then _ else _) 73 (0, 0))
    rw [if_neg hf]
    exact blk_new W' _
   ·clear hdep
    have sz := bl kO
    go_wp2_with fail
    obtain ⟨h0, h1, h2, h3, h4, h5, h6, n5_6, d7, d8⟩ := A.out
    have hf : ¬ f 8 = true := fun h => by rw [d8 h] at hfi; cases hfi
    refine HK.out _ _ ⟨_, _, _, _, _, _, _, rfl, h0, h1, h2, h3, h4, (fun h => by obtain ⟨g', f1, f2, f3⟩ := h5 h; exact ⟨g', f1, f2, ba f3 _⟩), (fun _ => ⟨_, rfl, by omega, ?_⟩), (fun he h1 h2 => by obtain ⟨g, e1, e2, e3⟩ := h5 h1; have := bl e3; rw [e1] at he; cases he; omega), d7, (fun _ => rfl), ba k0 _, ba k1 _, ba kO _, wa hb _⟩
    show (W'.alloc _).heap[_]? = some (Obj.cells (if f 8 = true then _ else _) 73 (0, 0))
    rw [if_neg hf]
    exact blk_new W' _
   ·obtain ⟨h0, h1, h2, h3, h4, h5, h6, n5_6, d7, d8⟩ := A.out
    have d0 := hdep { on := 5, ground := .data } (by simp) rfl
    obtain rfl := h1 (hdep { on := 1, ground := .data } (by simp) rfl)
    obtain ⟨g, rfl, e2, e3⟩ := h5 d0
    rw [if_neg (by rw [hfi]; decide)] at e3
    clear hdep h0 h1 h2 h3 h4 h5 h6 n5_6 d7 d8
    have D0 := am d0
    clear d0
    obtain ⟨p0, p1, p2, p3, p4, p5⟩ := RegInv.cells6 e3
    obtain ⟨q0, q1, q2, q3, q4, q5⟩ := RegInv.free6 e3
    go_wp2_with fail
    obtain ⟨h0, h1, h2, h3, h4, h5, h6, n5_6, d7, d8⟩ := A.out
    exact HK.out _ (RegInv.set6 W' g _ _ _ _ _ _) ⟨_, _, _, _, _, _, _, rfl, h0, (fun _ => rfl), h2, h3, h4, (fun _ => ⟨g, rfl, e2, RegInv.set6_at e3⟩), (fun h => by obtain ⟨g', f1, f2, f3⟩ := h6 h; exact ⟨g', f1, f2, RegInv.set6_far f3 (fun e => n5_6 (by rw [f1, e]) D0.out h)⟩), n5_6, (fun _ => D0.out), d8, RegInv.set6_far k0 (by omega), RegInv.set6_far k1 (by omega), RegInv.set6_far kO (by omega), RegInv.set6_below hb (by omega)⟩
   ·obtain ⟨h0, h1, h2, h3, h4, h5, h6, n5_6, d7, d8⟩ := A.out
    have d0 := hdep { on := 6, ground := .data } (by simp) rfl
    obtain rfl := h4 (hdep { on := 4, ground := .data } (by simp) rfl)
    obtain ⟨g, rfl, e2, e3⟩ := h6 d0
    rw [if_neg (by rw [hfi]; decide)] at e3
    clear hdep h0 h1 h2 h3 h4 h5 h6 n5_6 d7 d8
    have D0 := am d0
    clear d0
    obtain ⟨p0, p1, p2, p3, p4, p5⟩ := RegInv.cells6 e3
    obtain ⟨q0, q1, q2, q3, q4, q5⟩ := RegInv.free6 e3
    go_wp2_with fail
    obtain ⟨h0, h1, h2, h3, h4, h5, h6, n5_6, d7, d8⟩ := A.out
    exact HK.out _ (RegInv.set6 W' g _ _ _ _ _ _) ⟨_, _, _, _, _, _, _, rfl, h0, h1, h2, h3, (fun _ => rfl), (fun h => by obtain ⟨g', f1, f2, f3⟩ := h5 h; exact ⟨g', f1, f2, RegInv.set6_far f3 (fun e => n5_6 (by rw [f1, e]) h D0.out)⟩), (fun _ => ⟨g, rfl, e2, RegInv.set6_at e3⟩), n5_6, d7, (fun _ => D0.out), RegInv.set6_far k0 (by omega), RegInv.set6_far k1 (by omega), RegInv.set6_far kO (by omega), RegInv.set6_below hb (by omega)⟩
   simp at ho
  case hend =>
   clear K0 K1 KO HB
   intro f a W' hI hall
   obtain ⟨s16, s17, s18, s19, s20, s6, s7, rfl, h0, h1, h2, h3, h4, h5, h6, n5_6, d7, d8, k0, k1, kO, hb⟩ := hI
   obtain ⟨g6, rfl, l6, b6⟩ := h5 (hall 5 (by decide))
   rw [if_pos (hall 7 (by decide))] at b6
   obtain ⟨g7, rfl, l7, b7⟩ := h6 (hall 6 (by decide))
   rw [if_pos (hall 8 (by decide))] at b7
   have ne6_7 : g6 ≠ g7 := fun e => n5_6 (by rw [e]) (hall 5 (by decide)) (hall 6 (by decide))
   obtain rfl := h0 (hall 0 (by decide))
   obtain rfl := h1 (hall 1 (by decide))
   obtain rfl := h2 (hall 2 (by decide))
   obtain rfl := h3 (hall 3 (by decide))
   obtain rfl := h4 (hall 4 (by decide))
   clear h0 h1 h2 h3 h4 h5 h6 n5_6 d7 d8 hall
   dsimp only
   have NE6_7 := am ne6_7
   have B6 := am b6
   have B7 := am b7
   have K0 := am k0
   have K1 := am k1
   have KO := am kO
   have HB := am hb
   clear hb b6 b7 k0 k1 kO ne6_7
   have HR := am (Kd.R_nil k25 25 W' w.heap.size (fun k => w2.heap.size < k ∧ k ≠ g6 ∧ k ≠ g7))
   clear K0 K1
   go_wp2
   refine wp_loop_rounds 9 ?_
   rw [rounds_succ]
   obtain ⟨p0, p1, p2, p3, p4, p5⟩ := RegInv.cells6 B6.out
   obtain ⟨q0, q1, q2, q3, q4, q5⟩ := RegInv.cells6 B7.out
   go_wp2
   go_still_tail 10, (by kernel_rfl)
   clear p0 p1 p2 p3 p4 p5 q0 q1 q2 q3 q4 q5
   replace B6 := am (bd B6.out)
   replace B7 := am (bd B7.out)
   replace KO := am (bd KO.out)
   replace HR := am (Kd.R_drew HR.out)
   replace HB := am (wd HB.out)
   change wpList _ _ _ _ _ W'.drew
   generalize W'.drew = V1 at B6 B7 KO HR HB ⊢
   have HP1 := am (put_any 2 (by decide) a0_2 c4 g6 w2.heap.size a0_0 a0_3 a0_1 a0_4 a0_2 a0_5 (.slice none 0 0) ([] : List S25) w V1 (fun k => w2.heap.size < k ∧ k ≠ g6 ∧ k ≠ g7) (by omega) (by simp) HB.out (by omega) B6.out KO.out HR.out (fun k hk e => by obtain ⟨h1, _⟩ := hk; omega) (fun k hk => by have h1 := bl B6.out; have h2 := bl B7.out; have h3 := bl KO.out; exact ⟨by omega, by omega, by omega⟩))
   go_wp2_with (go_at_call 69; refine HP1.out.mono ?_; rintro e w4 ⟨rfl, v1, x5, xr, xb, xk⟩; replace B6 := am (xk _ _ B6.out (by omega) (fun h => h.2.1 rfl)); replace B7 := am (xk _ _ B7.out (by omega) (fun h => h.2.2 rfl)); replace KO := am x5; replace HR := am xr; replace HB := am xb; clear x5 xr xb xk HP1)
   obtain ⟨X1, hX1⟩ : ∃ X, X = ([] : List S25) ++ pt 2 a0_0 a0_3 a0_1 a0_4 a0_2 a0_5 a0_2 c4 := ⟨_, rfl⟩
   have L1 : X1.length ≤ 1 := by rw [hX1, List.length_append]; have := pt_len 2 a0_0 a0_3 a0_1 a0_4 a0_2 a0_5 a0_2 c4; simp at this ⊢; omega
   rw [← hX1] at HR
   replace hX1 := am hX1
   obtain ⟨p0, p1, p2, p3, p4, p5⟩ := RegInv.cells6 B6.out
   obtain ⟨q0, q1, q2, q3, q4, q5⟩ := RegInv.cells6 B7.out
   go_still_tail 10, (by kernel_rfl)
   clear p0 p1 p2 p3 p4 p5 q0 q1 q2 q3 q4 q5
   replace B6 := am (bd B6.out)
   replace B7 := am (bd B7.out)
   replace KO := am (bd KO.out)
   replace HR := am (Kd.R_drew HR.out)
   replace HB := am (wd HB.out)
   change wpList _ _ _ _ _ w4.drew
   generalize w4.drew = V2 at B6 B7 KO HR HB ⊢
   have HP2 := am (put_any 2 (by decide) c5 a0_5 g6 w2.heap.size a0_0 a0_3 a0_1 a0_4 a0_2 a0_5 v1 X1 w V2 (fun k => w2.heap.size < k ∧ k ≠ g6 ∧ k ≠ g7) (by omega) (by omega) HB.out (by omega) B6.out KO.out HR.out (fun k hk e => by obtain ⟨h1, _⟩ := hk; omega) (fun k hk => by have h1 := bl B6.out; have h2 := bl B7.out; have h3 := bl KO.out; exact ⟨by omega, by omega, by omega⟩))
   go_wp2_with (go_at_call 69; refine HP2.out.mono ?_; rintro e w4 ⟨rfl, v2, x5, xr, xb, xk⟩; replace B6 := am (xk _ _ B6.out (by omega) (fun h => h.2.1 rfl)); replace B7 := am (xk _ _ B7.out (by omega) (fun h => h.2.2 rfl)); replace KO := am x5; replace HR := am xr; replace HB := am xb; clear x5 xr xb xk HP2; obtain ⟨p0, p1, p2, p3, p4, p5⟩ := RegInv.cells6 B6.out; obtain ⟨q0, q1, q2, q3, q4, q5⟩ := RegInv.cells6 B7.out; obtain ⟨r0, r1, r2, r3, r4, r5⟩ := RegInv.free6 B6.out)
   obtain ⟨X2, hX2⟩ : ∃ X, X = X1 ++ pt 2 a0_0 a0_3 a0_1 a0_4 a0_2 a0_5 c5 a0_5 := ⟨_, rfl⟩
   have L2 : X2.length ≤ 2 := by rw [hX2, List.length_append]; have := pt_len 2 a0_0 a0_3 a0_1 a0_4 a0_2 a0_5 c5 a0_5; omega
   rw [← hX2] at HR
   replace hX2 := am hX2
   clear p0 p1 p2 p3 p4 p5 q0 q1 q2 q3 q4 q5 r0 r1 r2 r3 r4 r5
   rw [rounds_succ]
   replace B6 := am (blk_put (blk_put B6.out 4 (.int .i64 c4) rfl) 5 (.int .i64 c5) rfl)
   replace B7 := am (bF (p := ⟨g6, 5, none⟩) (bF (p := ⟨g6, 4, none⟩) B7.out (Ne.symm NE6_7.out) (.int .i64 c4)) (Ne.symm NE6_7.out) (.int .i64 c5))
   replace KO := am (bF (p := ⟨g6, 5, none⟩) (bF (p := ⟨g6, 4, none⟩) KO.out (show w2.heap.size ≠ g6 by omega) (.int .i64 c4)) (show w2.heap.size ≠ g6 by omega) (.int .i64 c5))
   replace HR := am (Kd.R_far (Kd.R_far HR.out (p := ⟨g6, 4, none⟩) (fun k hk => hk.2.1) (.int .i64 c4)) (p := ⟨g6, 5, none⟩) (fun k hk => hk.2.1) (.int .i64 c5))
   replace HB := am (ws (g := g6) (j := 5) (v := (.int .i64 c5)) (ws (g := g6) (j := 4) (v := (.int .i64 c4)) HB.out (by omega)) (by omega))
   generalize (w4.setCell ⟨g6, 4, none⟩ (.int .i64 c4)).setCell ⟨g6, 5, none⟩ (.int .i64 c5) = W2 at B6 B7 KO HR HB ⊢
   obtain ⟨p0, p1, p2, p3, p4, p5⟩ := RegInv.cells6 B6.out
   obtain ⟨q0, q1, q2, q3, q4, q5⟩ := RegInv.cells6 B7.out
   go_wp2
   go_still_tail 10, (by kernel_rfl)
   clear p0 p1 p2 p3 p4 p5 q0 q1 q2 q3 q4 q5
   replace B6 := am (bd B6.out)
   replace B7 := am (bd B7.out)
   replace KO := am (bd KO.out)
   replace HR := am (Kd.R_drew HR.out)
   replace HB := am (wd HB.out)
   change wpList _ _ _ _ _ W2.drew
   generalize W2.drew = V3 at B6 B7 KO HR HB ⊢
   have HP3 := am (put_any 1 (by decide) a0_1 c2 g6 w2.heap.size a0_0 a0_3 a0_1 a0_4 c4 c5 v2 X2 w V3 (fun k => w2.heap.size < k ∧ k ≠ g6 ∧ k ≠ g7) (by omega) (by omega) HB.out (by omega) B6.out KO.out HR.out (fun k hk e => by obtain ⟨h1, _⟩ := hk; omega) (fun k hk => by have h1 := bl B6.out; have h2 := bl B7.out; have h3 := bl KO.out; exact ⟨by omega, by omega, by omega⟩))
   go_wp2_with (go_at_call 69; refine HP3.out.mono ?_; rintro e w4 ⟨rfl, v3, x5, xr, xb, xk⟩; replace B6 := am (xk _ _ B6.out (by omega) (fun h => h.2.1 rfl)); replace B7 := am (xk _ _ B7.out (by omega) (fun h => h.2.2 rfl)); replace KO := am x5; replace HR := am xr; replace HB := am xb; clear x5 xr xb xk HP3)
   obtain ⟨X3, hX3⟩ : ∃ X, X = X2 ++ pt 1 a0_0 a0_3 a0_1 a0_4 c4 c5 a0_1 c2 := ⟨_, rfl⟩
   have L3 : X3.length ≤ 3 := by rw [hX3, List.length_append]; have := pt_len 1 a0_0 a0_3 a0_1 a0_4 c4 c5 a0_1 c2; omega
   rw [← hX3] at HR
   replace hX3 := am hX3
   obtain ⟨p0, p1, p2, p3, p4, p5⟩ := RegInv.cells6 B6.out
   obtain ⟨q0, q1, q2, q3, q4, q5⟩ := RegInv.cells6 B7.out
   go_still_tail 10, (by kernel_rfl)
   clear p0 p1 p2 p3 p4 p5 q0 q1 q2 q3 q4 q5
   replace B6 := am (bd B6.out)
   replace B7 := am (bd B7.out)
   replace KO := am (bd KO.out)
   replace HR := am (Kd.R_drew HR.out)
   replace HB := am (wd HB.out)
   change wpList _ _ _ _ _ w4.drew
   generalize w4.drew = V4 at B6 B7 KO HR HB ⊢
   have HP4 := am (put_any 1 (by decide) c3 a0_4 g6 w2.heap.size a0_0 a0_3 a0_1 a0_4 c4 c5 v3 X3 w V4 (fun k => w2.heap.size < k ∧ k ≠ g6 ∧ k ≠ g7) (by omega) (by omega) HB.out (by omega) B6.out KO.out HR.out (fun k hk e => by obtain ⟨h1, _⟩ := hk; omega) (fun k hk => by have h1 := bl B6.out; have h2 := bl B7.out; have h3 := bl KO.out; exact ⟨by omega, by omega, by omega⟩))
   go_wp2_with (go_at_call 69; refine HP4.out.mono ?_; rintro e w4 ⟨rfl, v4, x5, xr, xb, xk⟩; replace B6 := am (xk _ _ B6.out (by omega) (fun h => h.2.1 rfl)); replace B7 := am (xk _ _ B7.out (by omega) (fun h => h.2.2 rfl)); replace KO := am x5; replace HR := am xr; replace HB := am xb; clear x5 xr xb xk HP4; obtain ⟨p0, p1, p2, p3, p4, p5⟩ := RegInv.cells6 B6.out; obtain ⟨q0, q1, q2, q3, q4, q5⟩ := RegInv.cells6 B7.out; obtain ⟨r0, r1, r2, r3, r4, r5⟩ := RegInv.free6 B6.out)
   obtain ⟨X4, hX4⟩ : ∃ X, X = X3 ++ pt 1 a0_0 a0_3 a0_1 a0_4 c4 c5 c3 a0_4 := ⟨_, rfl⟩
   have L4 : X4.length ≤ 4 := by rw [hX4, List.length_append]; have := pt_len 1 a0_0 a0_3 a0_1 a0_4 c4 c5 c3 a0_4; omega
   rw [← hX4] at HR
   replace hX4 := am hX4
   clear p0 p1 p2 p3 p4 p5 q0 q1 q2 q3 q4 q5 r0 r1 r2 r3 r4 r5
   rw [rounds_succ]
   replace B6 := am (blk_put (blk_put B6.out 2 (.int .i64 c2) rfl) 3 (.int .i64 c3) rfl)
   replace B7 := am (bF (p := ⟨g6, 3, none⟩) (bF (p := ⟨g6, 2, none⟩) B7.out (Ne.symm NE6_7.out) (.int .i64 c2)) (Ne.symm NE6_7.out) (.int .i64 c3))
   replace KO := am (bF (p := ⟨g6, 3, none⟩) (bF (p := ⟨g6, 2, none⟩) KO.out (show w2.heap.size ≠ g6 by omega) (.int .i64 c2)) (show w2.heap.size ≠ g6 by omega) (.int .i64 c3))
   replace HR := am (Kd.R_far (Kd.R_far HR.out (p := ⟨g6, 2, none⟩) (fun k hk => hk.2.1) (.int .i64 c2)) (p := ⟨g6, 3, none⟩) (fun k hk => hk.2.1) (.int .i64 c3))
   replace HB := am (ws (g := g6) (j := 3) (v := (.int .i64 c3)) (ws (g := g6) (j := 2) (v := (.int .i64 c2)) HB.out (by omega)) (by omega))
   generalize (w4.setCell ⟨g6, 2, none⟩ (.int .i64 c2)).setCell ⟨g6, 3, none⟩ (.int .i64 c3) = W4 at B6 B7 KO HR HB ⊢
   obtain ⟨p0, p1, p2, p3, p4, p5⟩ := RegInv.cells6 B6.out
   obtain ⟨q0, q1, q2, q3, q4, q5⟩ := RegInv.cells6 B7.out
   go_wp2
   go_still_tail 10, (by kernel_rfl)
   clear p0 p1 p2 p3 p4 p5 q0 q1 q2 q3 q4 q5
   replace B6 := am (bd B6.out)
   replace B7 := am (bd B7.out)
   replace KO := am (bd KO.out)
   replace HR := am (Kd.R_drew HR.out)
   replace HB := am (wd HB.out)
   change wpList _ _ _ _ _ W4.drew
   generalize W4.drew = V5 at B6 B7 KO HR HB ⊢
   have HP5 := am (put_any 0 (by decide) a0_0 c0 g6 w2.heap.size a0_0 a0_3 c2 c3 c4 c5 v4 X4 w V5 (fun k => w2.heap.size < k ∧ k ≠ g6 ∧ k ≠ g7) (by omega) (by omega) HB.out (by omega) B6.out KO.out HR.out (fun k hk e => by obtain ⟨h1, _⟩ := hk; omega) (fun k hk => by have h1 := bl B6.out; have h2 := bl B7.out; have h3 := bl KO.out; exact ⟨by omega, by omega, by omega⟩))
   go_wp2_with (go_at_call 69; refine HP5.out.mono ?_; rintro e w4 ⟨rfl, v5, x5, xr, xb, xk⟩; replace B6 := am (xk _ _ B6.out (by omega) (fun h => h.2.1 rfl)); replace B7 := am (xk _ _ B7.out (by omega) (fun h => h.2.2 rfl)); replace KO := am x5; replace HR := am xr; replace HB := am xb; clear x5 xr xb xk HP5)
   obtain ⟨X5, hX5⟩ : ∃ X, X = X4 ++ pt 0 a0_0 a0_3 c2 c3 c4 c5 a0_0 c0 := ⟨_, rfl⟩
   have L5 : X5.length ≤ 5 := by rw [hX5, List.length_append]; have := pt_len 0 a0_0 a0_3 c2 c3 c4 c5 a0_0 c0; omega
   rw [← hX5] at HR
   replace hX5 := am hX5
   obtain ⟨p0, p1, p2, p3, p4, p5⟩ := RegInv.cells6 B6.out
   obtain ⟨q0, q1, q2, q3, q4, q5⟩ := RegInv.cells6 B7.out
   go_still_tail 10, (by kernel_rfl)
   clear p0 p1 p2 p3 p4 p5 q0 q1 q2 q3 q4 q5
   replace B6 := am (bd B6.out)
   replace B7 := am (bd B7.out)
   replace KO := am (bd KO.out)
   replace HR := am (Kd.R_drew HR.out)
   replace HB := am (wd HB.out)
   change wpList _ _ _ _ _ w4.drew
   generalize w4.drew = V6 at B6 B7 KO HR HB ⊢
   have HP6 := am (put_any 0 (by decide) c1 a0_3 g6 w2.heap.size a0_0 a0_3 c2 c3 c4 c5 v5 X5 w V6 (fun k => w2.heap.size < k ∧ k ≠ g6 ∧ k ≠ g7) (by omega) (by omega) HB.out (by omega) B6.out KO.out HR.out (fun k hk e => by obtain ⟨h1, _⟩ := hk; omega) (fun k hk => by have h1 := bl B6.out; have h2 := bl B7.out; have h3 := bl KO.out; exact ⟨by omega, by omega, by omega⟩))
   go_wp2_with (go_at_call 69; refine HP6.out.mono ?_; rintro e w4 ⟨rfl, v6, x5, xr, xb, xk⟩; replace B6 := am (xk _ _ B6.out (by omega) (fun h => h.2.1 rfl)); replace B7 := am (xk _ _ B7.out (by omega) (fun h => h.2.2 rfl)); replace KO := am x5; replace HR := am xr; replace HB := am xb; clear x5 xr xb xk HP6; obtain ⟨p0, p1, p2, p3, p4, p5⟩ := RegInv.cells6 B6.out; obtain ⟨q0, q1, q2, q3, q4, q5⟩ := RegInv.cells6 B7.out; obtain ⟨r0, r1, r2, r3, r4, r5⟩ := RegInv.free6 B6.out)
   obtain ⟨X6, hX6⟩ : ∃ X, X = X5 ++ pt 0 a0_0 a0_3 c2 c3 c4 c5 c1 a0_3 := ⟨_, rfl⟩
   have L6 : X6.length ≤ 6 := by rw [hX6, List.length_append]; have := pt_len 0 a0_0 a0_3 c2 c3 c4 c5 c1 a0_3; omega
   rw [← hX6] at HR
   replace hX6 := am hX6
   clear p0 p1 p2 p3 p4 p5 q0 q1 q2 q3 q4 q5 r0 r1 r2 r3 r4 r5
   rw [rounds_succ]
   replace B6 := am (blk_put (blk_put B6.out 0 (.int .i64 c0) rfl) 1 (.int .i64 c1) rfl)
   replace B7 := am (bF (p := ⟨g6, 1, none⟩) (bF (p := ⟨g6, 0, none⟩) B7.out (Ne.symm NE6_7.out) (.int .i64 c0)) (Ne.symm NE6_7.out) (.int .i64 c1))
   replace KO := am (bF (p := ⟨g6, 1, none⟩) (bF (p := ⟨g6, 0, none⟩) KO.out (show w2.heap.size ≠ g6 by omega) (.int .i64 c0)) (show w2.heap.size ≠ g6 by omega) (.int .i64 c1))
   replace HR := am (Kd.R_far (Kd.R_far HR.out (p := ⟨g6, 0, none⟩) (fun k hk => hk.2.1) (.int .i64 c0)) (p := ⟨g6, 1, none⟩) (fun k hk => hk.2.1) (.int .i64 c1))
   replace HB := am (ws (g := g6) (j := 1) (v := (.int .i64 c1)) (ws (g := g6) (j := 0) (v := (.int .i64 c0)) HB.out (by omega)) (by omega))
   generalize (w4.setCell ⟨g6, 0, none⟩ (.int .i64 c0)).setCell ⟨g6, 1, none⟩ (.int .i64 c1) = W6 at B6 B7 KO HR HB ⊢
   have c5 := (blk_cell KO.out 0).trans rfl
   go_wp2
   go_ret
   refine ⟨_, rfl, ?_, HB.out⟩
   unfold subt
   rw [← hX1.out, ← hX2.out, ← hX3.out, ← hX4.out, ← hX5.out, ← hX6.out]
   exact Kd.R_mono HR.out (fun _ _ => trivial)
end

def box_Subtract.f (k : Nat) (a0_0 : Int) (a0_1 : Int) (a0_2 : Int) (a0_3 : Int) (a0_4 : Int) (a0_5 : Int) (a1_0 : Int) (a1_1 : Int) (a1_2 : Int) (a1_3 : Int) (a1_4 : Int) (a1_5 : Int) : Option ((List (S25)) × Int) := (box_all.f k (([(⟨(⟨a0_0, a0_1, a0_2⟩ : S23), (⟨a0_3, a0_4, a0_5⟩ : S23)⟩ : S25), (⟨(⟨a1_0, a1_1, a1_2⟩ : S23), (⟨a1_3, a1_4, a1_5⟩ : S23)⟩ : S25)] : List (S25)))).bind fun t161 => (if t161 = 0 then ((box_subtract.f a0_0 a0_1 a0_2 a0_3 a0_4 a0_5 a1_0 a1_1 a1_2 a1_3 a1_4 a1_5).bind fun t162 => (some (t162, 0))) else (some (([] : List (S25)), t161)))
set_option maxHeartbeats 8000000 in
set_option maxRecDepth 100000 in
theorem box_Subtract.calls (k : Nat) (a0_0 : Int) (a0_1 : Int) (a0_2 : Int) (a0_3 : Int) (a0_4 : Int) (a0_5 : Int) (a1_0 : Int) (a1_1 : Int) (a1_2 : Int) (a1_3 : Int) (a1_4 : Int) (a1_5 : Int) (r1 : List (S25)) (r2 : Int) (w : World) (h : box_Subtract.f k a0_0 a0_1 a0_2 a0_3 a0_4 a0_5 a1_0 a1_1 a1_2 a1_3 a1_4 a1_5 = some (r1, r2)) :
  Calls Try.prog 35 #[.agg #[.int .i64 a0_0, .int .i64 a0_1, .int .i64 a0_2, .int .i64 a0_3, .int .i64 a0_4, .int .i64 a0_5], .agg #[.int .i64 a1_0, .int .i64 a1_1, .int .i64 a1_2, .int .i64 a1_3, .int .i64 a1_4, .int .i64 a1_5]] w fun e w' => ∃ v0_ : Value, e = .returned (.tuple #[v0_, .int .i64 r2]) ∧ Kd.R k25 25 w' w.heap.size (fun _ => True) v0_ r1 ∧ Below w.heap.size w w' := by
 have hu25 := Try.underlying25
 have HB := am (Below.refl w.heap.size w)
 have H : ((box_all.f k (([(⟨(⟨a0_0, a0_1, a0_2⟩ : S23), (⟨a0_3, a0_4, a0_5⟩ : S23)⟩ : S25), (⟨(⟨a1_0, a1_1, a1_2⟩ : S23), (⟨a1_3, a1_4, a1_5⟩ : S23)⟩ : S25)] : List (S25)))).bind fun t161 => (if t161 = 0 then ((box_subtract.f a0_0 a0_1 a0_2 a0_3 a0_4 a0_5 a1_0 a1_1 a1_2 a1_3 a1_4 a1_5).bind fun t162 => (some (t162, 0))) else (some (([] : List (S25)), t161)))) = some (r1, r2) := h
 clear h
 obtain ⟨y158, hy158⟩ : ∃ y_ : List (S25), y_ = (([(⟨(⟨a0_0, a0_1, a0_2⟩ : S23), (⟨a0_3, a0_4, a0_5⟩ : S23)⟩ : S25), (⟨(⟨a1_0, a1_1, a1_2⟩ : S23), (⟨a1_3, a1_4, a1_5⟩ : S23)⟩ : S25)] : List (S25))) := ⟨_, rfl⟩
 replace H : ((box_all.f k y158).bind fun t161 => (if t161 = 0 then ((box_subtract.f a0_0 a0_1 a0_2 a0_3 a0_4 a0_5 a1_0 a1_1 a1_2 a1_3 a1_4 a1_5).bind fun t162 => (some (t162, 0))) else (some (([] : List (S25)), t161)))) = some (r1, r2) := by first | (rw [hy158]; with_reducible exact H) | (have H2_ := (Option.bind_some _ _).symm.trans H; rw [hy158]; with_reducible exact H2_) | (have H2_ := (Option.bind_some _ _).symm.trans H; with_reducible exact H2_) | with_reducible exact H | (rw [hy158]; exact H) | exact H
 have Ny158 := am hy158
 clear hy158
 replace H := Option.bind_eq_some_iff.mp H
 obtain ⟨t161, A30, H⟩ := H
 replace H : (if t161 = 0 then ((box_subtract.f a0_0 a0_1 a0_2 a0_3 a0_4 a0_5 a1_0 a1_1 a1_2 a1_3 a1_4 a1_5).bind fun t162 => (some (t162, 0))) else (some (([] : List (S25)), t161))) = some (r1, r2) := H
 have A3 := am A30
 clear A30
 by_cases c4 : t161 = 0
 ·rw [if_pos c4] at H
  have c4b0 : (t161 == 0) = true := beq_iff_eq.mpr c4
  have c4b1 : (t161 != 0) = false := bne_eq_false_iff_eq.mpr c4
  clear c4
  replace H := Option.bind_eq_some_iff.mp H
  obtain ⟨t162, A50, H⟩ := H
  replace H : (some (t162, 0)) = some (r1, r2) := H
  have A5 := am A50
  clear A50
  simp only [Option.some.injEq, Prod.mk.injEq] at H
  obtain ⟨rfl, rfl⟩ := H
  go_enter Try.func35, Try.ntmps35
  go_wp2_with (first | ((with_reducible refine gate_dst (N := 2) rfl ?_); refine box_event ?hg (N := 2) ?hd (cs := #[.int .i64 a0_0, .int .i64 a0_1, .int .i64 a0_2, .int .i64 a0_3, .int .i64 a0_4, .int .i64 a0_5]) (t := 25) ?hr ?_; (case hd | hg => rfl); (case hr => first | (go_simp; done) | (go_simp; rfl)); intro gb156 hg w6 hbox hb; have BK156 := am hbox; have GW156 := sG HB hg; have GE156 := sG HB hg; replace HB := bS HB hb; clear hb hbox hg) | ((with_reducible refine gate_dst (N := 3) rfl ?_); refine box_event ?hg (N := 3) ?hd (cs := #[.int .i64 a1_0, .int .i64 a1_1, .int .i64 a1_2, .int .i64 a1_3, .int .i64 a1_4, .int .i64 a1_5]) (t := 25) ?hr ?_; (case hd | hg => rfl); (case hr => first | (go_simp; done) | (go_simp; rfl)); intro gb157 hg w7 hbox hb; have BK157 := am hbox; have GW157 := sG HB hg; have GE157 := sG HB hg; replace HB := bS HB hb; have NB156_157 := nL BK156 hg; have NB157_156 := nG BK156 hg; replace BK156 := bB BK156 hb; clear hb hbox hg; have hnb8 := NB156_157.out; have hnc8 := NB157_156.out; obtain ⟨_, _, _, _, _, _, _, _, _, _, _, _⟩ := zC6 BK156; obtain ⟨_, _, _, _, _, _, _, _, _, _, _, _⟩ := zC6 BK157) | ((with_reducible refine gate_dst (N := 9) rfl ?_); refine Kd.R_lit k25 _ 25 ?hg (N := 9) ?hd (xs := ([(⟨(⟨a0_0, a0_1, a0_2⟩ : S23), (⟨a0_3, a0_4, a0_5⟩ : S23)⟩ : S25), (⟨(⟨a1_0, a1_1, a1_2⟩ : S23), (⟨a1_3, a1_4, a1_5⟩ : S23)⟩ : S25)] : List (S25))) (inner := [.int .i64 a0_0, .int .i64 a0_1, .int .i64 a0_2, .int .i64 a0_3, .int .i64 a0_4, .int .i64 a0_5, .int .i64 a1_0, .int .i64 a1_1, .int .i64 a1_2, .int .i64 a1_3, .int .i64 a1_4, .int .i64 a1_5]) (ok := fun _ => True) (okp := fun _ => True) ?hr ?hp (fun _ hk => hk) trivial (Below.refl _ _) (Nat.le_refl _) (by simp) ?_; (case hd | hg => rfl); (case hr => first | (go_simp; done) | (go_simp; rfl)); (case hp => exact (Reps.c6 (show Kd.M k25 _ _ _ (⟨(⟨a0_0, a0_1, a0_2⟩ : S23), (⟨a0_3, a0_4, a0_5⟩ : S23)⟩ : S25) [.int .i64 a0_0, .int .i64 a0_1, .int .i64 a0_2, .int .i64 a0_3, .int .i64 a0_4, .int .i64 a0_5] from (k25_mkM _ _ _ (⟨(⟨a0_0, a0_1, a0_2⟩ : S23), (⟨a0_3, a0_4, a0_5⟩ : S23)⟩ : S25) )) (Reps.c6 (show Kd.M k25 _ _ _ (⟨(⟨a1_0, a1_1, a1_2⟩ : S23), (⟨a1_3, a1_4, a1_5⟩ : S23)⟩ : S25) [.int .i64 a1_0, .int .i64 a1_1, .int .i64 a1_2, .int .i64 a1_3, .int .i64 a1_4, .int .i64 a1_5] from (k25_mkM _ _ _ (⟨(⟨a1_0, a1_1, a1_2⟩ : S23), (⟨a1_3, a1_4, a1_5⟩ : S23)⟩ : S25) )) (Reps.none _ _)))); intro v159 w11 ho12 hb hg_ hnew_; clear hg_ hnew_; (first | rw [← Ny158.out] at ho12 | (simp only [Int.reduceToNat] at ho12; rw [← Ny158.out] at ho12)); have HO160 := am (Kd.R_lower (Kd.R_newB (Kd.R_newB ho12 (g := gb156) (o := .cells #[.int .i64 a0_0, .int .i64 a0_1, .int .i64 a0_2, .int .i64 a0_3, .int .i64 a0_4, .int .i64 a0_5] 25 (0, 0)) (fb BK156.out)) (g := gb157) (o := .cells #[.int .i64 a1_0, .int .i64 a1_1, .int .i64 a1_2, .int .i64 a1_3, .int .i64 a1_4, .int .i64 a1_5] 25 (0, 0)) (fb BK157.out)) (below_size (fW HB.out))); replace BK156 := bB BK156 hb; replace BK157 := bB BK157 hb; replace HB := bS HB hb; clear hb ho12; obtain ⟨Ao13, co13, eo13⟩ := Kd.R_slice HO160.out; subst eo13) | ((with_reducible refine gate_callee (f := 57) rfl ?_); refine goesL_ (some 10) rfl rfl Try.func57 (by kernel_rfl) rfl #[.slice Ao13 y158.length co13] rfl (by (try simp only [pml]); first | done | rfl | (simp only [pdt]; rfl)) ?_; (with_reducible refine (box_all.calls k _ _ y158 t161 _ ?side1 ?side2 A3.out).mono ?_); (case side1 => repeat (first | exact (Kd.R_reads' HO160.out).2.2 | (with_reducible refine Kd.C_alloc ?_ _) | (with_reducible refine Kd.C_drewN ?_ _) | (with_reducible refine Kd.C_drew ?_))); (case side2 => exact (Kd.R_reads' HO160.out).2.1); rintro e w14 ⟨rfl, hb⟩; refine ⟨_, rfl, ?_⟩; replace HO160 := dR HO160 hb; replace BK156 := bB BK156 hb; replace BK157 := bB BK157 hb; replace HB := bS HB hb; (try clear hb); (try clear hb2); (try clear hk); (try clear hi); obtain ⟨_, _, _, _, _, _, _, _, _, _, _, _⟩ := zC6 BK156; obtain ⟨_, _, _, _, _, _, _, _, _, _, _, _⟩ := zC6 BK157) | ((with_reducible refine gate_callee (f := 51) rfl ?_); refine goesL_ (some 16) rfl rfl Try.func51 (by kernel_rfl) rfl #[.agg #[.int .i64 a0_0, .int .i64 a0_1, .int .i64 a0_2, .int .i64 a0_3, .int .i64 a0_4, .int .i64 a0_5], .agg #[.int .i64 a1_0, .int .i64 a1_1, .int .i64 a1_2, .int .i64 a1_3, .int .i64 a1_4, .int .i64 a1_5]] rfl (by (try simp only [pml]); first | done | rfl | (simp only [pdt]; rfl)) ?_; (with_reducible refine (box_subtract.calls a0_0 a0_1 a0_2 a0_3 a0_4 a0_5 a1_0 a1_1 a1_2 a1_3 a1_4 a1_5 t162 _ A5.out).mono ?_); rintro e w17 ⟨v163, rfl, ho0, hb⟩; refine ⟨_, rfl, ?_⟩; have HO164 := am (Kd.R_lower (Kd.R_newB (Kd.R_newB (Kd.R_new' ho0 (Kd.R_lt (fR HO160.out))) (g := gb156) (o := .cells #[.int .i64 a0_0, .int .i64 a0_1, .int .i64 a0_2, .int .i64 a0_3, .int .i64 a0_4, .int .i64 a0_5] 25 (0, 0)) (fb BK156.out)) (g := gb157) (o := .cells #[.int .i64 a1_0, .int .i64 a1_1, .int .i64 a1_2, .int .i64 a1_3, .int .i64 a1_4, .int .i64 a1_5] 25 (0, 0)) (fb BK157.out)) (below_size (fW HB.out))); replace HO160 := am (Kd.R_elder' (fR HO160.out) (Kd.R_base ho0) hb); replace BK156 := bB BK156 hb; replace BK157 := bB BK157 hb; replace HB := bS HB hb; (try clear hb); (try clear hb2); (try clear hk); (try clear hi); (try clear ho0)))
  go_ret2
  exact ⟨_, sqE, by (with_reducible repeat (first | apply Kd.R_alloc | apply Kd.R_drewN | apply Kd.R_drew)); exact Kd.R_mono HO164.out (fun _ hk => trivial), fW HB.out⟩
 ·rw [if_neg c4] at H
  have c4b0 : (t161 == 0) = false := beq_eq_false_iff_ne.mpr c4
  have c4b1 : (t161 != 0) = true := bne_iff_ne.mpr c4
  simp only [Option.some.injEq, Prod.mk.injEq] at H
  obtain ⟨rfl, rfl⟩ := H
  go_enter Try.func35, Try.ntmps35
  go_wp2_with (first | ((with_reducible refine gate_dst (N := 2) rfl ?_); refine box_event ?hg (N := 2) ?hd (cs := #[.int .i64 a0_0, .int .i64 a0_1, .int .i64 a0_2, .int .i64 a0_3, .int .i64 a0_4, .int .i64 a0_5]) (t := 25) ?hr ?_; (case hd | hg => rfl); (case hr => first | (go_simp; done) | (go_simp; rfl)); intro gb156 hg w18 hbox hb; have BK156 := am hbox; have GW156 := sG HB hg; have GE156 := sG HB hg; replace HB := bS HB hb; clear hb hbox hg) | ((with_reducible refine gate_dst (N := 3) rfl ?_); refine box_event ?hg (N := 3) ?hd (cs := #[.int .i64 a1_0, .int .i64 a1_1, .int .i64 a1_2, .int .i64 a1_3, .int .i64 a1_4, .int .i64 a1_5]) (t := 25) ?hr ?_; (case hd | hg => rfl); (case hr => first | (go_simp; done) | (go_simp; rfl)); intro gb157 hg w19 hbox hb; have BK157 := am hbox; have GW157 := sG HB hg; have GE157 := sG HB hg; replace HB := bS HB hb; have NB156_157 := nL BK156 hg; have NB157_156 := nG BK156 hg; replace BK156 := bB BK156 hb; clear hb hbox hg; have hnb20 := NB156_157.out; have hnc20 := NB157_156.out; obtain ⟨_, _, _, _, _, _, _, _, _, _, _, _⟩ := zC6 BK156; obtain ⟨_, _, _, _, _, _, _, _, _, _, _, _⟩ := zC6 BK157) | ((with_reducible refine gate_dst (N := 9) rfl ?_); refine Kd.R_lit k25 _ 25 ?hg (N := 9) ?hd (xs := ([(⟨(⟨a0_0, a0_1, a0_2⟩ : S23), (⟨a0_3, a0_4, a0_5⟩ : S23)⟩ : S25), (⟨(⟨a1_0, a1_1, a1_2⟩ : S23), (⟨a1_3, a1_4, a1_5⟩ : S23)⟩ : S25)] : List (S25))) (inner := [.int .i64 a0_0, .int .i64 a0_1, .int .i64 a0_2, .int .i64 a0_3, .int .i64 a0_4, .int .i64 a0_5, .int .i64 a1_0, .int .i64 a1_1, .int .i64 a1_2, .int .i64 a1_3, .int .i64 a1_4, .int .i64 a1_5]) (ok := fun _ => True) (okp := fun _ => True) ?hr ?hp (fun _ hk => hk) trivial (Below.refl _ _) (Nat.le_refl _) (by simp) ?_; (case hd | hg => rfl); (case hr => first | (go_simp; done) | (go_simp; rfl)); (case hp => exact (Reps.c6 (show Kd.M k25 _ _ _ (⟨(⟨a0_0, a0_1, a0_2⟩ : S23), (⟨a0_3, a0_4, a0_5⟩ : S23)⟩ : S25) [.int .i64 a0_0, .int .i64 a0_1, .int .i64 a0_2, .int .i64 a0_3, .int .i64 a0_4, .int .i64 a0_5] from (k25_mkM _ _ _ (⟨(⟨a0_0, a0_1, a0_2⟩ : S23), (⟨a0_3, a0_4, a0_5⟩ : S23)⟩ : S25) )) (Reps.c6 (show Kd.M k25 _ _ _ (⟨(⟨a1_0, a1_1, a1_2⟩ : S23), (⟨a1_3, a1_4, a1_5⟩ : S23)⟩ : S25) [.int .i64 a1_0, .int .i64 a1_1, .int .i64 a1_2, .int .i64 a1_3, .int .i64 a1_4, .int .i64 a1_5] from (k25_mkM _ _ _ (⟨(⟨a1_0, a1_1, a1_2⟩ : S23), (⟨a1_3, a1_4, a1_5⟩ : S23)⟩ : S25) )) (Reps.none _ _)))); intro v159 w23 ho24 hb hg_ hnew_; clear hg_ hnew_; (first | rw [← Ny158.out] at ho24 | (simp only [Int.reduceToNat] at ho24; rw [← Ny158.out] at ho24)); have HO160 := am (Kd.R_lower (Kd.R_newB (Kd.R_newB ho24 (g := gb156) (o := .cells #[.int .i64 a0_0, .int .i64 a0_1, .int .i64 a0_2, .int .i64 a0_3, .int .i64 a0_4, .int .i64 a0_5] 25 (0, 0)) (fb BK156.out)) (g := gb157) (o := .cells #[.int .i64 a1_0, .int .i64 a1_1, .int .i64 a1_2, .int .i64 a1_3, .int .i64 a1_4, .int .i64 a1_5] 25 (0, 0)) (fb BK157.out)) (below_size (fW HB.out))); replace BK156 := bB BK156 hb; replace BK157 := bB BK157 hb; replace HB := bS HB hb; clear hb ho24; obtain ⟨Ao25, co25, eo25⟩ := Kd.R_slice HO160.out; subst eo25) | ((with_reducible refine gate_callee (f := 57) rfl ?_); refine goesL_ (some 10) rfl rfl Try.func57 (by kernel_rfl) rfl #[.slice Ao25 y158.length co25] rfl (by (try simp only [pml]); first | done | rfl | (simp only [pdt]; rfl)) ?_; (with_reducible refine (box_all.calls k _ _ y158 t161 _ ?side1 ?side2 A3.out).mono ?_); (case side1 => repeat (first | exact (Kd.R_reads' HO160.out).2.2 | (with_reducible refine Kd.C_alloc ?_ _) | (with_reducible refine Kd.C_drewN ?_ _) | (with_reducible refine Kd.C_drew ?_))); (case side2 => exact (Kd.R_reads' HO160.out).2.1); rintro e w26 ⟨rfl, hb⟩; refine ⟨_, rfl, ?_⟩; replace HO160 := dR HO160 hb; replace BK156 := bB BK156 hb; replace BK157 := bB BK157 hb; replace HB := bS HB hb; (try clear hb); (try clear hb2); (try clear hk); (try clear hi)))
  go_ret2
  exact ⟨_, sqE, by first | exact Kd.R_nil _ _ _ _ _ | exact Kd.N_nil _ _ _ _ _ | exact Kd.V_nil _ _ _ _ _ | exact Kd.Q_nil _ _ _ _ _ | exact Kd.S_nil _ _ _ _ _, fW HB.out⟩

end Go.Proofs.Ytmmdikhmlmoolaa.QA
