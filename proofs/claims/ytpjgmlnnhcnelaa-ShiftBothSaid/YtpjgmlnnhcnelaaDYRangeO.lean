import Derived.RangeFuncNested
import Derived.RangeFuncBound
import Derived.RangeFuncCalls
import Derived.RangeFuncLeaves
import Derived.Shelf.Abstract
import Derived.WalkKit
import Derived.OwnWalkIn
import Derived.TacticsInMore
import Derived.LoopNIn
import Derived.LoopIn
namespace Go.Proofs.Ytpjgmlnnhcnelaa.Iter
open Go Go.RowKit
set_option linter.unusedVariables false
set_option linter.unusedSimpArgs false

theorem YieldAt.deep {m : Nat} (m' : Nat) {P : Program} {l : Nat} {args : Array Value} {W : World} {R : Ending → World → Prop} (h : YieldAt Fence.wide m P l args W R) : YieldAt Fence.wide m' P l args W R := by
  obtain ⟨fn, tmps, assign, body, hy, hf, hr⟩ := h
  exact ⟨fn, tmps, assign, body, hy, hf, fun c cs _ => hr c cs (fun d hd => by cases hd)⟩
structure Keep (n₀ B : Nat) (W W' : World) : Prop where
  below : Below n₀ W W'
  same : ∀ k o, B ≤ k → W.heap[k]? = some o → o.isCells = true → W'.heap[k]? = some o
theorem Keep.refl (n₀ B : Nat) (W : World) : Keep n₀ B W W := ⟨Below.refl _ _, fun _ _ _ h _ => h⟩
theorem Keep.trans {n₀ B : Nat} {X Y Z : World} (h : Keep n₀ B X Y) (k : Keep n₀ B Y Z) : Keep n₀ B X Z := ⟨h.below.trans k.below, fun i o hi ho hc => k.same i o hi (h.same i o hi ho hc) hc⟩
theorem Keep.alloc {n₀ B : Nat} {W : World} (hn : n₀ ≤ W.heap.size) (o : Obj) : Keep n₀ B W (W.alloc o) :=
  ⟨(Below.refl _ W).alloc hn o, fun k o' _ h _ => (Below.heap_alloc W o k (Array.getElem?_eq_some_iff.1 h).1).trans h⟩
theorem Keep.put {n₀ B : Nat} {w W : World} (hn : n₀ ≤ w.heap.size) (l : Nat) (o o' : Obj) (hl : w.heap.size ≤ l) (h : W.heap[l]? = some o) (hc : o.isCells = false) (hw : o.isWalk = false) : Keep n₀ B W (W.putObj l o') :=
  ⟨belowK_b (w := w) hn W l o o' hl h hc hw, fun k q _ hk hq => by
    by_cases e : k = l
    · subst e; rw [hk] at h; cases h; rw [hq] at hc; cases hc
    · exact (World.putObj_heap_other (by omega)).trans hk⟩
theorem Keep.heap {n₀ B : Nat} {W W' : World} (h : Keep n₀ B W W') {k : Nat} (hk : k < n₀ ∨ B ≤ k) {o : Obj} (ho : W.heap[k]? = some o) (hc : o.isCells = true) : W'.heap[k]? = some o := by
  rcases hk with hk | hk
  · exact (h.below.block k hk).trans ho
  · exact h.same k o hk ho hc
def Whole (D : Nat) (W W' : World) : Prop := W.heap.size ≤ W'.heap.size ∧ ∀ k o, D ≤ k → W.heap[k]? = some o → W'.heap[k]? = some o
theorem Whole.refl (D : Nat) (W : World) : Whole D W W := ⟨Nat.le_refl _, fun _ _ _ h => h⟩
theorem Whole.trans {D : Nat} {X Y Z : World} (h : Whole D X Y) (k : Whole D Y Z) : Whole D X Z := ⟨Nat.le_trans h.1 k.1, fun i o hi ho => k.2 i o hi (h.2 i o hi ho)⟩
theorem Whole.mono {D D' : Nat} (hD : D ≤ D') {W W' : World} (h : Whole D W W') : Whole D' W W' := ⟨h.1, fun k o hk ho => h.2 k o (Nat.le_trans hD hk) ho⟩
theorem Whole.of_below {D : Nat} {W W' : World} (h : Below W.heap.size W W') : Whole D W W' := ⟨h.size, fun k o _ ho => (h.block k (Array.getElem?_eq_some_iff.1 ho).1).trans ho⟩
theorem Whole.put {D l : Nat} {W : World} (h : l < D) (o' : Obj) : Whole D W (W.putObj l o') := ⟨by simp, fun k o hk ho => (World.putObj_heap_other (by omega)).trans ho⟩
def SeqO {α : Type} (P : Program) (g : Nat) (lb : Array Value) (encs : α → Array Value) (n₀ B : Nat) (zs : List α) (w : World) : Prop :=
  ∀ (l : Nat) (J Jx : List α → World → Prop) (W : World), Below w.heap.size w W → OwnFrom W.heap.size J → OwnFrom W.heap.size Jx →
    (∀ pre x W1, J pre W1 → pre ++ [x] <+: zs → YieldAt Fence.wide 0 P l (encs x) W1 fun e W' =>
      (e = .returned (.bool true) ∧ J (pre ++ [x]) W' ∧ Keep n₀ B W1 W' ∧ Whole W.heap.size W1 W') ∨ (e = .returned (.bool false) ∧ Jx (pre ++ [x]) W' ∧ Whole W.heap.size W1 W')) →
    J [] W →
    CallsIn Fence.wide 9 P g (#[.func (.yield l) #[] #[]] ++ lb) W fun e W' => (∃ v, e = .returned v) ∧ (J zs W' ∨ ∃ pre, pre <+: zs ∧ Jx pre W')
def endsO {α : Type} (D n₀ B : Nat) (I : List α → World → Prop) (Ix : Code → List α → World → Prop) (xs : List α) (W : World) : Exit → Act → World → Prop
  | .normal, _, W' => Whole D W W' ∧ Keep n₀ B W W' ∧ I xs W'
  | .ret, _, W' => Whole D W W' ∧ Ix .ret xs W'
  | .exit id, _, W' => Whole D W W' ∧ Ix (.exit id) xs W'
  | .goto t, _, W' => Whole D W W' ∧ Ix (.goto t) xs W'
  | .panic _, _, _ => False
  | .outgrown, _, _ => False
theorem ownFrom_mono {β : Type} {B B' : Nat} (hB : B ≤ B') {I : β → World → Prop} (h : OwnFrom B I) : OwnFrom B' I :=
  fun s W W' row hs hg hr => h s W W' row hs hg (fun r e => ⟨Nat.le_trans hB (hr r e).1, (hr r e).2⟩)
theorem ownFrom_rec {β : Type} {B k : Nat} (hk : k < B) (o : Obj) : OwnFrom B (fun (_ : β) W => W.heap[k]? = some o) :=
  fun _ W W' row hs hg hr => (hg.block k (Array.getElem?_eq_some_iff.1 hs).1 (fun e => by have := (hr k e.symm).1; omega)).trans hs
set_option maxHeartbeats 1000000 in
theorem range_O {P : Program} {α : Type} {g : Operand} {ps : Array Tmp} {assign body : Code} {Q : Exit → Act → World → Prop} {a : Act} {w : World} {n m : Nat} (hn : 1 ≤ n) (hm : n - 1 - 1 = m)
    {gf : Nat} {lb : Array Value} (hg : a.eval g = .func (.func gf) #[] lb) (eg : ∀ args w, (callFunc gf args).run P w = .ok (.enter gf args) w)
    {encs : α → Array Value} {n₀ B : Nat} {zs : List α} (hseq : SeqO P gf lb encs n₀ B zs w) (hn₀ : n₀ ≤ w.heap.size) (hps : ∀ x, (encs x).size = ps.size)
    (I : List α → World → Prop) (Ix : Code → List α → World → Prop) (hI : OwnFrom w.heap.size I) (hIx : ∀ c, OwnFrom w.heap.size (Ix c)) (h0 : I [] w) (a₁ : α → Act)
    (hassign : ∀ (l : Nat) (x : α) (W : World) (K : Act → World → Prop), K (a₁ x) W →
      assign.wpIn (Fence.wide.inRound l) m P (Exit.then K (fun _ _ _ => False)) { tmps := (ps.zip (encs x)).foldl (fun t (p, v) => t.setIfInBounds p v) a.tmps, defers := [] } W)
    (hbody : ∀ (l : Nat) (pre : List α) (x : α) (W : World), w.heap.size ≤ l → (∃ r, W.heap[l]? = some (.loop r)) → I pre W → pre ++ [x] <+: zs → body.wpIn (Fence.wide.inRound l) m P (endsO w.heap.size n₀ B I Ix (pre ++ [x]) W) (a₁ x) W)
    (hdone : ∀ (D : Nat) (W : World), w.heap.size ≤ D → I zs W → W.heap[D]? = some (.deferred (some [])) → Q .normal { a with defers := { target := .collected D, args := #[] } :: a.defers } W)
    (hstop : ∀ (D : Nat) (c : Code) (pre : List α) (W : World), w.heap.size ≤ D → pre <+: zs → Ix c pre W → W.heap[D]? = some (.deferred (some [])) → c.wpIn Fence.wide n P Q { a with defers := { target := .collected D, args := #[] } :: a.defers } W) :
    (Code.rangeFunc g ps assign body).wpIn Fence.wide n P Q a w := by
  subst hm
  refine wpIn_rangeFunc ?_
  intro fn hfn
  rw [show Fence.wide.round = none from rfl]
  let rec0 : LoopState → Option Code → Loop := fun st pe => { state := st, pending := pe, fn, tmps := a.tmps, params := ps, assign, body, defers := w.heap.size }
  have e0 : ∀ st pe, rec0 st pe = { state := st, pending := pe, fn, tmps := a.tmps, params := ps, assign, body, defers := w.heap.size } := fun _ _ => rfl
  generalize rec0 = rec at e0
  generalize hW1 : (w.alloc (.deferred (some []))).alloc (.loop (rec .ready none)) = W1
  have sz : W1.heap.size = w.heap.size + 2 := by rw [← hW1]; simp
  have hL1 : W1.heap[w.heap.size + 1]? = some (.loop (rec .ready none)) := by
    have h := World.alloc_heap_new (w.alloc (.deferred (some []))) (.loop (rec .ready none))
    rw [World.size_alloc] at h; rw [← hW1]; exact h
  have hK1 : W1.heap[w.heap.size]? = some (.deferred (some [])) := by
    rw [← hW1]; exact (Below.heap_alloc _ _ _ (by simp)).trans (World.alloc_heap_new w _)
  have hI1 : I [] W1 := by rw [← hW1]; exact hI.alloc _ (hI.alloc _ h0)
  have hb1 : Below w.heap.size w W1 := by rw [← hW1]; exact ((Below.refl _ w).alloc (Nat.le_refl _) _).alloc (by simp) _
  refine ⟨w.heap.size + 1, [{ target := .collected w.heap.size, args := #[] }], W1, { target := .fn (.func gf) lb, args := #[.func (.yield (w.heap.size + 1)) #[] #[]] }, W1, gf,
    #[.func (.yield (w.heap.size + 1)) #[] #[]] ++ lb, W1, ?_, ?_, ?_, ?_, fun _ => hn, ?_⟩
  · rw [← hW1, e0]; exact run_enterLoop_outer _ _ _ _ _
  · simp only [resolve, hg]
    simp [go_sem]
  · intro f' _; trivial
  · simp [invoke, go_sem, eg]
  · have oJ : OwnFrom W1.heap.size (fun pre W => I pre W ∧ W.heap[w.heap.size + 1]? = some (.loop (rec .ready none)) ∧ W.heap[w.heap.size]? = some (.deferred (some []))) :=
      (ownFrom_mono (by omega) hI).and ((ownFrom_rec (by omega) _).and (ownFrom_rec (by omega) _))
    have oJx : OwnFrom W1.heap.size (fun pre W => ∃ c, Ix c pre W ∧ W.heap[w.heap.size + 1]? = some (.loop (rec .done (some c))) ∧ W.heap[w.heap.size]? = some (.deferred (some []))) := by
      intro s A B row ⟨c, hs⟩ hgr hr
      exact ⟨c, ((ownFrom_mono (by omega) (hIx c)).and ((ownFrom_rec (β := List α) (by omega) _).and (ownFrom_rec (by omega) _))) s A B row hs hgr hr⟩
    have hcall := hseq (w.heap.size + 1) _ _ W1 hb1 oJ oJx ?_ ⟨hI1, hL1, hK1⟩
    · refine CallsIn.mono (callsIn_wide.2 (callsIn_wide.1 hcall)) ?_
      rintro e W2 ⟨⟨v, rfl⟩, (⟨hi, hl, hk⟩ | ⟨pre, hp, c, hi, hl, hk⟩)⟩
      · refine ⟨none, _, by have h := run_endLoop (P := P) hl (by rw [e0]; simp); rw [e0] at h; exact h, ?_⟩
        exact hdone _ _ (Nat.le_refl _) (hI.putObj _ hi (by omega) hl rfl) ((World.putObj_heap_other (by omega)).trans hk)
      · refine ⟨some c, _, by have h := run_endLoop (P := P) hl (by rw [e0]; simp); rw [e0] at h; exact h, ?_⟩
        exact hstop _ c pre _ (Nat.le_refl _) hp ((hIx c).putObj _ hi (by omega) hl rfl) ((World.putObj_heap_other (by omega)).trans hk)
    · rintro pre x W ⟨hi, hl, hk⟩ hpx
      have hlt : w.heap.size + 1 < W.heap.size := (Array.getElem?_eq_some_iff.1 hl).1
      have hy := run_yield (P := P) (args := encs x) hl (by rw [e0]; exact hps x)
      rw [e0] at hy
      refine YieldAt.deep 0 (m := n - 1 - 1) ⟨fn, _, assign, body, hy, roundIn_of_wpIn hfn (hassign _ x W _ ?_)⟩
      clear hy
      refine ⟨_, run_beginRound hl (by rw [e0]), ?_⟩
      generalize hB : (Obj.loop { rec .ready none with state := .busy }) = busy
      have hl2 : (W.putObj (w.heap.size + 1) busy).heap[w.heap.size + 1]? = some busy := World.putObj_heap_same hlt
      have hk2 : (W.putObj (w.heap.size + 1) busy).heap[w.heap.size]? = some (.deferred (some [])) := (World.putObj_heap_other (by omega)).trans hk
      have b2 : Keep n₀ B W (W.putObj (w.heap.size + 1) busy) := Keep.put (w := w) hn₀ _ _ _ (by omega) hl rfl rfl
      refine wpIn_mono (hbody _ pre x _ (by omega) ⟨_, by rw [← hB] at hl2 ⊢; exact hl2⟩ (hI.putObj _ hi (by omega) hl rfl) hpx) ?_
      have fin : ∀ (jump : Option Code) (W3 : World), Whole w.heap.size (W.putObj (w.heap.size + 1) busy) W3 →
          (Instr.endRound (w.heap.size + 1) jump).run P W3 = .ok (.bool jump.isNone) (W3.putObj (w.heap.size + 1) (.loop (rec (if jump.isNone then .ready else .done) jump))) ∧
          W3.heap[w.heap.size + 1]? = some busy ∧
          (W3.putObj (w.heap.size + 1) (.loop (rec (if jump.isNone then .ready else .done) jump))).heap[w.heap.size + 1]? = some (.loop (rec (if jump.isNone then .ready else .done) jump)) ∧
          (W3.putObj (w.heap.size + 1) (.loop (rec (if jump.isNone then .ready else .done) jump))).heap[w.heap.size]? = some (.deferred (some [])) ∧
          Whole W1.heap.size W (W3.putObj (w.heap.size + 1) (.loop (rec (if jump.isNone then .ready else .done) jump))) := fun jump W3 h3 => by
        have hl3 := h3.2 _ _ (by omega) hl2
        have hr := run_endRound (P := P) jump (by rw [← hB] at hl3; exact hl3)
        rw [e0] at hr
        refine ⟨?_, hl3, World.putObj_heap_same (Array.getElem?_eq_some_iff.1 hl3).1, (World.putObj_heap_other (by omega)).trans (h3.2 _ _ (Nat.le_refl _) hk2), ((Whole.put (by omega) _).trans (h3.mono (by omega))).trans (Whole.put (by omega) _)⟩
        rw [e0]
        exact hr
      have nc : busy.isCells = false := by rw [← hB]; rfl
      have nw : busy.isWalk = false := by rw [← hB]; rfl
      rintro e a3 W3 hp
      cases e with
      | normal =>
        obtain ⟨h3, hb3, hi3⟩ := hp
        obtain ⟨hr, hl3, hl4, hk4, hw4⟩ := fin none W3 h3
        exact ⟨_, _, hr, .inl ⟨rfl, ⟨hI.putObj _ hi3 (by omega) hl3 nc, hl4, hk4⟩, (b2.trans hb3).trans (Keep.put (w := w) hn₀ _ _ _ (by omega) hl3 nc nw), hw4⟩⟩
      | ret =>
        obtain ⟨h3, hi3⟩ := hp
        obtain ⟨hr, hl3, hl4, hk4, hw4⟩ := fin (some .ret) W3 h3
        exact ⟨_, _, hr, .inr ⟨rfl, ⟨.ret, (hIx _).putObj _ hi3 (by omega) hl3 nc, hl4, hk4⟩, hw4⟩⟩
      | exit id =>
        obtain ⟨h3, hi3⟩ := hp
        obtain ⟨hr, hl3, hl4, hk4, hw4⟩ := fin (some (.exit id)) W3 h3
        exact ⟨_, _, hr, .inr ⟨rfl, ⟨.exit id, (hIx _).putObj _ hi3 (by omega) hl3 nc, hl4, hk4⟩, hw4⟩⟩
      | goto t =>
        obtain ⟨h3, hi3⟩ := hp
        obtain ⟨hr, hl3, hl4, hk4, hw4⟩ := fin (some (.goto t)) W3 h3
        exact ⟨_, _, hr, .inr ⟨rfl, ⟨.goto t, (hIx _).putObj _ hi3 (by omega) hl3 nc, hl4, hk4⟩, hw4⟩⟩
      | panic ch => exact hp.elim
      | outgrown => exact hp.elim
set_option maxHeartbeats 1000000 in
theorem range_A {P : Program} {α : Type} {g : Operand} {ps : Array Tmp} {assign body : Code} {Q : Exit → Act → World → Prop} {a : Act} {w : World} {n m : Nat} (hn : 1 ≤ n) (hm : n - 1 - 1 = m)
    {gf : Nat} {lb : Array Value} (hg : a.eval g = .func (.func gf) #[] lb) (eg : ∀ args w, (callFunc gf args).run P w = .ok (.enter gf args) w)
    {encs : α → Array Value} {n₀ B : Nat} {zs : List α} (hseq : SeqO P gf lb encs n₀ B zs w) (hn₀ : n₀ ≤ w.heap.size) (hps : ∀ x, (encs x).size = ps.size)
    (I : List α → World → Prop) (Ix : Code → List α → World → Prop) (hI : OwnFrom w.heap.size I) (hIx : ∀ c, OwnFrom w.heap.size (Ix c)) (h0 : I [] w) (Ia : List α → α → Act → World → Prop) (hIa : ∀ pre x a₁, OwnFrom w.heap.size (fun (_ : Unit) => Ia pre x a₁))
    (hassign : ∀ (l : Nat) (pre : List α) (x : α) (W : World) (K : Act → World → Prop), w.heap.size ≤ l → I pre W → (∀ a₁ W1, Whole w.heap.size W W1 → Keep n₀ B W W1 → Ia pre x a₁ W1 → K a₁ W1) →
      assign.wpIn (Fence.wide.inRound l) m P (Exit.then K (fun _ _ _ => False)) { tmps := (ps.zip (encs x)).foldl (fun t (p, v) => t.setIfInBounds p v) a.tmps, defers := [] } W)
    (hbody : ∀ (l : Nat) (pre : List α) (x : α) (a₁ : Act) (W : World), w.heap.size ≤ l → (∃ r, W.heap[l]? = some (.loop r)) → Ia pre x a₁ W → pre ++ [x] <+: zs → body.wpIn (Fence.wide.inRound l) m P (endsO w.heap.size n₀ B I Ix (pre ++ [x]) W) a₁ W)
    (hdone : ∀ (D : Nat) (W : World), w.heap.size ≤ D → I zs W → W.heap[D]? = some (.deferred (some [])) → Q .normal { a with defers := { target := .collected D, args := #[] } :: a.defers } W)
    (hstop : ∀ (D : Nat) (c : Code) (pre : List α) (W : World), w.heap.size ≤ D → pre <+: zs → Ix c pre W → W.heap[D]? = some (.deferred (some [])) → c.wpIn Fence.wide n P Q { a with defers := { target := .collected D, args := #[] } :: a.defers } W) :
    (Code.rangeFunc g ps assign body).wpIn Fence.wide n P Q a w := by
  subst hm
  refine wpIn_rangeFunc ?_
  intro fn hfn
  rw [show Fence.wide.round = none from rfl]
  let rec0 : LoopState → Option Code → Loop := fun st pe => { state := st, pending := pe, fn, tmps := a.tmps, params := ps, assign, body, defers := w.heap.size }
  have e0 : ∀ st pe, rec0 st pe = { state := st, pending := pe, fn, tmps := a.tmps, params := ps, assign, body, defers := w.heap.size } := fun _ _ => rfl
  generalize rec0 = rec at e0
  generalize hW1 : (w.alloc (.deferred (some []))).alloc (.loop (rec .ready none)) = W1
  have sz : W1.heap.size = w.heap.size + 2 := by rw [← hW1]; simp
  have hL1 : W1.heap[w.heap.size + 1]? = some (.loop (rec .ready none)) := by
    have h := World.alloc_heap_new (w.alloc (.deferred (some []))) (.loop (rec .ready none))
    rw [World.size_alloc] at h; rw [← hW1]; exact h
  have hK1 : W1.heap[w.heap.size]? = some (.deferred (some [])) := by
    rw [← hW1]; exact (Below.heap_alloc _ _ _ (by simp)).trans (World.alloc_heap_new w _)
  have hI1 : I [] W1 := by rw [← hW1]; exact hI.alloc _ (hI.alloc _ h0)
  have hb1 : Below w.heap.size w W1 := by rw [← hW1]; exact ((Below.refl _ w).alloc (Nat.le_refl _) _).alloc (by simp) _
  refine ⟨w.heap.size + 1, [{ target := .collected w.heap.size, args := #[] }], W1, { target := .fn (.func gf) lb, args := #[.func (.yield (w.heap.size + 1)) #[] #[]] }, W1, gf,
    #[.func (.yield (w.heap.size + 1)) #[] #[]] ++ lb, W1, ?_, ?_, ?_, ?_, fun _ => hn, ?_⟩
  · rw [← hW1, e0]; exact run_enterLoop_outer _ _ _ _ _
  · simp only [resolve, hg]
    simp [go_sem]
  · intro f' _; trivial
  · simp [invoke, go_sem, eg]
  · have oJ : OwnFrom W1.heap.size (fun pre W => I pre W ∧ W.heap[w.heap.size + 1]? = some (.loop (rec .ready none)) ∧ W.heap[w.heap.size]? = some (.deferred (some []))) :=
      (ownFrom_mono (by omega) hI).and ((ownFrom_rec (by omega) _).and (ownFrom_rec (by omega) _))
    have oJx : OwnFrom W1.heap.size (fun pre W => ∃ c, Ix c pre W ∧ W.heap[w.heap.size + 1]? = some (.loop (rec .done (some c))) ∧ W.heap[w.heap.size]? = some (.deferred (some []))) := by
      intro s A B row ⟨c, hs⟩ hgr hr
      exact ⟨c, ((ownFrom_mono (by omega) (hIx c)).and ((ownFrom_rec (β := List α) (by omega) _).and (ownFrom_rec (by omega) _))) s A B row hs hgr hr⟩
    have hcall := hseq (w.heap.size + 1) _ _ W1 hb1 oJ oJx ?_ ⟨hI1, hL1, hK1⟩
    · refine CallsIn.mono (callsIn_wide.2 (callsIn_wide.1 hcall)) ?_
      rintro e W2 ⟨⟨v, rfl⟩, (⟨hi, hl, hk⟩ | ⟨pre, hp, c, hi, hl, hk⟩)⟩
      · refine ⟨none, _, by have h := run_endLoop (P := P) hl (by rw [e0]; simp); rw [e0] at h; exact h, ?_⟩
        exact hdone _ _ (Nat.le_refl _) (hI.putObj _ hi (by omega) hl rfl) ((World.putObj_heap_other (by omega)).trans hk)
      · refine ⟨some c, _, by have h := run_endLoop (P := P) hl (by rw [e0]; simp); rw [e0] at h; exact h, ?_⟩
        exact hstop _ c pre _ (Nat.le_refl _) hp ((hIx c).putObj _ hi (by omega) hl rfl) ((World.putObj_heap_other (by omega)).trans hk)
    · rintro pre x W ⟨hi, hl, hk⟩ hpx
      have hlt : w.heap.size + 1 < W.heap.size := (Array.getElem?_eq_some_iff.1 hl).1
      have hy := run_yield (P := P) (args := encs x) hl (by rw [e0]; exact hps x)
      rw [e0] at hy
      refine YieldAt.deep 0 (m := n - 1 - 1) ⟨fn, _, assign, body, hy, roundIn_of_wpIn hfn (hassign _ pre x W _ (by omega) hi ?_)⟩
      clear hy
      intro a₁ W1' hwh hkp hia
      have hl1' := hwh.2 _ _ (by omega) hl
      have hk1' := hwh.2 _ _ (Nat.le_refl _) hk
      have hlt1 : w.heap.size + 1 < W1'.heap.size := (Array.getElem?_eq_some_iff.1 hl1').1
      refine ⟨_, run_beginRound hl1' (by rw [e0]), ?_⟩
      generalize hB : (Obj.loop { rec .ready none with state := .busy }) = busy
      have hl2 : (W1'.putObj (w.heap.size + 1) busy).heap[w.heap.size + 1]? = some busy := World.putObj_heap_same hlt1
      have hk2 : (W1'.putObj (w.heap.size + 1) busy).heap[w.heap.size]? = some (.deferred (some [])) := (World.putObj_heap_other (by omega)).trans hk1'
      have b2 : Keep n₀ B W (W1'.putObj (w.heap.size + 1) busy) := hkp.trans (Keep.put (w := w) hn₀ _ _ _ (by omega) hl1' rfl rfl)
      have hia2 : Ia pre x a₁ (W1'.putObj (w.heap.size + 1) busy) := (hIa pre x a₁).putObj _ (s := ()) hia (by omega) hl1' rfl
      refine wpIn_mono (hbody _ pre x a₁ _ (by omega) ⟨_, by rw [← hB] at hl2 ⊢; exact hl2⟩ hia2 hpx) ?_
      have fin : ∀ (jump : Option Code) (W3 : World), Whole w.heap.size (W1'.putObj (w.heap.size + 1) busy) W3 →
          (Instr.endRound (w.heap.size + 1) jump).run P W3 = .ok (.bool jump.isNone) (W3.putObj (w.heap.size + 1) (.loop (rec (if jump.isNone then .ready else .done) jump))) ∧
          W3.heap[w.heap.size + 1]? = some busy ∧
          (W3.putObj (w.heap.size + 1) (.loop (rec (if jump.isNone then .ready else .done) jump))).heap[w.heap.size + 1]? = some (.loop (rec (if jump.isNone then .ready else .done) jump)) ∧
          (W3.putObj (w.heap.size + 1) (.loop (rec (if jump.isNone then .ready else .done) jump))).heap[w.heap.size]? = some (.deferred (some [])) ∧
          Whole W1.heap.size W (W3.putObj (w.heap.size + 1) (.loop (rec (if jump.isNone then .ready else .done) jump))) := fun jump W3 h3 => by
        have hl3 := h3.2 _ _ (by omega) hl2
        have hr := run_endRound (P := P) jump (by rw [← hB] at hl3; exact hl3)
        rw [e0] at hr
        refine ⟨?_, hl3, World.putObj_heap_same (Array.getElem?_eq_some_iff.1 hl3).1, (World.putObj_heap_other (by omega)).trans (h3.2 _ _ (Nat.le_refl _) hk2), (((hwh.mono (by omega)).trans (Whole.put (by omega) _)).trans (h3.mono (by omega))).trans (Whole.put (by omega) _)⟩
        rw [e0]
        exact hr
      have nc : busy.isCells = false := by rw [← hB]; rfl
      have nw : busy.isWalk = false := by rw [← hB]; rfl
      rintro e a3 W3 hp
      cases e with
      | normal =>
        obtain ⟨h3, hb3, hi3⟩ := hp
        obtain ⟨hr, hl3, hl4, hk4, hw4⟩ := fin none W3 h3
        exact ⟨_, _, hr, .inl ⟨rfl, ⟨hI.putObj _ hi3 (by omega) hl3 nc, hl4, hk4⟩, (b2.trans hb3).trans (Keep.put (w := w) hn₀ _ _ _ (by omega) hl3 nc nw), hw4⟩⟩
      | ret =>
        obtain ⟨h3, hi3⟩ := hp
        obtain ⟨hr, hl3, hl4, hk4, hw4⟩ := fin (some .ret) W3 h3
        exact ⟨_, _, hr, .inr ⟨rfl, ⟨.ret, (hIx _).putObj _ hi3 (by omega) hl3 nc, hl4, hk4⟩, hw4⟩⟩
      | exit id =>
        obtain ⟨h3, hi3⟩ := hp
        obtain ⟨hr, hl3, hl4, hk4, hw4⟩ := fin (some (.exit id)) W3 h3
        exact ⟨_, _, hr, .inr ⟨rfl, ⟨.exit id, (hIx _).putObj _ hi3 (by omega) hl3 nc, hl4, hk4⟩, hw4⟩⟩
      | goto t =>
        obtain ⟨h3, hi3⟩ := hp
        obtain ⟨hr, hl3, hl4, hk4, hw4⟩ := fin (some (.goto t)) W3 h3
        exact ⟨_, _, hr, .inr ⟨rfl, ⟨.goto t, (hIx _).putObj _ hi3 (by omega) hl3 nc, hl4, hk4⟩, hw4⟩⟩
      | panic ch => exact hp.elim
      | outgrown => exact hp.elim
structure KeepP (n₀ B D : Nat) (W W' : World) : Prop where
  below : Below n₀ W W'
  same : ∀ k o, B ≤ k → k < D → W.heap[k]? = some o → o.isCells = true → W'.heap[k]? = some o
theorem KeepP.refl (n₀ B D : Nat) (W : World) : KeepP n₀ B D W W := ⟨Below.refl _ _, fun _ _ _ _ h _ => h⟩
theorem KeepP.trans {n₀ B D : Nat} {X Y Z : World} (h : KeepP n₀ B D X Y) (k : KeepP n₀ B D Y Z) : KeepP n₀ B D X Z := ⟨h.below.trans k.below, fun i o hi hd ho hc => k.same i o hi hd (h.same i o hi hd ho hc) hc⟩
theorem Keep.weak {n₀ B : Nat} (D : Nat) {W W' : World} (h : Keep n₀ B W W') : KeepP n₀ B D W W' := ⟨h.below, fun k o hk _ ho hc => h.same k o hk ho hc⟩
theorem KeepP.put {n₀ B D : Nat} {w W : World} (hn : n₀ ≤ w.heap.size) (l : Nat) (o o' : Obj) (hl : w.heap.size ≤ l) (h : W.heap[l]? = some o) (hc : o.isCells = false) (hw : o.isWalk = false) : KeepP n₀ B D W (W.putObj l o') := (Keep.put hn l o o' hl h hc hw).weak D
theorem KeepP.heap {n₀ B D : Nat} {W W' : World} (h : KeepP n₀ B D W W') {k : Nat} (hk : k < n₀ ∨ (B ≤ k ∧ k < D)) {o : Obj} (ho : W.heap[k]? = some o) (hc : o.isCells = true) : W'.heap[k]? = some o := by
  rcases hk with hk | hk
  · exact (h.below.block k hk).trans ho
  · exact h.same k o hk.1 hk.2 ho hc
def SeqP {α : Type} (P : Program) (g : Nat) (lb : Array Value) (encs : α → Array Value) (n₀ B : Nat) (zs : List α) (w : World) : Prop :=
  ∀ (l : Nat) (J Jx : List α → World → Prop) (W : World), Below w.heap.size w W → OwnFrom W.heap.size J → OwnFrom W.heap.size Jx →
    (∀ pre x W1, J pre W1 → pre ++ [x] <+: zs → YieldAt Fence.wide 0 P l (encs x) W1 fun e W' =>
      (e = .returned (.bool true) ∧ J (pre ++ [x]) W' ∧ KeepP n₀ B w.heap.size W1 W') ∨ (e = .returned (.bool false) ∧ Jx (pre ++ [x]) W')) →
    J [] W →
    CallsIn Fence.wide 9 P g (#[.func (.yield l) #[] #[]] ++ lb) W fun e W' => (∃ v, e = .returned v) ∧ (J zs W' ∨ ∃ pre, pre <+: zs ∧ Jx pre W')
theorem SeqP.toO {α : Type} {P : Program} {g : Nat} {lb : Array Value} {encs : α → Array Value} {n₀ B : Nat} {zs : List α} {w : World} (h : SeqP P g lb encs n₀ B zs w) : SeqO P g lb encs n₀ B zs w :=
  fun l J Jx W hW hJ hJx hY h0 => h l J Jx W hW hJ hJx (fun pre x W1 hj hp => YieldAt.mono (hY pre x W1 hj hp) (fun e W' q => q.elim (fun ⟨a, b, c, _⟩ => .inl ⟨a, b, c.weak _⟩) (fun ⟨a, b, _⟩ => .inr ⟨a, b⟩))) h0
def endsP {α : Type} (D n₀ B : Nat) (I : List α → World → Prop) (Ix : Code → List α → World → Prop) (xs : List α) (W : World) : Exit → Act → World → Prop
  | .normal, _, W' => KeepsFrom D W W' ∧ KeepP n₀ B D W W' ∧ I xs W'
  | .ret, _, W' => KeepsFrom D W W' ∧ Ix .ret xs W'
  | .exit id, _, W' => KeepsFrom D W W' ∧ Ix (.exit id) xs W'
  | .goto t, _, W' => KeepsFrom D W W' ∧ Ix (.goto t) xs W'
  | .panic _, _, _ => False
  | .outgrown, _, _ => False
set_option maxHeartbeats 1000000 in
theorem range_P {P : Program} {α : Type} {g : Operand} {ps : Array Tmp} {assign body : Code} {Q : Exit → Act → World → Prop} {a : Act} {w : World} {n m : Nat} (hn : 1 ≤ n) (hm : n - 1 - 1 = m)
    {gf : Nat} {lb : Array Value} (hg : a.eval g = .func (.func gf) #[] lb) (eg : ∀ args w, (callFunc gf args).run P w = .ok (.enter gf args) w)
    {encs : α → Array Value} {n₀ B : Nat} {zs : List α} (hseq : SeqP P gf lb encs n₀ B zs w) (hn₀ : n₀ ≤ w.heap.size) (hps : ∀ x, (encs x).size = ps.size)
    (I : List α → World → Prop) (Ix : Code → List α → World → Prop) (hI : OwnFrom w.heap.size I) (hIx : ∀ c, OwnFrom w.heap.size (Ix c)) (h0 : I [] w) (a₁ : α → Act)
    (hassign : ∀ (l : Nat) (x : α) (W : World) (K : Act → World → Prop), K (a₁ x) W →
      assign.wpIn (Fence.wide.inRound l) m P (Exit.then K (fun _ _ _ => False)) { tmps := (ps.zip (encs x)).foldl (fun t (p, v) => t.setIfInBounds p v) a.tmps, defers := [] } W)
    (hbody : ∀ (l : Nat) (pre : List α) (x : α) (W : World), w.heap.size ≤ l → (∃ r, W.heap[l]? = some (.loop r)) → I pre W → pre ++ [x] <+: zs → body.wpIn (Fence.wide.inRound l) m P (endsP w.heap.size n₀ B I Ix (pre ++ [x]) W) (a₁ x) W)
    (hdone : ∀ (D : Nat) (W : World), w.heap.size ≤ D → I zs W → W.heap[D]? = some (.deferred (some [])) → Q .normal { a with defers := { target := .collected D, args := #[] } :: a.defers } W)
    (hstop : ∀ (D : Nat) (c : Code) (pre : List α) (W : World), w.heap.size ≤ D → pre <+: zs → Ix c pre W → W.heap[D]? = some (.deferred (some [])) → c.wpIn Fence.wide n P Q { a with defers := { target := .collected D, args := #[] } :: a.defers } W) :
    (Code.rangeFunc g ps assign body).wpIn Fence.wide n P Q a w := by
  subst hm
  refine wpIn_rangeFunc ?_
  intro fn hfn
  rw [show Fence.wide.round = none from rfl]
  let rec0 : LoopState → Option Code → Loop := fun st pe => { state := st, pending := pe, fn, tmps := a.tmps, params := ps, assign, body, defers := w.heap.size }
  have e0 : ∀ st pe, rec0 st pe = { state := st, pending := pe, fn, tmps := a.tmps, params := ps, assign, body, defers := w.heap.size } := fun _ _ => rfl
  generalize rec0 = rec at e0
  generalize hW1 : (w.alloc (.deferred (some []))).alloc (.loop (rec .ready none)) = W1
  have sz : W1.heap.size = w.heap.size + 2 := by rw [← hW1]; simp
  have hL1 : W1.heap[w.heap.size + 1]? = some (.loop (rec .ready none)) := by
    have h := World.alloc_heap_new (w.alloc (.deferred (some []))) (.loop (rec .ready none))
    rw [World.size_alloc] at h; rw [← hW1]; exact h
  have hK1 : W1.heap[w.heap.size]? = some (.deferred (some [])) := by
    rw [← hW1]; exact (Below.heap_alloc _ _ _ (by simp)).trans (World.alloc_heap_new w _)
  have hI1 : I [] W1 := by rw [← hW1]; exact hI.alloc _ (hI.alloc _ h0)
  have hb1 : Below w.heap.size w W1 := by rw [← hW1]; exact ((Below.refl _ w).alloc (Nat.le_refl _) _).alloc (by simp) _
  refine ⟨w.heap.size + 1, [{ target := .collected w.heap.size, args := #[] }], W1, { target := .fn (.func gf) lb, args := #[.func (.yield (w.heap.size + 1)) #[] #[]] }, W1, gf,
    #[.func (.yield (w.heap.size + 1)) #[] #[]] ++ lb, W1, ?_, ?_, ?_, ?_, fun _ => hn, ?_⟩
  · rw [← hW1, e0]; exact run_enterLoop_outer _ _ _ _ _
  · simp only [resolve, hg]
    simp [go_sem]
  · intro f' _; trivial
  · simp [invoke, go_sem, eg]
  · have oJ : OwnFrom W1.heap.size (fun pre W => I pre W ∧ W.heap[w.heap.size + 1]? = some (.loop (rec .ready none)) ∧ W.heap[w.heap.size]? = some (.deferred (some []))) :=
      (ownFrom_mono (by omega) hI).and ((ownFrom_rec (by omega) _).and (ownFrom_rec (by omega) _))
    have oJx : OwnFrom W1.heap.size (fun pre W => ∃ c, Ix c pre W ∧ W.heap[w.heap.size + 1]? = some (.loop (rec .done (some c))) ∧ W.heap[w.heap.size]? = some (.deferred (some []))) := by
      intro s A B row ⟨c, hs⟩ hgr hr
      exact ⟨c, ((ownFrom_mono (by omega) (hIx c)).and ((ownFrom_rec (β := List α) (by omega) _).and (ownFrom_rec (by omega) _))) s A B row hs hgr hr⟩
    have hcall := hseq (w.heap.size + 1) _ _ W1 hb1 oJ oJx ?_ ⟨hI1, hL1, hK1⟩
    · refine CallsIn.mono (callsIn_wide.2 (callsIn_wide.1 hcall)) ?_
      rintro e W2 ⟨⟨v, rfl⟩, (⟨hi, hl, hk⟩ | ⟨pre, hp, c, hi, hl, hk⟩)⟩
      · refine ⟨none, _, by have h := run_endLoop (P := P) hl (by rw [e0]; simp); rw [e0] at h; exact h, ?_⟩
        exact hdone _ _ (Nat.le_refl _) (hI.putObj _ hi (by omega) hl rfl) ((World.putObj_heap_other (by omega)).trans hk)
      · refine ⟨some c, _, by have h := run_endLoop (P := P) hl (by rw [e0]; simp); rw [e0] at h; exact h, ?_⟩
        exact hstop _ c pre _ (Nat.le_refl _) hp ((hIx c).putObj _ hi (by omega) hl rfl) ((World.putObj_heap_other (by omega)).trans hk)
    · rintro pre x W ⟨hi, hl, hk⟩ hpx
      have hlt : w.heap.size + 1 < W.heap.size := (Array.getElem?_eq_some_iff.1 hl).1
      have hy := run_yield (P := P) (args := encs x) hl (by rw [e0]; exact hps x)
      rw [e0] at hy
      refine YieldAt.deep 0 (m := n - 1 - 1) ⟨fn, _, assign, body, hy, roundIn_of_wpIn hfn (hassign _ x W _ ?_)⟩
      clear hy
      refine ⟨_, run_beginRound hl (by rw [e0]), ?_⟩
      generalize hB : (Obj.loop { rec .ready none with state := .busy }) = busy
      have hl2 : (W.putObj (w.heap.size + 1) busy).heap[w.heap.size + 1]? = some busy := World.putObj_heap_same hlt
      have hk2 : (W.putObj (w.heap.size + 1) busy).heap[w.heap.size]? = some (.deferred (some [])) := (World.putObj_heap_other (by omega)).trans hk
      have b2 : KeepP n₀ B w.heap.size W (W.putObj (w.heap.size + 1) busy) := KeepP.put (w := w) hn₀ _ _ _ (by omega) hl rfl rfl
      refine wpIn_mono (hbody _ pre x _ (by omega) ⟨_, by rw [← hB] at hl2 ⊢; exact hl2⟩ (hI.putObj _ hi (by omega) hl rfl) hpx) ?_
      have fin : ∀ (jump : Option Code) (W3 : World), KeepsFrom w.heap.size (W.putObj (w.heap.size + 1) busy) W3 →
          (Instr.endRound (w.heap.size + 1) jump).run P W3 = .ok (.bool jump.isNone) (W3.putObj (w.heap.size + 1) (.loop (rec (if jump.isNone then .ready else .done) jump))) ∧
          W3.heap[w.heap.size + 1]? = some busy ∧
          (W3.putObj (w.heap.size + 1) (.loop (rec (if jump.isNone then .ready else .done) jump))).heap[w.heap.size + 1]? = some (.loop (rec (if jump.isNone then .ready else .done) jump)) ∧
          (W3.putObj (w.heap.size + 1) (.loop (rec (if jump.isNone then .ready else .done) jump))).heap[w.heap.size]? = some (.deferred (some [])) := fun jump W3 h3 => by
        have hl3 := h3.same _ _ (by omega) hl2 (by rw [← hB]; rfl)
        have hr := run_endRound (P := P) jump (by rw [← hB] at hl3; exact hl3)
        rw [e0] at hr
        refine ⟨?_, hl3, World.putObj_heap_same (Array.getElem?_eq_some_iff.1 hl3).1, (World.putObj_heap_other (by omega)).trans (h3.same _ _ (Nat.le_refl _) hk2 rfl)⟩
        rw [e0]
        exact hr
      have nc : busy.isCells = false := by rw [← hB]; rfl
      have nw : busy.isWalk = false := by rw [← hB]; rfl
      rintro e a3 W3 hp
      cases e with
      | normal =>
        obtain ⟨h3, hb3, hi3⟩ := hp
        obtain ⟨hr, hl3, hl4, hk4⟩ := fin none W3 h3
        exact ⟨_, _, hr, .inl ⟨rfl, ⟨hI.putObj _ hi3 (by omega) hl3 nc, hl4, hk4⟩, (b2.trans hb3).trans (KeepP.put (w := w) hn₀ _ _ _ (by omega) hl3 nc nw)⟩⟩
      | ret =>
        obtain ⟨h3, hi3⟩ := hp
        obtain ⟨hr, hl3, hl4, hk4⟩ := fin (some .ret) W3 h3
        exact ⟨_, _, hr, .inr ⟨rfl, .ret, (hIx _).putObj _ hi3 (by omega) hl3 nc, hl4, hk4⟩⟩
      | exit id =>
        obtain ⟨h3, hi3⟩ := hp
        obtain ⟨hr, hl3, hl4, hk4⟩ := fin (some (.exit id)) W3 h3
        exact ⟨_, _, hr, .inr ⟨rfl, .exit id, (hIx _).putObj _ hi3 (by omega) hl3 nc, hl4, hk4⟩⟩
      | goto t =>
        obtain ⟨h3, hi3⟩ := hp
        obtain ⟨hr, hl3, hl4, hk4⟩ := fin (some (.goto t)) W3 h3
        exact ⟨_, _, hr, .inr ⟨rfl, .goto t, (hIx _).putObj _ hi3 (by omega) hl3 nc, hl4, hk4⟩⟩
      | panic ch => exact hp.elim
      | outgrown => exact hp.elim
def markOf (D : Nat) : Deferred := { target := .collected D, args := #[] }
theorem leaves_marks {P : Program} {n : Nat} {fn : Func} {tmps : Array Value} {R : Ending → World → Prop} {v : Value} (Rw : World → Prop) (Lo : Nat) (hput : ∀ W D, Lo ≤ D → W.heap[D]? = some (.deferred (some [])) → Rw W → Rw (W.putObj D (.deferred none)))
    (hres : ∀ W, (results fn tmps).run P W = .ok v W) (hR : ∀ W, Rw W → R (.returned v) W) : ∀ (Ds : List Nat) (W : World), Ds.Nodup → (∀ D ∈ Ds, Lo ≤ D ∧ W.heap[D]? = some (.deferred (some []))) → Rw W → LeavesInM Fence.wide n P fn tmps R (Ds.map markOf) .returning W
  | [], W, _, _, h => ⟨v, hres W, hR W h⟩
  | D :: Ds, W, hd, hm, h => by
    rw [List.nodup_cons] at hd
    obtain ⟨h1, h2⟩ := hm D (by simp)
    refine ⟨by simp, .inl ⟨D, _, rfl, run_takeDeferred h2, leaves_marks Rw Lo hput hres hR Ds _ hd.2 (fun E hE => ?_) (hput W D h1 h2 h)⟩⟩
    obtain ⟨g1, g2⟩ := hm E (by simp [hE])
    exact ⟨g1, (World.putObj_heap_other (by rintro rfl; exact hd.1 hE)).trans g2⟩
theorem leaves_marks2 {P : Program} {n : Nat} {fn : Func} {tmps : Array Value} {R : Ending → World → Prop} {v : Value} (Rw : World → Prop) (Lo : Nat) (hput : ∀ W D, Lo ≤ D → W.heap[D]? = some (.deferred (some [])) → Rw W → Rw (W.putObj D (.deferred none)))
    (hres : ∀ W, Rw W → (results fn tmps).run P W = .ok v W) (hR : ∀ W, Rw W → R (.returned v) W) : ∀ (Ds : List Nat) (W : World), Ds.Nodup → (∀ D ∈ Ds, Lo ≤ D ∧ W.heap[D]? = some (.deferred (some []))) → Rw W → LeavesInM Fence.wide n P fn tmps R (Ds.map markOf) .returning W
  | [], W, _, _, h => ⟨v, hres W h, hR W h⟩
  | D :: Ds, W, hd, hm, h => by
    rw [List.nodup_cons] at hd
    obtain ⟨h1, h2⟩ := hm D (by simp)
    refine ⟨by simp, .inl ⟨D, _, rfl, run_takeDeferred h2, leaves_marks2 Rw Lo hput hres hR Ds _ hd.2 (fun E hE => ?_) (hput W D h1 h2 h)⟩⟩
    obtain ⟨g1, g2⟩ := hm E (by simp [hE])
    exact ⟨g1, (World.putObj_heap_other (by rintro rfl; exact hd.1 hE)).trans g2⟩
end Go.Proofs.Ytpjgmlnnhcnelaa.Iter
