import Derived.Test.YtcofgnbopodahaaJWWords
import Derived.IntWalk
namespace Go.Proofs.Ytcofgnbopodahaa.EvKit
open Go.RowKit Go.Proofs.YtcofgnbopodahaaW.PrintWords
set_option linter.unusedVariables false
set_option linter.unusedSimpArgs false
section
variable {α β : Type} {f g : Nat → Option α} {r : α}
theorem Ev.succ (h : Ev (fun k => g (k + 1)) r) : Ev g r := Ev.step (f := fun k => g (k + 1)) (fun _ => rfl) h
theorem Ev.pos {c : Prop} [Decidable c] (hc : c) (h : Ev f r) : Ev (fun k => if c then f k else g k) r := Ev.congr (fun k => if_pos hc) h
theorem Ev.neg {c : Prop} [Decidable c] (hc : ¬ c) (h : Ev g r) : Ev (fun k => if c then f k else g k) r := Ev.congr (fun k => if_neg hc) h
theorem Ev.const {o : Option α} (h : o = some r) : Ev (fun _ => o) r := ⟨0, fun _ _ => h⟩
theorem Ev.cbind {o : Option β} {a : β} {f : Nat → β → Option α} (h : o = some a) (k : Ev (fun n => f n a) r) : Ev (fun n => o.bind (f n)) r := Ev.bind (g := fun _ => o) (Ev.const h) k
theorem Ev.eq {q : α} (h : Ev g q) (e : q = r) : Ev g r := e ▸ h
end
theorem w64 {n : Int} (h1 : -9223372036854775808 ≤ n) (h2 : n ≤ 9223372036854775807) : wrap64 n = n := IntWalk.wrap64_in n ⟨h1, h2⟩
theorem up_to {p : Nat → Prop} (n : Nat) (h : ∀ i, i ≤ n → (i < n → p (i + 1)) → p i) : ∀ i, i ≤ n → p i := by
  have key : ∀ d i, n - i = d → i ≤ n → p i := by
    intro d
    induction d with
    | zero => intro i hd hi; exact h i hi (fun hlt => by omega)
    | succ d ih => intro i hd hi; exact h i hi (fun hlt => ih (i + 1) (by omega) (by omega))
  intro i hi
  exact key _ i rfl hi
theorem drop_cons {α : Type} (l : List α) (i : Nat) (d : α) (h : i < l.length) : l.drop i = l.getD i d :: l.drop (i + 1) := by
  rw [List.drop_eq_getElem_cons h, List.getD_eq_getElem?_getD, List.getElem?_eq_getElem h]; rfl
end Go.Proofs.Ytcofgnbopodahaa.EvKit
