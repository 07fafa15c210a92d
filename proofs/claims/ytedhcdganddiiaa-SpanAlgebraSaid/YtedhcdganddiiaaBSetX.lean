import Derived.Test.YtedhcdganddiiaaBSetW
import Derived.Test.YtedhcdganddiiaaBQAx0
import Derived.Test.YtedhcdganddiiaaBQAx3
import Derived.Test.YtedhcdganddiiaaBQAx4
import Derived.Test.YtedhcdganddiiaaBQAx1
import Derived.Test.YtedhcdganddiiaaBQAx2
import Derived.Test.YtedhcdganddiiaaBQAx11
import Derived.Test.YtedhcdganddiiaaBQAx12
namespace Go.Proofs.Ytedhcdganddiiaa.QA
open Go.RowKit Go.Proofs.YtedhcdganddiiaaW.PrintWords Go.Proofs.Ytedhcdganddiiaa.EvKit
set_option linter.unusedVariables false
set_option linter.unusedSimpArgs false

theorem lst_zero {ls : List (List S23)} (h1 : ∀ l ∈ ls, l.length ≤ 10000) (h2 : ∀ x ∈ ls.flatten, okI x) : lst ls = 0 := by
  unfold lst
  have : ls.any (fun l => decide (l.length > 10000)) = false := by
    rw [List.any_eq_false]
    intro l hl
    have := h1 l hl
    simp; omega
  rw [this, if_neg (by simp)]
  exact chk_zero h2
theorem lst_one {l : List S23} (h1 : l.length ≤ 10000) (h2 : ∀ x ∈ l, okI x) : lst [l] = 0 := lst_zero (fun m hm => by rw [List.mem_singleton.1 hm]; exact h1) (fun x hx => h2 x (by simpa using hx))
theorem lst_two {a b : List S23} (ha : a.length ≤ 10000) (hb : b.length ≤ 10000) (h1 : ∀ x ∈ a, okI x) (h2 : ∀ x ∈ b, okI x) : lst [a, b] = 0 := lst_zero (fun m hm => by
    rcases List.mem_cons.1 hm with rfl | hm
    · exact ha
    · rw [List.mem_singleton.1 hm]; exact hb) (fun x hx => by rw [two_flat] at hx; exact okI_app h1 h2 x hx)
theorem nrm_idem {l : List S23} {b : Int} (h : NF b l) (ho : ∀ y ∈ l, okI y) : nrm l = l := by
  obtain ⟨n1, n2⟩ := nrm_spec ho
  exact NF_unique n1 h n2
theorem min_length (a b : List S23) (ha : a.length ≤ 30) (hb : b.length ≤ 30) : (minL a b).length ≤ 61 := by
  have l1 := nrm_length a
  have l2 := nrm_length b
  have l3 := gapL_length (nrm b) (-1000000000000)
  exact Nat.le_trans (comL_length _ _ _ (Nat.le_refl _)) (by omega)
theorem cmn_length (a b : List S23) (ha : a.length ≤ 30) (hb : b.length ≤ 30) : (cmnL a b).length ≤ 60 := by
  have l1 := nrm_length a
  have l2 := nrm_length b
  exact Nat.le_trans (nrm_length _) (Nat.le_trans (comL_length _ _ _ (Nat.le_refl _)) (by omega))
end Go.Proofs.Ytedhcdganddiiaa.QA
