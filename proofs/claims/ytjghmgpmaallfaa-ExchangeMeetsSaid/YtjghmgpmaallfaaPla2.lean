/-
  More plain laws of what is settled.
-/
import Derived.Test.YtjghmgpmaallfaaPla
namespace Go.Proofs.Ytjghmgpmaallfaa
open Go.RowKit
set_option linter.unusedVariables false
set_option linter.unusedSimpArgs false

theorem setl_range (pm pv l v c1 c2 : Int) (a1 : 0 ≤ pm) (a2 : pm ≤ 2) (a3 : pm = 0 → pv = 0) (hl0 : 0 ≤ l) (hl1 : l ≤ 3) (h1 : setl pm pv l v = (c1, c2)) :
    0 ≤ c1 ∧ c1 ≤ 2 ∧ c1 ≤ l ∧ c1 ≤ pm ∧ (c1 = 0 → c2 = 0) ∧ setl pm pv c1 c2 = (c1, c2) := by
  have ep := setl_cases pm pv l v
  have fp := setl_cases pm pv c1 c2
  rw [h1] at ep
  clear h1
  generalize setl pm pv c1 c2 = x at *
  obtain ⟨x1, x2⟩ := x
  simp only [Prod.mk.injEq] at *
  omega
theorem stays_plain {p : Tb} {f l v c1 c2 : Int} (h : settle p f l v = ((c1, c2), 0)) : settle p f c1 c2 = ((c1, c2), 0) := by
  obtain ⟨hp, ht⟩ := settle_ok h
  by_cases hf : 31 ≤ f
  · rw [settle_of_out hp ht hf] at h
    simp only [Prod.mk.injEq, and_true] at h
    obtain ⟨rfl, rfl⟩ := h
    exact settle_of_out hp ⟨ht.1, ht.2.1, by omega, by omega⟩ hf
  · obtain ⟨hf0, hf1, hl0, hl1⟩ := ht
    obtain ⟨a1, a2, a3, _⟩ := hp f.toNat (by omega)
    rw [settle_of_in hp ⟨hf0, hf1, hl0, hl1⟩ hf] at h
    simp only [Prod.mk.injEq, and_true] at h
    obtain ⟨k1, k2, k3, k4, k5, k6⟩ := setl_range _ _ l v c1 c2 a1 a2 a3 hl0 hl1 h
    rw [settle_of_in hp ⟨hf0, hf1, k1, by omega⟩ hf, k6]
end Go.Proofs.Ytjghmgpmaallfaa
