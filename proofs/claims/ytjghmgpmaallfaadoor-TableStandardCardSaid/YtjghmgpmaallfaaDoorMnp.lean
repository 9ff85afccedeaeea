/-
  What a key means: the three cases.
-/
import Derived.Test.YtjghmgpmaallfaaDoorMea
namespace Go.Proofs.YtjghmgpmaallfaaDoor
open Go.RowKit
set_option linter.unusedVariables false
set_option linter.unusedSimpArgs false

theorem meanFrom_cases (t : Tb) (key : Int) : ∀ n, n ≤ 30 → meanFrom t key n = 0 ∨ ∃ m, 31 - n ≤ m ∧ m ≤ 30 ∧ hit t key m ∧ meanFrom t key n = m
  | 0, _ => .inl rfl
  | n + 1, hn => by
    unfold meanFrom
    by_cases h : hit t key (30 - n)
    · rw [if_pos h]; exact .inr ⟨30 - n, by omega, by omega, h, rfl⟩
    · rw [if_neg h]
      rcases meanFrom_cases t key n (by omega) with e | ⟨m, h1, h2, h3, h4⟩
      · exact .inl e
      · exact .inr ⟨m, by omega, h2, h3, h4⟩
theorem meaning_enter (t : Tb) : meaning t 13 = 31 := if_pos rfl
theorem meaning_cases (t : Tb) (key : Int) : (key = 13 ∧ meaning t key = 31) ∨ (¬ key = 13 ∧ meaning t key = 0) ∨ (¬ key = 13 ∧ ∃ (n : Nat) (c1 : Int), 1 ≤ n ∧ n < 31 ∧ t n = (c1, key) ∧ ¬ c1 = 0 ∧ meaning t key = n) := by
  by_cases hk : key = 13
  · exact .inl ⟨hk, if_pos hk⟩
  · unfold meaning
    rw [if_neg hk]
    rcases meanFrom_cases t key 30 (by omega) with e | ⟨m, h1, h2, h3, h4⟩
    · exact .inr (.inl ⟨hk, by rw [e]; rfl⟩)
    · exact .inr (.inr ⟨hk, m, (t m).1, by omega, by omega, by rw [← h3.2], h3.1, by rw [h4]⟩)
end Go.Proofs.YtjghmgpmaallfaaDoor
