/-
  The standard table with some cells changed to none, in plain Lean.
-/
import Derived.Test.YtjghmgpmaallfaaDoorOrd0
import Derived.Test.YtjghmgpmaallfaaDoorMnp
namespace Go.Proofs.YtjghmgpmaallfaaDoor
open Go.RowKit
set_option linter.unusedVariables false
set_option linter.unusedSimpArgs false

/-- each cell is the standard one, or none. -/
def sub (t : Tb) : Prop := ∀ i, t i = std i ∨ t i = (0, 0)
theorem sub_std : sub std := fun _ => .inl rfl
theorem sub_upd {t : Tb} (h : sub t) (n : Nat) : sub (upd t n (0, 0)) := by
  intro i
  by_cases e : i = n
  · subst e; right; exact if_pos rfl
  · rw [show upd t n (0, 0) i = t i from if_neg e]; exact h i
theorem std_ok : ∀ i, i < 31 → cellOk i (std i) := by decide
theorem none_ok : ∀ i, i < 31 → cellOk i (0, 0) := by decide
theorem sub_ok {t : Tb} (h : sub t) : tabErr t = 0 := by
  refine tabErr_good t fun i hi => ?_
  rcases h i with e | e <;> rw [e]
  · exact std_ok i hi
  · exact none_ok i hi
theorem sub_with {t : Tb} (h : sub t) (n : Nat) (h1 : 1 ≤ n) (h2 : n < 31) : withT t n 0 0 = (upd t n (0, 0), 0) := by
  unfold withT
  rw [Int.toNat_natCast, if_pos ⟨by omega, by omega, sub_ok (sub_upd h n)⟩]
theorem std_inj : ∀ i, i < 31 → ∀ j, j < 31 → ¬ (std i).1 = 0 → ¬ (std j).1 = 0 → (std i).2 = (std j).2 → i = j := by decide
theorem std_enter : ∀ i, i < 31 → ¬ (std i).2 = 13 := by decide
theorem std_two : ∀ i, i < 31 → ¬ (std i).1 = 0 → (std i).1 = 2 := by decide
theorem sub_cell {t : Tb} (h : sub t) (i : Nat) (h0 : ¬ (t i).1 = 0) : t i = std i := by
  rcases h i with e | e
  · exact e
  · rw [e] at h0; exact absurd rfl h0
theorem sub_mean {t : Tb} (h : sub t) (n : Nat) (h1 : 1 ≤ n) (h2 : n < 31) (c1 c2 : Int) (hc : t n = (c1, c2)) (h0 : ¬ c1 = 0) : meaning t c2 = n := by
  have hn : ¬ (t n).1 = 0 := by rw [hc]; exact h0
  have en := sub_cell h n hn
  have e2 : c2 = (std n).2 := by rw [← en, hc]
  have h0' : ¬ (std n).1 = 0 := by rw [← en]; exact hn
  refine meaning_hit (by rw [e2]; exact std_enter n h2) n ⟨hn, by rw [hc]⟩ h1 (by omega) fun i hi1 hi2 hh => ?_
  have ei := sub_cell h i hh.1
  have := std_inj i (by omega) n h2 (by rw [← ei]; exact hh.1) h0' (by rw [← ei, hh.2, e2])
  omega
/-- how many of the functions below m are kept. -/
def cnt (t : Tb) : Nat → Nat
  | 0 => 0
  | m + 1 => cnt t m + if 1 ≤ m ∧ ¬ (t m).1 = 0 then 1 else 0
theorem cnt_le {t : Tb} (h : sub t) : ∀ m, cnt t m ≤ cnt std m
  | 0 => Nat.le_refl _
  | m + 1 => by
    have ih := cnt_le h m
    unfold cnt
    by_cases hm : 1 ≤ m ∧ ¬ (t m).1 = 0
    · have e := sub_cell h m hm.2
      rw [if_pos hm, if_pos (by rw [← e]; exact hm)]; omega
    · rw [if_neg hm]; omega
theorem cnt_std : cnt std 31 = 25 := by decide
theorem cnt_one (t : Tb) : cnt t 1 = 0 := by simp [cnt]
theorem cnt_step (t : Tb) (m : Nat) (hm : 1 ≤ m) {b : Nat} (hb : (if ¬ (t m).1 = 0 then 1 else 0) = b) : cnt t (m + 1) = cnt t m + b := by
  rw [cnt, ← hb]; simp [hm]
/-- no two keys mean one function. -/
theorem sub_two {t : Tb} (a b : Int) (hab : ¬ a = b) (h0 : ¬ meaning t a = 0) : ¬ meaning t a = meaning t b := by
  rcases meaning_cases t a with ⟨ha, h1⟩ | ⟨ha, h1⟩ | ⟨ha, n, c1, g1, g2, hc, hn, h1⟩
  · rcases meaning_cases t b with ⟨hb, h2⟩ | ⟨hb, h2⟩ | ⟨hb, n', c1', g1', g2', hc', hn', h2⟩
    · exact absurd (ha.trans hb.symm) hab
    · rw [h1, h2]; omega
    · rw [h1, h2]; omega
  · exact absurd h1 h0
  · rcases meaning_cases t b with ⟨hb, h2⟩ | ⟨hb, h2⟩ | ⟨hb, n', c1', g1', g2', hc', hn', h2⟩
    · rw [h1, h2]; omega
    · rw [h1, h2]; omega
    · rw [h1, h2]
      intro e
      obtain rfl : n = n' := by omega
      rw [hc] at hc'
      exact hab (Prod.mk.inj hc').2
end Go.Proofs.YtjghmgpmaallfaaDoor
