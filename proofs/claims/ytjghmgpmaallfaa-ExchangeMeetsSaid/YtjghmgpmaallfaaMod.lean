/-
  What the functions of layers 7, 8 and 9 compute, in plain Lean.
-/
import Derived.Test.YtjghmgpmaallfaaLib
namespace Go.Proofs.Ytjghmgpmaallfaa
open Go.RowKit
set_option linter.unusedVariables false
set_option linter.unusedSimpArgs false

/-- a cell that may be -/
def cellOk (f : Nat) (c : Int × Int) : Prop := 0 ≤ c.1 ∧ c.1 ≤ 2 ∧ (c.1 = 0 → c.2 = 0) ∧ (f = 0 → c.1 = 0 ∧ c.2 = 0)
instance (f : Nat) (c : Int × Int) : Decidable (cellOk f c) := by unfold cellOk; infer_instance
def tabOk (t : Tb) : Prop := ∀ f < 31, cellOk f (t f)
instance (t : Tb) : Decidable (tabOk t) := by unfold tabOk; infer_instance
def tabErr (t : Tb) : Int := if tabOk t then 0 else 1
theorem tabErr_good (t : Tb) (h : ∀ f, f < 31 → cellOk f (t f)) : tabErr t = 0 := if_pos h
theorem tabErr_bad (t : Tb) (k : Nat) (hk : k < 31) (h : ¬ cellOk k (t k)) : tabErr t = 1 := if_neg fun h' => h (h' k hk)
theorem tabErr_ok {t : Tb} (h : tabErr t = 0) : tabOk t := by
  unfold tabErr at h
  split at h
  · assumption
  · simp at h
theorem tabErr_or (t : Tb) : (tabErr t = 0 ∧ tabOk t) ∨ (tabErr t = 1 ∧ ¬ tabOk t) := by
  unfold tabErr
  split
  · exact .inl ⟨rfl, by assumption⟩
  · exact .inr ⟨rfl, by assumption⟩
theorem tabOk_congr {t u : Tb} (h : ∀ i, i < 31 → t i = u i) (k : tabOk t) : tabOk u := fun f hf => by rw [← h f hf]; exact k f hf

/-- a triple that may be -/
def trOk (F L : Int) : Prop := 0 ≤ F ∧ F ≤ 255 ∧ 0 ≤ L ∧ L ≤ 3
instance (F L : Int) : Decidable (trOk F L) := by unfold trOk; infer_instance
def trErr (F L : Int) : Int := if trOk F L then 0 else 1
theorem trErr_or (F L : Int) : (trErr F L = 0 ∧ trOk F L) ∨ (trErr F L = 1 ∧ ¬ trOk F L) := by
  unfold trErr
  split
  · exact .inl ⟨rfl, by assumption⟩
  · exact .inr ⟨rfl, by assumption⟩

/-- what is settled by one pref (m, pv) of the level L and the key V. -/
def setl (m pv L V : Int) : Int × Int :=
  if L = 0 ∨ m = 0 then (0, 0) else if m = 1 ∧ L = 1 ∧ ¬ V = pv then (0, 0) else if m = 1 ∨ L = 3 then (m, pv) else (L, V)
theorem setl_cases (m pv L V : Int) : (L = 0 ∧ setl m pv L V = (0, 0)) ∨ (¬ L = 0 ∧ m = 0 ∧ setl m pv L V = (0, 0)) ∨ (m = 1 ∧ L = 1 ∧ ¬ V = pv ∧ setl m pv L V = (0, 0)) ∨ (m = 1 ∧ L = 1 ∧ V = pv ∧ setl m pv L V = (m, pv)) ∨
    (m = 1 ∧ ¬ L = 0 ∧ ¬ L = 1 ∧ setl m pv L V = (m, pv)) ∨ (¬ m = 0 ∧ ¬ m = 1 ∧ L = 3 ∧ setl m pv L V = (m, pv)) ∨ (¬ m = 0 ∧ ¬ m = 1 ∧ ¬ L = 0 ∧ ¬ L = 3 ∧ setl m pv L V = (L, V)) := by
  unfold setl
  by_cases h1 : L = 0 <;> by_cases h2 : m = 0 <;> by_cases h3 : m = 1 <;> by_cases h4 : L = 1 <;> by_cases h5 : V = pv <;> by_cases h6 : L = 3 <;> simp_all
/-- what Settle answers. -/
def settle (p : Tb) (F L V : Int) : (Int × Int) × Int :=
  if tabOk p ∧ trOk F L then (if 31 ≤ F then (0, 0) else setl (p F.toNat).1 (p F.toNat).2 L V, 0) else ((0, 0), 1)
end Go.Proofs.Ytjghmgpmaallfaa
