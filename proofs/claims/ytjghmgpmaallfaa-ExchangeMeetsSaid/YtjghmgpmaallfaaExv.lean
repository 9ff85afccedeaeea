/-
  Two Exchs compared, and two rows of numbers: '=='.
-/
import Derived.Test.YtjghmgpmaallfaaEqt
import Derived.Test.YtjghmgpmaallfaaExz
namespace Go.Proofs.Ytjghmgpmaallfaa
open Go.RowKit
set_option linter.unusedVariables false
set_option linter.unusedSimpArgs false

theorem eqTabN (n : Nat) (t u : Tb) (w : World) : (Op.equalIn (n + 3) 39 (.agg (tabA t)) (.agg (tabA u))).run Try.prog w = .ok (sameTb t u) w := by
  obtain ⟨ie, hif, hs⟩ := size_of (P := Try.prog) (T := 29) (n := 2) (by kernel_rfl)
  rw [show n + 3 = (n + 2) + 1 from rfl, run_equalIn_array w (n + 2) _ _ Try.underlying39 hif, show Try.prog.cellsOf 29 = 2 from by kernel_rfl]
  exact eqRows n t u w (List.range 31) (by simp)
/-- the first 31 numbers are the same. -/
def sameW (m n : Wt) : Bool := (List.range 31).all fun i => m i == n i
@[go_sem] theorem sameW_refl (m : Wt) : sameW m m = true := by simp [sameW]
theorem sameW_iff (m n : Wt) : sameW m n = true ↔ ∀ i, i < 31 → m i = n i := by
  simp only [sameW, List.all_eq_true, List.mem_range, beq_iff_eq]
theorem eqIntN (n : Nat) (a b : Int) (w : World) : (Op.equalIn (n + 1) 3 (.int .i64 a) (.int .i64 b)).run Try.prog w = .ok (a == b) w := by
  simp only [Op.equalIn, Sem.run_bind, run_underlying Try.underlying3, Result.andThen_ok]
  by_cases h : a = b <;> simp [h]
theorem part_wait (m : Wt) (i : Nat) (hi : i < 31) (w : World) : (part 3 (wtA m) (i * 1)).run Try.prog w = .ok (.int .i64 (m i)) w := by
  have hrow := wtA_get m i hi
  simp [Sem.run_bind, part, isAgg, run_underlying Try.underlying3, hrow]
theorem eqNums (n : Nat) (m u : Wt) (w : World) : ∀ l : List Nat, (∀ i ∈ l, i < 31) → (Op.eqItems (n + 1) 3 1 (wtA m) (wtA u) l).run Try.prog w = .ok (l.all fun i => m i == u i) w
  | [], _ => by simp [Op.eqItems]
  | i :: is, h => by
    have ih := eqNums n m u w is (fun j hj => h j (by simp [hj]))
    simp only [Op.eqItems, Sem.run_bind, part_wait m i (h i (by simp)), part_wait u i (h i (by simp)), eqIntN, Result.andThen_ok, List.all_cons]
    cases hb : (m i == u i)
    · simp
    · simpa using ih
theorem eqWtN (n : Nat) (m u : Wt) (w : World) : (Op.equalIn (n + 2) 58 (.agg (wtA m)) (.agg (wtA u))).run Try.prog w = .ok (sameW m u) w := by
  obtain ⟨ie, hif, hs⟩ := size_of (P := Try.prog) (T := 3) (n := 1) (by kernel_rfl)
  rw [show n + 2 = (n + 1) + 1 from rfl, run_equalIn_array w (n + 1) _ _ Try.underlying58 hif, show Try.prog.cellsOf 3 = 1 from by kernel_rfl]
  exact eqNums n m u w (List.range 31) (by simp)
@[go_sem] theorem eqWt (m u : Wt) (w : World) : (Op.equalIn 10000 58 (.agg (wtA m)) (.agg (wtA u))).run Try.prog w = .ok (sameW m u) w := eqWtN 9998 m u w
theorem part_table (t : Tb) (m : Wt) (w : World) : (part 39 (exA t m) 0).run Try.prog w = .ok (.agg (tabA t)) w := by
  obtain ⟨ie, hif, hs⟩ := size_of (P := Try.prog) (T := 39) (n := 62) (by kernel_rfl)
  simp [Sem.run_bind, part, isAgg, run_underlying Try.underlying39, sizeOf, typeInfo, hif, hs, exA_tab]
theorem part_waits (t : Tb) (m : Wt) (w : World) : (part 58 (exA t m) 62).run Try.prog w = .ok (.agg (wtA m)) w := by
  obtain ⟨ie, hif, hs⟩ := size_of (P := Try.prog) (T := 58) (n := 31) (by kernel_rfl)
  simp [Sem.run_bind, part, isAgg, run_underlying Try.underlying58, sizeOf, typeInfo, hif, hs, exA_waits]
def sameEx (t u : Tb) (m n : Wt) : Bool := sameTb t u && sameW m n
@[go_sem] theorem sameEx_refl (t : Tb) (m : Wt) : sameEx t t m m = true := by simp [sameEx, sameTb_refl, sameW_refl]
theorem sameEx_iff (t u : Tb) (m n : Wt) : sameEx t u m n = true ↔ (∀ i, i < 31 → t i = u i) ∧ ∀ i, i < 31 → m i = n i := by
  rw [sameEx, Bool.and_eq_true, sameTb_iff, sameW_iff]
@[go_sem ↓] theorem eqEx (t u : Tb) (m n : Wt) (w : World) : (Op.equalIn 10000 60 (.agg (exA t m)) (.agg (exA u n))).run Try.prog w = .ok (sameEx t u m n) w := by
  have hS : Try.prog.underlying 60 = some (.struct (Try.prog.fieldsOf 60)) := by kernel_rfl
  have hp : Try.prog.stoodInHeld 60 = false := by kernel_rfl
  rw [show (10000 : Nat) = 9999 + 1 from rfl, run_equalIn_agg w 9999 60 _ _ hS hp]
  simp only [Program.fieldsOf, Try.underlying60, Op.eqFields]
  have h1 := eqTabN 9996 t u w
  have h2 := eqWtN 9997 m n w
  cases ht : sameTb t u
  · rw [ht] at h1
    simp [Sem.run_bind, part_table, part_waits, h1, sameEx, ht]
  · rw [ht] at h1
    cases hw : sameW m n <;> simp [Sem.run_bind, part_table, part_waits, h1, h2, sameEx, ht, hw, Op.eqFields]
end Go.Proofs.Ytjghmgpmaallfaa
