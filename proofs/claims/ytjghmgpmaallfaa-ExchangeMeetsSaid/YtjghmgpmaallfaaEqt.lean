/-
  Two tables compared: '=='.
-/
import Derived.Test.YtjghmgpmaallfaaSim
import Derived.ChangeKeysEq
namespace Go.Proofs.Ytjghmgpmaallfaa
open Go.RowKit
set_option linter.unusedVariables false
set_option linter.unusedSimpArgs false

theorem cells3 {w : World} {b : Nat} {x0 x1 x2 : Value} {t : TypeId} (h : rowAt w b = some (.cells #[x0, x1, x2] t (0, 0))) :
    w.cell? ⟨b, 0, none⟩ = some x0 ∧ w.cell? ⟨b, 1, none⟩ = some x1 ∧ w.cell? ⟨b, 2, none⟩ = some x2 ∧ (∀ o, w.frozen? ⟨b, o, none⟩ = false) ∧ b < w.heap.size :=
  ⟨cell_of_row w b 0 _ _ _ h, cell_of_row w b 1 _ _ _ h, cell_of_row w b 2 _ _ _ h, frozenRow h, lt_of_some h⟩
/-- the first 31 cells of two tables are the same. -/
def sameTb (t u : Tb) : Bool := (List.range 31).all fun i => (t i).1 == (u i).1 && (t i).2 == (u i).2
@[go_sem] theorem sameTb_refl (t : Tb) : sameTb t t = true := by simp [sameTb]
theorem sameTb_iff (t u : Tb) : sameTb t u = true ↔ ∀ i, i < 31 → t i = u i := by
  simp only [sameTb, List.all_eq_true, List.mem_range, Bool.and_eq_true, beq_iff_eq, Prod.ext_iff]
theorem eqCell (n : Nat) (a b c d : Int) (w : World) : (Op.equalIn (n + 2) 29 (.agg #[.int .i64 a, .int .u8 b]) (.agg #[.int .i64 c, .int .u8 d])).run Try.prog w = .ok (a == c && b == d) w := by
  have hS : Try.prog.underlying 29 = some (.struct (Try.prog.fieldsOf 29)) := by kernel_rfl
  have hp : Try.prog.stoodInHeld 29 = false := by kernel_rfl
  rw [run_equalIn_agg w (n + 1) 29 _ _ hS hp]
  simp only [Program.fieldsOf, Try.underlying29]
  go_simp
  by_cases h1 : a = c <;> by_cases h2 : b = d <;> simp [h1, h2]
theorem part_tab (t : Tb) (i : Nat) (hi : i < 31) (w : World) : (part 29 (tabA t) (i * 2)).run Try.prog w = .ok (.agg #[.int .i64 (t i).1, .int .u8 (t i).2]) w := by
  have hrow := tabA_row t i hi
  obtain ⟨ie, hif, hs⟩ := size_of (P := Try.prog) (T := 29) (n := 2) (by kernel_rfl)
  simp [Sem.run_bind, part, isAgg, run_underlying Try.underlying29, sizeOf, typeInfo, hif, hs, hrow]
theorem eqRows (n : Nat) (t u : Tb) (w : World) : ∀ l : List Nat, (∀ i ∈ l, i < 31) → (Op.eqItems (n + 2) 29 2 (tabA t) (tabA u) l).run Try.prog w = .ok (l.all fun i => (t i).1 == (u i).1 && (t i).2 == (u i).2) w
  | [], _ => by simp [Op.eqItems]
  | i :: is, h => by
    have ih := eqRows n t u w is (fun j hj => h j (by simp [hj]))
    simp only [Op.eqItems, Sem.run_bind, part_tab t i (h i (by simp)), part_tab u i (h i (by simp)), eqCell, Result.andThen_ok, List.all_cons]
    cases hb : ((t i).1 == (u i).1 && (t i).2 == (u i).2)
    · simp
    · simpa using ih
@[go_sem] theorem eqTab (t u : Tb) (w : World) : (Op.equalIn 10000 39 (.agg (tabA t)) (.agg (tabA u))).run Try.prog w = .ok (sameTb t u) w := by
  obtain ⟨ie, hif, hs⟩ := size_of (P := Try.prog) (T := 29) (n := 2) (by kernel_rfl)
  rw [show (10000 : Nat) = 9999 + 1 from rfl, run_equalIn_array w 9999 _ _ Try.underlying39 hif, show Try.prog.cellsOf 29 = 2 from by kernel_rfl]
  exact eqRows 9997 t u w (List.range 31) (by simp)
end Go.Proofs.Ytjghmgpmaallfaa
