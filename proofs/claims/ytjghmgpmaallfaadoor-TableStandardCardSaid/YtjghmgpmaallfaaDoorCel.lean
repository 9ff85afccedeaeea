/-
  The contracts of agree.cells, agree.Check.
-/
import Derived.Test.YtjghmgpmaallfaaDoorChk
namespace Go.Proofs.YtjghmgpmaallfaaDoor
open Go.RowKit
set_option linter.unusedVariables false
set_option linter.unusedSimpArgs false

def zeroT : Tb := fun _ => (0, 0)
/-- the first k rows are t's, the rest is nought. -/
def pre (t : Tb) (k : Nat) : Tb := fun i => if i < k then t i else (0, 0)
theorem pre_all (t : Tb) (i : Nat) (h : i < 31) : pre t 31 i = t i := if_pos h
theorem pre_upd (t : Tb) (k i : Nat) : upd (pre t k) k (t k) i = pre t (k + 1) i := by
  unfold upd pre
  by_cases h : i = k
  · subst h; rw [if_pos rfl, if_pos (by omega)]
  · rw [if_neg h]
    by_cases h2 : i < k
    · rw [if_pos h2, if_pos (by omega)]
    · rw [if_neg h2, if_neg (by omega)]
theorem zeroTable : (Tryd.prog.info? 25).map (·.zero) = some (some (.agg (tabA zeroT))) := by kernel_rfl
end Go.Proofs.YtjghmgpmaallfaaDoor
