/-
  The contracts of slc.Check, table.Check, agree.settled, agree.cells, agree.Check.
-/
import Derived.Test.YtjghmgpmaallfaaDoorProg
import Derived.Test.YtjghmgpmaallfaaDoorMod
namespace Go.Proofs.YtjghmgpmaallfaaDoor
open Go.RowKit
set_option linter.unusedVariables false
set_option linter.unusedSimpArgs false

theorem sizeCell : (Tryd.prog.info? 23).map (·.size) = some 2 := by kernel_rfl
theorem sizeTable : (Tryd.prog.info? 25).map (·.size) = some 62 := by kernel_rfl

set_option maxHeartbeats 400000 in
/-- table.Check -/
theorem tableCheck (t : Tb) (w : World) :
    Calls Tryd.prog 11 #[.agg (tabA t)] w fun e w' => e = .returned (.int .i64 (tabErr t)) ∧ Below w.heap.size w w' := by
  go_enter Tryd.func11, Tryd.ntmps11
  go_wp2_with (refine wpList_load_row rfl 25 _ rfl w.heap.size rfl 25 _ (0, 0) _ (heap_alloc_new _ _) Tryd.underlying25 rfl (by rw [tabA_size]; exact sizeTable) ?_)
  go_loopw [6] (fun i wr => ∃ k : Nat, k ≤ 31 ∧ i = .int .i64 k ∧ (∀ f, f < k → cellOk f (t f)) ∧ Below w.heap.size w wr) (fun i _ => 31 - (intOf i).toNat)
  case atStart => exact ⟨0, by omega, rfl, fun f h => by omega, (Below.refl _ _).alloc (Nat.le_refl _) _⟩
  case round =>
    obtain ⟨k, hk, rfl, hok, hb⟩ := hrel
    have HOK := hid hok
    clear hok
    by_cases hlt : k < 31
    · obtain ⟨c1, c2, hc⟩ : ∃ c1 c2, t k = (c1, c2) := ⟨_, _, rfl⟩
      have hix := fun w => run_index_tab t 25 23 k hlt w Tryd.underlying25 _ Tryd.underlying23 sizeCell
      simp only [hc] at hix
      have HC := hid hc
      clear hc
      go_wp2
      all_goals first
        | (go_ret
           exact ⟨ret_int (tabErr_bad t k hlt (by rw [HC.out]; unfold cellOk; dsimp only; omega)).symm, hb.alloc (by have := hb.size; omega) _⟩)
        | (go_roundw
           case rel =>
            refine ⟨k + 1, by omega, by go_num, fun f hf => ?_, hb.alloc (by have := hb.size; omega) _⟩
            by_cases e : f = k
            · rw [e, HC.out]; unfold cellOk; dsimp only; omega
            · exact HOK.out f (by omega)
           case measure => simp [intOf]; omega)
    · obtain rfl : k = 31 := by omega
      go_wp2
      go_ret
      exact ⟨ret_int (tabErr_good t HOK.out).symm, hb⟩
end Go.Proofs.YtjghmgpmaallfaaDoor
