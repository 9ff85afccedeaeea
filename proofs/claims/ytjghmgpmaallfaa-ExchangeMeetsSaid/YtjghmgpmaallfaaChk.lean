/-
  The contracts of slc.Check, table.Check, agree.settled, agree.cells, agree.Check.
-/
import Derived.Test.YtjghmgpmaallfaaProg
import Derived.Test.YtjghmgpmaallfaaMod
namespace Go.Proofs.Ytjghmgpmaallfaa
open Go.RowKit
set_option linter.unusedVariables false
set_option linter.unusedSimpArgs false

theorem sizeCell : (Try.prog.info? 29).map (·.size) = some 2 := by kernel_rfl
theorem sizeTable : (Try.prog.info? 39).map (·.size) = some 62 := by kernel_rfl
theorem sizePref : (Try.prog.info? 23).map (·.size) = some 2 := by kernel_rfl
theorem sizePrefs : (Try.prog.info? 25).map (·.size) = some 62 := by kernel_rfl

set_option maxHeartbeats 400000 in
/-- slc.Check -/
theorem slcCheck (f l v : Int) (a i o : Bool) (w : World) :
    Calls Try.prog 40 #[.agg #[.int .i64 f, .int .i64 l, .bool a, .bool i, .bool o, .int .u8 v]] w fun e w' => e = .returned (.int .i64 (trErr f l)) ∧ Below w.heap.size w w' := by
  have hT : trOk f l → trErr f l = 0 := fun h => if_pos h
  have hF : ¬ trOk f l → trErr f l = 1 := fun h => if_neg h
  have HT := hid hT
  have HF := hid hF
  clear hT hF
  go_enter Try.func40, Try.ntmps40
  go_wp2
  all_goals go_ret
  all_goals first
    | exact ⟨ret_int (HT.out (by unfold trOk; omega)).symm, (Below.refl _ _).alloc (Nat.le_refl _) _⟩
    | exact ⟨ret_int (HF.out (by unfold trOk; omega)).symm, (Below.refl _ _).alloc (Nat.le_refl _) _⟩

set_option maxHeartbeats 400000 in
/-- table.Check -/
theorem tableCheck (t : Tb) (w : World) :
    Calls Try.prog 19 #[.agg (tabA t)] w fun e w' => e = .returned (.int .i64 (tabErr t)) ∧ Below w.heap.size w w' := by
  go_enter Try.func19, Try.ntmps19
  go_wp2_with (refine wpList_load_row rfl 39 _ rfl w.heap.size rfl 39 _ (0, 0) _ (heap_alloc_new _ _) Try.underlying39 rfl (by rw [tabA_size]; exact sizeTable) ?_)
  go_loopw [6] (fun i wr => ∃ k : Nat, k ≤ 31 ∧ i = .int .i64 k ∧ (∀ f, f < k → cellOk f (t f)) ∧ Below w.heap.size w wr) (fun i _ => 31 - (intOf i).toNat)
  case atStart => exact ⟨0, by omega, rfl, fun f h => by omega, (Below.refl _ _).alloc (Nat.le_refl _) _⟩
  case round =>
    obtain ⟨k, hk, rfl, hok, hb⟩ := hrel
    have HOK := hid hok
    clear hok
    by_cases hlt : k < 31
    · obtain ⟨c1, c2, hc⟩ : ∃ c1 c2, t k = (c1, c2) := ⟨_, _, rfl⟩
      have hix := fun w => run_index_tab t 39 29 k hlt w Try.underlying39 _ Try.underlying29 sizeCell
      simp only [hc] at hix
      have HC := hid hc
      clear hc
      go_wp2
      all_goals first
        | (go_ret
           exact ⟨ret_int (tabErr_bad t k hlt (by rw [HC.out]; unfold cellOk; dsimp only; omega)).symm, hb.alloc (by have := hb.size; omega) _⟩)
        | (go_roundw
           case rel =>
            refine ⟨k + 1, by omega, by go_num, fun f hf => ?_, hb.alloc (by have := hb.size; omega) _⟩
            by_cases e : f = k
            · rw [e, HC.out]; unfold cellOk; dsimp only; omega
            · exact HOK.out f (by omega)
           case measure => simp [intOf]; omega)
    · obtain rfl : k = 31 := by omega
      go_wp2
      go_ret
      exact ⟨ret_int (tabErr_good t HOK.out).symm, hb⟩
end Go.Proofs.Ytjghmgpmaallfaa
