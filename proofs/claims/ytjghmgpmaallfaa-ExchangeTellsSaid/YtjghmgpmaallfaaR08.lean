/-
  The contract of linnetref08.May.
-/
import Derived.Test.YtjghmgpmaallfaaSim
namespace Go.Proofs.Ytjghmgpmaallfaa
open Go.RowKit
set_option linter.unusedVariables false
set_option linter.unusedSimpArgs false

set_option maxHeartbeats 4000000 in
set_option maxRecDepth 100000 in
/-- linnetref08.May -/
theorem refMay (t : Tb) (w : World) :
    Calls Try.prog 28 #[.agg (tabA t)] w fun e w' => e = .returned (.bool (decide (tabOk t))) ∧ Below w.heap.size w w' := by
  go_enter Try.func28, Try.ntmps28
  go_wp2
  go_loopw [3] (fun i wr => ∃ k : Nat, k ≤ 31 ∧ i = .int .i64 k ∧ (∀ f, f < k → cellOk f (t f)) ∧ Below (w.heap.size + 1) (w.alloc (.cells (tabA t) 39)) wr) (fun i _ => 31 - (intOf i).toNat)
  case atStart => exact ⟨0, by omega, rfl, fun f h => by omega, Below.refl _ _⟩
  case round =>
    obtain ⟨k, hk, rfl, hok, hb⟩ := hrel
    have HOK := hid hok
    have HB := hid hb
    have hsz : w.heap.size + 1 ≤ wr.heap.size := by have := hb.size; simpa using this
    have hsz0 : w.heap.size < wr.heap.size := by omega
    clear hok hb
    have H0 : Hid (Below w.heap.size w (w.alloc (.cells (tabA t) 39))) := hid ((Below.refl _ _).alloc (Nat.le_refl _) _)
    by_cases hlt : k < 31
    · obtain ⟨c1, c2, hc⟩ : ∃ c1 c2, t k = (c1, c2) := ⟨_, _, rfl⟩
      have HC := hid hc
      have k0 : wr.cell? ⟨w.heap.size, k * 2, none⟩ = some (.int .i64 c1) := by
        rw [HB.out.cell (p := ⟨w.heap.size, k * 2, none⟩) (by simp), cell_of_row _ _ _ _ _ _ (heapNew _ _ _ rfl), tabA_cell0 t k hlt, hc]
      have k1 : wr.cell? ⟨w.heap.size, k * 2 + 1, none⟩ = some (.int .u8 c2) := by
        rw [HB.out.cell (p := ⟨w.heap.size, k * 2 + 1, none⟩) (by simp), cell_of_row _ _ _ _ _ _ (heapNew _ _ _ rfl), tabA_cell1 t k hlt, hc]
      clear hc
      have HBAD : Hid (¬ cellOk k (t k) → decide (tabOk t) = false) := hid fun h => decide_eq_false fun h' => h (h' k hlt)
      have HNXT : Hid (cellOk k (t k) → ∀ f, f < k + 1 → cellOk f (t f)) := hid fun h f hf => by
        by_cases e : f = k
        · rw [e]; exact h
        · exact HOK.out f (by omega)
      by_cases g5 : k < 1
      · have b5 : ((k : Int) == 0) = true := by simp; omega
        by_cases g3 : c1 = 0
        · have b3 : (c1 == 0) = true := by simp [g3]
          have b4 : (c1 != 0) = false := by simp [g3]
          go_wp2
          all_goals first
            | (go_ret
               exact ⟨ret_bool (HBAD.out (by rw [HC.out]; unfold cellOk; dsimp only; omega)).symm, (H0.out.trans (HB.out.mono (by omega))).alloc (by omega) _⟩)
            | (go_roundw
               case rel => exact ⟨k + 1, by omega, (by first | go_num | exact congrArg (Value.int .i64) (by omega)), HNXT.out (by rw [HC.out]; unfold cellOk; dsimp only; omega), HB.out.alloc (by simpa using hsz) _⟩
               case measure => simp [intOf]; omega)
        · have b3 : (c1 == 0) = false := by simp [g3]
          have b4 : (c1 != 0) = true := by simp [g3]
          go_wp2
          all_goals first
            | (go_ret
               exact ⟨ret_bool (HBAD.out (by rw [HC.out]; unfold cellOk; dsimp only; omega)).symm, (H0.out.trans (HB.out.mono (by omega))).alloc (by omega) _⟩)
            | (go_roundw
               case rel => exact ⟨k + 1, by omega, (by first | go_num | exact congrArg (Value.int .i64) (by omega)), HNXT.out (by rw [HC.out]; unfold cellOk; dsimp only; omega), HB.out.alloc (by simpa using hsz) _⟩
               case measure => simp [intOf]; omega)
      · have b5 : ((k : Int) == 0) = false := by simp; omega
        by_cases g3 : c1 = 0
        · have b3 : (c1 == 0) = true := by simp [g3]
          have b4 : (c1 != 0) = false := by simp [g3]
          go_wp2
          all_goals first
            | (go_ret
               exact ⟨ret_bool (HBAD.out (by rw [HC.out]; unfold cellOk; dsimp only; omega)).symm, (H0.out.trans (HB.out.mono (by omega))).alloc (by omega) _⟩)
            | (go_roundw
               case rel => exact ⟨k + 1, by omega, (by first | go_num | exact congrArg (Value.int .i64) (by omega)), HNXT.out (by rw [HC.out]; unfold cellOk; dsimp only; omega), HB.out.alloc (by simpa using hsz) _⟩
               case measure => simp [intOf]; omega)
        · have b3 : (c1 == 0) = false := by simp [g3]
          have b4 : (c1 != 0) = true := by simp [g3]
          go_wp2
          all_goals first
            | (go_ret
               exact ⟨ret_bool (HBAD.out (by rw [HC.out]; unfold cellOk; dsimp only; omega)).symm, (H0.out.trans (HB.out.mono (by omega))).alloc (by omega) _⟩)
            | (go_roundw
               case rel => exact ⟨k + 1, by omega, (by first | go_num | exact congrArg (Value.int .i64) (by omega)), HNXT.out (by rw [HC.out]; unfold cellOk; dsimp only; omega), HB.out.alloc (by simpa using hsz) _⟩
               case measure => simp [intOf]; omega)
    · obtain rfl : k = 31 := by omega
      go_wp2
      go_ret
      exact ⟨ret_bool (decide_eq_true HOK.out).symm, H0.out.trans (HB.out.mono (by omega))⟩
end Go.Proofs.Ytjghmgpmaallfaa
