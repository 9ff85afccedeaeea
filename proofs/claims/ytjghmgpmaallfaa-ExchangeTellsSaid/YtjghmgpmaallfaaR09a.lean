/-
  The contracts of linnetref07.May, linnetref09.May.
-/
import Derived.Test.YtjghmgpmaallfaaSim
namespace Go.Proofs.Ytjghmgpmaallfaa
open Go.RowKit
set_option linter.unusedVariables false
set_option linter.unusedSimpArgs false

set_option maxHeartbeats 2000000 in
set_option maxRecDepth 100000 in
/-- linnetref07.May -/
theorem refMay7 (f l v : Int) (a i o : Bool) (w : World) :
    Calls Try.prog 24 #[.agg #[.int .i64 f, .int .i64 l, .bool a, .bool i, .bool o, .int .u8 v]] w fun e w' => e = .returned (.bool (decide (trOk f l))) ∧ Below w.heap.size w w' := by
  have HT : Hid (trOk f l → decide (trOk f l) = true) := hid fun h => decide_eq_true h
  have HF : Hid (¬ trOk f l → decide (trOk f l) = false) := hid fun h => decide_eq_false h
  generalize decide (trOk f l) = b at *
  cases q1 : decide (0 ≤ f) <;> cases q2 : decide (f ≤ 255) <;> cases q3 : decide (0 ≤ l) <;> cases q4 : decide (l ≤ 3)
  all_goals
    go_enter Try.func24, Try.ntmps24
    go_wp2
    go_ret
    exact ⟨ret_bool (by simp only [decide_eq_true_eq, decide_eq_false_iff_not] at q1 q2 q3 q4; first | exact (HT.out (by unfold trOk; omega)).symm | exact (HF.out (by unfold trOk; omega)).symm), (Below.refl _ _).alloc (Nat.le_refl _) _⟩

set_option maxHeartbeats 4000000 in
set_option maxRecDepth 100000 in
/-- linnetref09.May -/
theorem refMay9 (t : Tb) (w : World) :
    Calls Try.prog 23 #[.agg (tabA t)] w fun e w' => e = .returned (.bool (decide (tabOk t))) ∧ Below w.heap.size w w' := by
  go_enter Try.func23, Try.ntmps23
  go_wp2
  go_loop [3] (fun i => ∃ k : Nat, k ≤ 31 ∧ i = .int .i64 k ∧ (∀ f, f < k → cellOk f (t f))) (fun i => 31 - (intOf i).toNat)
  case atStart => exact ⟨0, by omega, rfl, fun f h => by omega⟩
  case round =>
    obtain ⟨k, hk, rfl, hok⟩ := hrel
    have HOK := hid hok
    clear hok
    by_cases hlt : k < 31
    · obtain ⟨c1, c2, hc⟩ : ∃ c1 c2, t k = (c1, c2) := ⟨_, _, rfl⟩
      have HC := hid hc
      have k0 : (w.alloc (.cells (tabA t) 25)).cell? ⟨w.heap.size, k * 2, none⟩ = some (.int .i64 c1) := by rw [cell_of_row _ _ _ _ _ _ (heapNew _ _ _ rfl), tabA_cell0 t k hlt, hc]
      have k1 : (w.alloc (.cells (tabA t) 25)).cell? ⟨w.heap.size, k * 2 + 1, none⟩ = some (.int .u8 c2) := by rw [cell_of_row _ _ _ _ _ _ (heapNew _ _ _ rfl), tabA_cell1 t k hlt, hc]
      clear hc
      have HBAD : Hid (¬ cellOk k (t k) → decide (tabOk t) = false) := hid fun h => decide_eq_false fun h' => h (h' k hlt)
      have HNXT : Hid (cellOk k (t k) → ∀ f, f < k + 1 → cellOk f (t f)) := hid fun h f hf => by
        by_cases e : f = k
        · rw [e]; exact h
        · exact HOK.out f (by omega)
      by_cases g5 : k < 1
      · have b5 : ((k : Int) == 0) = true := by simp; omega
        by_cases g3 : c1 = 0
        · have b3 : (c1 == 0) = true := by simp [g3]
          have b4 : (c1 != 0) = false := by simp [g3]
          go_wp2
          all_goals first
            | (go_ret
               exact ⟨ret_bool (HBAD.out (by rw [HC.out]; unfold cellOk; dsimp only; omega)).symm, (Below.refl _ _).alloc (Nat.le_refl _) _⟩)
            | (go_round
               case rel => exact ⟨k + 1, by omega, (by first | go_num | exact congrArg (Value.int .i64) (by omega)), HNXT.out (by rw [HC.out]; unfold cellOk; dsimp only; omega)⟩
               case measure => simp [intOf]; omega)
        · have b3 : (c1 == 0) = false := by simp [g3]
          have b4 : (c1 != 0) = true := by simp [g3]
          go_wp2
          all_goals first
            | (go_ret
               exact ⟨ret_bool (HBAD.out (by rw [HC.out]; unfold cellOk; dsimp only; omega)).symm, (Below.refl _ _).alloc (Nat.le_refl _) _⟩)
            | (go_round
               case rel => exact ⟨k + 1, by omega, (by first | go_num | exact congrArg (Value.int .i64) (by omega)), HNXT.out (by rw [HC.out]; unfold cellOk; dsimp only; omega)⟩
               case measure => simp [intOf]; omega)
      · have b5 : ((k : Int) == 0) = false := by simp; omega
        by_cases g3 : c1 = 0
        · have b3 : (c1 == 0) = true := by simp [g3]
          have b4 : (c1 != 0) = false := by simp [g3]
          go_wp2
          all_goals first
            | (go_ret
               exact ⟨ret_bool (HBAD.out (by rw [HC.out]; unfold cellOk; dsimp only; omega)).symm, (Below.refl _ _).alloc (Nat.le_refl _) _⟩)
            | (go_round
               case rel => exact ⟨k + 1, by omega, (by first | go_num | exact congrArg (Value.int .i64) (by omega)), HNXT.out (by rw [HC.out]; unfold cellOk; dsimp only; omega)⟩
               case measure => simp [intOf]; omega)
        · have b3 : (c1 == 0) = false := by simp [g3]
          have b4 : (c1 != 0) = true := by simp [g3]
          go_wp2
          all_goals first
            | (go_ret
               exact ⟨ret_bool (HBAD.out (by rw [HC.out]; unfold cellOk; dsimp only; omega)).symm, (Below.refl _ _).alloc (Nat.le_refl _) _⟩)
            | (go_round
               case rel => exact ⟨k + 1, by omega, (by first | go_num | exact congrArg (Value.int .i64) (by omega)), HNXT.out (by rw [HC.out]; unfold cellOk; dsimp only; omega)⟩
               case measure => simp [intOf]; omega)
    · obtain rfl : k = 31 := by omega
      go_wp2
      go_ret
      exact ⟨ret_bool (decide_eq_true HOK.out).symm, (Below.refl _ _).alloc (Nat.le_refl _) _⟩
end Go.Proofs.Ytjghmgpmaallfaa
