/-
  table.Key.
-/
import Derived.Test.YtjghmgpmaallfaaDoorDwi
import Derived.Test.YtjghmgpmaallfaaDoorMea
import Derived.Test.YtjghmgpmaallfaaDoorRgn
import Derived.Deep.QuietTactic
import Derived.BigQuiet
import Derived.Deep.RegionWith
namespace Go.Proofs.YtjghmgpmaallfaaDoor
open Go.RowKit
set_option linter.unusedVariables false
set_option linter.unusedSimpArgs false

theorem tableMeaning_eq {t : Tb} {key m0 : Int} (h : meaning t key = m0) (w : World) :
    Calls Tryd.prog 13 #[.agg (tabA t), .int .u8 key] w fun e w' => e = .returned (.int .i64 m0) ∧ Below w.heap.size w w' := by
  rw [← h]; exact tableMeaning t key w
set_option maxHeartbeats 2000000 in
set_option maxRecDepth 100000 in
theorem key_enter (t : Tb) (w : World) :
    Calls Tryd.prog 9 #[.agg (tabA t), .int .i64 31] w fun e w' => e = .returned (.tuple #[.int .u8 13, .bool true]) ∧ Below w.heap.size w w' := by
  go_enter Tryd.func9, Tryd.ntmps9
  go_wp2
  go_ret2
  exact ⟨rfl, (Below.refl _ _).alloc (Nat.le_refl _) _⟩

set_option maxHeartbeats 2000000 in
set_option maxRecDepth 100000 in
theorem key_low (t : Tb) (f : Int) (hf : f < 1) (w : World) :
    Calls Tryd.prog 9 #[.agg (tabA t), .int .i64 f] w fun e w' => e = .returned (.tuple #[.int .u8 0, .bool false]) ∧ Below w.heap.size w w' := by
  have d0 : (f == 31) = false := by simp; omega
  have d1 : decide (f < 1) = true := by simp; omega
  go_enter Tryd.func9, Tryd.ntmps9
  go_wp2
  refine wp_region_good (by kernel_rfl) (by kernel_rfl) ?_
  repeat (go_big_quiet_step (fail))
  refine wpQuiet_nil ?_
  rintro u ⟨⟨_, hu⟩, rfl⟩
  go_wp2
  go_ret2
  exact ⟨rfl, ((Below.refl w.heap.size w).alloc (Nat.le_refl _) _).trans (hu.mono (by simp))⟩

set_option maxHeartbeats 2000000 in
set_option maxRecDepth 100000 in
theorem key_high (t : Tb) (f : Int) (hf : 31 < f) (w : World) :
    Calls Tryd.prog 9 #[.agg (tabA t), .int .i64 f] w fun e w' => e = .returned (.tuple #[.int .u8 0, .bool false]) ∧ Below w.heap.size w w' := by
  have d0 : (f == 31) = false := by simp; omega
  have d1 : decide (f < 1) = false := by simp; omega
  have d2 : decide (31 ≤ f) = true := by simp; omega
  go_enter Tryd.func9, Tryd.ntmps9
  go_wp2
  refine wp_region_good (by kernel_rfl) (by kernel_rfl) ?_
  repeat (go_big_quiet_step (fail))
  refine wpQuiet_nil ?_
  rintro u ⟨⟨_, hu⟩, rfl⟩
  go_wp2
  go_ret2
  exact ⟨rfl, ((Below.refl w.heap.size w).alloc (Nat.le_refl _) _).trans (hu.mono (by simp))⟩

set_option maxHeartbeats 2000000 in
set_option maxRecDepth 100000 in
theorem key_none (t : Tb) (n : Nat) (h1 : 1 ≤ n) (h2 : n < 31) (c2 : Int) (HC : Hid (t n = (0, c2))) (w : World) :
    Calls Tryd.prog 9 #[.agg (tabA t), .int .i64 n] w fun e w' => e = .returned (.tuple #[.int .u8 0, .bool false]) ∧ Below w.heap.size w w' := by
  have d0 : ((n : Int) == 31) = false := by simp; omega
  have d1 : decide ((n : Int) < 1) = false := by simp; omega
  have d2 : decide (31 ≤ (n : Int)) = false := by simp; omega
  have r0 : rowAt (w.alloc (.cells (tabA t) 25)) w.heap.size = some (.cells (tabA t) 25 (0, 0)) := rowAt_new _ _ _ rfl
  have g0 := goodRow r0
  have gq0 : ∀ x : Good (w.alloc (.cells (tabA t) 25)), x.u.cell? ⟨w.heap.size, n * 2, none⟩ = some (.int .i64 0) := fun x => by rw [cell_of_row _ _ _ _ _ _ (g0 x), tabA_cell0 t n h2, HC.out]
  have gq1 : ∀ x : Good (w.alloc (.cells (tabA t) 25)), x.u.cell? ⟨w.heap.size, n * 2 + 1, none⟩ = some (.int .u8 c2) := fun x => by rw [cell_of_row _ _ _ _ _ _ (g0 x), tabA_cell1 t n h2, HC.out]
  clear r0
  go_enter Tryd.func9, Tryd.ntmps9
  go_wp2
  refine wp_region_good (by kernel_rfl) (by kernel_rfl) ?_
  repeat (go_big_quiet_step (fail))
  refine wpQuiet_nil ?_
  rintro u ⟨⟨_, hu⟩, rfl⟩
  have q0 := gq0 ⟨u, hu⟩
  have q1 := gq1 ⟨u, hu⟩
  dsimp only at q0 q1
  clear gq0 gq1 g0
  go_wp2
  go_ret2
  exact ⟨rfl, ((Below.refl w.heap.size w).alloc (Nat.le_refl _) _).trans (hu.mono (by simp))⟩

set_option maxHeartbeats 2000000 in
set_option maxRecDepth 100000 in
theorem key_other (t : Tb) (n : Nat) (h1 : 1 ≤ n) (h2 : n < 31) (c1 c2 : Int) (m0 : Int) (hm : ¬ m0 = n) (hc : ¬ c1 = 0) (HC : Hid (t n = (c1, c2))) (HM : Hid (meaning t c2 = m0)) (w : World) :
    Calls Tryd.prog 9 #[.agg (tabA t), .int .i64 n] w fun e w' => e = .returned (.tuple #[.int .u8 0, .bool false]) ∧ Below w.heap.size w w' := by
  have d0 : ((n : Int) == 31) = false := by simp; omega
  have d1 : decide ((n : Int) < 1) = false := by simp; omega
  have d2 : decide (31 ≤ (n : Int)) = false := by simp; omega
  have d4 : (c1 == 0) = false := by simpa using hc
  clear hc
  have d3 : (m0 != (n : Int)) = true := by simpa using hm
  clear hm
  have r0 : rowAt (w.alloc (.cells (tabA t) 25)) w.heap.size = some (.cells (tabA t) 25 (0, 0)) := rowAt_new _ _ _ rfl
  have g0 := goodRow r0
  have gq0 : ∀ x : Good (w.alloc (.cells (tabA t) 25)), x.u.cell? ⟨w.heap.size, n * 2, none⟩ = some (.int .i64 c1) := fun x => by rw [cell_of_row _ _ _ _ _ _ (g0 x), tabA_cell0 t n h2, HC.out]
  have gq1 : ∀ x : Good (w.alloc (.cells (tabA t) 25)), x.u.cell? ⟨w.heap.size, n * 2 + 1, none⟩ = some (.int .u8 c2) := fun x => by rw [cell_of_row _ _ _ _ _ _ (g0 x), tabA_cell1 t n h2, HC.out]
  clear r0
  go_enter Tryd.func9, Tryd.ntmps9
  go_wp2
  refine wp_region_good (by kernel_rfl) (by kernel_rfl) ?_
  repeat (go_big_quiet_step ((go_at_call 13; exact Calls.good (tableMeaning_eq HM.out _))))
  refine wpQuiet_nil ?_
  rintro u ⟨⟨_, hu⟩, rfl⟩
  have q0 := gq0 ⟨u, hu⟩
  have q1 := gq1 ⟨u, hu⟩
  dsimp only at q0 q1
  clear gq0 gq1 g0
  go_wp2
  go_ret2
  exact ⟨rfl, ((Below.refl w.heap.size w).alloc (Nat.le_refl _) _).trans (hu.mono (by simp))⟩

set_option maxHeartbeats 2000000 in
set_option maxRecDepth 100000 in
theorem key_ok (t : Tb) (n : Nat) (h1 : 1 ≤ n) (h2 : n < 31) (c1 c2 : Int) (hc : ¬ c1 = 0) (HC : Hid (t n = (c1, c2))) (HM : Hid (meaning t c2 = n)) (w : World) :
    Calls Tryd.prog 9 #[.agg (tabA t), .int .i64 n] w fun e w' => e = .returned (.tuple #[.int .u8 c2, .bool true]) ∧ Below w.heap.size w w' := by
  have d0 : ((n : Int) == 31) = false := by simp; omega
  have d1 : decide ((n : Int) < 1) = false := by simp; omega
  have d2 : decide (31 ≤ (n : Int)) = false := by simp; omega
  have d4 : (c1 == 0) = false := by simpa using hc
  clear hc
  have r0 : rowAt (w.alloc (.cells (tabA t) 25)) w.heap.size = some (.cells (tabA t) 25 (0, 0)) := rowAt_new _ _ _ rfl
  have g0 := goodRow r0
  have gq0 : ∀ x : Good (w.alloc (.cells (tabA t) 25)), x.u.cell? ⟨w.heap.size, n * 2, none⟩ = some (.int .i64 c1) := fun x => by rw [cell_of_row _ _ _ _ _ _ (g0 x), tabA_cell0 t n h2, HC.out]
  have gq1 : ∀ x : Good (w.alloc (.cells (tabA t) 25)), x.u.cell? ⟨w.heap.size, n * 2 + 1, none⟩ = some (.int .u8 c2) := fun x => by rw [cell_of_row _ _ _ _ _ _ (g0 x), tabA_cell1 t n h2, HC.out]
  clear r0
  go_enter Tryd.func9, Tryd.ntmps9
  go_wp2
  refine wp_region_good (by kernel_rfl) (by kernel_rfl) ?_
  repeat (go_big_quiet_step ((go_at_call 13; exact Calls.good (tableMeaning_eq HM.out _))))
  refine wpQuiet_nil ?_
  rintro u ⟨⟨_, hu⟩, rfl⟩
  have q0 := gq0 ⟨u, hu⟩
  have q1 := gq1 ⟨u, hu⟩
  dsimp only at q0 q1
  clear gq0 gq1 g0
  go_wp2
  go_ret2
  exact ⟨rfl, ((Below.refl w.heap.size w).alloc (Nat.le_refl _) _).trans (hu.mono (by simp))⟩

end Go.Proofs.YtjghmgpmaallfaaDoor
