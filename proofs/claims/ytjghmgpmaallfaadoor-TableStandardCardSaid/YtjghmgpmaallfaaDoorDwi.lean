/-
  table.With.
-/
import Derived.Test.YtjghmgpmaallfaaDoorSim
namespace Go.Proofs.YtjghmgpmaallfaaDoor
open Go.RowKit
set_option linter.unusedVariables false
set_option linter.unusedSimpArgs false

theorem tableCheck_eq {t : Tb} {e0 : Int} (h : tabErr t = e0) (w : World) :
    Calls Tryd.prog 11 #[.agg (tabA t)] w fun e w' => e = .returned (.int .i64 e0) ∧ Below w.heap.size w w' := by
  rw [← h]; exact tableCheck t w
set_option maxHeartbeats 2000000 in
set_option maxRecDepth 100000 in
theorem with_low (t : Tb) (f c1 c2 : Int) (hf : f < 1) (w : World) :
    Calls Tryd.prog 17 #[.agg (tabA t), .int .i64 f, .agg #[.int .i64 c1, .int .u8 c2]] w fun e w' => e = .returned (.tuple #[.agg (tabA t), .int .i64 1]) ∧ Below w.heap.size w w' := by
  go_enter Tryd.func17, Tryd.ntmps17
  go_wp2_with fail
  exact bodyPost_ret (v := .tuple #[.agg (tabA t), .int .i64 1]) (results_row_tmp Tryd.results17 _ _ (w.heap.size + 1 + 1) 25 (tabA t) (0, 0) _ rfl (show rowAt _ _ = _ from (by rw [rowAt_new _ _ _ (by first | omega | (simp [putRow_size, drewN_heap, drew_heap] <;> omega))])) Tryd.underlying25 rfl (by rw [tabA_size]; exact sizeTable) (.int .i64 1) rfl) rfl ⟨rfl, ((((Below.refl w.heap.size w).alloc (by first | omega | (simp [putRow_size, drewN_heap, drew_heap] <;> omega)) _).alloc (by first | omega | (simp [putRow_size, drewN_heap, drew_heap] <;> omega)) _).alloc (by first | omega | (simp [putRow_size, drewN_heap, drew_heap] <;> omega)) _)⟩

set_option maxHeartbeats 2000000 in
set_option maxRecDepth 100000 in
theorem with_high (t : Tb) (f c1 c2 : Int) (hf : 31 ≤ f) (w : World) :
    Calls Tryd.prog 17 #[.agg (tabA t), .int .i64 f, .agg #[.int .i64 c1, .int .u8 c2]] w fun e w' => e = .returned (.tuple #[.agg (tabA t), .int .i64 1]) ∧ Below w.heap.size w w' := by
  go_enter Tryd.func17, Tryd.ntmps17
  go_wp2_with fail
  exact bodyPost_ret (v := .tuple #[.agg (tabA t), .int .i64 1]) (results_row_tmp Tryd.results17 _ _ (w.heap.size + 1 + 1) 25 (tabA t) (0, 0) _ rfl (show rowAt _ _ = _ from (by rw [rowAt_new _ _ _ (by first | omega | (simp [putRow_size, drewN_heap, drew_heap] <;> omega))])) Tryd.underlying25 rfl (by rw [tabA_size]; exact sizeTable) (.int .i64 1) rfl) rfl ⟨rfl, ((((Below.refl w.heap.size w).alloc (by first | omega | (simp [putRow_size, drewN_heap, drew_heap] <;> omega)) _).alloc (by first | omega | (simp [putRow_size, drewN_heap, drew_heap] <;> omega)) _).alloc (by first | omega | (simp [putRow_size, drewN_heap, drew_heap] <;> omega)) _)⟩

set_option maxHeartbeats 2000000 in
set_option maxRecDepth 100000 in
theorem with_bad (t : Tb) (n : Nat) (h1 : 1 ≤ n) (h2 : n < 31) (c1 c2 : Int) (HE : Hid (tabErr (upd t n (c1, c2)) = 1)) (w : World) :
    Calls Tryd.prog 17 #[.agg (tabA t), .int .i64 n, .agg #[.int .i64 c1, .int .u8 c2]] w fun e w' => e = .returned (.tuple #[.agg (tabA t), .int .i64 1]) ∧ Below w.heap.size w w' := by
  go_enter Tryd.func17, Tryd.ntmps17
  go_wp2_with (refine wpList_store_mid rfl 23 (.tmp 19) (.tmp 18) rfl (w.heap.size) (n * 2) rfl 25 (tabA t) ?_ _ rfl sizeCell (by rw [tabA_size]; simp; omega) rfl (tabA (upd t n (c1, c2))) (lay_upd _ _ _ _ (by omega)) ?_; · (show rowAt _ _ = _; rw [rowAt_old _ _ _ (by first | omega | (simp [putRow_size, drewN_heap, drew_heap] <;> omega)), rowAt_old _ _ _ (by first | omega | (simp [putRow_size, drewN_heap, drew_heap] <;> omega)), rowAt_old _ _ _ (by first | omega | (simp [putRow_size, drewN_heap, drew_heap] <;> omega)), rowAt_new _ _ _ (by first | omega | (simp [putRow_size, drewN_heap, drew_heap] <;> omega))]))
  refine (tableCheck_eq HE.out _).mono ?_
  rintro e w1 ⟨rfl, hb1⟩
  have HB1 := hid (below_step (((((Below.refl w.heap.size w).alloc (by first | omega | (simp [putRow_size, drewN_heap, drew_heap] <;> omega)) _).alloc (by first | omega | (simp [putRow_size, drewN_heap, drew_heap] <;> omega)) _).alloc (by first | omega | (simp [putRow_size, drewN_heap, drew_heap] <;> omega)) _).alloc (by first | omega | (simp [putRow_size, drewN_heap, drew_heap] <;> omega)) _) (by first | omega | (simp [putRow_size, drewN_heap, drew_heap] <;> omega)) hb1)
  have hs1 : w.heap.size ≤ w1.heap.size := HB1.out.size
  have r1_0 : rowAt w1 (w.heap.size) = some (.cells (tabA (upd t n (c1, c2))) 25 (0, 0)) := rowNext' hb1 (by rw [rowAt_old _ _ _ (by first | omega | (simp [putRow_size, drewN_heap, drew_heap] <;> omega)), rowAt_old _ _ _ (by first | omega | (simp [putRow_size, drewN_heap, drew_heap] <;> omega)), rowAt_old _ _ _ (by first | omega | (simp [putRow_size, drewN_heap, drew_heap] <;> omega)), rowAt_new _ _ _ (by first | omega | (simp [putRow_size, drewN_heap, drew_heap] <;> omega))])
  have c1_0 := lt_of_some r1_0
  have r1_1 : rowAt w1 (w.heap.size + 1) = some (.cells #[.int .i64 c1, .int .u8 c2] 23 (0, 0)) := rowNext' hb1 (by rw [rowAt_old _ _ _ (by first | omega | (simp [putRow_size, drewN_heap, drew_heap] <;> omega)), rowAt_old _ _ _ (by first | omega | (simp [putRow_size, drewN_heap, drew_heap] <;> omega)), rowAt_new _ _ _ (by first | omega | (simp [putRow_size, drewN_heap, drew_heap] <;> omega))])
  have c1_1 := cells2 r1_1
  have r1_2 : rowAt w1 (w.heap.size + 1 + 1) = some (.cells (tabA zeroT) 25 (0, 0)) := rowNext' hb1 (by rw [rowAt_old _ _ _ (by first | omega | (simp [putRow_size, drewN_heap, drew_heap] <;> omega)), rowAt_new _ _ _ (by first | omega | (simp [putRow_size, drewN_heap, drew_heap] <;> omega))])
  have c1_2 := lt_of_some r1_2
  have r1_3 : rowAt w1 (w.heap.size + 1 + 1 + 1) = some (.cells (tabA t) 25 (0, 0)) := rowNext' hb1 (by rw [rowAt_new _ _ _ (by first | omega | (simp [putRow_size, drewN_heap, drew_heap] <;> omega))])
  have c1_3 := lt_of_some r1_3
  go_wp2_with fail
  exact bodyPost_ret (v := .tuple #[.agg (tabA t), .int .i64 1]) (results_row_tmp Tryd.results17 _ _ (w.heap.size + 1 + 1) 25 (tabA t) (0, 0) _ rfl (show rowAt _ _ = _ from (by rw [rowAt_put _ _ _ _ (by first | omega | (simp [putRow_size, drewN_heap, drew_heap] <;> omega))])) Tryd.underlying25 rfl (by rw [tabA_size]; exact sizeTable) (.int .i64 1) rfl) rfl ⟨rfl, (below_putRow HB1.out _ _ _ (by first | omega | (simp [putRow_size, drewN_heap, drew_heap] <;> omega)))⟩

set_option maxHeartbeats 2000000 in
set_option maxRecDepth 100000 in
theorem with_ok (t : Tb) (n : Nat) (h1 : 1 ≤ n) (h2 : n < 31) (c1 c2 : Int) (HE : Hid (tabErr (upd t n (c1, c2)) = 0)) (w : World) :
    Calls Tryd.prog 17 #[.agg (tabA t), .int .i64 n, .agg #[.int .i64 c1, .int .u8 c2]] w fun e w' => e = .returned (.tuple #[.agg (tabA (upd t n (c1, c2))), .int .i64 0]) ∧ Below w.heap.size w w' := by
  go_enter Tryd.func17, Tryd.ntmps17
  go_wp2_with (refine wpList_store_mid rfl 23 (.tmp 19) (.tmp 18) rfl (w.heap.size) (n * 2) rfl 25 (tabA t) ?_ _ rfl sizeCell (by rw [tabA_size]; simp; omega) rfl (tabA (upd t n (c1, c2))) (lay_upd _ _ _ _ (by omega)) ?_; · (show rowAt _ _ = _; rw [rowAt_old _ _ _ (by first | omega | (simp [putRow_size, drewN_heap, drew_heap] <;> omega)), rowAt_old _ _ _ (by first | omega | (simp [putRow_size, drewN_heap, drew_heap] <;> omega)), rowAt_old _ _ _ (by first | omega | (simp [putRow_size, drewN_heap, drew_heap] <;> omega)), rowAt_new _ _ _ (by first | omega | (simp [putRow_size, drewN_heap, drew_heap] <;> omega))]))
  refine (tableCheck_eq HE.out _).mono ?_
  rintro e w1 ⟨rfl, hb1⟩
  have HB1 := hid (below_step (((((Below.refl w.heap.size w).alloc (by first | omega | (simp [putRow_size, drewN_heap, drew_heap] <;> omega)) _).alloc (by first | omega | (simp [putRow_size, drewN_heap, drew_heap] <;> omega)) _).alloc (by first | omega | (simp [putRow_size, drewN_heap, drew_heap] <;> omega)) _).alloc (by first | omega | (simp [putRow_size, drewN_heap, drew_heap] <;> omega)) _) (by first | omega | (simp [putRow_size, drewN_heap, drew_heap] <;> omega)) hb1)
  have hs1 : w.heap.size ≤ w1.heap.size := HB1.out.size
  have r1_0 : rowAt w1 (w.heap.size) = some (.cells (tabA (upd t n (c1, c2))) 25 (0, 0)) := rowNext' hb1 (by rw [rowAt_old _ _ _ (by first | omega | (simp [putRow_size, drewN_heap, drew_heap] <;> omega)), rowAt_old _ _ _ (by first | omega | (simp [putRow_size, drewN_heap, drew_heap] <;> omega)), rowAt_old _ _ _ (by first | omega | (simp [putRow_size, drewN_heap, drew_heap] <;> omega)), rowAt_new _ _ _ (by first | omega | (simp [putRow_size, drewN_heap, drew_heap] <;> omega))])
  have c1_0 := lt_of_some r1_0
  have r1_1 : rowAt w1 (w.heap.size + 1) = some (.cells #[.int .i64 c1, .int .u8 c2] 23 (0, 0)) := rowNext' hb1 (by rw [rowAt_old _ _ _ (by first | omega | (simp [putRow_size, drewN_heap, drew_heap] <;> omega)), rowAt_old _ _ _ (by first | omega | (simp [putRow_size, drewN_heap, drew_heap] <;> omega)), rowAt_new _ _ _ (by first | omega | (simp [putRow_size, drewN_heap, drew_heap] <;> omega))])
  have c1_1 := cells2 r1_1
  have r1_2 : rowAt w1 (w.heap.size + 1 + 1) = some (.cells (tabA zeroT) 25 (0, 0)) := rowNext' hb1 (by rw [rowAt_old _ _ _ (by first | omega | (simp [putRow_size, drewN_heap, drew_heap] <;> omega)), rowAt_new _ _ _ (by first | omega | (simp [putRow_size, drewN_heap, drew_heap] <;> omega))])
  have c1_2 := lt_of_some r1_2
  have r1_3 : rowAt w1 (w.heap.size + 1 + 1 + 1) = some (.cells (tabA t) 25 (0, 0)) := rowNext' hb1 (by rw [rowAt_new _ _ _ (by first | omega | (simp [putRow_size, drewN_heap, drew_heap] <;> omega))])
  have c1_3 := lt_of_some r1_3
  go_wp2_with fail
  exact bodyPost_ret (v := .tuple #[.agg (tabA (upd t n (c1, c2))), .int .i64 0]) (results_row_tmp Tryd.results17 _ _ (w.heap.size + 1 + 1) 25 (tabA (upd t n (c1, c2))) (0, 0) _ rfl (show rowAt _ _ = _ from (by rw [rowAt_put _ _ _ _ (by first | omega | (simp [putRow_size, drewN_heap, drew_heap] <;> omega))])) Tryd.underlying25 rfl (by rw [tabA_size]; exact sizeTable) (.int .i64 0) rfl) rfl ⟨rfl, (below_putRow HB1.out _ _ _ (by first | omega | (simp [putRow_size, drewN_heap, drew_heap] <;> omega)))⟩

end Go.Proofs.YtjghmgpmaallfaaDoor
