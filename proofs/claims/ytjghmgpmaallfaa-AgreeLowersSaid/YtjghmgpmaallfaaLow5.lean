/-
  The walk of AgreeLowers, where the function is known.
-/
import Derived.Test.YtjghmgpmaallfaaLow
import Derived.Test.YtjghmgpmaallfaaSim
import Derived.Deep.QuietTactic
import Derived.BigQuiet
import Derived.Deep.RegionWith
namespace Go.Proofs.Ytjghmgpmaallfaa
open Go.RowKit
set_option linter.unusedVariables false
set_option linter.unusedSimpArgs false
attribute [local go_sem] Go.undef

set_option maxHeartbeats 2000000 in
set_option maxRecDepth 100000 in
theorem low_in11 (p u : Tb) (n : Nat) (h1 : 1 ≤ n) (h2 : n < 31) (l v m pv : Int) (a i o : Bool) (hl : 0 ≤ l) (hm : 0 ≤ m) (HP : Hid (p n = (m, pv))) (H1 : Hid (settle p n l v = ((0, 0), 0))) (HU : Hid (tabErr u = 1)) (e9 : Int) (u9 : Tb) (H9 : ∀ w : World, Calls Try.prog 18 #[.agg (tabA u), .int .i64 n, .agg #[.int .i64 0, .int .u8 0]] w fun e w' => e = .returned (.tuple #[.agg (tabA u9), .int .i64 e9]) ∧ Below w.heap.size w w') (w : World) :
    Calls Try.prog 6 #[.agg (tabA p), .agg #[.int .i64 n, .int .i64 l, .bool a, .bool i, .bool o, .int .u8 v], .agg (tabA u)] w fun e w' => e = .returned (.bool true) ∧ Below w.heap.size w w' := by
  have d0 : decide ((n : Int) < 1) = false := by simp; omega
  have d1 : decide (l < 0) = false := by simp; omega
  have d2 : decide ((1 : Int) ≤ (n : Int)) = true := by simp; omega
  have d3 : decide ((n : Int) < 31) = true := by simp; omega
  have d4 : decide (m < 0) = false := by simp; omega
  go_enter Try.func6, Try.ntmps6
  go_wp2_with fail
  refine (settle_eq H1.out a i o _).mono ?_
  rintro e w1 ⟨rfl, hb1⟩
  have HB1 := hid (below_step ((((Below.refl w.heap.size w).alloc (by first | omega | (simp [putRow_size, drewN_heap, drew_heap] <;> omega)) _).alloc (by first | omega | (simp [putRow_size, drewN_heap, drew_heap] <;> omega)) _).alloc (by first | omega | (simp [putRow_size, drewN_heap, drew_heap] <;> omega)) _) (by first | omega | (simp [putRow_size, drewN_heap, drew_heap] <;> omega)) hb1)
  have hs1 : w.heap.size ≤ w1.heap.size := HB1.out.size
  have r1_0 : rowAt w1 (w.heap.size) = some (.cells (tabA p) 25 (0, 0)) := rowNext' hb1 (by rw [rowAt_old _ _ _ (by first | omega | (simp [putRow_size, drewN_heap, drew_heap] <;> omega)), rowAt_old _ _ _ (by first | omega | (simp [putRow_size, drewN_heap, drew_heap] <;> omega)), rowAt_new _ _ _ (by first | omega | (simp [putRow_size, drewN_heap, drew_heap] <;> omega))])
  have c1_0 := lt_of_some r1_0
  have r1_1 : rowAt w1 (w.heap.size + 1) = some (.cells #[.int .i64 n, .int .i64 l, .bool a, .bool i, .bool o, .int .u8 v] 27 (0, 0)) := rowNext' hb1 (by rw [rowAt_old _ _ _ (by first | omega | (simp [putRow_size, drewN_heap, drew_heap] <;> omega)), rowAt_new _ _ _ (by first | omega | (simp [putRow_size, drewN_heap, drew_heap] <;> omega))])
  have c1_1 := cells6 r1_1
  have r1_2 : rowAt w1 (w.heap.size + 1 + 1) = some (.cells (tabA u) 39 (0, 0)) := rowNext' hb1 (by rw [rowAt_new _ _ _ (by first | omega | (simp [putRow_size, drewN_heap, drew_heap] <;> omega))])
  have c1_2 := lt_of_some r1_2
  go_wp2_with fail
  have k0 := cell_of_row _ _ (n * 2) _ _ _ r1_0
  rw [tabA_cell0 p n h2, HP.out] at k0
  dsimp only at k0
  go_quiet (fail)
  go_wp2_with fail
  refine (H9 _).mono ?_
  rintro e w2 ⟨rfl, hb2⟩
  have HB2 := hid (below_step (below_drewN' (HB1.out.alloc (by first | omega | (simp [putRow_size, drewN_heap, drew_heap] <;> omega)) _) _) (by first | omega | (simp [putRow_size, drewN_heap, drew_heap] <;> omega)) hb2)
  have hs2 : w.heap.size ≤ w2.heap.size := HB2.out.size
  have r2_0 : rowAt w2 (w.heap.size) = some (.cells (tabA p) 25 (0, 0)) := rowNext' hb2 (by rw [rowAt_drewN, rowAt_old _ _ _ (by first | omega | (simp [putRow_size, drewN_heap, drew_heap] <;> omega))]; exact r1_0)
  have c2_0 := lt_of_some r2_0
  have r2_1 : rowAt w2 (w.heap.size + 1) = some (.cells #[.int .i64 n, .int .i64 l, .bool a, .bool i, .bool o, .int .u8 v] 27 (0, 0)) := rowNext' hb2 (by rw [rowAt_drewN, rowAt_old _ _ _ (by first | omega | (simp [putRow_size, drewN_heap, drew_heap] <;> omega))]; exact r1_1)
  have c2_1 := cells6 r2_1
  have r2_2 : rowAt w2 (w.heap.size + 1 + 1) = some (.cells (tabA u) 39 (0, 0)) := rowNext' hb2 (by rw [rowAt_drewN, rowAt_old _ _ _ (by first | omega | (simp [putRow_size, drewN_heap, drew_heap] <;> omega))]; exact r1_2)
  have c2_2 := lt_of_some r2_2
  have r2_3 : rowAt w2 (w1.heap.size) = some (.cells #[.int .i64 0, .int .u8 0] 29 (0, 0)) := rowNext' hb2 (by rw [rowAt_drewN, rowAt_new _ _ _ (by first | omega | (simp [putRow_size, drewN_heap, drew_heap] <;> omega))])
  have c2_3 := cells2 r2_3
  clear r1_0 c1_0 r1_1 c1_1 r1_2 c1_2 hb1 HB1 hs1
  go_wp2_with fail
  first | (go_region_with (first | (go_at_call 19; refine (tableCheck_eq HU.out _).mono ?_; rintro e w3 ⟨rfl, hb3⟩; have HB3 := hid (below_step ((HB2.out.alloc (by first | omega | (simp [putRow_size, drewN_heap, drew_heap] <;> omega)) _).drew) (by first | omega | (simp [putRow_size, drewN_heap, drew_heap] <;> omega)) hb3); have hs3 : w.heap.size ≤ w3.heap.size := HB3.out.size; have r3_0 : rowAt w3 (w.heap.size) = some (.cells (tabA p) 25 (0, 0)) := rowNext' hb3 (by rw [rowAt_drew, rowAt_old _ _ _ (by first | omega | (simp [putRow_size, drewN_heap, drew_heap] <;> omega))]; exact r2_0); have c3_0 := lt_of_some r3_0; have r3_1 : rowAt w3 (w.heap.size + 1) = some (.cells #[.int .i64 n, .int .i64 l, .bool a, .bool i, .bool o, .int .u8 v] 27 (0, 0)) := rowNext' hb3 (by rw [rowAt_drew, rowAt_old _ _ _ (by first | omega | (simp [putRow_size, drewN_heap, drew_heap] <;> omega))]; exact r2_1); have c3_1 := cells6 r3_1; have r3_2 : rowAt w3 (w.heap.size + 1 + 1) = some (.cells (tabA u) 39 (0, 0)) := rowNext' hb3 (by rw [rowAt_drew, rowAt_old _ _ _ (by first | omega | (simp [putRow_size, drewN_heap, drew_heap] <;> omega))]; exact r2_2); have c3_2 := lt_of_some r3_2; have r3_3 : rowAt w3 (w1.heap.size) = some (.cells #[.int .i64 0, .int .u8 0] 29 (0, 0)) := rowNext' hb3 (by rw [rowAt_drew, rowAt_old _ _ _ (by first | omega | (simp [putRow_size, drewN_heap, drew_heap] <;> omega))]; exact r2_3); have c3_3 := cells2 r3_3; have r3_4 : rowAt w3 (w2.heap.size) = some (.cells (tabA u9) 39 (0, 0)) := rowNext' hb3 (by rw [rowAt_drew, rowAt_new _ _ _ (by first | omega | (simp [putRow_size, drewN_heap, drew_heap] <;> omega))]); have c3_4 := lt_of_some r3_4) | (go_at_call 16; refine (awake9 _).mono ?_; rintro e w4 ⟨rfl, hb4⟩; have HB4 := hid (below_step HB3.out HB3.out.size hb4)))) | fail
  all_goals go_wp2
  all_goals go_ret
  all_goals exact ⟨rfl, HB4.out⟩

end Go.Proofs.Ytjghmgpmaallfaa
