/-
  The walk of TableMeans.
-/
import Derived.Test.YtjghmgpmaallfaaDoorOrd0
import Derived.Deep.QuietTactic
import Derived.BigQuiet
import Derived.Deep.RegionWith
namespace Go.Proofs.YtjghmgpmaallfaaDoor
open Go.RowKit
set_option linter.unusedVariables false
set_option linter.unusedSimpArgs false

set_option maxHeartbeats 2000000 in
set_option maxRecDepth 100000 in
theorem means_enter (t : Tb) (k2 m2 : Int) (h : (31 == m2) = false) (H1 : Hid (meaning t 13 = 31)) (H2 : Hid (meaning t k2 = m2)) (w : World) (hstd : StdLies w) :
    Calls Tryd.prog 4 #[.agg (tabA t), .int .u8 13, .int .u8 k2] w fun e w' => e = .returned (.bool true) ∧ Below w.heap.size w w' := by
  have hsz := hstd.size
  have HSTD := hid hstd
  clear hstd
  go_enter Tryd.func4, Tryd.ntmps4
  go_wp2_with fail
  refine wp_region_goodw (by kernel_rfl) (by kernel_rfl) ?_
  intro W1 hW1
  have R1_0 : rowAt W1 (w.heap.size) = some (.cells (tabA t) 25 (0, 0)) := by rw [hW1]; rw [rowAt_new _ _ _ (by first | omega | (simp [putRow_size, drewN_heap, drew_heap] <;> omega))]
  have BW1 : Below w.heap.size w W1 := by rw [hW1]; exact ((Below.refl w.heap.size w).alloc (by first | omega | (simp [putRow_size, drewN_heap, drew_heap] <;> omega)) _)
  clear hW1
  have g1_0 := goodRow R1_0
  have cg1_0 := fun x => lt_of_some (g1_0 x)
  iterate 2 (go_big_quiet_step (fail))
  go_big_quiet_step ((go_at_call 13; exact Calls.good (tableMeaning_eq H1.out _)))
  iterate 2 (go_big_quiet_step (fail))
  go_big_quiet_step ((go_at_call 13; exact Calls.good (tableMeaning_eq H2.out _)))
  iterate 2 (go_big_quiet_step (fail))
  refine wpQuiet_nil ?_
  rintro w1 ⟨⟨_, hb1⟩, rfl⟩
  have HB1 := hid (BW1.trans (hb1.mono BW1.size))
  have hs1 : w.heap.size ≤ w1.heap.size := HB1.out.size
  have r1_0 : rowAt w1 (w.heap.size) = some (.cells (tabA t) 25 (0, 0)) := rowNext' hb1 R1_0
  have c1_0 := lt_of_some r1_0
  clear R1_0 g1_0 cg1_0
  go_wp2_with fail
  refine (key_enter t _).mono ?_
  rintro e w2 ⟨rfl, hb2⟩
  have HB2 := hid (below_step HB1.out (by first | omega | (simp [putRow_size, drewN_heap, drew_heap] <;> omega)) hb2)
  have hs2 : w.heap.size ≤ w2.heap.size := HB2.out.size
  have r2_0 : rowAt w2 (w.heap.size) = some (.cells (tabA t) 25 (0, 0)) := rowNext' hb2 r1_0
  have c2_0 := lt_of_some r2_0
  clear r1_0 c1_0 hb1 HB1 hs1
  go_wp2_with fail
  refine (awake8 _ (HSTD.out.below HB2.out hsz)).mono ?_
  rintro e w3 ⟨rfl, hb3⟩
  have HB3 := hid (below_step HB2.out (by first | omega | (simp [putRow_size, drewN_heap, drew_heap] <;> omega)) hb3)
  have hs3 : w.heap.size ≤ w3.heap.size := HB3.out.size
  have r3_0 : rowAt w3 (w.heap.size) = some (.cells (tabA t) 25 (0, 0)) := rowNext' hb3 r2_0
  have c3_0 := lt_of_some r3_0
  clear r2_0 c2_0 hb2 HB2 hs2
  go_wp2_with fail
  go_ret
  exact ⟨rfl, HB3.out⟩

set_option maxHeartbeats 2000000 in
set_option maxRecDepth 100000 in
theorem means_enter2 (t : Tb) (H1 : Hid (meaning t 13 = 31)) (w : World) (hstd : StdLies w) :
    Calls Tryd.prog 4 #[.agg (tabA t), .int .u8 13, .int .u8 13] w fun e w' => e = .returned (.bool true) ∧ Below w.heap.size w w' := by
  have hsz := hstd.size
  have HSTD := hid hstd
  clear hstd
  go_enter Tryd.func4, Tryd.ntmps4
  go_wp2_with fail
  refine wp_region_goodw (by kernel_rfl) (by kernel_rfl) ?_
  intro W1 hW1
  have R1_0 : rowAt W1 (w.heap.size) = some (.cells (tabA t) 25 (0, 0)) := by rw [hW1]; rw [rowAt_new _ _ _ (by first | omega | (simp [putRow_size, drewN_heap, drew_heap] <;> omega))]
  have BW1 : Below w.heap.size w W1 := by rw [hW1]; exact ((Below.refl w.heap.size w).alloc (by first | omega | (simp [putRow_size, drewN_heap, drew_heap] <;> omega)) _)
  clear hW1
  have g1_0 := goodRow R1_0
  have cg1_0 := fun x => lt_of_some (g1_0 x)
  iterate 2 (go_big_quiet_step (fail))
  go_big_quiet_step ((go_at_call 13; exact Calls.good (tableMeaning_eq H1.out _)))
  iterate 2 (go_big_quiet_step (fail))
  go_big_quiet_step ((go_at_call 13; exact Calls.good (tableMeaning_eq H1.out _)))
  iterate 2 (go_big_quiet_step (fail))
  refine wpQuiet_nil ?_
  rintro w1 ⟨⟨_, hb1⟩, rfl⟩
  have HB1 := hid (BW1.trans (hb1.mono BW1.size))
  have hs1 : w.heap.size ≤ w1.heap.size := HB1.out.size
  have r1_0 : rowAt w1 (w.heap.size) = some (.cells (tabA t) 25 (0, 0)) := rowNext' hb1 R1_0
  have c1_0 := lt_of_some r1_0
  clear R1_0 g1_0 cg1_0
  go_wp2_with fail
  refine (key_enter t _).mono ?_
  rintro e w2 ⟨rfl, hb2⟩
  have HB2 := hid (below_step HB1.out (by first | omega | (simp [putRow_size, drewN_heap, drew_heap] <;> omega)) hb2)
  have hs2 : w.heap.size ≤ w2.heap.size := HB2.out.size
  have r2_0 : rowAt w2 (w.heap.size) = some (.cells (tabA t) 25 (0, 0)) := rowNext' hb2 r1_0
  have c2_0 := lt_of_some r2_0
  clear r1_0 c1_0 hb1 HB1 hs1
  go_wp2_with fail
  refine (awake8 _ (HSTD.out.below HB2.out hsz)).mono ?_
  rintro e w3 ⟨rfl, hb3⟩
  have HB3 := hid (below_step HB2.out (by first | omega | (simp [putRow_size, drewN_heap, drew_heap] <;> omega)) hb3)
  have hs3 : w.heap.size ≤ w3.heap.size := HB3.out.size
  have r3_0 : rowAt w3 (w.heap.size) = some (.cells (tabA t) 25 (0, 0)) := rowNext' hb3 r2_0
  have c3_0 := lt_of_some r3_0
  clear r2_0 c2_0 hb2 HB2 hs2
  go_wp2_with fail
  go_ret
  exact ⟨rfl, HB3.out⟩

set_option maxHeartbeats 2000000 in
set_option maxRecDepth 100000 in
theorem means_none (t : Tb) (k1 k2 m2 : Int) (h : (k1 == 13) = false) (H1 : Hid (meaning t k1 = 0)) (H2 : Hid (meaning t k2 = m2)) (w : World) (hstd : StdLies w) :
    Calls Tryd.prog 4 #[.agg (tabA t), .int .u8 k1, .int .u8 k2] w fun e w' => e = .returned (.bool true) ∧ Below w.heap.size w w' := by
  have hsz := hstd.size
  have HSTD := hid hstd
  clear hstd
  go_enter Tryd.func4, Tryd.ntmps4
  go_wp2_with fail
  refine wp_region_goodw (by kernel_rfl) (by kernel_rfl) ?_
  intro W1 hW1
  have R1_0 : rowAt W1 (w.heap.size) = some (.cells (tabA t) 25 (0, 0)) := by rw [hW1]; rw [rowAt_new _ _ _ (by first | omega | (simp [putRow_size, drewN_heap, drew_heap] <;> omega))]
  have BW1 : Below w.heap.size w W1 := by rw [hW1]; exact ((Below.refl w.heap.size w).alloc (by first | omega | (simp [putRow_size, drewN_heap, drew_heap] <;> omega)) _)
  clear hW1
  have g1_0 := goodRow R1_0
  have cg1_0 := fun x => lt_of_some (g1_0 x)
  iterate 2 (go_big_quiet_step (fail))
  go_big_quiet_step ((go_at_call 13; exact Calls.good (tableMeaning_eq H1.out _)))
  iterate 2 (go_big_quiet_step (fail))
  go_big_quiet_step ((go_at_call 13; exact Calls.good (tableMeaning_eq H2.out _)))
  iterate 2 (go_big_quiet_step (fail))
  refine wpQuiet_nil ?_
  rintro w1 ⟨⟨_, hb1⟩, rfl⟩
  have HB1 := hid (BW1.trans (hb1.mono BW1.size))
  have hs1 : w.heap.size ≤ w1.heap.size := HB1.out.size
  have r1_0 : rowAt w1 (w.heap.size) = some (.cells (tabA t) 25 (0, 0)) := rowNext' hb1 R1_0
  have c1_0 := lt_of_some r1_0
  clear R1_0 g1_0 cg1_0
  go_wp2_with fail
  refine (awake8 _ (HSTD.out.below HB1.out hsz)).mono ?_
  rintro e w2 ⟨rfl, hb2⟩
  have HB2 := hid (below_step HB1.out (by first | omega | (simp [putRow_size, drewN_heap, drew_heap] <;> omega)) hb2)
  have hs2 : w.heap.size ≤ w2.heap.size := HB2.out.size
  have r2_0 : rowAt w2 (w.heap.size) = some (.cells (tabA t) 25 (0, 0)) := rowNext' hb2 r1_0
  have c2_0 := lt_of_some r2_0
  clear r1_0 c1_0 hb1 HB1 hs1
  go_wp2_with fail
  go_ret
  exact ⟨rfl, HB2.out⟩

set_option maxHeartbeats 2000000 in
set_option maxRecDepth 100000 in
theorem means_hit (t : Tb) (k1 k2 m2 c1 : Int) (n : Nat) (h1 : 1 ≤ n) (h2 : n < 31) (hc : ¬ c1 = 0) (hk : (k1 == 13) = false) (h : ((n : Int) == m2) = false) (H2 : Hid (meaning t k2 = m2)) (HC : Hid (t n = (c1, k1))) (H1 : Hid (meaning t k1 = n)) (w : World) (hstd : StdLies w) :
    Calls Tryd.prog 4 #[.agg (tabA t), .int .u8 k1, .int .u8 k2] w fun e w' => e = .returned (.bool true) ∧ Below w.heap.size w w' := by
  have hsz := hstd.size
  have HSTD := hid hstd
  clear hstd
  have d1 : decide ((n : Int) < 0) = false := by simp
  have d2 : decide (31 < (n : Int)) = false := by simp; omega
  have d3 : ((n : Int) == 31) = false := by simp; omega
  have d4 : decide (0 < (n : Int)) = true := by simp; omega
  have d4' : decide (0 < n) = true := by simp; omega
  have d5 : decide ((n : Int) < 31) = true := by simp; omega
  have d5' : decide (n < 31) = true := by simp; omega
  have d6 : (c1 == 0) = false := by simpa using hc
  have d7 : ((n : Int) == 0) = false := by simp; omega
  have d7' : (n == 0) = false := by simp; omega
  go_enter Tryd.func4, Tryd.ntmps4
  go_wp2_with fail
  refine wp_region_goodw (by kernel_rfl) (by kernel_rfl) ?_
  intro W1 hW1
  have R1_0 : rowAt W1 (w.heap.size) = some (.cells (tabA t) 25 (0, 0)) := by rw [hW1]; rw [rowAt_new _ _ _ (by first | omega | (simp [putRow_size, drewN_heap, drew_heap] <;> omega))]
  have BW1 : Below w.heap.size w W1 := by rw [hW1]; exact ((Below.refl w.heap.size w).alloc (by first | omega | (simp [putRow_size, drewN_heap, drew_heap] <;> omega)) _)
  clear hW1
  have g1_0 := goodRow R1_0
  have cg1_0 := fun x => lt_of_some (g1_0 x)
  iterate 2 (go_big_quiet_step (fail))
  go_big_quiet_step ((go_at_call 13; exact Calls.good (tableMeaning_eq H1.out _)))
  iterate 2 (go_big_quiet_step (fail))
  go_big_quiet_step ((go_at_call 13; exact Calls.good (tableMeaning_eq H2.out _)))
  iterate 2 (go_big_quiet_step (fail))
  refine wpQuiet_nil ?_
  rintro w1 ⟨⟨_, hb1⟩, rfl⟩
  have HB1 := hid (BW1.trans (hb1.mono BW1.size))
  have hs1 : w.heap.size ≤ w1.heap.size := HB1.out.size
  have r1_0 : rowAt w1 (w.heap.size) = some (.cells (tabA t) 25 (0, 0)) := rowNext' hb1 R1_0
  have c1_0 := lt_of_some r1_0
  clear R1_0 g1_0 cg1_0
  go_wp2_with fail
  refine (key_ok t n h1 h2 c1 k1 hc HC H1 _).mono ?_
  rintro e w2 ⟨rfl, hb2⟩
  have HB2 := hid (below_step HB1.out (by first | omega | (simp [putRow_size, drewN_heap, drew_heap] <;> omega)) hb2)
  have hs2 : w.heap.size ≤ w2.heap.size := HB2.out.size
  have r2_0 : rowAt w2 (w.heap.size) = some (.cells (tabA t) 25 (0, 0)) := rowNext' hb2 r1_0
  have c2_0 := lt_of_some r2_0
  clear r1_0 c1_0 hb1 HB1 hs1
  have q0 : w2.cell? ⟨w.heap.size, n * 2, none⟩ = some (.int .i64 c1) := by rw [cell_of_row _ _ _ _ _ _ r2_0, tabA_cell0 t n h2, HC.out]
  have q1 : w2.cell? ⟨w.heap.size, n * 2 + 1, none⟩ = some (.int .u8 k1) := by rw [cell_of_row _ _ _ _ _ _ r2_0, tabA_cell1 t n h2, HC.out]
  go_wp2_with fail
  refine (awake8 _ (HSTD.out.below HB2.out hsz)).mono ?_
  rintro e w3 ⟨rfl, hb3⟩
  have HB3 := hid (below_step HB2.out (by first | omega | (simp [putRow_size, drewN_heap, drew_heap] <;> omega)) hb3)
  have hs3 : w.heap.size ≤ w3.heap.size := HB3.out.size
  have r3_0 : rowAt w3 (w.heap.size) = some (.cells (tabA t) 25 (0, 0)) := rowNext' hb3 r2_0
  have c3_0 := lt_of_some r3_0
  clear r2_0 c2_0 hb2 HB2 hs2
  go_wp2_with fail
  go_ret
  exact ⟨rfl, HB3.out⟩

set_option maxHeartbeats 2000000 in
set_option maxRecDepth 100000 in
theorem means_same (t : Tb) (k1 c1 : Int) (n : Nat) (h1 : 1 ≤ n) (h2 : n < 31) (hc : ¬ c1 = 0) (hk : (k1 == 13) = false) (HC : Hid (t n = (c1, k1))) (H1 : Hid (meaning t k1 = n)) (w : World) (hstd : StdLies w) :
    Calls Tryd.prog 4 #[.agg (tabA t), .int .u8 k1, .int .u8 k1] w fun e w' => e = .returned (.bool true) ∧ Below w.heap.size w w' := by
  have hsz := hstd.size
  have HSTD := hid hstd
  clear hstd
  have d1 : decide ((n : Int) < 0) = false := by simp
  have d2 : decide (31 < (n : Int)) = false := by simp; omega
  have d3 : ((n : Int) == 31) = false := by simp; omega
  have d4 : decide (0 < (n : Int)) = true := by simp; omega
  have d4' : decide (0 < n) = true := by simp; omega
  have d5 : decide ((n : Int) < 31) = true := by simp; omega
  have d5' : decide (n < 31) = true := by simp; omega
  have d6 : (c1 == 0) = false := by simpa using hc
  have d7 : ((n : Int) == 0) = false := by simp; omega
  have d7' : (n == 0) = false := by simp; omega
  go_enter Tryd.func4, Tryd.ntmps4
  go_wp2_with fail
  refine wp_region_goodw (by kernel_rfl) (by kernel_rfl) ?_
  intro W1 hW1
  have R1_0 : rowAt W1 (w.heap.size) = some (.cells (tabA t) 25 (0, 0)) := by rw [hW1]; rw [rowAt_new _ _ _ (by first | omega | (simp [putRow_size, drewN_heap, drew_heap] <;> omega))]
  have BW1 : Below w.heap.size w W1 := by rw [hW1]; exact ((Below.refl w.heap.size w).alloc (by first | omega | (simp [putRow_size, drewN_heap, drew_heap] <;> omega)) _)
  clear hW1
  have g1_0 := goodRow R1_0
  have cg1_0 := fun x => lt_of_some (g1_0 x)
  iterate 2 (go_big_quiet_step (fail))
  go_big_quiet_step ((go_at_call 13; exact Calls.good (tableMeaning_eq H1.out _)))
  iterate 2 (go_big_quiet_step (fail))
  go_big_quiet_step ((go_at_call 13; exact Calls.good (tableMeaning_eq H1.out _)))
  iterate 2 (go_big_quiet_step (fail))
  refine wpQuiet_nil ?_
  rintro w1 ⟨⟨_, hb1⟩, rfl⟩
  have HB1 := hid (BW1.trans (hb1.mono BW1.size))
  have hs1 : w.heap.size ≤ w1.heap.size := HB1.out.size
  have r1_0 : rowAt w1 (w.heap.size) = some (.cells (tabA t) 25 (0, 0)) := rowNext' hb1 R1_0
  have c1_0 := lt_of_some r1_0
  clear R1_0 g1_0 cg1_0
  go_wp2_with fail
  refine (key_ok t n h1 h2 c1 k1 hc HC H1 _).mono ?_
  rintro e w2 ⟨rfl, hb2⟩
  have HB2 := hid (below_step HB1.out (by first | omega | (simp [putRow_size, drewN_heap, drew_heap] <;> omega)) hb2)
  have hs2 : w.heap.size ≤ w2.heap.size := HB2.out.size
  have r2_0 : rowAt w2 (w.heap.size) = some (.cells (tabA t) 25 (0, 0)) := rowNext' hb2 r1_0
  have c2_0 := lt_of_some r2_0
  clear r1_0 c1_0 hb1 HB1 hs1
  have q0 : w2.cell? ⟨w.heap.size, n * 2, none⟩ = some (.int .i64 c1) := by rw [cell_of_row _ _ _ _ _ _ r2_0, tabA_cell0 t n h2, HC.out]
  have q1 : w2.cell? ⟨w.heap.size, n * 2 + 1, none⟩ = some (.int .u8 k1) := by rw [cell_of_row _ _ _ _ _ _ r2_0, tabA_cell1 t n h2, HC.out]
  go_wp2_with fail
  refine (awake8 _ (HSTD.out.below HB2.out hsz)).mono ?_
  rintro e w3 ⟨rfl, hb3⟩
  have HB3 := hid (below_step HB2.out (by first | omega | (simp [putRow_size, drewN_heap, drew_heap] <;> omega)) hb3)
  have hs3 : w.heap.size ≤ w3.heap.size := HB3.out.size
  have r3_0 : rowAt w3 (w.heap.size) = some (.cells (tabA t) 25 (0, 0)) := rowNext' hb3 r2_0
  have c3_0 := lt_of_some r3_0
  clear r2_0 c2_0 hb2 HB2 hs2
  go_wp2_with fail
  go_ret
  exact ⟨rfl, HB3.out⟩

end Go.Proofs.YtjghmgpmaallfaaDoor
