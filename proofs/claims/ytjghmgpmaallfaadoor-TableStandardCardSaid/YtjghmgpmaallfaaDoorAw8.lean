/-
  linnetlaw08.awake.
-/
import Derived.Test.YtjghmgpmaallfaaDoorKey
import Derived.Test.YtjghmgpmaallfaaDoorStd
import Derived.Test.YtjghmgpmaallfaaDoorEqt
import Derived.Deep.QuietTactic
import Derived.BigQuiet
import Derived.Deep.RegionWith
namespace Go.Proofs.YtjghmgpmaallfaaDoor
open Go.RowKit
set_option linter.unusedVariables false
set_option linter.unusedSimpArgs false

def aw1 : Tb := upd std 11 (2, 127)
def aw2 : Tb := upd aw1 10 (0, 0)
theorem with_aw1 (w : World) : Calls Tryd.prog 17 #[.agg (tabA std), .int .i64 11, .agg #[.int .i64 2, .int .u8 127]] w fun e w' => e = .returned (.tuple #[.agg (tabA aw1), .int .i64 0]) ∧ Below w.heap.size w w' :=
  with_ok std 11 (by omega) (by omega) 2 127 (hid (by decide +kernel)) w
theorem with_aw2 (w : World) : Calls Tryd.prog 17 #[.agg (tabA aw1), .int .i64 10, .agg #[.int .i64 0, .int .u8 0]] w fun e w' => e = .returned (.tuple #[.agg (tabA aw2), .int .i64 0]) ∧ Below w.heap.size w w' :=
  with_ok aw1 10 (by omega) (by omega) 0 0 (hid (by decide +kernel)) w
theorem key_aw (w : World) : Calls Tryd.prog 9 #[.agg (tabA std), .int .i64 10] w fun e w' => e = .returned (.tuple #[.int .u8 127, .bool true]) ∧ Below w.heap.size w w' :=
  key_ok std 10 (by omega) (by omega) 2 127 (by omega) (hid (by decide +kernel)) (hid (by decide +kernel)) w
set_option maxHeartbeats 2000000 in
set_option maxRecDepth 100000 in
theorem awake8  (w : World) (hstd : StdLies w) :
    Calls Tryd.prog 18 #[] w fun e w' => e = .returned (.bool true) ∧ Below w.heap.size w w' := by
  go_enter Tryd.func18, Tryd.ntmps18
  go_wp2_with fail
  refine (tableStandard _ hstd).mono ?_
  rintro e w1 ⟨rfl, hb1⟩
  have HB1 := hid (below_step (Below.refl w.heap.size w) (by first | omega | (simp [putRow_size, drewN_heap, drew_heap] <;> omega)) hb1)
  have hs1 : w.heap.size ≤ w1.heap.size := HB1.out.size
  go_wp2_with fail
  refine (with_aw1 _).mono ?_
  rintro e w2 ⟨rfl, hb2⟩
  have HB2 := hid (below_step (HB1.out.alloc (by first | omega | (simp [putRow_size, drewN_heap, drew_heap] <;> omega)) _) (by first | omega | (simp [putRow_size, drewN_heap, drew_heap] <;> omega)) hb2)
  have hs2 : w.heap.size ≤ w2.heap.size := HB2.out.size
  have r2_0 : rowAt w2 (w1.heap.size) = some (.cells (tabA std) 25 (0, 0)) := rowNext' hb2 (by rw [rowAt_new _ _ _ (by first | omega | (simp [putRow_size, drewN_heap, drew_heap] <;> omega))])
  have c2_0 := lt_of_some r2_0
  clear hb1 HB1 hs1
  go_wp2_with fail
  refine (with_aw2 _).mono ?_
  rintro e w3 ⟨rfl, hb3⟩
  have HB3 := hid (below_step (HB2.out.alloc (by first | omega | (simp [putRow_size, drewN_heap, drew_heap] <;> omega)) _) (by first | omega | (simp [putRow_size, drewN_heap, drew_heap] <;> omega)) hb3)
  have hs3 : w.heap.size ≤ w3.heap.size := HB3.out.size
  have r3_0 : rowAt w3 (w1.heap.size) = some (.cells (tabA std) 25 (0, 0)) := rowNext' hb3 (by rw [rowAt_old _ _ _ (by first | omega | (simp [putRow_size, drewN_heap, drew_heap] <;> omega))]; exact r2_0)
  have c3_0 := lt_of_some r3_0
  have r3_1 : rowAt w3 (w2.heap.size) = some (.cells (tabA aw1) 25 (0, 0)) := rowNext' hb3 (by rw [rowAt_new _ _ _ (by first | omega | (simp [putRow_size, drewN_heap, drew_heap] <;> omega))])
  have c3_1 := lt_of_some r3_1
  clear r2_0 c2_0 hb2 HB2 hs2
  go_wp2_with fail
  refine (key_aw _).mono ?_
  rintro e w4 ⟨rfl, hb4⟩
  have HB4 := hid (below_step (HB3.out.alloc (by first | omega | (simp [putRow_size, drewN_heap, drew_heap] <;> omega)) _) (by first | omega | (simp [putRow_size, drewN_heap, drew_heap] <;> omega)) hb4)
  have hs4 : w.heap.size ≤ w4.heap.size := HB4.out.size
  have r4_0 : rowAt w4 (w1.heap.size) = some (.cells (tabA std) 25 (0, 0)) := rowNext' hb4 (by rw [rowAt_old _ _ _ (by first | omega | (simp [putRow_size, drewN_heap, drew_heap] <;> omega))]; exact r3_0)
  have c4_0 := lt_of_some r4_0
  have r4_1 : rowAt w4 (w2.heap.size) = some (.cells (tabA aw1) 25 (0, 0)) := rowNext' hb4 (by rw [rowAt_old _ _ _ (by first | omega | (simp [putRow_size, drewN_heap, drew_heap] <;> omega))]; exact r3_1)
  have c4_1 := lt_of_some r4_1
  have r4_2 : rowAt w4 (w3.heap.size) = some (.cells (tabA aw2) 25 (0, 0)) := rowNext' hb4 (by rw [rowAt_new _ _ _ (by first | omega | (simp [putRow_size, drewN_heap, drew_heap] <;> omega))])
  have c4_2 := lt_of_some r4_2
  clear r3_0 c3_0 r3_1 c3_1 hb3 HB3 hs3
  go_wp2_with fail
  refine (tableMeaning_eq (show meaning (std) 3 = 3 from by decide +kernel) _).mono ?_
  rintro e w5 ⟨rfl, hb5⟩
  have HB5 := hid (below_step HB4.out (by first | omega | (simp [putRow_size, drewN_heap, drew_heap] <;> omega)) hb5)
  have hs5 : w.heap.size ≤ w5.heap.size := HB5.out.size
  have r5_0 : rowAt w5 (w1.heap.size) = some (.cells (tabA std) 25 (0, 0)) := rowNext' hb5 r4_0
  have c5_0 := lt_of_some r5_0
  have r5_1 : rowAt w5 (w2.heap.size) = some (.cells (tabA aw1) 25 (0, 0)) := rowNext' hb5 r4_1
  have c5_1 := lt_of_some r5_1
  have r5_2 : rowAt w5 (w3.heap.size) = some (.cells (tabA aw2) 25 (0, 0)) := rowNext' hb5 r4_2
  have c5_2 := lt_of_some r5_2
  clear r4_0 c4_0 r4_1 c4_1 r4_2 c4_2 hb4 HB4 hs4
  go_wp2_with fail
  refine (tableMeaning_eq (show meaning (std) 127 = 10 from by decide +kernel) _).mono ?_
  rintro e w6 ⟨rfl, hb6⟩
  have HB6 := hid (below_step HB5.out (by first | omega | (simp [putRow_size, drewN_heap, drew_heap] <;> omega)) hb6)
  have hs6 : w.heap.size ≤ w6.heap.size := HB6.out.size
  have r6_0 : rowAt w6 (w1.heap.size) = some (.cells (tabA std) 25 (0, 0)) := rowNext' hb6 r5_0
  have c6_0 := lt_of_some r6_0
  have r6_1 : rowAt w6 (w2.heap.size) = some (.cells (tabA aw1) 25 (0, 0)) := rowNext' hb6 r5_1
  have c6_1 := lt_of_some r6_1
  have r6_2 : rowAt w6 (w3.heap.size) = some (.cells (tabA aw2) 25 (0, 0)) := rowNext' hb6 r5_2
  have c6_2 := lt_of_some r6_2
  clear r5_0 c5_0 r5_1 c5_1 r5_2 c5_2 hb5 HB5 hs5
  go_wp2_with fail
  refine (tableMeaning_eq (show meaning (std) 13 = 31 from by decide +kernel) _).mono ?_
  rintro e w7 ⟨rfl, hb7⟩
  have HB7 := hid (below_step HB6.out (by first | omega | (simp [putRow_size, drewN_heap, drew_heap] <;> omega)) hb7)
  have hs7 : w.heap.size ≤ w7.heap.size := HB7.out.size
  have r7_0 : rowAt w7 (w1.heap.size) = some (.cells (tabA std) 25 (0, 0)) := rowNext' hb7 r6_0
  have c7_0 := lt_of_some r7_0
  have r7_1 : rowAt w7 (w2.heap.size) = some (.cells (tabA aw1) 25 (0, 0)) := rowNext' hb7 r6_1
  have c7_1 := lt_of_some r7_1
  have r7_2 : rowAt w7 (w3.heap.size) = some (.cells (tabA aw2) 25 (0, 0)) := rowNext' hb7 r6_2
  have c7_2 := lt_of_some r7_2
  clear r6_0 c6_0 r6_1 c6_1 r6_2 c6_2 hb6 HB6 hs6
  go_wp2_with fail
  refine (tableMeaning_eq (show meaning (std) 97 = 0 from by decide +kernel) _).mono ?_
  rintro e w8 ⟨rfl, hb8⟩
  have HB8 := hid (below_step HB7.out (by first | omega | (simp [putRow_size, drewN_heap, drew_heap] <;> omega)) hb8)
  have hs8 : w.heap.size ≤ w8.heap.size := HB8.out.size
  have r8_0 : rowAt w8 (w1.heap.size) = some (.cells (tabA std) 25 (0, 0)) := rowNext' hb8 r7_0
  have c8_0 := lt_of_some r8_0
  have r8_1 : rowAt w8 (w2.heap.size) = some (.cells (tabA aw1) 25 (0, 0)) := rowNext' hb8 r7_1
  have c8_1 := lt_of_some r8_1
  have r8_2 : rowAt w8 (w3.heap.size) = some (.cells (tabA aw2) 25 (0, 0)) := rowNext' hb8 r7_2
  have c8_2 := lt_of_some r8_2
  clear r7_0 c7_0 r7_1 c7_1 r7_2 c7_2 hb7 HB7 hs7
  go_wp2_with fail
  refine (tableMeaning_eq (show meaning (aw1) 127 = 10 from by decide +kernel) _).mono ?_
  rintro e w9 ⟨rfl, hb9⟩
  have HB9 := hid (below_step HB8.out (by first | omega | (simp [putRow_size, drewN_heap, drew_heap] <;> omega)) hb9)
  have hs9 : w.heap.size ≤ w9.heap.size := HB9.out.size
  have r9_0 : rowAt w9 (w1.heap.size) = some (.cells (tabA std) 25 (0, 0)) := rowNext' hb9 r8_0
  have c9_0 := lt_of_some r9_0
  have r9_1 : rowAt w9 (w2.heap.size) = some (.cells (tabA aw1) 25 (0, 0)) := rowNext' hb9 r8_1
  have c9_1 := lt_of_some r9_1
  have r9_2 : rowAt w9 (w3.heap.size) = some (.cells (tabA aw2) 25 (0, 0)) := rowNext' hb9 r8_2
  have c9_2 := lt_of_some r9_2
  clear r8_0 c8_0 r8_1 c8_1 r8_2 c8_2 hb8 HB8 hs8
  go_wp2_with fail
  refine (tableMeaning_eq (show meaning (aw2) 127 = 11 from by decide +kernel) _).mono ?_
  rintro e w10 ⟨rfl, hb10⟩
  have HB10 := hid (below_step HB9.out (by first | omega | (simp [putRow_size, drewN_heap, drew_heap] <;> omega)) hb10)
  have hs10 : w.heap.size ≤ w10.heap.size := HB10.out.size
  have r10_0 : rowAt w10 (w1.heap.size) = some (.cells (tabA std) 25 (0, 0)) := rowNext' hb10 r9_0
  have c10_0 := lt_of_some r10_0
  have r10_1 : rowAt w10 (w2.heap.size) = some (.cells (tabA aw1) 25 (0, 0)) := rowNext' hb10 r9_1
  have c10_1 := lt_of_some r10_1
  have r10_2 : rowAt w10 (w3.heap.size) = some (.cells (tabA aw2) 25 (0, 0)) := rowNext' hb10 r9_2
  have c10_2 := lt_of_some r10_2
  clear r9_0 c9_0 r9_1 c9_1 r9_2 c9_2 hb9 HB9 hs9
  go_wp2_with fail
  go_ret
  exact ⟨rfl, HB10.out⟩

end Go.Proofs.YtjghmgpmaallfaaDoor
