/-
  The walk of TableOrder.
-/
import Derived.Test.YtjghmgpmaallfaaDoorOrd0
import Derived.Deep.QuietTactic
import Derived.BigQuiet
import Derived.Deep.RegionWith
namespace Go.Proofs.YtjghmgpmaallfaaDoor
open Go.RowKit
set_option linter.unusedVariables false
set_option linter.unusedSimpArgs false

set_option maxHeartbeats 2000000 in
set_option maxRecDepth 100000 in
theorem order_no (t : Tb) (f c1 c2 g d1 d2 : Int) (HT : Hid (tabErr t = 1)) (w : World) (hstd : StdLies w) :
    Calls Tryd.prog 8 #[.agg (tabA t), .agg #[.int .i64 f, .int .i64 c1, .int .u8 c2], .agg #[.int .i64 g, .int .i64 d1, .int .u8 d2]] w fun e w' => e = .returned (.bool true) ∧ Below w.heap.size w w' := by
  have hsz := hstd.size
  have HSTD := hid hstd
  clear hstd
  go_enter Tryd.func8, Tryd.ntmps8
  go_wp2_with fail
  refine (tableCheck_eq HT.out _).mono ?_
  rintro e w1 ⟨rfl, hb1⟩
  have HB1 := hid (below_step ((((Below.refl w.heap.size w).alloc (by first | omega | (simp [putRow_size, drewN_heap, drew_heap] <;> omega)) _).alloc (by first | omega | (simp [putRow_size, drewN_heap, drew_heap] <;> omega)) _).alloc (by first | omega | (simp [putRow_size, drewN_heap, drew_heap] <;> omega)) _) (by first | omega | (simp [putRow_size, drewN_heap, drew_heap] <;> omega)) hb1)
  have hs1 : w.heap.size ≤ w1.heap.size := HB1.out.size
  have r1_0 : rowAt w1 (w.heap.size) = some (.cells (tabA t) 25 (0, 0)) := rowNext' hb1 (by rw [rowAt_old _ _ _ (by first | omega | (simp [putRow_size, drewN_heap, drew_heap] <;> omega)), rowAt_old _ _ _ (by first | omega | (simp [putRow_size, drewN_heap, drew_heap] <;> omega)), rowAt_new _ _ _ (by first | omega | (simp [putRow_size, drewN_heap, drew_heap] <;> omega))])
  have c1_0 := lt_of_some r1_0
  have r1_1 : rowAt w1 (w.heap.size + 1) = some (.cells #[.int .i64 f, .int .i64 c1, .int .u8 c2] 27 (0, 0)) := rowNext' hb1 (by rw [rowAt_old _ _ _ (by first | omega | (simp [putRow_size, drewN_heap, drew_heap] <;> omega)), rowAt_new _ _ _ (by first | omega | (simp [putRow_size, drewN_heap, drew_heap] <;> omega))])
  have c1_1 := cells3 r1_1
  have r1_2 : rowAt w1 (w.heap.size + 1 + 1) = some (.cells #[.int .i64 g, .int .i64 d1, .int .u8 d2] 27 (0, 0)) := rowNext' hb1 (by rw [rowAt_new _ _ _ (by first | omega | (simp [putRow_size, drewN_heap, drew_heap] <;> omega))])
  have c1_2 := cells3 r1_2
  go_wp2_with fail
  refine (awake8 _ (HSTD.out.below HB1.out hsz)).mono ?_
  rintro e w2 ⟨rfl, hb2⟩
  have HB2 := hid (below_step HB1.out (by first | omega | (simp [putRow_size, drewN_heap, drew_heap] <;> omega)) hb2)
  have hs2 : w.heap.size ≤ w2.heap.size := HB2.out.size
  have r2_0 : rowAt w2 (w.heap.size) = some (.cells (tabA t) 25 (0, 0)) := rowNext' hb2 r1_0
  have c2_0 := lt_of_some r2_0
  have r2_1 : rowAt w2 (w.heap.size + 1) = some (.cells #[.int .i64 f, .int .i64 c1, .int .u8 c2] 27 (0, 0)) := rowNext' hb2 r1_1
  have c2_1 := cells3 r2_1
  have r2_2 : rowAt w2 (w.heap.size + 1 + 1) = some (.cells #[.int .i64 g, .int .i64 d1, .int .u8 d2] 27 (0, 0)) := rowNext' hb2 r1_2
  have c2_2 := cells3 r2_2
  clear r1_0 c1_0 r1_1 c1_1 r1_2 c1_2 hb1 HB1 hs1
  go_wp2_with fail
  go_ret
  exact ⟨rfl, HB2.out⟩

set_option maxHeartbeats 2000000 in
set_option maxRecDepth 100000 in
theorem order_same (t : Tb) (f c1 c2 d1 d2 : Int) (HT : Hid (tabErr t = 0)) (w : World) (hstd : StdLies w) :
    Calls Tryd.prog 8 #[.agg (tabA t), .agg #[.int .i64 f, .int .i64 c1, .int .u8 c2], .agg #[.int .i64 f, .int .i64 d1, .int .u8 d2]] w fun e w' => e = .returned (.bool true) ∧ Below w.heap.size w w' := by
  have hsz := hstd.size
  have HSTD := hid hstd
  clear hstd
  go_enter Tryd.func8, Tryd.ntmps8
  go_wp2_with fail
  refine (tableCheck_eq HT.out _).mono ?_
  rintro e w1 ⟨rfl, hb1⟩
  have HB1 := hid (below_step ((((Below.refl w.heap.size w).alloc (by first | omega | (simp [putRow_size, drewN_heap, drew_heap] <;> omega)) _).alloc (by first | omega | (simp [putRow_size, drewN_heap, drew_heap] <;> omega)) _).alloc (by first | omega | (simp [putRow_size, drewN_heap, drew_heap] <;> omega)) _) (by first | omega | (simp [putRow_size, drewN_heap, drew_heap] <;> omega)) hb1)
  have hs1 : w.heap.size ≤ w1.heap.size := HB1.out.size
  have r1_0 : rowAt w1 (w.heap.size) = some (.cells (tabA t) 25 (0, 0)) := rowNext' hb1 (by rw [rowAt_old _ _ _ (by first | omega | (simp [putRow_size, drewN_heap, drew_heap] <;> omega)), rowAt_old _ _ _ (by first | omega | (simp [putRow_size, drewN_heap, drew_heap] <;> omega)), rowAt_new _ _ _ (by first | omega | (simp [putRow_size, drewN_heap, drew_heap] <;> omega))])
  have c1_0 := lt_of_some r1_0
  have r1_1 : rowAt w1 (w.heap.size + 1) = some (.cells #[.int .i64 f, .int .i64 c1, .int .u8 c2] 27 (0, 0)) := rowNext' hb1 (by rw [rowAt_old _ _ _ (by first | omega | (simp [putRow_size, drewN_heap, drew_heap] <;> omega)), rowAt_new _ _ _ (by first | omega | (simp [putRow_size, drewN_heap, drew_heap] <;> omega))])
  have c1_1 := cells3 r1_1
  have r1_2 : rowAt w1 (w.heap.size + 1 + 1) = some (.cells #[.int .i64 f, .int .i64 d1, .int .u8 d2] 27 (0, 0)) := rowNext' hb1 (by rw [rowAt_new _ _ _ (by first | omega | (simp [putRow_size, drewN_heap, drew_heap] <;> omega))])
  have c1_2 := cells3 r1_2
  go_wp2_with fail
  refine (awake8 _ (HSTD.out.below HB1.out hsz)).mono ?_
  rintro e w2 ⟨rfl, hb2⟩
  have HB2 := hid (below_step HB1.out (by first | omega | (simp [putRow_size, drewN_heap, drew_heap] <;> omega)) hb2)
  have hs2 : w.heap.size ≤ w2.heap.size := HB2.out.size
  have r2_0 : rowAt w2 (w.heap.size) = some (.cells (tabA t) 25 (0, 0)) := rowNext' hb2 r1_0
  have c2_0 := lt_of_some r2_0
  have r2_1 : rowAt w2 (w.heap.size + 1) = some (.cells #[.int .i64 f, .int .i64 c1, .int .u8 c2] 27 (0, 0)) := rowNext' hb2 r1_1
  have c2_1 := cells3 r2_1
  have r2_2 : rowAt w2 (w.heap.size + 1 + 1) = some (.cells #[.int .i64 f, .int .i64 d1, .int .u8 d2] 27 (0, 0)) := rowNext' hb2 r1_2
  have c2_2 := cells3 r2_2
  clear r1_0 c1_0 r1_1 c1_1 r1_2 c1_2 hb1 HB1 hs1
  go_wp2_with fail
  go_ret
  exact ⟨rfl, HB2.out⟩

set_option maxHeartbeats 2000000 in
set_option maxRecDepth 100000 in
theorem order_ok (t a b c : Tb) (f c1 c2 g d1 d2 ea eb : Int) (HT : Hid (tabErr t = 0)) (hfg : (f == g) = false) (H1 : Hid (withT t f c1 c2 = (a, ea))) (H2 : Hid (withT a g d1 d2 = (b, eb))) (H3 : Hid (withT t g d1 d2 = (c, eb))) (H4 : Hid (withT c f c1 c2 = (b, ea))) (w : World) (hstd : StdLies w) :
    Calls Tryd.prog 8 #[.agg (tabA t), .agg #[.int .i64 f, .int .i64 c1, .int .u8 c2], .agg #[.int .i64 g, .int .i64 d1, .int .u8 d2]] w fun e w' => e = .returned (.bool true) ∧ Below w.heap.size w w' := by
  have hsz := hstd.size
  have HSTD := hid hstd
  clear hstd
  go_enter Tryd.func8, Tryd.ntmps8
  go_wp2_with fail
  refine (tableCheck_eq HT.out _).mono ?_
  rintro e w1 ⟨rfl, hb1⟩
  have HB1 := hid (below_step ((((Below.refl w.heap.size w).alloc (by first | omega | (simp [putRow_size, drewN_heap, drew_heap] <;> omega)) _).alloc (by first | omega | (simp [putRow_size, drewN_heap, drew_heap] <;> omega)) _).alloc (by first | omega | (simp [putRow_size, drewN_heap, drew_heap] <;> omega)) _) (by first | omega | (simp [putRow_size, drewN_heap, drew_heap] <;> omega)) hb1)
  have hs1 : w.heap.size ≤ w1.heap.size := HB1.out.size
  have r1_0 : rowAt w1 (w.heap.size) = some (.cells (tabA t) 25 (0, 0)) := rowNext' hb1 (by rw [rowAt_old _ _ _ (by first | omega | (simp [putRow_size, drewN_heap, drew_heap] <;> omega)), rowAt_old _ _ _ (by first | omega | (simp [putRow_size, drewN_heap, drew_heap] <;> omega)), rowAt_new _ _ _ (by first | omega | (simp [putRow_size, drewN_heap, drew_heap] <;> omega))])
  have c1_0 := lt_of_some r1_0
  have r1_1 : rowAt w1 (w.heap.size + 1) = some (.cells #[.int .i64 f, .int .i64 c1, .int .u8 c2] 27 (0, 0)) := rowNext' hb1 (by rw [rowAt_old _ _ _ (by first | omega | (simp [putRow_size, drewN_heap, drew_heap] <;> omega)), rowAt_new _ _ _ (by first | omega | (simp [putRow_size, drewN_heap, drew_heap] <;> omega))])
  have c1_1 := cells3 r1_1
  have r1_2 : rowAt w1 (w.heap.size + 1 + 1) = some (.cells #[.int .i64 g, .int .i64 d1, .int .u8 d2] 27 (0, 0)) := rowNext' hb1 (by rw [rowAt_new _ _ _ (by first | omega | (simp [putRow_size, drewN_heap, drew_heap] <;> omega))])
  have c1_2 := cells3 r1_2
  go_wp2_with fail
  refine (with_eq H1.out _).mono ?_
  rintro e w2 ⟨rfl, hb2⟩
  have HB2 := hid (below_step HB1.out (by first | omega | (simp [putRow_size, drewN_heap, drew_heap] <;> omega)) hb2)
  have hs2 : w.heap.size ≤ w2.heap.size := HB2.out.size
  have r2_0 : rowAt w2 (w.heap.size) = some (.cells (tabA t) 25 (0, 0)) := rowNext' hb2 r1_0
  have c2_0 := lt_of_some r2_0
  have r2_1 : rowAt w2 (w.heap.size + 1) = some (.cells #[.int .i64 f, .int .i64 c1, .int .u8 c2] 27 (0, 0)) := rowNext' hb2 r1_1
  have c2_1 := cells3 r2_1
  have r2_2 : rowAt w2 (w.heap.size + 1 + 1) = some (.cells #[.int .i64 g, .int .i64 d1, .int .u8 d2] 27 (0, 0)) := rowNext' hb2 r1_2
  have c2_2 := cells3 r2_2
  clear r1_0 c1_0 r1_1 c1_1 r1_2 c1_2 hb1 HB1 hs1
  go_wp2_with fail
  refine (with_eq H2.out _).mono ?_
  rintro e w3 ⟨rfl, hb3⟩
  have HB3 := hid (below_step (HB2.out.alloc (by first | omega | (simp [putRow_size, drewN_heap, drew_heap] <;> omega)) _) (by first | omega | (simp [putRow_size, drewN_heap, drew_heap] <;> omega)) hb3)
  have hs3 : w.heap.size ≤ w3.heap.size := HB3.out.size
  have r3_0 : rowAt w3 (w.heap.size) = some (.cells (tabA t) 25 (0, 0)) := rowNext' hb3 (by rw [rowAt_old _ _ _ (by first | omega | (simp [putRow_size, drewN_heap, drew_heap] <;> omega))]; exact r2_0)
  have c3_0 := lt_of_some r3_0
  have r3_1 : rowAt w3 (w.heap.size + 1) = some (.cells #[.int .i64 f, .int .i64 c1, .int .u8 c2] 27 (0, 0)) := rowNext' hb3 (by rw [rowAt_old _ _ _ (by first | omega | (simp [putRow_size, drewN_heap, drew_heap] <;> omega))]; exact r2_1)
  have c3_1 := cells3 r3_1
  have r3_2 : rowAt w3 (w.heap.size + 1 + 1) = some (.cells #[.int .i64 g, .int .i64 d1, .int .u8 d2] 27 (0, 0)) := rowNext' hb3 (by rw [rowAt_old _ _ _ (by first | omega | (simp [putRow_size, drewN_heap, drew_heap] <;> omega))]; exact r2_2)
  have c3_2 := cells3 r3_2
  have r3_3 : rowAt w3 (w2.heap.size) = some (.cells (tabA a) 25 (0, 0)) := rowNext' hb3 (by rw [rowAt_new _ _ _ (by first | omega | (simp [putRow_size, drewN_heap, drew_heap] <;> omega))])
  have c3_3 := lt_of_some r3_3
  clear r2_0 c2_0 r2_1 c2_1 r2_2 c2_2 hb2 HB2 hs2
  go_wp2_with fail
  refine (with_eq H3.out _).mono ?_
  rintro e w4 ⟨rfl, hb4⟩
  have HB4 := hid (below_step (HB3.out.alloc (by first | omega | (simp [putRow_size, drewN_heap, drew_heap] <;> omega)) _) (by first | omega | (simp [putRow_size, drewN_heap, drew_heap] <;> omega)) hb4)
  have hs4 : w.heap.size ≤ w4.heap.size := HB4.out.size
  have r4_0 : rowAt w4 (w.heap.size) = some (.cells (tabA t) 25 (0, 0)) := rowNext' hb4 (by rw [rowAt_old _ _ _ (by first | omega | (simp [putRow_size, drewN_heap, drew_heap] <;> omega))]; exact r3_0)
  have c4_0 := lt_of_some r4_0
  have r4_1 : rowAt w4 (w.heap.size + 1) = some (.cells #[.int .i64 f, .int .i64 c1, .int .u8 c2] 27 (0, 0)) := rowNext' hb4 (by rw [rowAt_old _ _ _ (by first | omega | (simp [putRow_size, drewN_heap, drew_heap] <;> omega))]; exact r3_1)
  have c4_1 := cells3 r4_1
  have r4_2 : rowAt w4 (w.heap.size + 1 + 1) = some (.cells #[.int .i64 g, .int .i64 d1, .int .u8 d2] 27 (0, 0)) := rowNext' hb4 (by rw [rowAt_old _ _ _ (by first | omega | (simp [putRow_size, drewN_heap, drew_heap] <;> omega))]; exact r3_2)
  have c4_2 := cells3 r4_2
  have r4_3 : rowAt w4 (w2.heap.size) = some (.cells (tabA a) 25 (0, 0)) := rowNext' hb4 (by rw [rowAt_old _ _ _ (by first | omega | (simp [putRow_size, drewN_heap, drew_heap] <;> omega))]; exact r3_3)
  have c4_3 := lt_of_some r4_3
  have r4_4 : rowAt w4 (w3.heap.size) = some (.cells (tabA b) 25 (0, 0)) := rowNext' hb4 (by rw [rowAt_new _ _ _ (by first | omega | (simp [putRow_size, drewN_heap, drew_heap] <;> omega))])
  have c4_4 := lt_of_some r4_4
  clear r3_0 c3_0 r3_1 c3_1 r3_2 c3_2 r3_3 c3_3 hb3 HB3 hs3
  go_wp2_with fail
  refine (with_eq H4.out _).mono ?_
  rintro e w5 ⟨rfl, hb5⟩
  have HB5 := hid (below_step (HB4.out.alloc (by first | omega | (simp [putRow_size, drewN_heap, drew_heap] <;> omega)) _) (by first | omega | (simp [putRow_size, drewN_heap, drew_heap] <;> omega)) hb5)
  have hs5 : w.heap.size ≤ w5.heap.size := HB5.out.size
  have r5_0 : rowAt w5 (w.heap.size) = some (.cells (tabA t) 25 (0, 0)) := rowNext' hb5 (by rw [rowAt_old _ _ _ (by first | omega | (simp [putRow_size, drewN_heap, drew_heap] <;> omega))]; exact r4_0)
  have c5_0 := lt_of_some r5_0
  have r5_1 : rowAt w5 (w.heap.size + 1) = some (.cells #[.int .i64 f, .int .i64 c1, .int .u8 c2] 27 (0, 0)) := rowNext' hb5 (by rw [rowAt_old _ _ _ (by first | omega | (simp [putRow_size, drewN_heap, drew_heap] <;> omega))]; exact r4_1)
  have c5_1 := cells3 r5_1
  have r5_2 : rowAt w5 (w.heap.size + 1 + 1) = some (.cells #[.int .i64 g, .int .i64 d1, .int .u8 d2] 27 (0, 0)) := rowNext' hb5 (by rw [rowAt_old _ _ _ (by first | omega | (simp [putRow_size, drewN_heap, drew_heap] <;> omega))]; exact r4_2)
  have c5_2 := cells3 r5_2
  have r5_3 : rowAt w5 (w2.heap.size) = some (.cells (tabA a) 25 (0, 0)) := rowNext' hb5 (by rw [rowAt_old _ _ _ (by first | omega | (simp [putRow_size, drewN_heap, drew_heap] <;> omega))]; exact r4_3)
  have c5_3 := lt_of_some r5_3
  have r5_4 : rowAt w5 (w3.heap.size) = some (.cells (tabA b) 25 (0, 0)) := rowNext' hb5 (by rw [rowAt_old _ _ _ (by first | omega | (simp [putRow_size, drewN_heap, drew_heap] <;> omega))]; exact r4_4)
  have c5_4 := lt_of_some r5_4
  have r5_5 : rowAt w5 (w4.heap.size) = some (.cells (tabA c) 25 (0, 0)) := rowNext' hb5 (by rw [rowAt_new _ _ _ (by first | omega | (simp [putRow_size, drewN_heap, drew_heap] <;> omega))])
  have c5_5 := lt_of_some r5_5
  clear r4_0 c4_0 r4_1 c4_1 r4_2 c4_2 r4_3 c4_3 r4_4 c4_4 hb4 HB4 hs4
  go_wp2_with fail
  refine (awake8 _ (HSTD.out.below (HB5.out.alloc (by first | omega | (simp [putRow_size, drewN_heap, drew_heap] <;> omega)) _) hsz)).mono ?_
  rintro e w6 ⟨rfl, hb6⟩
  have HB6 := hid (below_step (HB5.out.alloc (by first | omega | (simp [putRow_size, drewN_heap, drew_heap] <;> omega)) _) (by first | omega | (simp [putRow_size, drewN_heap, drew_heap] <;> omega)) hb6)
  have hs6 : w.heap.size ≤ w6.heap.size := HB6.out.size
  have r6_0 : rowAt w6 (w.heap.size) = some (.cells (tabA t) 25 (0, 0)) := rowNext' hb6 (by rw [rowAt_old _ _ _ (by first | omega | (simp [putRow_size, drewN_heap, drew_heap] <;> omega))]; exact r5_0)
  have c6_0 := lt_of_some r6_0
  have r6_1 : rowAt w6 (w.heap.size + 1) = some (.cells #[.int .i64 f, .int .i64 c1, .int .u8 c2] 27 (0, 0)) := rowNext' hb6 (by rw [rowAt_old _ _ _ (by first | omega | (simp [putRow_size, drewN_heap, drew_heap] <;> omega))]; exact r5_1)
  have c6_1 := cells3 r6_1
  have r6_2 : rowAt w6 (w.heap.size + 1 + 1) = some (.cells #[.int .i64 g, .int .i64 d1, .int .u8 d2] 27 (0, 0)) := rowNext' hb6 (by rw [rowAt_old _ _ _ (by first | omega | (simp [putRow_size, drewN_heap, drew_heap] <;> omega))]; exact r5_2)
  have c6_2 := cells3 r6_2
  have r6_3 : rowAt w6 (w2.heap.size) = some (.cells (tabA a) 25 (0, 0)) := rowNext' hb6 (by rw [rowAt_old _ _ _ (by first | omega | (simp [putRow_size, drewN_heap, drew_heap] <;> omega))]; exact r5_3)
  have c6_3 := lt_of_some r6_3
  have r6_4 : rowAt w6 (w3.heap.size) = some (.cells (tabA b) 25 (0, 0)) := rowNext' hb6 (by rw [rowAt_old _ _ _ (by first | omega | (simp [putRow_size, drewN_heap, drew_heap] <;> omega))]; exact r5_4)
  have c6_4 := lt_of_some r6_4
  have r6_5 : rowAt w6 (w4.heap.size) = some (.cells (tabA c) 25 (0, 0)) := rowNext' hb6 (by rw [rowAt_old _ _ _ (by first | omega | (simp [putRow_size, drewN_heap, drew_heap] <;> omega))]; exact r5_5)
  have c6_5 := lt_of_some r6_5
  have r6_6 : rowAt w6 (w5.heap.size) = some (.cells (tabA b) 25 (0, 0)) := rowNext' hb6 (by rw [rowAt_new _ _ _ (by first | omega | (simp [putRow_size, drewN_heap, drew_heap] <;> omega))])
  have c6_6 := lt_of_some r6_6
  clear r5_0 c5_0 r5_1 c5_1 r5_2 c5_2 r5_3 c5_3 r5_4 c5_4 r5_5 c5_5 hb5 HB5 hs5
  go_wp2_with fail
  go_ret
  exact ⟨rfl, HB6.out⟩

end Go.Proofs.YtjghmgpmaallfaaDoor
