/-
  The walk of TableTells, where the function has a key.
-/
import Derived.Test.YtjghmgpmaallfaaDoorOrd0
import Derived.Test.YtjghmgpmaallfaaDoorMnp
import Derived.Test.YtjghmgpmaallfaaDoorR08
import Derived.Test.YtjghmgpmaallfaaDoorR08c
import Derived.Test.YtjghmgpmaallfaaDoorR08d
import Derived.Deep.QuietTactic
import Derived.BigQuiet
import Derived.Deep.RegionWith
namespace Go.Proofs.YtjghmgpmaallfaaDoor
open Go.RowKit
set_option linter.unusedVariables false
set_option linter.unusedSimpArgs false

theorem refMay_is {t : Tb} {b : Bool} (h : decide (tabOk t) = b) (w : World) :
    Calls Tryd.prog 12 #[.agg (tabA t)] w fun e w' => e = .returned (.bool b) ∧ Below w.heap.size w w' := by
  subst h; exact refMay t w
set_option maxHeartbeats 2000000 in
set_option maxRecDepth 100000 in
theorem tt_yes_high (t : Tb) (f : Int) (c1 c2 key m e0 : Int) (b : Bool) (r : Nat) (hr : (r : Int) < 256) (HK : Hid (∀ W, Calls Tryd.prog 9 #[.agg (tabA t), .int .i64 f] W fun e w' => e = .returned (.tuple #[.int .u8 (r : Int), .bool true]) ∧ Below W.heap.size W w')) (HL : Hid (lowKey t f r)) (HE : Hid (tabErr t = e0)) (HB : Hid (decide (tabOk t) = b)) (heb : (e0 == 0) = b) (HM : Hid (meaning t key = m)) (hf : 30 < f) (HW : Hid (withT t f c1 c2 = (t, 1))) (w : World) (hstd : StdLies w) :
    Calls Tryd.prog 3 #[.agg (tabA t), .agg #[.int .i64 f, .int .i64 c1, .int .u8 c2], .int .u8 key] w fun e w' => e = .returned (.bool true) ∧ Below w.heap.size w w' := by
  have hsz := hstd.size
  have HSTD := hid hstd
  clear hstd
  have hr1 : decide ((r : Int) < 256) = true := decide_eq_true hr
  have hr0 : (0 : Int) ≤ (r : Int) := by omega
  have d1 : decide (f < 1) = false := decide_eq_false (by omega)
  have d2 : decide (30 < f) = true := decide_eq_true hf
  go_enter Tryd.func3, Tryd.ntmps3
  go_wp2_with fail
  refine (HK.out _).mono ?_
  rintro e w1 ⟨rfl, hb1⟩
  have HB1 := hid (below_step (((Below.refl w.heap.size w).alloc (by first | omega | (simp [putRow_size, drewN_heap, drew_heap] <;> omega)) _).alloc (by first | omega | (simp [putRow_size, drewN_heap, drew_heap] <;> omega)) _) (by first | omega | (simp [putRow_size, drewN_heap, drew_heap] <;> omega)) hb1)
  have hs1 : w.heap.size ≤ w1.heap.size := HB1.out.size
  have r1_0 : rowAt w1 (w.heap.size) = some (.cells (tabA t) 25 (0, 0)) := rowNext' hb1 (by rw [rowAt_old _ _ _ (by first | omega | (simp [putRow_size, drewN_heap, drew_heap] <;> omega)), rowAt_new _ _ _ (by first | omega | (simp [putRow_size, drewN_heap, drew_heap] <;> omega))])
  have c1_0 := lt_of_some r1_0
  have r1_1 : rowAt w1 (w.heap.size + 1) = some (.cells #[.int .i64 f, .int .i64 c1, .int .u8 c2] 27 (0, 0)) := rowNext' hb1 (by rw [rowAt_new _ _ _ (by first | omega | (simp [putRow_size, drewN_heap, drew_heap] <;> omega))])
  have c1_1 := cells3 r1_1
  go_wp2_with fail
  refine (refKey t f r HL.out _).mono ?_
  rintro e w2 ⟨rfl, hb2⟩
  have HB2 := hid (below_step HB1.out (by first | omega | (simp [putRow_size, drewN_heap, drew_heap] <;> omega)) hb2)
  have hs2 : w.heap.size ≤ w2.heap.size := HB2.out.size
  have r2_0 : rowAt w2 (w.heap.size) = some (.cells (tabA t) 25 (0, 0)) := rowNext' hb2 r1_0
  have c2_0 := lt_of_some r2_0
  have r2_1 : rowAt w2 (w.heap.size + 1) = some (.cells #[.int .i64 f, .int .i64 c1, .int .u8 c2] 27 (0, 0)) := rowNext' hb2 r1_1
  have c2_1 := cells3 r2_1
  clear r1_0 c1_0 r1_1 c1_1 hb1 HB1 hs1
  go_wp2_with fail
  refine wp_region_goodw (by kernel_rfl) (by kernel_rfl) ?_
  intro W3 hW3
  have R3_0 : rowAt W3 (w.heap.size) = some (.cells (tabA t) 25 (0, 0)) := by rw [hW3]; exact r2_0
  have R3_1 : rowAt W3 (w.heap.size + 1) = some (.cells #[.int .i64 f, .int .i64 c1, .int .u8 c2] 27 (0, 0)) := by rw [hW3]; exact r2_1
  have BW3 : Below w.heap.size w W3 := by rw [hW3]; exact HB2.out
  clear hW3
  have g3_0 := goodRow R3_0
  have cg3_0 := fun x => lt_of_some (g3_0 x)
  have g3_1 := goodRow R3_1
  have cg3_1 := fun x => cells3 (g3_1 x)
  have HSTDW := HSTD.out.below BW3 hsz
  have hszW : 0 < W3.heap.size := HSTDW.size
  have HG : ∀ x : Good W3, StdLies x.u := fun x => HSTDW.below x.b hszW
  iterate 1 (go_big_quiet_step (fail))
  go_big_quiet_step ((go_at_call 11; exact Calls.good (tableCheck_eq HE.out _)))
  iterate 2 (go_big_quiet_step (fail))
  go_big_quiet_step ((go_at_call 12; exact Calls.good (refMay_is HB.out _)))
  iterate 4 (go_big_quiet_step (fail))
  go_big_quiet_step ((go_at_call 13; exact Calls.good (tableMeaning_eq HM.out _)))
  iterate 2 (go_big_quiet_step (fail))
  go_big_quiet_step ((go_at_call 14; exact Calls.good (refMeaning_eq HM.out _)))
  iterate 26 (go_big_quiet_step (fail))
  go_big_quiet_step ((go_at_call 15; exact Calls.good (tableStandard _ (HG _))))
  go_big_quiet_step ((go_at_call 16; exact Calls.good (refStandard _)))
  iterate 2 (go_big_quiet_step (fail))
  refine wpQuiet_nil ?_
  rintro w3 ⟨⟨_, hb3⟩, rfl⟩
  have HB3 := hid (BW3.trans (hb3.mono BW3.size))
  have hs3 : w.heap.size ≤ w3.heap.size := HB3.out.size
  have r3_0 : rowAt w3 (w.heap.size) = some (.cells (tabA t) 25 (0, 0)) := rowNext' hb3 R3_0
  have c3_0 := lt_of_some r3_0
  have r3_1 : rowAt w3 (w.heap.size + 1) = some (.cells #[.int .i64 f, .int .i64 c1, .int .u8 c2] 27 (0, 0)) := rowNext' hb3 R3_1
  have c3_1 := cells3 r3_1
  clear R3_0 g3_0 cg3_0 r2_0 c2_0 R3_1 g3_1 cg3_1 r2_1 c2_1 hb2 HB2 hs2
  go_wp2_with fail
  refine (with_eq HW.out _).mono ?_
  rintro e w4 ⟨rfl, hb4⟩
  have HB4 := hid (below_step HB3.out (by first | omega | (simp [putRow_size, drewN_heap, drew_heap] <;> omega)) hb4)
  have hs4 : w.heap.size ≤ w4.heap.size := HB4.out.size
  have r4_0 : rowAt w4 (w.heap.size) = some (.cells (tabA t) 25 (0, 0)) := rowNext' hb4 r3_0
  have c4_0 := lt_of_some r4_0
  have r4_1 : rowAt w4 (w.heap.size + 1) = some (.cells #[.int .i64 f, .int .i64 c1, .int .u8 c2] 27 (0, 0)) := rowNext' hb4 r3_1
  have c4_1 := cells3 r4_1
  clear r3_0 c3_0 r3_1 c3_1 hb3 HB3 hs3
  go_wp2_with fail
  refine (awake8 _ (HSTD.out.below (HB4.out.alloc (by first | omega | (simp [putRow_size, drewN_heap, drew_heap] <;> omega)) _) hsz)).mono ?_
  rintro e w5 ⟨rfl, hb5⟩
  have HB5 := hid (below_step (HB4.out.alloc (by first | omega | (simp [putRow_size, drewN_heap, drew_heap] <;> omega)) _) (by first | omega | (simp [putRow_size, drewN_heap, drew_heap] <;> omega)) hb5)
  have hs5 : w.heap.size ≤ w5.heap.size := HB5.out.size
  have r5_0 : rowAt w5 (w.heap.size) = some (.cells (tabA t) 25 (0, 0)) := rowNext' hb5 (by rw [rowAt_old _ _ _ (by first | omega | (simp [putRow_size, drewN_heap, drew_heap] <;> omega))]; exact r4_0)
  have c5_0 := lt_of_some r5_0
  have r5_1 : rowAt w5 (w.heap.size + 1) = some (.cells #[.int .i64 f, .int .i64 c1, .int .u8 c2] 27 (0, 0)) := rowNext' hb5 (by rw [rowAt_old _ _ _ (by first | omega | (simp [putRow_size, drewN_heap, drew_heap] <;> omega))]; exact r4_1)
  have c5_1 := cells3 r5_1
  have r5_2 : rowAt w5 (w4.heap.size) = some (.cells (tabA t) 25 (0, 0)) := rowNext' hb5 (by rw [rowAt_new _ _ _ (by first | omega | (simp [putRow_size, drewN_heap, drew_heap] <;> omega))])
  have c5_2 := lt_of_some r5_2
  clear r4_0 c4_0 r4_1 c4_1 hb4 HB4 hs4
  go_wp2_with fail
  go_ret
  exact ⟨rfl, HB5.out⟩

set_option maxHeartbeats 2000000 in
set_option maxRecDepth 100000 in
theorem tt_yes_bad (t : Tb) (n : Nat) (c1 c2 key m e0 : Int) (b : Bool) (r : Nat) (hr : (r : Int) < 256) (HK : Hid (∀ W, Calls Tryd.prog 9 #[.agg (tabA t), .int .i64 n] W fun e w' => e = .returned (.tuple #[.int .u8 (r : Int), .bool true]) ∧ Below W.heap.size W w')) (HL : Hid (lowKey t n r)) (HE : Hid (tabErr t = e0)) (HB : Hid (decide (tabOk t) = b)) (heb : (e0 == 0) = b) (HM : Hid (meaning t key = m)) (h1 : 1 ≤ n) (h2 : n < 31) (HV : Hid (decide (tabOk (upd t n (c1, c2))) = false)) (HW : Hid (withT t n c1 c2 = (t, 1))) (w : World) (hstd : StdLies w) :
    Calls Tryd.prog 3 #[.agg (tabA t), .agg #[.int .i64 n, .int .i64 c1, .int .u8 c2], .int .u8 key] w fun e w' => e = .returned (.bool true) ∧ Below w.heap.size w w' := by
  have hsz := hstd.size
  have HSTD := hid hstd
  clear hstd
  have hr1 : decide ((r : Int) < 256) = true := decide_eq_true hr
  have hr0 : (0 : Int) ≤ (r : Int) := by omega
  have d1 : decide ((n : Int) < 1) = false := decide_eq_false (by omega)
  have d2 : decide (30 < (n : Int)) = false := decide_eq_false (by omega)
  go_enter Tryd.func3, Tryd.ntmps3
  go_wp2_with fail
  refine (HK.out _).mono ?_
  rintro e w1 ⟨rfl, hb1⟩
  have HB1 := hid (below_step (((Below.refl w.heap.size w).alloc (by first | omega | (simp [putRow_size, drewN_heap, drew_heap] <;> omega)) _).alloc (by first | omega | (simp [putRow_size, drewN_heap, drew_heap] <;> omega)) _) (by first | omega | (simp [putRow_size, drewN_heap, drew_heap] <;> omega)) hb1)
  have hs1 : w.heap.size ≤ w1.heap.size := HB1.out.size
  have r1_0 : rowAt w1 (w.heap.size) = some (.cells (tabA t) 25 (0, 0)) := rowNext' hb1 (by rw [rowAt_old _ _ _ (by first | omega | (simp [putRow_size, drewN_heap, drew_heap] <;> omega)), rowAt_new _ _ _ (by first | omega | (simp [putRow_size, drewN_heap, drew_heap] <;> omega))])
  have c1_0 := lt_of_some r1_0
  have r1_1 : rowAt w1 (w.heap.size + 1) = some (.cells #[.int .i64 n, .int .i64 c1, .int .u8 c2] 27 (0, 0)) := rowNext' hb1 (by rw [rowAt_new _ _ _ (by first | omega | (simp [putRow_size, drewN_heap, drew_heap] <;> omega))])
  have c1_1 := cells3 r1_1
  go_wp2_with fail
  refine (refKey t n r HL.out _).mono ?_
  rintro e w2 ⟨rfl, hb2⟩
  have HB2 := hid (below_step HB1.out (by first | omega | (simp [putRow_size, drewN_heap, drew_heap] <;> omega)) hb2)
  have hs2 : w.heap.size ≤ w2.heap.size := HB2.out.size
  have r2_0 : rowAt w2 (w.heap.size) = some (.cells (tabA t) 25 (0, 0)) := rowNext' hb2 r1_0
  have c2_0 := lt_of_some r2_0
  have r2_1 : rowAt w2 (w.heap.size + 1) = some (.cells #[.int .i64 n, .int .i64 c1, .int .u8 c2] 27 (0, 0)) := rowNext' hb2 r1_1
  have c2_1 := cells3 r2_1
  clear r1_0 c1_0 r1_1 c1_1 hb1 HB1 hs1
  go_wp2_with fail
  refine wp_region_goodw (by kernel_rfl) (by kernel_rfl) ?_
  intro W3 hW3
  have R3_0 : rowAt W3 (w.heap.size) = some (.cells (tabA t) 25 (0, 0)) := by rw [hW3]; exact r2_0
  have R3_1 : rowAt W3 (w.heap.size + 1) = some (.cells #[.int .i64 n, .int .i64 c1, .int .u8 c2] 27 (0, 0)) := by rw [hW3]; exact r2_1
  have BW3 : Below w.heap.size w W3 := by rw [hW3]; exact HB2.out
  clear hW3
  have g3_0 := goodRow R3_0
  have cg3_0 := fun x => lt_of_some (g3_0 x)
  have g3_1 := goodRow R3_1
  have cg3_1 := fun x => cells3 (g3_1 x)
  have HSTDW := HSTD.out.below BW3 hsz
  have hszW : 0 < W3.heap.size := HSTDW.size
  have HG : ∀ x : Good W3, StdLies x.u := fun x => HSTDW.below x.b hszW
  iterate 1 (go_big_quiet_step (fail))
  go_big_quiet_step ((go_at_call 11; exact Calls.good (tableCheck_eq HE.out _)))
  iterate 2 (go_big_quiet_step (fail))
  go_big_quiet_step ((go_at_call 12; exact Calls.good (refMay_is HB.out _)))
  iterate 4 (go_big_quiet_step (fail))
  go_big_quiet_step ((go_at_call 13; exact Calls.good (tableMeaning_eq HM.out _)))
  iterate 2 (go_big_quiet_step (fail))
  go_big_quiet_step ((go_at_call 14; exact Calls.good (refMeaning_eq HM.out _)))
  iterate 26 (go_big_quiet_step (fail))
  go_big_quiet_step ((go_at_call 15; exact Calls.good (tableStandard _ (HG _))))
  go_big_quiet_step ((go_at_call 16; exact Calls.good (refStandard _)))
  iterate 2 (go_big_quiet_step (fail))
  refine wpQuiet_nil ?_
  rintro w3 ⟨⟨_, hb3⟩, rfl⟩
  have HB3 := hid (BW3.trans (hb3.mono BW3.size))
  have hs3 : w.heap.size ≤ w3.heap.size := HB3.out.size
  have r3_0 : rowAt w3 (w.heap.size) = some (.cells (tabA t) 25 (0, 0)) := rowNext' hb3 R3_0
  have c3_0 := lt_of_some r3_0
  have r3_1 : rowAt w3 (w.heap.size + 1) = some (.cells #[.int .i64 n, .int .i64 c1, .int .u8 c2] 27 (0, 0)) := rowNext' hb3 R3_1
  have c3_1 := cells3 r3_1
  clear R3_0 g3_0 cg3_0 r2_0 c2_0 R3_1 g3_1 cg3_1 r2_1 c2_1 hb2 HB2 hs2
  go_wp2_with fail
  refine (with_eq HW.out _).mono ?_
  rintro e w4 ⟨rfl, hb4⟩
  have HB4 := hid (below_step HB3.out (by first | omega | (simp [putRow_size, drewN_heap, drew_heap] <;> omega)) hb4)
  have hs4 : w.heap.size ≤ w4.heap.size := HB4.out.size
  have r4_0 : rowAt w4 (w.heap.size) = some (.cells (tabA t) 25 (0, 0)) := rowNext' hb4 r3_0
  have c4_0 := lt_of_some r4_0
  have r4_1 : rowAt w4 (w.heap.size + 1) = some (.cells #[.int .i64 n, .int .i64 c1, .int .u8 c2] 27 (0, 0)) := rowNext' hb4 r3_1
  have c4_1 := cells3 r4_1
  clear r3_0 c3_0 r3_1 c3_1 hb3 HB3 hs3
  go_wp2_with (refine wpList_store_mid rfl 23 (.tmp 99) (.tmp 98) rfl (w4.heap.size + 1) (n * 2) rfl 25 (tabA t) ?_ _ rfl sizeCell (by rw [tabA_size]; simp; omega) rfl (tabA (upd t n (c1, c2))) (lay_upd _ _ _ _ (by omega)) ?_; · (show rowAt _ _ = _; rw [rowAt_new _ _ _ (by first | omega | (simp [putRow_size, drewN_heap, drew_heap] <;> omega))]))
  refine (refMay_is HV.out _).mono ?_
  rintro e w5 ⟨rfl, hb5⟩
  have HB5 := hid (below_step ((HB4.out.alloc (by first | omega | (simp [putRow_size, drewN_heap, drew_heap] <;> omega)) _).alloc (by first | omega | (simp [putRow_size, drewN_heap, drew_heap] <;> omega)) _) (by first | omega | (simp [putRow_size, drewN_heap, drew_heap] <;> omega)) hb5)
  have hs5 : w.heap.size ≤ w5.heap.size := HB5.out.size
  have r5_0 : rowAt w5 (w.heap.size) = some (.cells (tabA t) 25 (0, 0)) := rowNext' hb5 (by rw [rowAt_old _ _ _ (by first | omega | (simp [putRow_size, drewN_heap, drew_heap] <;> omega)), rowAt_old _ _ _ (by first | omega | (simp [putRow_size, drewN_heap, drew_heap] <;> omega))]; exact r4_0)
  have c5_0 := lt_of_some r5_0
  have r5_1 : rowAt w5 (w.heap.size + 1) = some (.cells #[.int .i64 n, .int .i64 c1, .int .u8 c2] 27 (0, 0)) := rowNext' hb5 (by rw [rowAt_old _ _ _ (by first | omega | (simp [putRow_size, drewN_heap, drew_heap] <;> omega)), rowAt_old _ _ _ (by first | omega | (simp [putRow_size, drewN_heap, drew_heap] <;> omega))]; exact r4_1)
  have c5_1 := cells3 r5_1
  have r5_2 : rowAt w5 (w4.heap.size) = some (.cells (tabA t) 25 (0, 0)) := rowNext' hb5 (by rw [rowAt_old _ _ _ (by first | omega | (simp [putRow_size, drewN_heap, drew_heap] <;> omega)), rowAt_new _ _ _ (by first | omega | (simp [putRow_size, drewN_heap, drew_heap] <;> omega))])
  have c5_2 := lt_of_some r5_2
  have r5_3 : rowAt w5 (w4.heap.size + 1) = some (.cells (tabA (upd t n (c1, c2))) 25 (0, 0)) := rowNext' hb5 (by rw [rowAt_new _ _ _ (by first | omega | (simp [putRow_size, drewN_heap, drew_heap] <;> omega))])
  have c5_3 := lt_of_some r5_3
  clear r4_0 c4_0 r4_1 c4_1 hb4 HB4 hs4
  go_wp2_with fail
  refine (awake8 _ (HSTD.out.below HB5.out hsz)).mono ?_
  rintro e w6 ⟨rfl, hb6⟩
  have HB6 := hid (below_step HB5.out (by first | omega | (simp [putRow_size, drewN_heap, drew_heap] <;> omega)) hb6)
  have hs6 : w.heap.size ≤ w6.heap.size := HB6.out.size
  have r6_0 : rowAt w6 (w.heap.size) = some (.cells (tabA t) 25 (0, 0)) := rowNext' hb6 r5_0
  have c6_0 := lt_of_some r6_0
  have r6_1 : rowAt w6 (w.heap.size + 1) = some (.cells #[.int .i64 n, .int .i64 c1, .int .u8 c2] 27 (0, 0)) := rowNext' hb6 r5_1
  have c6_1 := cells3 r6_1
  have r6_2 : rowAt w6 (w4.heap.size) = some (.cells (tabA t) 25 (0, 0)) := rowNext' hb6 r5_2
  have c6_2 := lt_of_some r6_2
  have r6_3 : rowAt w6 (w4.heap.size + 1) = some (.cells (tabA (upd t n (c1, c2))) 25 (0, 0)) := rowNext' hb6 r5_3
  have c6_3 := lt_of_some r6_3
  clear r5_0 c5_0 r5_1 c5_1 r5_2 c5_2 r5_3 c5_3 hb5 HB5 hs5
  go_wp2_with fail
  go_ret
  exact ⟨rfl, HB6.out⟩

set_option maxHeartbeats 2000000 in
set_option maxRecDepth 100000 in
theorem tt_yes_ok (t : Tb) (n : Nat) (c1 c2 key m e0 : Int) (b : Bool) (r : Nat) (hr : (r : Int) < 256) (HK : Hid (∀ W, Calls Tryd.prog 9 #[.agg (tabA t), .int .i64 n] W fun e w' => e = .returned (.tuple #[.int .u8 (r : Int), .bool true]) ∧ Below W.heap.size W w')) (HL : Hid (lowKey t n r)) (HE : Hid (tabErr t = e0)) (HB : Hid (decide (tabOk t) = b)) (heb : (e0 == 0) = b) (HM : Hid (meaning t key = m)) (h1 : 1 ≤ n) (h2 : n < 31) (HV : Hid (decide (tabOk (upd t n (c1, c2))) = true)) (HW : Hid (withT t n c1 c2 = (upd t n (c1, c2), 0))) (w : World) (hstd : StdLies w) :
    Calls Tryd.prog 3 #[.agg (tabA t), .agg #[.int .i64 n, .int .i64 c1, .int .u8 c2], .int .u8 key] w fun e w' => e = .returned (.bool true) ∧ Below w.heap.size w w' := by
  have hsz := hstd.size
  have HSTD := hid hstd
  clear hstd
  have hr1 : decide ((r : Int) < 256) = true := decide_eq_true hr
  have hr0 : (0 : Int) ≤ (r : Int) := by omega
  have d1 : decide ((n : Int) < 1) = false := decide_eq_false (by omega)
  have d2 : decide (30 < (n : Int)) = false := decide_eq_false (by omega)
  go_enter Tryd.func3, Tryd.ntmps3
  go_wp2_with fail
  refine (HK.out _).mono ?_
  rintro e w1 ⟨rfl, hb1⟩
  have HB1 := hid (below_step (((Below.refl w.heap.size w).alloc (by first | omega | (simp [putRow_size, drewN_heap, drew_heap] <;> omega)) _).alloc (by first | omega | (simp [putRow_size, drewN_heap, drew_heap] <;> omega)) _) (by first | omega | (simp [putRow_size, drewN_heap, drew_heap] <;> omega)) hb1)
  have hs1 : w.heap.size ≤ w1.heap.size := HB1.out.size
  have r1_0 : rowAt w1 (w.heap.size) = some (.cells (tabA t) 25 (0, 0)) := rowNext' hb1 (by rw [rowAt_old _ _ _ (by first | omega | (simp [putRow_size, drewN_heap, drew_heap] <;> omega)), rowAt_new _ _ _ (by first | omega | (simp [putRow_size, drewN_heap, drew_heap] <;> omega))])
  have c1_0 := lt_of_some r1_0
  have r1_1 : rowAt w1 (w.heap.size + 1) = some (.cells #[.int .i64 n, .int .i64 c1, .int .u8 c2] 27 (0, 0)) := rowNext' hb1 (by rw [rowAt_new _ _ _ (by first | omega | (simp [putRow_size, drewN_heap, drew_heap] <;> omega))])
  have c1_1 := cells3 r1_1
  go_wp2_with fail
  refine (refKey t n r HL.out _).mono ?_
  rintro e w2 ⟨rfl, hb2⟩
  have HB2 := hid (below_step HB1.out (by first | omega | (simp [putRow_size, drewN_heap, drew_heap] <;> omega)) hb2)
  have hs2 : w.heap.size ≤ w2.heap.size := HB2.out.size
  have r2_0 : rowAt w2 (w.heap.size) = some (.cells (tabA t) 25 (0, 0)) := rowNext' hb2 r1_0
  have c2_0 := lt_of_some r2_0
  have r2_1 : rowAt w2 (w.heap.size + 1) = some (.cells #[.int .i64 n, .int .i64 c1, .int .u8 c2] 27 (0, 0)) := rowNext' hb2 r1_1
  have c2_1 := cells3 r2_1
  clear r1_0 c1_0 r1_1 c1_1 hb1 HB1 hs1
  go_wp2_with fail
  refine wp_region_goodw (by kernel_rfl) (by kernel_rfl) ?_
  intro W3 hW3
  have R3_0 : rowAt W3 (w.heap.size) = some (.cells (tabA t) 25 (0, 0)) := by rw [hW3]; exact r2_0
  have R3_1 : rowAt W3 (w.heap.size + 1) = some (.cells #[.int .i64 n, .int .i64 c1, .int .u8 c2] 27 (0, 0)) := by rw [hW3]; exact r2_1
  have BW3 : Below w.heap.size w W3 := by rw [hW3]; exact HB2.out
  clear hW3
  have g3_0 := goodRow R3_0
  have cg3_0 := fun x => lt_of_some (g3_0 x)
  have g3_1 := goodRow R3_1
  have cg3_1 := fun x => cells3 (g3_1 x)
  have HSTDW := HSTD.out.below BW3 hsz
  have hszW : 0 < W3.heap.size := HSTDW.size
  have HG : ∀ x : Good W3, StdLies x.u := fun x => HSTDW.below x.b hszW
  iterate 1 (go_big_quiet_step (fail))
  go_big_quiet_step ((go_at_call 11; exact Calls.good (tableCheck_eq HE.out _)))
  iterate 2 (go_big_quiet_step (fail))
  go_big_quiet_step ((go_at_call 12; exact Calls.good (refMay_is HB.out _)))
  iterate 4 (go_big_quiet_step (fail))
  go_big_quiet_step ((go_at_call 13; exact Calls.good (tableMeaning_eq HM.out _)))
  iterate 2 (go_big_quiet_step (fail))
  go_big_quiet_step ((go_at_call 14; exact Calls.good (refMeaning_eq HM.out _)))
  iterate 26 (go_big_quiet_step (fail))
  go_big_quiet_step ((go_at_call 15; exact Calls.good (tableStandard _ (HG _))))
  go_big_quiet_step ((go_at_call 16; exact Calls.good (refStandard _)))
  iterate 2 (go_big_quiet_step (fail))
  refine wpQuiet_nil ?_
  rintro w3 ⟨⟨_, hb3⟩, rfl⟩
  have HB3 := hid (BW3.trans (hb3.mono BW3.size))
  have hs3 : w.heap.size ≤ w3.heap.size := HB3.out.size
  have r3_0 : rowAt w3 (w.heap.size) = some (.cells (tabA t) 25 (0, 0)) := rowNext' hb3 R3_0
  have c3_0 := lt_of_some r3_0
  have r3_1 : rowAt w3 (w.heap.size + 1) = some (.cells #[.int .i64 n, .int .i64 c1, .int .u8 c2] 27 (0, 0)) := rowNext' hb3 R3_1
  have c3_1 := cells3 r3_1
  clear R3_0 g3_0 cg3_0 r2_0 c2_0 R3_1 g3_1 cg3_1 r2_1 c2_1 hb2 HB2 hs2
  go_wp2_with fail
  refine (with_eq HW.out _).mono ?_
  rintro e w4 ⟨rfl, hb4⟩
  have HB4 := hid (below_step HB3.out (by first | omega | (simp [putRow_size, drewN_heap, drew_heap] <;> omega)) hb4)
  have hs4 : w.heap.size ≤ w4.heap.size := HB4.out.size
  have r4_0 : rowAt w4 (w.heap.size) = some (.cells (tabA t) 25 (0, 0)) := rowNext' hb4 r3_0
  have c4_0 := lt_of_some r4_0
  have r4_1 : rowAt w4 (w.heap.size + 1) = some (.cells #[.int .i64 n, .int .i64 c1, .int .u8 c2] 27 (0, 0)) := rowNext' hb4 r3_1
  have c4_1 := cells3 r4_1
  clear r3_0 c3_0 r3_1 c3_1 hb3 HB3 hs3
  go_wp2_with (refine wpList_store_mid rfl 23 (.tmp 99) (.tmp 98) rfl (w4.heap.size + 1) (n * 2) rfl 25 (tabA t) ?_ _ rfl sizeCell (by rw [tabA_size]; simp; omega) rfl (tabA (upd t n (c1, c2))) (lay_upd _ _ _ _ (by omega)) ?_; · (show rowAt _ _ = _; rw [rowAt_new _ _ _ (by first | omega | (simp [putRow_size, drewN_heap, drew_heap] <;> omega))]))
  refine (refMay_is HV.out _).mono ?_
  rintro e w5 ⟨rfl, hb5⟩
  have HB5 := hid (below_step ((HB4.out.alloc (by first | omega | (simp [putRow_size, drewN_heap, drew_heap] <;> omega)) _).alloc (by first | omega | (simp [putRow_size, drewN_heap, drew_heap] <;> omega)) _) (by first | omega | (simp [putRow_size, drewN_heap, drew_heap] <;> omega)) hb5)
  have hs5 : w.heap.size ≤ w5.heap.size := HB5.out.size
  have r5_0 : rowAt w5 (w.heap.size) = some (.cells (tabA t) 25 (0, 0)) := rowNext' hb5 (by rw [rowAt_old _ _ _ (by first | omega | (simp [putRow_size, drewN_heap, drew_heap] <;> omega)), rowAt_old _ _ _ (by first | omega | (simp [putRow_size, drewN_heap, drew_heap] <;> omega))]; exact r4_0)
  have c5_0 := lt_of_some r5_0
  have r5_1 : rowAt w5 (w.heap.size + 1) = some (.cells #[.int .i64 n, .int .i64 c1, .int .u8 c2] 27 (0, 0)) := rowNext' hb5 (by rw [rowAt_old _ _ _ (by first | omega | (simp [putRow_size, drewN_heap, drew_heap] <;> omega)), rowAt_old _ _ _ (by first | omega | (simp [putRow_size, drewN_heap, drew_heap] <;> omega))]; exact r4_1)
  have c5_1 := cells3 r5_1
  have r5_2 : rowAt w5 (w4.heap.size) = some (.cells (tabA (upd t n (c1, c2))) 25 (0, 0)) := rowNext' hb5 (by rw [rowAt_old _ _ _ (by first | omega | (simp [putRow_size, drewN_heap, drew_heap] <;> omega)), rowAt_new _ _ _ (by first | omega | (simp [putRow_size, drewN_heap, drew_heap] <;> omega))])
  have c5_2 := lt_of_some r5_2
  have r5_3 : rowAt w5 (w4.heap.size + 1) = some (.cells (tabA (upd t n (c1, c2))) 25 (0, 0)) := rowNext' hb5 (by rw [rowAt_new _ _ _ (by first | omega | (simp [putRow_size, drewN_heap, drew_heap] <;> omega))])
  have c5_3 := lt_of_some r5_3
  clear r4_0 c4_0 r4_1 c4_1 hb4 HB4 hs4
  go_wp2_with fail
  refine (awake8 _ (HSTD.out.below HB5.out hsz)).mono ?_
  rintro e w6 ⟨rfl, hb6⟩
  have HB6 := hid (below_step HB5.out (by first | omega | (simp [putRow_size, drewN_heap, drew_heap] <;> omega)) hb6)
  have hs6 : w.heap.size ≤ w6.heap.size := HB6.out.size
  have r6_0 : rowAt w6 (w.heap.size) = some (.cells (tabA t) 25 (0, 0)) := rowNext' hb6 r5_0
  have c6_0 := lt_of_some r6_0
  have r6_1 : rowAt w6 (w.heap.size + 1) = some (.cells #[.int .i64 n, .int .i64 c1, .int .u8 c2] 27 (0, 0)) := rowNext' hb6 r5_1
  have c6_1 := cells3 r6_1
  have r6_2 : rowAt w6 (w4.heap.size) = some (.cells (tabA (upd t n (c1, c2))) 25 (0, 0)) := rowNext' hb6 r5_2
  have c6_2 := lt_of_some r6_2
  have r6_3 : rowAt w6 (w4.heap.size + 1) = some (.cells (tabA (upd t n (c1, c2))) 25 (0, 0)) := rowNext' hb6 r5_3
  have c6_3 := lt_of_some r6_3
  clear r5_0 c5_0 r5_1 c5_1 r5_2 c5_2 r5_3 c5_3 hb5 HB5 hs5
  go_wp2_with fail
  go_ret
  exact ⟨rfl, HB6.out⟩

end Go.Proofs.YtjghmgpmaallfaaDoor
