/-
  The walk of AgreeTells.
-/
import Derived.Test.YtjghmgpmaallfaaAns
import Derived.Test.YtjghmgpmaallfaaFir
import Derived.Test.YtjghmgpmaallfaaWho
import Derived.Test.YtjghmgpmaallfaaR08
import Derived.Test.YtjghmgpmaallfaaR09b
import Derived.Test.YtjghmgpmaallfaaR09c
import Derived.Test.YtjghmgpmaallfaaR09d
import Derived.Test.YtjghmgpmaallfaaRgn
import Derived.Test.YtjghmgpmaallfaaEqt
import Derived.Deep.QuietTactic
import Derived.BigQuiet
namespace Go.Proofs.Ytjghmgpmaallfaa
open Go.RowKit
set_option linter.unusedVariables false
set_option linter.unusedSimpArgs false

attribute [local go_sem ↓] build39
theorem zero_lit : tabA zeroT = #[.int .i64 0, .int .u8 0, .int .i64 0, .int .u8 0, .int .i64 0, .int .u8 0, .int .i64 0, .int .u8 0, .int .i64 0, .int .u8 0, .int .i64 0, .int .u8 0, .int .i64 0, .int .u8 0, .int .i64 0, .int .u8 0, .int .i64 0, .int .u8 0, .int .i64 0, .int .u8 0, .int .i64 0, .int .u8 0, .int .i64 0, .int .u8 0, .int .i64 0, .int .u8 0, .int .i64 0, .int .u8 0, .int .i64 0, .int .u8 0, .int .i64 0, .int .u8 0, .int .i64 0, .int .u8 0, .int .i64 0, .int .u8 0, .int .i64 0, .int .u8 0, .int .i64 0, .int .u8 0, .int .i64 0, .int .u8 0, .int .i64 0, .int .u8 0, .int .i64 0, .int .u8 0, .int .i64 0, .int .u8 0, .int .i64 0, .int .u8 0, .int .i64 0, .int .u8 0, .int .i64 0, .int .u8 0, .int .i64 0, .int .u8 0, .int .i64 0, .int .u8 0, .int .i64 0, .int .u8 0, .int .i64 0, .int .u8 0] := by kernel_rfl
@[local go_sem ↓] theorem eqZero (w : World) : (Op.equalIn 10000 39 (.agg (tabA zeroT)) (.agg #[.int .i64 0, .int .u8 0, .int .i64 0, .int .u8 0, .int .i64 0, .int .u8 0, .int .i64 0, .int .u8 0, .int .i64 0, .int .u8 0, .int .i64 0, .int .u8 0, .int .i64 0, .int .u8 0, .int .i64 0, .int .u8 0, .int .i64 0, .int .u8 0, .int .i64 0, .int .u8 0, .int .i64 0, .int .u8 0, .int .i64 0, .int .u8 0, .int .i64 0, .int .u8 0, .int .i64 0, .int .u8 0, .int .i64 0, .int .u8 0, .int .i64 0, .int .u8 0, .int .i64 0, .int .u8 0, .int .i64 0, .int .u8 0, .int .i64 0, .int .u8 0, .int .i64 0, .int .u8 0, .int .i64 0, .int .u8 0, .int .i64 0, .int .u8 0, .int .i64 0, .int .u8 0, .int .i64 0, .int .u8 0, .int .i64 0, .int .u8 0, .int .i64 0, .int .u8 0, .int .i64 0, .int .u8 0, .int .i64 0, .int .u8 0, .int .i64 0, .int .u8 0, .int .i64 0, .int .u8 0, .int .i64 0, .int .u8 0])).run Try.prog w = .ok true w := by
  rw [← zero_lit, eqTab, sameTb_refl]
theorem refMay9_is {t : Tb} {b : Bool} (h : decide (tabOk t) = b) (w : World) : Calls Try.prog 23 #[.agg (tabA t)] w fun e w' => e = .returned (.bool b) ∧ Below w.heap.size w w' := by
  subst h; exact refMay9 t w
theorem refMay_is9 {t : Tb} {b : Bool} (h : decide (tabOk t) = b) (w : World) : Calls Try.prog 28 #[.agg (tabA t)] w fun e w' => e = .returned (.bool b) ∧ Below w.heap.size w w' := by
  subst h; exact refMay t w
theorem refMay7_is {f l : Int} {b : Bool} (h : decide (trOk f l) = b) (a i o : Bool) (v : Int) (w : World) :
    Calls Try.prog 24 #[.agg #[.int .i64 f, .int .i64 l, .bool a, .bool i, .bool o, .int .u8 v]] w fun e w' => e = .returned (.bool b) ∧ Below w.heap.size w w' := by
  subst h; exact refMay7 f l v a i o w
set_option maxHeartbeats 2000000 in
set_option maxRecDepth 100000 in
theorem at_ptu (p u : Tb) (f l v : Int) (a i o : Bool) (c1 c2 : Int) (H1 : Hid (settle p f l v = ((c1, c2), 0))) (HP : Hid (tabErr p = 0)) (HB : Hid (decide (tabOk p) = true)) (HT : Hid (decide (trOk f l) = true)) (HU : Hid (tabErr u = 0)) (HV : Hid (decide (tabOk u) = true)) (w : World) :
    Calls Try.prog 8 #[.agg (tabA p), .agg #[.int .i64 f, .int .i64 l, .bool a, .bool i, .bool o, .int .u8 v], .agg (tabA u)] w fun e w' => e = .returned (.bool true) ∧ Below w.heap.size w w' := by
  go_enter Try.func8, Try.ntmps8
  go_wp2_with fail
  refine (settle_eq H1.out a i o _).mono ?_
  rintro e w1 ⟨rfl, hb1⟩
  have HB1 := hid (below_step ((((Below.refl w.heap.size w).alloc (by first | omega | (simp [putRow_size, drewN_heap, drew_heap] <;> omega)) _).alloc (by first | omega | (simp [putRow_size, drewN_heap, drew_heap] <;> omega)) _).alloc (by first | omega | (simp [putRow_size, drewN_heap, drew_heap] <;> omega)) _) (by first | omega | (simp [putRow_size, drewN_heap, drew_heap] <;> omega)) hb1)
  have hs1 : w.heap.size ≤ w1.heap.size := HB1.out.size
  have r1_0 : rowAt w1 (w.heap.size) = some (.cells (tabA p) 25 (0, 0)) := rowNext' hb1 (by rw [rowAt_old _ _ _ (by first | omega | (simp [putRow_size, drewN_heap, drew_heap] <;> omega)), rowAt_old _ _ _ (by first | omega | (simp [putRow_size, drewN_heap, drew_heap] <;> omega)), rowAt_new _ _ _ (by first | omega | (simp [putRow_size, drewN_heap, drew_heap] <;> omega))])
  have c1_0 := lt_of_some r1_0
  have r1_1 : rowAt w1 (w.heap.size + 1) = some (.cells #[.int .i64 f, .int .i64 l, .bool a, .bool i, .bool o, .int .u8 v] 27 (0, 0)) := rowNext' hb1 (by rw [rowAt_old _ _ _ (by first | omega | (simp [putRow_size, drewN_heap, drew_heap] <;> omega)), rowAt_new _ _ _ (by first | omega | (simp [putRow_size, drewN_heap, drew_heap] <;> omega))])
  have c1_1 := cells6 r1_1
  have r1_2 : rowAt w1 (w.heap.size + 1 + 1) = some (.cells (tabA u) 39 (0, 0)) := rowNext' hb1 (by rw [rowAt_new _ _ _ (by first | omega | (simp [putRow_size, drewN_heap, drew_heap] <;> omega))])
  have c1_2 := lt_of_some r1_2
  go_wp2_with fail
  refine (answer_ok _ _ _ _ a i o _ _ H1 _).mono ?_
  rintro e w2 ⟨rfl, hb2⟩
  have HB2 := hid (below_step (HB1.out.alloc (by first | omega | (simp [putRow_size, drewN_heap, drew_heap] <;> omega)) _) (by first | omega | (simp [putRow_size, drewN_heap, drew_heap] <;> omega)) hb2)
  have hs2 : w.heap.size ≤ w2.heap.size := HB2.out.size
  have r2_0 : rowAt w2 (w.heap.size) = some (.cells (tabA p) 25 (0, 0)) := rowNext' hb2 (by rw [rowAt_old _ _ _ (by first | omega | (simp [putRow_size, drewN_heap, drew_heap] <;> omega))]; exact r1_0)
  have c2_0 := lt_of_some r2_0
  have r2_1 : rowAt w2 (w.heap.size + 1) = some (.cells #[.int .i64 f, .int .i64 l, .bool a, .bool i, .bool o, .int .u8 v] 27 (0, 0)) := rowNext' hb2 (by rw [rowAt_old _ _ _ (by first | omega | (simp [putRow_size, drewN_heap, drew_heap] <;> omega))]; exact r1_1)
  have c2_1 := cells6 r2_1
  have r2_2 : rowAt w2 (w.heap.size + 1 + 1) = some (.cells (tabA u) 39 (0, 0)) := rowNext' hb2 (by rw [rowAt_old _ _ _ (by first | omega | (simp [putRow_size, drewN_heap, drew_heap] <;> omega))]; exact r1_2)
  have c2_2 := lt_of_some r2_2
  have r2_3 : rowAt w2 (w1.heap.size) = some (.cells #[.int .i64 c1, .int .u8 c2] 29 (0, 0)) := rowNext' hb2 (by rw [rowAt_new _ _ _ (by first | omega | (simp [putRow_size, drewN_heap, drew_heap] <;> omega))])
  have c2_3 := cells2 r2_3
  clear r1_0 c1_0 r1_1 c1_1 r1_2 c1_2 hb1 HB1 hs1
  go_wp2_with fail
  refine (first_ok p HP.out _).mono ?_
  rintro e w3 ⟨rfl, hb3⟩
  have HB3 := hid (below_step (HB2.out.alloc (by first | omega | (simp [putRow_size, drewN_heap, drew_heap] <;> omega)) _) (by first | omega | (simp [putRow_size, drewN_heap, drew_heap] <;> omega)) hb3)
  have hs3 : w.heap.size ≤ w3.heap.size := HB3.out.size
  have r3_0 : rowAt w3 (w.heap.size) = some (.cells (tabA p) 25 (0, 0)) := rowNext' hb3 (by rw [rowAt_old _ _ _ (by first | omega | (simp [putRow_size, drewN_heap, drew_heap] <;> omega))]; exact r2_0)
  have c3_0 := lt_of_some r3_0
  have r3_1 : rowAt w3 (w.heap.size + 1) = some (.cells #[.int .i64 f, .int .i64 l, .bool a, .bool i, .bool o, .int .u8 v] 27 (0, 0)) := rowNext' hb3 (by rw [rowAt_old _ _ _ (by first | omega | (simp [putRow_size, drewN_heap, drew_heap] <;> omega))]; exact r2_1)
  have c3_1 := cells6 r3_1
  have r3_2 : rowAt w3 (w.heap.size + 1 + 1) = some (.cells (tabA u) 39 (0, 0)) := rowNext' hb3 (by rw [rowAt_old _ _ _ (by first | omega | (simp [putRow_size, drewN_heap, drew_heap] <;> omega))]; exact r2_2)
  have c3_2 := lt_of_some r3_2
  have r3_3 : rowAt w3 (w1.heap.size) = some (.cells #[.int .i64 c1, .int .u8 c2] 29 (0, 0)) := rowNext' hb3 (by rw [rowAt_old _ _ _ (by first | omega | (simp [putRow_size, drewN_heap, drew_heap] <;> omega))]; exact r2_3)
  have c3_3 := cells2 r3_3
  have r3_4 : rowAt w3 (w2.heap.size) = some (.cells #[.int .i64 f, .int .i64 c1, .bool true, .bool i, .bool o, .int .u8 c2] 27 (0, 0)) := rowNext' hb3 (by rw [rowAt_new _ _ _ (by first | omega | (simp [putRow_size, drewN_heap, drew_heap] <;> omega))])
  have c3_4 := cells6 r3_4
  clear r2_0 c2_0 r2_1 c2_1 r2_2 c2_2 r2_3 c2_3 hb2 HB2 hs2
  go_wp2_with fail
  refine (whole_ok u HU.out _).mono ?_
  rintro e w4 ⟨g, rfl, hcs, hg1, hg2, hb4⟩
  have HCS4 : Hid (Tris w4 g u) := hid hcs
  clear hcs hg1 hg2
  have HB4 := hid (below_step (HB3.out.alloc (by first | omega | (simp [putRow_size, drewN_heap, drew_heap] <;> omega)) _) (by first | omega | (simp [putRow_size, drewN_heap, drew_heap] <;> omega)) hb4)
  have hs4 : w.heap.size ≤ w4.heap.size := HB4.out.size
  have r4_0 : rowAt w4 (w.heap.size) = some (.cells (tabA p) 25 (0, 0)) := rowNext' hb4 (by rw [rowAt_old _ _ _ (by first | omega | (simp [putRow_size, drewN_heap, drew_heap] <;> omega))]; exact r3_0)
  have c4_0 := lt_of_some r4_0
  have r4_1 : rowAt w4 (w.heap.size + 1) = some (.cells #[.int .i64 f, .int .i64 l, .bool a, .bool i, .bool o, .int .u8 v] 27 (0, 0)) := rowNext' hb4 (by rw [rowAt_old _ _ _ (by first | omega | (simp [putRow_size, drewN_heap, drew_heap] <;> omega))]; exact r3_1)
  have c4_1 := cells6 r4_1
  have r4_2 : rowAt w4 (w.heap.size + 1 + 1) = some (.cells (tabA u) 39 (0, 0)) := rowNext' hb4 (by rw [rowAt_old _ _ _ (by first | omega | (simp [putRow_size, drewN_heap, drew_heap] <;> omega))]; exact r3_2)
  have c4_2 := lt_of_some r4_2
  have r4_3 : rowAt w4 (w1.heap.size) = some (.cells #[.int .i64 c1, .int .u8 c2] 29 (0, 0)) := rowNext' hb4 (by rw [rowAt_old _ _ _ (by first | omega | (simp [putRow_size, drewN_heap, drew_heap] <;> omega))]; exact r3_3)
  have c4_3 := cells2 r4_3
  have r4_4 : rowAt w4 (w2.heap.size) = some (.cells #[.int .i64 f, .int .i64 c1, .bool true, .bool i, .bool o, .int .u8 c2] 27 (0, 0)) := rowNext' hb4 (by rw [rowAt_old _ _ _ (by first | omega | (simp [putRow_size, drewN_heap, drew_heap] <;> omega))]; exact r3_4)
  have c4_4 := cells6 r4_4
  have r4_5 : rowAt w4 (w3.heap.size) = some (.cells (tabA p) 39 (0, 0)) := rowNext' hb4 (by rw [rowAt_new _ _ _ (by first | omega | (simp [putRow_size, drewN_heap, drew_heap] <;> omega))])
  have c4_5 := lt_of_some r4_5
  clear r3_0 c3_0 r3_1 c3_1 r3_2 c3_2 r3_3 c3_3 r3_4 c3_4 hb3 HB3 hs3
  go_wp2_with fail
  refine wp_region_goodw (by kernel_rfl) (by kernel_rfl) ?_
  intro W5 hW5
  have R5_0 : rowAt W5 (w.heap.size) = some (.cells (tabA p) 25 (0, 0)) := by rw [hW5]; exact r4_0
  have R5_1 : rowAt W5 (w.heap.size + 1) = some (.cells #[.int .i64 f, .int .i64 l, .bool a, .bool i, .bool o, .int .u8 v] 27 (0, 0)) := by rw [hW5]; exact r4_1
  have R5_2 : rowAt W5 (w.heap.size + 1 + 1) = some (.cells (tabA u) 39 (0, 0)) := by rw [hW5]; exact r4_2
  have R5_3 : rowAt W5 (w1.heap.size) = some (.cells #[.int .i64 c1, .int .u8 c2] 29 (0, 0)) := by rw [hW5]; exact r4_3
  have R5_4 : rowAt W5 (w2.heap.size) = some (.cells #[.int .i64 f, .int .i64 c1, .bool true, .bool i, .bool o, .int .u8 c2] 27 (0, 0)) := by rw [hW5]; exact r4_4
  have R5_5 : rowAt W5 (w3.heap.size) = some (.cells (tabA p) 39 (0, 0)) := by rw [hW5]; exact r4_5
  have BW5 : Below w.heap.size w W5 := by rw [hW5]; exact HB4.out
  have HCSW : Hid (Tris W5 g u) := hid (by rw [hW5]; exact HCS4.out)
  clear hW5
  have g5_0 := goodRow R5_0
  have cg5_0 := fun x => lt_of_some (g5_0 x)
  have g5_1 := goodRow R5_1
  have cg5_1 := fun x => cells6 (g5_1 x)
  have g5_2 := goodRow R5_2
  have cg5_2 := fun x => lt_of_some (g5_2 x)
  have g5_3 := goodRow R5_3
  have cg5_3 := fun x => cells2 (g5_3 x)
  have g5_4 := goodRow R5_4
  have cg5_4 := fun x => cells6 (g5_4 x)
  have g5_5 := goodRow R5_5
  have cg5_5 := fun x => lt_of_some (g5_5 x)
  iterate 1 (go_big_quiet_step (fail))
  go_big_quiet_step ((go_at_call 21; exact Calls.good (agreeCheck_eq' HP.out _)))
  iterate 2 (go_big_quiet_step (fail))
  go_big_quiet_step ((go_at_call 23; exact Calls.good (refMay9_is HB.out _)))
  iterate 1 (go_big_quiet_step (fail))
  refine wpQuiet_nil ?_
  rintro w5 ⟨⟨_, hb5⟩, rfl⟩
  have HCS5 := hid (HCSW.out.below hb5)
  clear HCSW
  have HB5 := hid (BW5.trans (hb5.mono BW5.size))
  have hs5 : w.heap.size ≤ w5.heap.size := HB5.out.size
  have r5_0 : rowAt w5 (w.heap.size) = some (.cells (tabA p) 25 (0, 0)) := rowNext' hb5 R5_0
  have c5_0 := lt_of_some r5_0
  have r5_1 : rowAt w5 (w.heap.size + 1) = some (.cells #[.int .i64 f, .int .i64 l, .bool a, .bool i, .bool o, .int .u8 v] 27 (0, 0)) := rowNext' hb5 R5_1
  have c5_1 := cells6 r5_1
  have r5_2 : rowAt w5 (w.heap.size + 1 + 1) = some (.cells (tabA u) 39 (0, 0)) := rowNext' hb5 R5_2
  have c5_2 := lt_of_some r5_2
  have r5_3 : rowAt w5 (w1.heap.size) = some (.cells #[.int .i64 c1, .int .u8 c2] 29 (0, 0)) := rowNext' hb5 R5_3
  have c5_3 := cells2 r5_3
  have r5_4 : rowAt w5 (w2.heap.size) = some (.cells #[.int .i64 f, .int .i64 c1, .bool true, .bool i, .bool o, .int .u8 c2] 27 (0, 0)) := rowNext' hb5 R5_4
  have c5_4 := cells6 r5_4
  have r5_5 : rowAt w5 (w3.heap.size) = some (.cells (tabA p) 39 (0, 0)) := rowNext' hb5 R5_5
  have c5_5 := lt_of_some r5_5
  clear R5_0 g5_0 cg5_0 r4_0 c4_0 R5_1 g5_1 cg5_1 r4_1 c4_1 R5_2 g5_2 cg5_2 r4_2 c4_2 R5_3 g5_3 cg5_3 r4_3 c4_3 R5_4 g5_4 cg5_4 r4_4 c4_4 R5_5 g5_5 cg5_5 r4_5 c4_5 hb4 HB4 hs4
  go_wp2_with fail
  refine (refMay9_is HB.out _).mono ?_
  rintro e w6 ⟨rfl, hb6⟩
  have HCS6 := hid (HCS5.out.below hb6)
  have HB6 := hid (below_step HB5.out (by first | omega | (simp [putRow_size, drewN_heap, drew_heap] <;> omega)) hb6)
  have hs6 : w.heap.size ≤ w6.heap.size := HB6.out.size
  have r6_0 : rowAt w6 (w.heap.size) = some (.cells (tabA p) 25 (0, 0)) := rowNext' hb6 r5_0
  have c6_0 := lt_of_some r6_0
  have r6_1 : rowAt w6 (w.heap.size + 1) = some (.cells #[.int .i64 f, .int .i64 l, .bool a, .bool i, .bool o, .int .u8 v] 27 (0, 0)) := rowNext' hb6 r5_1
  have c6_1 := cells6 r6_1
  have r6_2 : rowAt w6 (w.heap.size + 1 + 1) = some (.cells (tabA u) 39 (0, 0)) := rowNext' hb6 r5_2
  have c6_2 := lt_of_some r6_2
  have r6_3 : rowAt w6 (w1.heap.size) = some (.cells #[.int .i64 c1, .int .u8 c2] 29 (0, 0)) := rowNext' hb6 r5_3
  have c6_3 := cells2 r6_3
  have r6_4 : rowAt w6 (w2.heap.size) = some (.cells #[.int .i64 f, .int .i64 c1, .bool true, .bool i, .bool o, .int .u8 c2] 27 (0, 0)) := rowNext' hb6 r5_4
  have c6_4 := cells6 r6_4
  have r6_5 : rowAt w6 (w3.heap.size) = some (.cells (tabA p) 39 (0, 0)) := rowNext' hb6 r5_5
  have c6_5 := lt_of_some r6_5
  clear r5_0 c5_0 r5_1 c5_1 r5_2 c5_2 r5_3 c5_3 r5_4 c5_4 r5_5 c5_5 hb5 HB5 hs5
  go_wp2_with fail
  refine (refMay7_is HT.out a i o v _).mono ?_
  rintro e w7 ⟨rfl, hb7⟩
  have HCS7 := hid (HCS6.out.below hb7)
  have HB7 := hid (below_step HB6.out (by first | omega | (simp [putRow_size, drewN_heap, drew_heap] <;> omega)) hb7)
  have hs7 : w.heap.size ≤ w7.heap.size := HB7.out.size
  have r7_0 : rowAt w7 (w.heap.size) = some (.cells (tabA p) 25 (0, 0)) := rowNext' hb7 r6_0
  have c7_0 := lt_of_some r7_0
  have r7_1 : rowAt w7 (w.heap.size + 1) = some (.cells #[.int .i64 f, .int .i64 l, .bool a, .bool i, .bool o, .int .u8 v] 27 (0, 0)) := rowNext' hb7 r6_1
  have c7_1 := cells6 r7_1
  have r7_2 : rowAt w7 (w.heap.size + 1 + 1) = some (.cells (tabA u) 39 (0, 0)) := rowNext' hb7 r6_2
  have c7_2 := lt_of_some r7_2
  have r7_3 : rowAt w7 (w1.heap.size) = some (.cells #[.int .i64 c1, .int .u8 c2] 29 (0, 0)) := rowNext' hb7 r6_3
  have c7_3 := cells2 r7_3
  have r7_4 : rowAt w7 (w2.heap.size) = some (.cells #[.int .i64 f, .int .i64 c1, .bool true, .bool i, .bool o, .int .u8 c2] 27 (0, 0)) := rowNext' hb7 r6_4
  have c7_4 := cells6 r7_4
  have r7_5 : rowAt w7 (w3.heap.size) = some (.cells (tabA p) 39 (0, 0)) := rowNext' hb7 r6_5
  have c7_5 := lt_of_some r7_5
  clear r6_0 c6_0 r6_1 c6_1 r6_2 c6_2 r6_3 c6_3 r6_4 c6_4 r6_5 c6_5 hb6 HB6 hs6
  go_wp2_with fail
  refine wp_region_goodw (by kernel_rfl) (by kernel_rfl) ?_
  intro W8 hW8
  have R8_0 : rowAt W8 (w.heap.size) = some (.cells (tabA p) 25 (0, 0)) := by rw [hW8]; exact r7_0
  have R8_1 : rowAt W8 (w.heap.size + 1) = some (.cells #[.int .i64 f, .int .i64 l, .bool a, .bool i, .bool o, .int .u8 v] 27 (0, 0)) := by rw [hW8]; exact r7_1
  have R8_2 : rowAt W8 (w.heap.size + 1 + 1) = some (.cells (tabA u) 39 (0, 0)) := by rw [hW8]; exact r7_2
  have R8_3 : rowAt W8 (w1.heap.size) = some (.cells #[.int .i64 c1, .int .u8 c2] 29 (0, 0)) := by rw [hW8]; exact r7_3
  have R8_4 : rowAt W8 (w2.heap.size) = some (.cells #[.int .i64 f, .int .i64 c1, .bool true, .bool i, .bool o, .int .u8 c2] 27 (0, 0)) := by rw [hW8]; exact r7_4
  have R8_5 : rowAt W8 (w3.heap.size) = some (.cells (tabA p) 39 (0, 0)) := by rw [hW8]; exact r7_5
  have BW8 : Below w.heap.size w W8 := by rw [hW8]; exact HB7.out
  have HCSW : Hid (Tris W8 g u) := hid (by rw [hW8]; exact HCS7.out)
  clear hW8
  have g8_0 := goodRow R8_0
  have cg8_0 := fun x => lt_of_some (g8_0 x)
  have g8_1 := goodRow R8_1
  have cg8_1 := fun x => cells6 (g8_1 x)
  have g8_2 := goodRow R8_2
  have cg8_2 := fun x => lt_of_some (g8_2 x)
  have g8_3 := goodRow R8_3
  have cg8_3 := fun x => cells2 (g8_3 x)
  have g8_4 := goodRow R8_4
  have cg8_4 := fun x => cells6 (g8_4 x)
  have g8_5 := goodRow R8_5
  have cg8_5 := fun x => lt_of_some (g8_5 x)
  iterate 3 (go_big_quiet_step (fail))
  go_big_quiet_step ((go_at_call 25; exact Calls.good (refSettle9 H1.out a i o _)))
  iterate 5 (go_big_quiet_step (fail))
  go_big_quiet_step ((go_at_call 26; exact Calls.good (refAnswer9 H1.out a i o _)))
  iterate 10 (go_big_quiet_step (fail))
  refine wpQuiet_nil ?_
  rintro w8 ⟨⟨_, hb8⟩, rfl⟩
  have HCS8 := hid (HCSW.out.below hb8)
  clear HCSW
  have HB8 := hid (BW8.trans (hb8.mono BW8.size))
  have hs8 : w.heap.size ≤ w8.heap.size := HB8.out.size
  have r8_0 : rowAt w8 (w.heap.size) = some (.cells (tabA p) 25 (0, 0)) := rowNext' hb8 R8_0
  have c8_0 := lt_of_some r8_0
  have r8_1 : rowAt w8 (w.heap.size + 1) = some (.cells #[.int .i64 f, .int .i64 l, .bool a, .bool i, .bool o, .int .u8 v] 27 (0, 0)) := rowNext' hb8 R8_1
  have c8_1 := cells6 r8_1
  have r8_2 : rowAt w8 (w.heap.size + 1 + 1) = some (.cells (tabA u) 39 (0, 0)) := rowNext' hb8 R8_2
  have c8_2 := lt_of_some r8_2
  have r8_3 : rowAt w8 (w1.heap.size) = some (.cells #[.int .i64 c1, .int .u8 c2] 29 (0, 0)) := rowNext' hb8 R8_3
  have c8_3 := cells2 r8_3
  have r8_4 : rowAt w8 (w2.heap.size) = some (.cells #[.int .i64 f, .int .i64 c1, .bool true, .bool i, .bool o, .int .u8 c2] 27 (0, 0)) := rowNext' hb8 R8_4
  have c8_4 := cells6 r8_4
  have r8_5 : rowAt w8 (w3.heap.size) = some (.cells (tabA p) 39 (0, 0)) := rowNext' hb8 R8_5
  have c8_5 := lt_of_some r8_5
  clear R8_0 g8_0 cg8_0 r7_0 c7_0 R8_1 g8_1 cg8_1 r7_1 c7_1 R8_2 g8_2 cg8_2 r7_2 c7_2 R8_3 g8_3 cg8_3 r7_3 c7_3 R8_4 g8_4 cg8_4 r7_4 c7_4 R8_5 g8_5 cg8_5 r7_5 c7_5 hb7 HB7 hs7
  go_wp2_with fail
  refine wp_region_goodw (by kernel_rfl) (by kernel_rfl) ?_
  intro W9 hW9
  have R9_0 : rowAt W9 (w.heap.size) = some (.cells (tabA p) 25 (0, 0)) := by rw [hW9]; exact r8_0
  have R9_1 : rowAt W9 (w.heap.size + 1) = some (.cells #[.int .i64 f, .int .i64 l, .bool a, .bool i, .bool o, .int .u8 v] 27 (0, 0)) := by rw [hW9]; exact r8_1
  have R9_2 : rowAt W9 (w.heap.size + 1 + 1) = some (.cells (tabA u) 39 (0, 0)) := by rw [hW9]; exact r8_2
  have R9_3 : rowAt W9 (w1.heap.size) = some (.cells #[.int .i64 c1, .int .u8 c2] 29 (0, 0)) := by rw [hW9]; exact r8_3
  have R9_4 : rowAt W9 (w2.heap.size) = some (.cells #[.int .i64 f, .int .i64 c1, .bool true, .bool i, .bool o, .int .u8 c2] 27 (0, 0)) := by rw [hW9]; exact r8_4
  have R9_5 : rowAt W9 (w3.heap.size) = some (.cells (tabA p) 39 (0, 0)) := by rw [hW9]; exact r8_5
  have BW9 : Below w.heap.size w W9 := by rw [hW9]; exact HB8.out
  have HCSW : Hid (Tris W9 g u) := hid (by rw [hW9]; exact HCS8.out)
  clear hW9
  have g9_0 := goodRow R9_0
  have cg9_0 := fun x => lt_of_some (g9_0 x)
  have g9_1 := goodRow R9_1
  have cg9_1 := fun x => cells6 (g9_1 x)
  have g9_2 := goodRow R9_2
  have cg9_2 := fun x => lt_of_some (g9_2 x)
  have g9_3 := goodRow R9_3
  have cg9_3 := fun x => cells2 (g9_3 x)
  have g9_4 := goodRow R9_4
  have cg9_4 := fun x => cells6 (g9_4 x)
  have g9_5 := goodRow R9_5
  have cg9_5 := fun x => lt_of_some (g9_5 x)
  iterate 1 (go_big_quiet_step (fail))
  go_big_quiet_step ((go_at_call 23; exact Calls.good (refMay9_is HB.out _)))
  iterate 12 (go_big_quiet_step (fail))
  go_big_quiet_step ((go_at_call 23; exact Calls.good (refMay9_is HB.out _)))
  iterate 3 (go_big_quiet_step (fail))
  go_big_quiet_step ((go_at_call 27; exact Calls.good (refFirst9 (tabErr_ok HP.out) _)))
  iterate 7 (go_big_quiet_step (fail))
  refine wpQuiet_nil ?_
  rintro w9 ⟨⟨_, hb9⟩, rfl⟩
  have HCS9 := hid (HCSW.out.below hb9)
  clear HCSW
  have HB9 := hid (BW9.trans (hb9.mono BW9.size))
  have hs9 : w.heap.size ≤ w9.heap.size := HB9.out.size
  have r9_0 : rowAt w9 (w.heap.size) = some (.cells (tabA p) 25 (0, 0)) := rowNext' hb9 R9_0
  have c9_0 := lt_of_some r9_0
  have r9_1 : rowAt w9 (w.heap.size + 1) = some (.cells #[.int .i64 f, .int .i64 l, .bool a, .bool i, .bool o, .int .u8 v] 27 (0, 0)) := rowNext' hb9 R9_1
  have c9_1 := cells6 r9_1
  have r9_2 : rowAt w9 (w.heap.size + 1 + 1) = some (.cells (tabA u) 39 (0, 0)) := rowNext' hb9 R9_2
  have c9_2 := lt_of_some r9_2
  have r9_3 : rowAt w9 (w1.heap.size) = some (.cells #[.int .i64 c1, .int .u8 c2] 29 (0, 0)) := rowNext' hb9 R9_3
  have c9_3 := cells2 r9_3
  have r9_4 : rowAt w9 (w2.heap.size) = some (.cells #[.int .i64 f, .int .i64 c1, .bool true, .bool i, .bool o, .int .u8 c2] 27 (0, 0)) := rowNext' hb9 R9_4
  have c9_4 := cells6 r9_4
  have r9_5 : rowAt w9 (w3.heap.size) = some (.cells (tabA p) 39 (0, 0)) := rowNext' hb9 R9_5
  have c9_5 := lt_of_some r9_5
  clear R9_0 g9_0 cg9_0 r8_0 c8_0 R9_1 g9_1 cg9_1 r8_1 c8_1 R9_2 g9_2 cg9_2 r8_2 c8_2 R9_3 g9_3 cg9_3 r8_3 c8_3 R9_4 g9_4 cg9_4 r8_4 c8_4 R9_5 g9_5 cg9_5 r8_5 c8_5 hb8 HB8 hs8
  go_wp2_with fail
  refine (refMay_is9 HV.out _).mono ?_
  rintro e w10 ⟨rfl, hb10⟩
  have HCS10 := hid (HCS9.out.below hb10)
  have HB10 := hid (below_step HB9.out (by first | omega | (simp [putRow_size, drewN_heap, drew_heap] <;> omega)) hb10)
  have hs10 : w.heap.size ≤ w10.heap.size := HB10.out.size
  have r10_0 : rowAt w10 (w.heap.size) = some (.cells (tabA p) 25 (0, 0)) := rowNext' hb10 r9_0
  have c10_0 := lt_of_some r10_0
  have r10_1 : rowAt w10 (w.heap.size + 1) = some (.cells #[.int .i64 f, .int .i64 l, .bool a, .bool i, .bool o, .int .u8 v] 27 (0, 0)) := rowNext' hb10 r9_1
  have c10_1 := cells6 r10_1
  have r10_2 : rowAt w10 (w.heap.size + 1 + 1) = some (.cells (tabA u) 39 (0, 0)) := rowNext' hb10 r9_2
  have c10_2 := lt_of_some r10_2
  have r10_3 : rowAt w10 (w1.heap.size) = some (.cells #[.int .i64 c1, .int .u8 c2] 29 (0, 0)) := rowNext' hb10 r9_3
  have c10_3 := cells2 r10_3
  have r10_4 : rowAt w10 (w2.heap.size) = some (.cells #[.int .i64 f, .int .i64 c1, .bool true, .bool i, .bool o, .int .u8 c2] 27 (0, 0)) := rowNext' hb10 r9_4
  have c10_4 := cells6 r10_4
  have r10_5 : rowAt w10 (w3.heap.size) = some (.cells (tabA p) 39 (0, 0)) := rowNext' hb10 r9_5
  have c10_5 := lt_of_some r10_5
  clear r9_0 c9_0 r9_1 c9_1 r9_2 c9_2 r9_3 c9_3 r9_4 c9_4 r9_5 c9_5 hb9 HB9 hs9
  go_wp2_with fail
  refine (refWhole9 u _).mono ?_
  rintro e w11 ⟨g', cp, rfl, hcs', hb11⟩
  have HCSX := hid (HCS10.out.below hb11)
  have HCSY : Hid (Tris w11 g' u) := hid hcs'
  clear hcs'
  have HB11 := hid (below_step HB10.out (by first | omega | (simp [putRow_size, drewN_heap, drew_heap] <;> omega)) hb11)
  have hs11 : w.heap.size ≤ w11.heap.size := HB11.out.size
  have r11_0 : rowAt w11 (w.heap.size) = some (.cells (tabA p) 25 (0, 0)) := rowNext' hb11 r10_0
  have c11_0 := lt_of_some r11_0
  have r11_1 : rowAt w11 (w.heap.size + 1) = some (.cells #[.int .i64 f, .int .i64 l, .bool a, .bool i, .bool o, .int .u8 v] 27 (0, 0)) := rowNext' hb11 r10_1
  have c11_1 := cells6 r11_1
  have r11_2 : rowAt w11 (w.heap.size + 1 + 1) = some (.cells (tabA u) 39 (0, 0)) := rowNext' hb11 r10_2
  have c11_2 := lt_of_some r11_2
  have r11_3 : rowAt w11 (w1.heap.size) = some (.cells #[.int .i64 c1, .int .u8 c2] 29 (0, 0)) := rowNext' hb11 r10_3
  have c11_3 := cells2 r11_3
  have r11_4 : rowAt w11 (w2.heap.size) = some (.cells #[.int .i64 f, .int .i64 c1, .bool true, .bool i, .bool o, .int .u8 c2] 27 (0, 0)) := rowNext' hb11 r10_4
  have c11_4 := cells6 r11_4
  have r11_5 : rowAt w11 (w3.heap.size) = some (.cells (tabA p) 39 (0, 0)) := rowNext' hb11 r10_5
  have c11_5 := lt_of_some r11_5
  clear r10_0 c10_0 r10_1 c10_1 r10_2 c10_2 r10_3 c10_3 r10_4 c10_4 r10_5 c10_5 hb10 HB10 hs10
  go_wp2_with fail
  refine (refSame u g g' 31 cp _ HCSX.out HCSY.out).mono ?_
  rintro e w12 ⟨rfl, hb12⟩
  have HB12 := hid (below_step HB11.out (by first | omega | (simp [putRow_size, drewN_heap, drew_heap] <;> omega)) hb12)
  have hs12 : w.heap.size ≤ w12.heap.size := HB12.out.size
  have r12_0 : rowAt w12 (w.heap.size) = some (.cells (tabA p) 25 (0, 0)) := rowNext' hb12 r11_0
  have c12_0 := lt_of_some r12_0
  have r12_1 : rowAt w12 (w.heap.size + 1) = some (.cells #[.int .i64 f, .int .i64 l, .bool a, .bool i, .bool o, .int .u8 v] 27 (0, 0)) := rowNext' hb12 r11_1
  have c12_1 := cells6 r12_1
  have r12_2 : rowAt w12 (w.heap.size + 1 + 1) = some (.cells (tabA u) 39 (0, 0)) := rowNext' hb12 r11_2
  have c12_2 := lt_of_some r12_2
  have r12_3 : rowAt w12 (w1.heap.size) = some (.cells #[.int .i64 c1, .int .u8 c2] 29 (0, 0)) := rowNext' hb12 r11_3
  have c12_3 := cells2 r12_3
  have r12_4 : rowAt w12 (w2.heap.size) = some (.cells #[.int .i64 f, .int .i64 c1, .bool true, .bool i, .bool o, .int .u8 c2] 27 (0, 0)) := rowNext' hb12 r11_4
  have c12_4 := cells6 r12_4
  have r12_5 : rowAt w12 (w3.heap.size) = some (.cells (tabA p) 39 (0, 0)) := rowNext' hb12 r11_5
  have c12_5 := lt_of_some r12_5
  clear r11_0 c11_0 r11_1 c11_1 r11_2 c11_2 r11_3 c11_3 r11_4 c11_4 r11_5 c11_5 hb11 HB11 hs11
  go_wp2_with fail
  refine (awake9 _).mono ?_
  rintro e w13 ⟨rfl, hb13⟩
  have HB13 := hid (below_step HB12.out (by first | omega | (simp [putRow_size, drewN_heap, drew_heap] <;> omega)) hb13)
  have hs13 : w.heap.size ≤ w13.heap.size := HB13.out.size
  have r13_0 : rowAt w13 (w.heap.size) = some (.cells (tabA p) 25 (0, 0)) := rowNext' hb13 r12_0
  have c13_0 := lt_of_some r13_0
  have r13_1 : rowAt w13 (w.heap.size + 1) = some (.cells #[.int .i64 f, .int .i64 l, .bool a, .bool i, .bool o, .int .u8 v] 27 (0, 0)) := rowNext' hb13 r12_1
  have c13_1 := cells6 r13_1
  have r13_2 : rowAt w13 (w.heap.size + 1 + 1) = some (.cells (tabA u) 39 (0, 0)) := rowNext' hb13 r12_2
  have c13_2 := lt_of_some r13_2
  have r13_3 : rowAt w13 (w1.heap.size) = some (.cells #[.int .i64 c1, .int .u8 c2] 29 (0, 0)) := rowNext' hb13 r12_3
  have c13_3 := cells2 r13_3
  have r13_4 : rowAt w13 (w2.heap.size) = some (.cells #[.int .i64 f, .int .i64 c1, .bool true, .bool i, .bool o, .int .u8 c2] 27 (0, 0)) := rowNext' hb13 r12_4
  have c13_4 := cells6 r13_4
  have r13_5 : rowAt w13 (w3.heap.size) = some (.cells (tabA p) 39 (0, 0)) := rowNext' hb13 r12_5
  have c13_5 := lt_of_some r13_5
  clear r12_0 c12_0 r12_1 c12_1 r12_2 c12_2 r12_3 c12_3 r12_4 c12_4 r12_5 c12_5 hb12 HB12 hs12
  go_wp2_with fail
  go_ret
  exact ⟨rfl, HB13.out⟩

set_option maxHeartbeats 2000000 in
set_option maxRecDepth 100000 in
theorem at_ptn (p u : Tb) (f l v : Int) (a i o : Bool) (c1 c2 : Int) (H1 : Hid (settle p f l v = ((c1, c2), 0))) (HP : Hid (tabErr p = 0)) (HB : Hid (decide (tabOk p) = true)) (HT : Hid (decide (trOk f l) = true)) (HU : Hid (tabErr u = 1)) (HV : Hid (decide (tabOk u) = false)) (w : World) :
    Calls Try.prog 8 #[.agg (tabA p), .agg #[.int .i64 f, .int .i64 l, .bool a, .bool i, .bool o, .int .u8 v], .agg (tabA u)] w fun e w' => e = .returned (.bool true) ∧ Below w.heap.size w w' := by
  go_enter Try.func8, Try.ntmps8
  go_wp2_with fail
  refine (settle_eq H1.out a i o _).mono ?_
  rintro e w1 ⟨rfl, hb1⟩
  have HB1 := hid (below_step ((((Below.refl w.heap.size w).alloc (by first | omega | (simp [putRow_size, drewN_heap, drew_heap] <;> omega)) _).alloc (by first | omega | (simp [putRow_size, drewN_heap, drew_heap] <;> omega)) _).alloc (by first | omega | (simp [putRow_size, drewN_heap, drew_heap] <;> omega)) _) (by first | omega | (simp [putRow_size, drewN_heap, drew_heap] <;> omega)) hb1)
  have hs1 : w.heap.size ≤ w1.heap.size := HB1.out.size
  have r1_0 : rowAt w1 (w.heap.size) = some (.cells (tabA p) 25 (0, 0)) := rowNext' hb1 (by rw [rowAt_old _ _ _ (by first | omega | (simp [putRow_size, drewN_heap, drew_heap] <;> omega)), rowAt_old _ _ _ (by first | omega | (simp [putRow_size, drewN_heap, drew_heap] <;> omega)), rowAt_new _ _ _ (by first | omega | (simp [putRow_size, drewN_heap, drew_heap] <;> omega))])
  have c1_0 := lt_of_some r1_0
  have r1_1 : rowAt w1 (w.heap.size + 1) = some (.cells #[.int .i64 f, .int .i64 l, .bool a, .bool i, .bool o, .int .u8 v] 27 (0, 0)) := rowNext' hb1 (by rw [rowAt_old _ _ _ (by first | omega | (simp [putRow_size, drewN_heap, drew_heap] <;> omega)), rowAt_new _ _ _ (by first | omega | (simp [putRow_size, drewN_heap, drew_heap] <;> omega))])
  have c1_1 := cells6 r1_1
  have r1_2 : rowAt w1 (w.heap.size + 1 + 1) = some (.cells (tabA u) 39 (0, 0)) := rowNext' hb1 (by rw [rowAt_new _ _ _ (by first | omega | (simp [putRow_size, drewN_heap, drew_heap] <;> omega))])
  have c1_2 := lt_of_some r1_2
  go_wp2_with fail
  refine (answer_ok _ _ _ _ a i o _ _ H1 _).mono ?_
  rintro e w2 ⟨rfl, hb2⟩
  have HB2 := hid (below_step (HB1.out.alloc (by first | omega | (simp [putRow_size, drewN_heap, drew_heap] <;> omega)) _) (by first | omega | (simp [putRow_size, drewN_heap, drew_heap] <;> omega)) hb2)
  have hs2 : w.heap.size ≤ w2.heap.size := HB2.out.size
  have r2_0 : rowAt w2 (w.heap.size) = some (.cells (tabA p) 25 (0, 0)) := rowNext' hb2 (by rw [rowAt_old _ _ _ (by first | omega | (simp [putRow_size, drewN_heap, drew_heap] <;> omega))]; exact r1_0)
  have c2_0 := lt_of_some r2_0
  have r2_1 : rowAt w2 (w.heap.size + 1) = some (.cells #[.int .i64 f, .int .i64 l, .bool a, .bool i, .bool o, .int .u8 v] 27 (0, 0)) := rowNext' hb2 (by rw [rowAt_old _ _ _ (by first | omega | (simp [putRow_size, drewN_heap, drew_heap] <;> omega))]; exact r1_1)
  have c2_1 := cells6 r2_1
  have r2_2 : rowAt w2 (w.heap.size + 1 + 1) = some (.cells (tabA u) 39 (0, 0)) := rowNext' hb2 (by rw [rowAt_old _ _ _ (by first | omega | (simp [putRow_size, drewN_heap, drew_heap] <;> omega))]; exact r1_2)
  have c2_2 := lt_of_some r2_2
  have r2_3 : rowAt w2 (w1.heap.size) = some (.cells #[.int .i64 c1, .int .u8 c2] 29 (0, 0)) := rowNext' hb2 (by rw [rowAt_new _ _ _ (by first | omega | (simp [putRow_size, drewN_heap, drew_heap] <;> omega))])
  have c2_3 := cells2 r2_3
  clear r1_0 c1_0 r1_1 c1_1 r1_2 c1_2 hb1 HB1 hs1
  go_wp2_with fail
  refine (first_ok p HP.out _).mono ?_
  rintro e w3 ⟨rfl, hb3⟩
  have HB3 := hid (below_step (HB2.out.alloc (by first | omega | (simp [putRow_size, drewN_heap, drew_heap] <;> omega)) _) (by first | omega | (simp [putRow_size, drewN_heap, drew_heap] <;> omega)) hb3)
  have hs3 : w.heap.size ≤ w3.heap.size := HB3.out.size
  have r3_0 : rowAt w3 (w.heap.size) = some (.cells (tabA p) 25 (0, 0)) := rowNext' hb3 (by rw [rowAt_old _ _ _ (by first | omega | (simp [putRow_size, drewN_heap, drew_heap] <;> omega))]; exact r2_0)
  have c3_0 := lt_of_some r3_0
  have r3_1 : rowAt w3 (w.heap.size + 1) = some (.cells #[.int .i64 f, .int .i64 l, .bool a, .bool i, .bool o, .int .u8 v] 27 (0, 0)) := rowNext' hb3 (by rw [rowAt_old _ _ _ (by first | omega | (simp [putRow_size, drewN_heap, drew_heap] <;> omega))]; exact r2_1)
  have c3_1 := cells6 r3_1
  have r3_2 : rowAt w3 (w.heap.size + 1 + 1) = some (.cells (tabA u) 39 (0, 0)) := rowNext' hb3 (by rw [rowAt_old _ _ _ (by first | omega | (simp [putRow_size, drewN_heap, drew_heap] <;> omega))]; exact r2_2)
  have c3_2 := lt_of_some r3_2
  have r3_3 : rowAt w3 (w1.heap.size) = some (.cells #[.int .i64 c1, .int .u8 c2] 29 (0, 0)) := rowNext' hb3 (by rw [rowAt_old _ _ _ (by first | omega | (simp [putRow_size, drewN_heap, drew_heap] <;> omega))]; exact r2_3)
  have c3_3 := cells2 r3_3
  have r3_4 : rowAt w3 (w2.heap.size) = some (.cells #[.int .i64 f, .int .i64 c1, .bool true, .bool i, .bool o, .int .u8 c2] 27 (0, 0)) := rowNext' hb3 (by rw [rowAt_new _ _ _ (by first | omega | (simp [putRow_size, drewN_heap, drew_heap] <;> omega))])
  have c3_4 := cells6 r3_4
  clear r2_0 c2_0 r2_1 c2_1 r2_2 c2_2 r2_3 c2_3 hb2 HB2 hs2
  go_wp2_with fail
  refine (whole_no u HU.out _).mono ?_
  rintro e w4 ⟨rfl, hb4⟩
  have HB4 := hid (below_step (HB3.out.alloc (by first | omega | (simp [putRow_size, drewN_heap, drew_heap] <;> omega)) _) (by first | omega | (simp [putRow_size, drewN_heap, drew_heap] <;> omega)) hb4)
  have hs4 : w.heap.size ≤ w4.heap.size := HB4.out.size
  have r4_0 : rowAt w4 (w.heap.size) = some (.cells (tabA p) 25 (0, 0)) := rowNext' hb4 (by rw [rowAt_old _ _ _ (by first | omega | (simp [putRow_size, drewN_heap, drew_heap] <;> omega))]; exact r3_0)
  have c4_0 := lt_of_some r4_0
  have r4_1 : rowAt w4 (w.heap.size + 1) = some (.cells #[.int .i64 f, .int .i64 l, .bool a, .bool i, .bool o, .int .u8 v] 27 (0, 0)) := rowNext' hb4 (by rw [rowAt_old _ _ _ (by first | omega | (simp [putRow_size, drewN_heap, drew_heap] <;> omega))]; exact r3_1)
  have c4_1 := cells6 r4_1
  have r4_2 : rowAt w4 (w.heap.size + 1 + 1) = some (.cells (tabA u) 39 (0, 0)) := rowNext' hb4 (by rw [rowAt_old _ _ _ (by first | omega | (simp [putRow_size, drewN_heap, drew_heap] <;> omega))]; exact r3_2)
  have c4_2 := lt_of_some r4_2
  have r4_3 : rowAt w4 (w1.heap.size) = some (.cells #[.int .i64 c1, .int .u8 c2] 29 (0, 0)) := rowNext' hb4 (by rw [rowAt_old _ _ _ (by first | omega | (simp [putRow_size, drewN_heap, drew_heap] <;> omega))]; exact r3_3)
  have c4_3 := cells2 r4_3
  have r4_4 : rowAt w4 (w2.heap.size) = some (.cells #[.int .i64 f, .int .i64 c1, .bool true, .bool i, .bool o, .int .u8 c2] 27 (0, 0)) := rowNext' hb4 (by rw [rowAt_old _ _ _ (by first | omega | (simp [putRow_size, drewN_heap, drew_heap] <;> omega))]; exact r3_4)
  have c4_4 := cells6 r4_4
  have r4_5 : rowAt w4 (w3.heap.size) = some (.cells (tabA p) 39 (0, 0)) := rowNext' hb4 (by rw [rowAt_new _ _ _ (by first | omega | (simp [putRow_size, drewN_heap, drew_heap] <;> omega))])
  have c4_5 := lt_of_some r4_5
  clear r3_0 c3_0 r3_1 c3_1 r3_2 c3_2 r3_3 c3_3 r3_4 c3_4 hb3 HB3 hs3
  go_wp2_with fail
  refine wp_region_goodw (by kernel_rfl) (by kernel_rfl) ?_
  intro W5 hW5
  have R5_0 : rowAt W5 (w.heap.size) = some (.cells (tabA p) 25 (0, 0)) := by rw [hW5]; exact r4_0
  have R5_1 : rowAt W5 (w.heap.size + 1) = some (.cells #[.int .i64 f, .int .i64 l, .bool a, .bool i, .bool o, .int .u8 v] 27 (0, 0)) := by rw [hW5]; exact r4_1
  have R5_2 : rowAt W5 (w.heap.size + 1 + 1) = some (.cells (tabA u) 39 (0, 0)) := by rw [hW5]; exact r4_2
  have R5_3 : rowAt W5 (w1.heap.size) = some (.cells #[.int .i64 c1, .int .u8 c2] 29 (0, 0)) := by rw [hW5]; exact r4_3
  have R5_4 : rowAt W5 (w2.heap.size) = some (.cells #[.int .i64 f, .int .i64 c1, .bool true, .bool i, .bool o, .int .u8 c2] 27 (0, 0)) := by rw [hW5]; exact r4_4
  have R5_5 : rowAt W5 (w3.heap.size) = some (.cells (tabA p) 39 (0, 0)) := by rw [hW5]; exact r4_5
  have BW5 : Below w.heap.size w W5 := by rw [hW5]; exact HB4.out
  clear hW5
  have g5_0 := goodRow R5_0
  have cg5_0 := fun x => lt_of_some (g5_0 x)
  have g5_1 := goodRow R5_1
  have cg5_1 := fun x => cells6 (g5_1 x)
  have g5_2 := goodRow R5_2
  have cg5_2 := fun x => lt_of_some (g5_2 x)
  have g5_3 := goodRow R5_3
  have cg5_3 := fun x => cells2 (g5_3 x)
  have g5_4 := goodRow R5_4
  have cg5_4 := fun x => cells6 (g5_4 x)
  have g5_5 := goodRow R5_5
  have cg5_5 := fun x => lt_of_some (g5_5 x)
  iterate 1 (go_big_quiet_step (fail))
  go_big_quiet_step ((go_at_call 21; exact Calls.good (agreeCheck_eq' HP.out _)))
  iterate 2 (go_big_quiet_step (fail))
  go_big_quiet_step ((go_at_call 23; exact Calls.good (refMay9_is HB.out _)))
  iterate 1 (go_big_quiet_step (fail))
  refine wpQuiet_nil ?_
  rintro w5 ⟨⟨_, hb5⟩, rfl⟩
  have HB5 := hid (BW5.trans (hb5.mono BW5.size))
  have hs5 : w.heap.size ≤ w5.heap.size := HB5.out.size
  have r5_0 : rowAt w5 (w.heap.size) = some (.cells (tabA p) 25 (0, 0)) := rowNext' hb5 R5_0
  have c5_0 := lt_of_some r5_0
  have r5_1 : rowAt w5 (w.heap.size + 1) = some (.cells #[.int .i64 f, .int .i64 l, .bool a, .bool i, .bool o, .int .u8 v] 27 (0, 0)) := rowNext' hb5 R5_1
  have c5_1 := cells6 r5_1
  have r5_2 : rowAt w5 (w.heap.size + 1 + 1) = some (.cells (tabA u) 39 (0, 0)) := rowNext' hb5 R5_2
  have c5_2 := lt_of_some r5_2
  have r5_3 : rowAt w5 (w1.heap.size) = some (.cells #[.int .i64 c1, .int .u8 c2] 29 (0, 0)) := rowNext' hb5 R5_3
  have c5_3 := cells2 r5_3
  have r5_4 : rowAt w5 (w2.heap.size) = some (.cells #[.int .i64 f, .int .i64 c1, .bool true, .bool i, .bool o, .int .u8 c2] 27 (0, 0)) := rowNext' hb5 R5_4
  have c5_4 := cells6 r5_4
  have r5_5 : rowAt w5 (w3.heap.size) = some (.cells (tabA p) 39 (0, 0)) := rowNext' hb5 R5_5
  have c5_5 := lt_of_some r5_5
  clear R5_0 g5_0 cg5_0 r4_0 c4_0 R5_1 g5_1 cg5_1 r4_1 c4_1 R5_2 g5_2 cg5_2 r4_2 c4_2 R5_3 g5_3 cg5_3 r4_3 c4_3 R5_4 g5_4 cg5_4 r4_4 c4_4 R5_5 g5_5 cg5_5 r4_5 c4_5 hb4 HB4 hs4
  go_wp2_with fail
  refine (refMay9_is HB.out _).mono ?_
  rintro e w6 ⟨rfl, hb6⟩
  have HB6 := hid (below_step HB5.out (by first | omega | (simp [putRow_size, drewN_heap, drew_heap] <;> omega)) hb6)
  have hs6 : w.heap.size ≤ w6.heap.size := HB6.out.size
  have r6_0 : rowAt w6 (w.heap.size) = some (.cells (tabA p) 25 (0, 0)) := rowNext' hb6 r5_0
  have c6_0 := lt_of_some r6_0
  have r6_1 : rowAt w6 (w.heap.size + 1) = some (.cells #[.int .i64 f, .int .i64 l, .bool a, .bool i, .bool o, .int .u8 v] 27 (0, 0)) := rowNext' hb6 r5_1
  have c6_1 := cells6 r6_1
  have r6_2 : rowAt w6 (w.heap.size + 1 + 1) = some (.cells (tabA u) 39 (0, 0)) := rowNext' hb6 r5_2
  have c6_2 := lt_of_some r6_2
  have r6_3 : rowAt w6 (w1.heap.size) = some (.cells #[.int .i64 c1, .int .u8 c2] 29 (0, 0)) := rowNext' hb6 r5_3
  have c6_3 := cells2 r6_3
  have r6_4 : rowAt w6 (w2.heap.size) = some (.cells #[.int .i64 f, .int .i64 c1, .bool true, .bool i, .bool o, .int .u8 c2] 27 (0, 0)) := rowNext' hb6 r5_4
  have c6_4 := cells6 r6_4
  have r6_5 : rowAt w6 (w3.heap.size) = some (.cells (tabA p) 39 (0, 0)) := rowNext' hb6 r5_5
  have c6_5 := lt_of_some r6_5
  clear r5_0 c5_0 r5_1 c5_1 r5_2 c5_2 r5_3 c5_3 r5_4 c5_4 r5_5 c5_5 hb5 HB5 hs5
  go_wp2_with fail
  refine (refMay7_is HT.out a i o v _).mono ?_
  rintro e w7 ⟨rfl, hb7⟩
  have HB7 := hid (below_step HB6.out (by first | omega | (simp [putRow_size, drewN_heap, drew_heap] <;> omega)) hb7)
  have hs7 : w.heap.size ≤ w7.heap.size := HB7.out.size
  have r7_0 : rowAt w7 (w.heap.size) = some (.cells (tabA p) 25 (0, 0)) := rowNext' hb7 r6_0
  have c7_0 := lt_of_some r7_0
  have r7_1 : rowAt w7 (w.heap.size + 1) = some (.cells #[.int .i64 f, .int .i64 l, .bool a, .bool i, .bool o, .int .u8 v] 27 (0, 0)) := rowNext' hb7 r6_1
  have c7_1 := cells6 r7_1
  have r7_2 : rowAt w7 (w.heap.size + 1 + 1) = some (.cells (tabA u) 39 (0, 0)) := rowNext' hb7 r6_2
  have c7_2 := lt_of_some r7_2
  have r7_3 : rowAt w7 (w1.heap.size) = some (.cells #[.int .i64 c1, .int .u8 c2] 29 (0, 0)) := rowNext' hb7 r6_3
  have c7_3 := cells2 r7_3
  have r7_4 : rowAt w7 (w2.heap.size) = some (.cells #[.int .i64 f, .int .i64 c1, .bool true, .bool i, .bool o, .int .u8 c2] 27 (0, 0)) := rowNext' hb7 r6_4
  have c7_4 := cells6 r7_4
  have r7_5 : rowAt w7 (w3.heap.size) = some (.cells (tabA p) 39 (0, 0)) := rowNext' hb7 r6_5
  have c7_5 := lt_of_some r7_5
  clear r6_0 c6_0 r6_1 c6_1 r6_2 c6_2 r6_3 c6_3 r6_4 c6_4 r6_5 c6_5 hb6 HB6 hs6
  go_wp2_with fail
  refine wp_region_goodw (by kernel_rfl) (by kernel_rfl) ?_
  intro W8 hW8
  have R8_0 : rowAt W8 (w.heap.size) = some (.cells (tabA p) 25 (0, 0)) := by rw [hW8]; exact r7_0
  have R8_1 : rowAt W8 (w.heap.size + 1) = some (.cells #[.int .i64 f, .int .i64 l, .bool a, .bool i, .bool o, .int .u8 v] 27 (0, 0)) := by rw [hW8]; exact r7_1
  have R8_2 : rowAt W8 (w.heap.size + 1 + 1) = some (.cells (tabA u) 39 (0, 0)) := by rw [hW8]; exact r7_2
  have R8_3 : rowAt W8 (w1.heap.size) = some (.cells #[.int .i64 c1, .int .u8 c2] 29 (0, 0)) := by rw [hW8]; exact r7_3
  have R8_4 : rowAt W8 (w2.heap.size) = some (.cells #[.int .i64 f, .int .i64 c1, .bool true, .bool i, .bool o, .int .u8 c2] 27 (0, 0)) := by rw [hW8]; exact r7_4
  have R8_5 : rowAt W8 (w3.heap.size) = some (.cells (tabA p) 39 (0, 0)) := by rw [hW8]; exact r7_5
  have BW8 : Below w.heap.size w W8 := by rw [hW8]; exact HB7.out
  clear hW8
  have g8_0 := goodRow R8_0
  have cg8_0 := fun x => lt_of_some (g8_0 x)
  have g8_1 := goodRow R8_1
  have cg8_1 := fun x => cells6 (g8_1 x)
  have g8_2 := goodRow R8_2
  have cg8_2 := fun x => lt_of_some (g8_2 x)
  have g8_3 := goodRow R8_3
  have cg8_3 := fun x => cells2 (g8_3 x)
  have g8_4 := goodRow R8_4
  have cg8_4 := fun x => cells6 (g8_4 x)
  have g8_5 := goodRow R8_5
  have cg8_5 := fun x => lt_of_some (g8_5 x)
  iterate 3 (go_big_quiet_step (fail))
  go_big_quiet_step ((go_at_call 25; exact Calls.good (refSettle9 H1.out a i o _)))
  iterate 5 (go_big_quiet_step (fail))
  go_big_quiet_step ((go_at_call 26; exact Calls.good (refAnswer9 H1.out a i o _)))
  iterate 10 (go_big_quiet_step (fail))
  refine wpQuiet_nil ?_
  rintro w8 ⟨⟨_, hb8⟩, rfl⟩
  have HB8 := hid (BW8.trans (hb8.mono BW8.size))
  have hs8 : w.heap.size ≤ w8.heap.size := HB8.out.size
  have r8_0 : rowAt w8 (w.heap.size) = some (.cells (tabA p) 25 (0, 0)) := rowNext' hb8 R8_0
  have c8_0 := lt_of_some r8_0
  have r8_1 : rowAt w8 (w.heap.size + 1) = some (.cells #[.int .i64 f, .int .i64 l, .bool a, .bool i, .bool o, .int .u8 v] 27 (0, 0)) := rowNext' hb8 R8_1
  have c8_1 := cells6 r8_1
  have r8_2 : rowAt w8 (w.heap.size + 1 + 1) = some (.cells (tabA u) 39 (0, 0)) := rowNext' hb8 R8_2
  have c8_2 := lt_of_some r8_2
  have r8_3 : rowAt w8 (w1.heap.size) = some (.cells #[.int .i64 c1, .int .u8 c2] 29 (0, 0)) := rowNext' hb8 R8_3
  have c8_3 := cells2 r8_3
  have r8_4 : rowAt w8 (w2.heap.size) = some (.cells #[.int .i64 f, .int .i64 c1, .bool true, .bool i, .bool o, .int .u8 c2] 27 (0, 0)) := rowNext' hb8 R8_4
  have c8_4 := cells6 r8_4
  have r8_5 : rowAt w8 (w3.heap.size) = some (.cells (tabA p) 39 (0, 0)) := rowNext' hb8 R8_5
  have c8_5 := lt_of_some r8_5
  clear R8_0 g8_0 cg8_0 r7_0 c7_0 R8_1 g8_1 cg8_1 r7_1 c7_1 R8_2 g8_2 cg8_2 r7_2 c7_2 R8_3 g8_3 cg8_3 r7_3 c7_3 R8_4 g8_4 cg8_4 r7_4 c7_4 R8_5 g8_5 cg8_5 r7_5 c7_5 hb7 HB7 hs7
  go_wp2_with fail
  refine wp_region_goodw (by kernel_rfl) (by kernel_rfl) ?_
  intro W9 hW9
  have R9_0 : rowAt W9 (w.heap.size) = some (.cells (tabA p) 25 (0, 0)) := by rw [hW9]; exact r8_0
  have R9_1 : rowAt W9 (w.heap.size + 1) = some (.cells #[.int .i64 f, .int .i64 l, .bool a, .bool i, .bool o, .int .u8 v] 27 (0, 0)) := by rw [hW9]; exact r8_1
  have R9_2 : rowAt W9 (w.heap.size + 1 + 1) = some (.cells (tabA u) 39 (0, 0)) := by rw [hW9]; exact r8_2
  have R9_3 : rowAt W9 (w1.heap.size) = some (.cells #[.int .i64 c1, .int .u8 c2] 29 (0, 0)) := by rw [hW9]; exact r8_3
  have R9_4 : rowAt W9 (w2.heap.size) = some (.cells #[.int .i64 f, .int .i64 c1, .bool true, .bool i, .bool o, .int .u8 c2] 27 (0, 0)) := by rw [hW9]; exact r8_4
  have R9_5 : rowAt W9 (w3.heap.size) = some (.cells (tabA p) 39 (0, 0)) := by rw [hW9]; exact r8_5
  have BW9 : Below w.heap.size w W9 := by rw [hW9]; exact HB8.out
  clear hW9
  have g9_0 := goodRow R9_0
  have cg9_0 := fun x => lt_of_some (g9_0 x)
  have g9_1 := goodRow R9_1
  have cg9_1 := fun x => cells6 (g9_1 x)
  have g9_2 := goodRow R9_2
  have cg9_2 := fun x => lt_of_some (g9_2 x)
  have g9_3 := goodRow R9_3
  have cg9_3 := fun x => cells2 (g9_3 x)
  have g9_4 := goodRow R9_4
  have cg9_4 := fun x => cells6 (g9_4 x)
  have g9_5 := goodRow R9_5
  have cg9_5 := fun x => lt_of_some (g9_5 x)
  iterate 1 (go_big_quiet_step (fail))
  go_big_quiet_step ((go_at_call 23; exact Calls.good (refMay9_is HB.out _)))
  iterate 12 (go_big_quiet_step (fail))
  go_big_quiet_step ((go_at_call 23; exact Calls.good (refMay9_is HB.out _)))
  iterate 3 (go_big_quiet_step (fail))
  go_big_quiet_step ((go_at_call 27; exact Calls.good (refFirst9 (tabErr_ok HP.out) _)))
  iterate 7 (go_big_quiet_step (fail))
  refine wpQuiet_nil ?_
  rintro w9 ⟨⟨_, hb9⟩, rfl⟩
  have HB9 := hid (BW9.trans (hb9.mono BW9.size))
  have hs9 : w.heap.size ≤ w9.heap.size := HB9.out.size
  have r9_0 : rowAt w9 (w.heap.size) = some (.cells (tabA p) 25 (0, 0)) := rowNext' hb9 R9_0
  have c9_0 := lt_of_some r9_0
  have r9_1 : rowAt w9 (w.heap.size + 1) = some (.cells #[.int .i64 f, .int .i64 l, .bool a, .bool i, .bool o, .int .u8 v] 27 (0, 0)) := rowNext' hb9 R9_1
  have c9_1 := cells6 r9_1
  have r9_2 : rowAt w9 (w.heap.size + 1 + 1) = some (.cells (tabA u) 39 (0, 0)) := rowNext' hb9 R9_2
  have c9_2 := lt_of_some r9_2
  have r9_3 : rowAt w9 (w1.heap.size) = some (.cells #[.int .i64 c1, .int .u8 c2] 29 (0, 0)) := rowNext' hb9 R9_3
  have c9_3 := cells2 r9_3
  have r9_4 : rowAt w9 (w2.heap.size) = some (.cells #[.int .i64 f, .int .i64 c1, .bool true, .bool i, .bool o, .int .u8 c2] 27 (0, 0)) := rowNext' hb9 R9_4
  have c9_4 := cells6 r9_4
  have r9_5 : rowAt w9 (w3.heap.size) = some (.cells (tabA p) 39 (0, 0)) := rowNext' hb9 R9_5
  have c9_5 := lt_of_some r9_5
  clear R9_0 g9_0 cg9_0 r8_0 c8_0 R9_1 g9_1 cg9_1 r8_1 c8_1 R9_2 g9_2 cg9_2 r8_2 c8_2 R9_3 g9_3 cg9_3 r8_3 c8_3 R9_4 g9_4 cg9_4 r8_4 c8_4 R9_5 g9_5 cg9_5 r8_5 c8_5 hb8 HB8 hs8
  go_wp2_with fail
  refine (refMay_is9 HV.out _).mono ?_
  rintro e w10 ⟨rfl, hb10⟩
  have HB10 := hid (below_step HB9.out (by first | omega | (simp [putRow_size, drewN_heap, drew_heap] <;> omega)) hb10)
  have hs10 : w.heap.size ≤ w10.heap.size := HB10.out.size
  have r10_0 : rowAt w10 (w.heap.size) = some (.cells (tabA p) 25 (0, 0)) := rowNext' hb10 r9_0
  have c10_0 := lt_of_some r10_0
  have r10_1 : rowAt w10 (w.heap.size + 1) = some (.cells #[.int .i64 f, .int .i64 l, .bool a, .bool i, .bool o, .int .u8 v] 27 (0, 0)) := rowNext' hb10 r9_1
  have c10_1 := cells6 r10_1
  have r10_2 : rowAt w10 (w.heap.size + 1 + 1) = some (.cells (tabA u) 39 (0, 0)) := rowNext' hb10 r9_2
  have c10_2 := lt_of_some r10_2
  have r10_3 : rowAt w10 (w1.heap.size) = some (.cells #[.int .i64 c1, .int .u8 c2] 29 (0, 0)) := rowNext' hb10 r9_3
  have c10_3 := cells2 r10_3
  have r10_4 : rowAt w10 (w2.heap.size) = some (.cells #[.int .i64 f, .int .i64 c1, .bool true, .bool i, .bool o, .int .u8 c2] 27 (0, 0)) := rowNext' hb10 r9_4
  have c10_4 := cells6 r10_4
  have r10_5 : rowAt w10 (w3.heap.size) = some (.cells (tabA p) 39 (0, 0)) := rowNext' hb10 r9_5
  have c10_5 := lt_of_some r10_5
  clear r9_0 c9_0 r9_1 c9_1 r9_2 c9_2 r9_3 c9_3 r9_4 c9_4 r9_5 c9_5 hb9 HB9 hs9
  go_wp2_with fail
  refine (awake9 _).mono ?_
  rintro e w11 ⟨rfl, hb11⟩
  have HB11 := hid (below_step HB10.out (by first | omega | (simp [putRow_size, drewN_heap, drew_heap] <;> omega)) hb11)
  have hs11 : w.heap.size ≤ w11.heap.size := HB11.out.size
  have r11_0 : rowAt w11 (w.heap.size) = some (.cells (tabA p) 25 (0, 0)) := rowNext' hb11 r10_0
  have c11_0 := lt_of_some r11_0
  have r11_1 : rowAt w11 (w.heap.size + 1) = some (.cells #[.int .i64 f, .int .i64 l, .bool a, .bool i, .bool o, .int .u8 v] 27 (0, 0)) := rowNext' hb11 r10_1
  have c11_1 := cells6 r11_1
  have r11_2 : rowAt w11 (w.heap.size + 1 + 1) = some (.cells (tabA u) 39 (0, 0)) := rowNext' hb11 r10_2
  have c11_2 := lt_of_some r11_2
  have r11_3 : rowAt w11 (w1.heap.size) = some (.cells #[.int .i64 c1, .int .u8 c2] 29 (0, 0)) := rowNext' hb11 r10_3
  have c11_3 := cells2 r11_3
  have r11_4 : rowAt w11 (w2.heap.size) = some (.cells #[.int .i64 f, .int .i64 c1, .bool true, .bool i, .bool o, .int .u8 c2] 27 (0, 0)) := rowNext' hb11 r10_4
  have c11_4 := cells6 r11_4
  have r11_5 : rowAt w11 (w3.heap.size) = some (.cells (tabA p) 39 (0, 0)) := rowNext' hb11 r10_5
  have c11_5 := lt_of_some r11_5
  clear r10_0 c10_0 r10_1 c10_1 r10_2 c10_2 r10_3 c10_3 r10_4 c10_4 r10_5 c10_5 hb10 HB10 hs10
  go_wp2_with fail
  go_ret
  exact ⟨rfl, HB11.out⟩

set_option maxHeartbeats 2000000 in
set_option maxRecDepth 100000 in
theorem at_pnu (p u : Tb) (f l v : Int) (a i o : Bool) (H1 : Hid (settle p f l v = ((0, 0), 1))) (HP : Hid (tabErr p = 0)) (HB : Hid (decide (tabOk p) = true)) (HT : Hid (decide (trOk f l) = false)) (HU : Hid (tabErr u = 0)) (HV : Hid (decide (tabOk u) = true)) (w : World) :
    Calls Try.prog 8 #[.agg (tabA p), .agg #[.int .i64 f, .int .i64 l, .bool a, .bool i, .bool o, .int .u8 v], .agg (tabA u)] w fun e w' => e = .returned (.bool true) ∧ Below w.heap.size w w' := by
  go_enter Try.func8, Try.ntmps8
  go_wp2_with fail
  refine (settle_eq H1.out a i o _).mono ?_
  rintro e w1 ⟨rfl, hb1⟩
  have HB1 := hid (below_step ((((Below.refl w.heap.size w).alloc (by first | omega | (simp [putRow_size, drewN_heap, drew_heap] <;> omega)) _).alloc (by first | omega | (simp [putRow_size, drewN_heap, drew_heap] <;> omega)) _).alloc (by first | omega | (simp [putRow_size, drewN_heap, drew_heap] <;> omega)) _) (by first | omega | (simp [putRow_size, drewN_heap, drew_heap] <;> omega)) hb1)
  have hs1 : w.heap.size ≤ w1.heap.size := HB1.out.size
  have r1_0 : rowAt w1 (w.heap.size) = some (.cells (tabA p) 25 (0, 0)) := rowNext' hb1 (by rw [rowAt_old _ _ _ (by first | omega | (simp [putRow_size, drewN_heap, drew_heap] <;> omega)), rowAt_old _ _ _ (by first | omega | (simp [putRow_size, drewN_heap, drew_heap] <;> omega)), rowAt_new _ _ _ (by first | omega | (simp [putRow_size, drewN_heap, drew_heap] <;> omega))])
  have c1_0 := lt_of_some r1_0
  have r1_1 : rowAt w1 (w.heap.size + 1) = some (.cells #[.int .i64 f, .int .i64 l, .bool a, .bool i, .bool o, .int .u8 v] 27 (0, 0)) := rowNext' hb1 (by rw [rowAt_old _ _ _ (by first | omega | (simp [putRow_size, drewN_heap, drew_heap] <;> omega)), rowAt_new _ _ _ (by first | omega | (simp [putRow_size, drewN_heap, drew_heap] <;> omega))])
  have c1_1 := cells6 r1_1
  have r1_2 : rowAt w1 (w.heap.size + 1 + 1) = some (.cells (tabA u) 39 (0, 0)) := rowNext' hb1 (by rw [rowAt_new _ _ _ (by first | omega | (simp [putRow_size, drewN_heap, drew_heap] <;> omega))])
  have c1_2 := lt_of_some r1_2
  go_wp2_with fail
  refine (answer_bad _ _ _ _ a i o _ _ H1 _).mono ?_
  rintro e w2 ⟨rfl, hb2⟩
  have HB2 := hid (below_step (HB1.out.alloc (by first | omega | (simp [putRow_size, drewN_heap, drew_heap] <;> omega)) _) (by first | omega | (simp [putRow_size, drewN_heap, drew_heap] <;> omega)) hb2)
  have hs2 : w.heap.size ≤ w2.heap.size := HB2.out.size
  have r2_0 : rowAt w2 (w.heap.size) = some (.cells (tabA p) 25 (0, 0)) := rowNext' hb2 (by rw [rowAt_old _ _ _ (by first | omega | (simp [putRow_size, drewN_heap, drew_heap] <;> omega))]; exact r1_0)
  have c2_0 := lt_of_some r2_0
  have r2_1 : rowAt w2 (w.heap.size + 1) = some (.cells #[.int .i64 f, .int .i64 l, .bool a, .bool i, .bool o, .int .u8 v] 27 (0, 0)) := rowNext' hb2 (by rw [rowAt_old _ _ _ (by first | omega | (simp [putRow_size, drewN_heap, drew_heap] <;> omega))]; exact r1_1)
  have c2_1 := cells6 r2_1
  have r2_2 : rowAt w2 (w.heap.size + 1 + 1) = some (.cells (tabA u) 39 (0, 0)) := rowNext' hb2 (by rw [rowAt_old _ _ _ (by first | omega | (simp [putRow_size, drewN_heap, drew_heap] <;> omega))]; exact r1_2)
  have c2_2 := lt_of_some r2_2
  have r2_3 : rowAt w2 (w1.heap.size) = some (.cells #[.int .i64 0, .int .u8 0] 29 (0, 0)) := rowNext' hb2 (by rw [rowAt_new _ _ _ (by first | omega | (simp [putRow_size, drewN_heap, drew_heap] <;> omega))])
  have c2_3 := cells2 r2_3
  clear r1_0 c1_0 r1_1 c1_1 r1_2 c1_2 hb1 HB1 hs1
  go_wp2_with fail
  refine (first_ok p HP.out _).mono ?_
  rintro e w3 ⟨rfl, hb3⟩
  have HB3 := hid (below_step (HB2.out.alloc (by first | omega | (simp [putRow_size, drewN_heap, drew_heap] <;> omega)) _) (by first | omega | (simp [putRow_size, drewN_heap, drew_heap] <;> omega)) hb3)
  have hs3 : w.heap.size ≤ w3.heap.size := HB3.out.size
  have r3_0 : rowAt w3 (w.heap.size) = some (.cells (tabA p) 25 (0, 0)) := rowNext' hb3 (by rw [rowAt_old _ _ _ (by first | omega | (simp [putRow_size, drewN_heap, drew_heap] <;> omega))]; exact r2_0)
  have c3_0 := lt_of_some r3_0
  have r3_1 : rowAt w3 (w.heap.size + 1) = some (.cells #[.int .i64 f, .int .i64 l, .bool a, .bool i, .bool o, .int .u8 v] 27 (0, 0)) := rowNext' hb3 (by rw [rowAt_old _ _ _ (by first | omega | (simp [putRow_size, drewN_heap, drew_heap] <;> omega))]; exact r2_1)
  have c3_1 := cells6 r3_1
  have r3_2 : rowAt w3 (w.heap.size + 1 + 1) = some (.cells (tabA u) 39 (0, 0)) := rowNext' hb3 (by rw [rowAt_old _ _ _ (by first | omega | (simp [putRow_size, drewN_heap, drew_heap] <;> omega))]; exact r2_2)
  have c3_2 := lt_of_some r3_2
  have r3_3 : rowAt w3 (w1.heap.size) = some (.cells #[.int .i64 0, .int .u8 0] 29 (0, 0)) := rowNext' hb3 (by rw [rowAt_old _ _ _ (by first | omega | (simp [putRow_size, drewN_heap, drew_heap] <;> omega))]; exact r2_3)
  have c3_3 := cells2 r3_3
  have r3_4 : rowAt w3 (w2.heap.size) = some (.cells #[.int .i64 0, .int .i64 0, .bool false, .bool false, .bool false, .int .u8 0] 27 (0, 0)) := rowNext' hb3 (by rw [rowAt_new _ _ _ (by first | omega | (simp [putRow_size, drewN_heap, drew_heap] <;> omega))])
  have c3_4 := cells6 r3_4
  clear r2_0 c2_0 r2_1 c2_1 r2_2 c2_2 r2_3 c2_3 hb2 HB2 hs2
  go_wp2_with fail
  refine (whole_ok u HU.out _).mono ?_
  rintro e w4 ⟨g, rfl, hcs, hg1, hg2, hb4⟩
  have HCS4 : Hid (Tris w4 g u) := hid hcs
  clear hcs hg1 hg2
  have HB4 := hid (below_step (HB3.out.alloc (by first | omega | (simp [putRow_size, drewN_heap, drew_heap] <;> omega)) _) (by first | omega | (simp [putRow_size, drewN_heap, drew_heap] <;> omega)) hb4)
  have hs4 : w.heap.size ≤ w4.heap.size := HB4.out.size
  have r4_0 : rowAt w4 (w.heap.size) = some (.cells (tabA p) 25 (0, 0)) := rowNext' hb4 (by rw [rowAt_old _ _ _ (by first | omega | (simp [putRow_size, drewN_heap, drew_heap] <;> omega))]; exact r3_0)
  have c4_0 := lt_of_some r4_0
  have r4_1 : rowAt w4 (w.heap.size + 1) = some (.cells #[.int .i64 f, .int .i64 l, .bool a, .bool i, .bool o, .int .u8 v] 27 (0, 0)) := rowNext' hb4 (by rw [rowAt_old _ _ _ (by first | omega | (simp [putRow_size, drewN_heap, drew_heap] <;> omega))]; exact r3_1)
  have c4_1 := cells6 r4_1
  have r4_2 : rowAt w4 (w.heap.size + 1 + 1) = some (.cells (tabA u) 39 (0, 0)) := rowNext' hb4 (by rw [rowAt_old _ _ _ (by first | omega | (simp [putRow_size, drewN_heap, drew_heap] <;> omega))]; exact r3_2)
  have c4_2 := lt_of_some r4_2
  have r4_3 : rowAt w4 (w1.heap.size) = some (.cells #[.int .i64 0, .int .u8 0] 29 (0, 0)) := rowNext' hb4 (by rw [rowAt_old _ _ _ (by first | omega | (simp [putRow_size, drewN_heap, drew_heap] <;> omega))]; exact r3_3)
  have c4_3 := cells2 r4_3
  have r4_4 : rowAt w4 (w2.heap.size) = some (.cells #[.int .i64 0, .int .i64 0, .bool false, .bool false, .bool false, .int .u8 0] 27 (0, 0)) := rowNext' hb4 (by rw [rowAt_old _ _ _ (by first | omega | (simp [putRow_size, drewN_heap, drew_heap] <;> omega))]; exact r3_4)
  have c4_4 := cells6 r4_4
  have r4_5 : rowAt w4 (w3.heap.size) = some (.cells (tabA p) 39 (0, 0)) := rowNext' hb4 (by rw [rowAt_new _ _ _ (by first | omega | (simp [putRow_size, drewN_heap, drew_heap] <;> omega))])
  have c4_5 := lt_of_some r4_5
  clear r3_0 c3_0 r3_1 c3_1 r3_2 c3_2 r3_3 c3_3 r3_4 c3_4 hb3 HB3 hs3
  go_wp2_with fail
  refine wp_region_goodw (by kernel_rfl) (by kernel_rfl) ?_
  intro W5 hW5
  have R5_0 : rowAt W5 (w.heap.size) = some (.cells (tabA p) 25 (0, 0)) := by rw [hW5]; exact r4_0
  have R5_1 : rowAt W5 (w.heap.size + 1) = some (.cells #[.int .i64 f, .int .i64 l, .bool a, .bool i, .bool o, .int .u8 v] 27 (0, 0)) := by rw [hW5]; exact r4_1
  have R5_2 : rowAt W5 (w.heap.size + 1 + 1) = some (.cells (tabA u) 39 (0, 0)) := by rw [hW5]; exact r4_2
  have R5_3 : rowAt W5 (w1.heap.size) = some (.cells #[.int .i64 0, .int .u8 0] 29 (0, 0)) := by rw [hW5]; exact r4_3
  have R5_4 : rowAt W5 (w2.heap.size) = some (.cells #[.int .i64 0, .int .i64 0, .bool false, .bool false, .bool false, .int .u8 0] 27 (0, 0)) := by rw [hW5]; exact r4_4
  have R5_5 : rowAt W5 (w3.heap.size) = some (.cells (tabA p) 39 (0, 0)) := by rw [hW5]; exact r4_5
  have BW5 : Below w.heap.size w W5 := by rw [hW5]; exact HB4.out
  have HCSW : Hid (Tris W5 g u) := hid (by rw [hW5]; exact HCS4.out)
  clear hW5
  have g5_0 := goodRow R5_0
  have cg5_0 := fun x => lt_of_some (g5_0 x)
  have g5_1 := goodRow R5_1
  have cg5_1 := fun x => cells6 (g5_1 x)
  have g5_2 := goodRow R5_2
  have cg5_2 := fun x => lt_of_some (g5_2 x)
  have g5_3 := goodRow R5_3
  have cg5_3 := fun x => cells2 (g5_3 x)
  have g5_4 := goodRow R5_4
  have cg5_4 := fun x => cells6 (g5_4 x)
  have g5_5 := goodRow R5_5
  have cg5_5 := fun x => lt_of_some (g5_5 x)
  iterate 1 (go_big_quiet_step (fail))
  go_big_quiet_step ((go_at_call 21; exact Calls.good (agreeCheck_eq' HP.out _)))
  iterate 2 (go_big_quiet_step (fail))
  go_big_quiet_step ((go_at_call 23; exact Calls.good (refMay9_is HB.out _)))
  iterate 1 (go_big_quiet_step (fail))
  refine wpQuiet_nil ?_
  rintro w5 ⟨⟨_, hb5⟩, rfl⟩
  have HCS5 := hid (HCSW.out.below hb5)
  clear HCSW
  have HB5 := hid (BW5.trans (hb5.mono BW5.size))
  have hs5 : w.heap.size ≤ w5.heap.size := HB5.out.size
  have r5_0 : rowAt w5 (w.heap.size) = some (.cells (tabA p) 25 (0, 0)) := rowNext' hb5 R5_0
  have c5_0 := lt_of_some r5_0
  have r5_1 : rowAt w5 (w.heap.size + 1) = some (.cells #[.int .i64 f, .int .i64 l, .bool a, .bool i, .bool o, .int .u8 v] 27 (0, 0)) := rowNext' hb5 R5_1
  have c5_1 := cells6 r5_1
  have r5_2 : rowAt w5 (w.heap.size + 1 + 1) = some (.cells (tabA u) 39 (0, 0)) := rowNext' hb5 R5_2
  have c5_2 := lt_of_some r5_2
  have r5_3 : rowAt w5 (w1.heap.size) = some (.cells #[.int .i64 0, .int .u8 0] 29 (0, 0)) := rowNext' hb5 R5_3
  have c5_3 := cells2 r5_3
  have r5_4 : rowAt w5 (w2.heap.size) = some (.cells #[.int .i64 0, .int .i64 0, .bool false, .bool false, .bool false, .int .u8 0] 27 (0, 0)) := rowNext' hb5 R5_4
  have c5_4 := cells6 r5_4
  have r5_5 : rowAt w5 (w3.heap.size) = some (.cells (tabA p) 39 (0, 0)) := rowNext' hb5 R5_5
  have c5_5 := lt_of_some r5_5
  clear R5_0 g5_0 cg5_0 r4_0 c4_0 R5_1 g5_1 cg5_1 r4_1 c4_1 R5_2 g5_2 cg5_2 r4_2 c4_2 R5_3 g5_3 cg5_3 r4_3 c4_3 R5_4 g5_4 cg5_4 r4_4 c4_4 R5_5 g5_5 cg5_5 r4_5 c4_5 hb4 HB4 hs4
  go_wp2_with fail
  refine (refMay9_is HB.out _).mono ?_
  rintro e w6 ⟨rfl, hb6⟩
  have HCS6 := hid (HCS5.out.below hb6)
  have HB6 := hid (below_step HB5.out (by first | omega | (simp [putRow_size, drewN_heap, drew_heap] <;> omega)) hb6)
  have hs6 : w.heap.size ≤ w6.heap.size := HB6.out.size
  have r6_0 : rowAt w6 (w.heap.size) = some (.cells (tabA p) 25 (0, 0)) := rowNext' hb6 r5_0
  have c6_0 := lt_of_some r6_0
  have r6_1 : rowAt w6 (w.heap.size + 1) = some (.cells #[.int .i64 f, .int .i64 l, .bool a, .bool i, .bool o, .int .u8 v] 27 (0, 0)) := rowNext' hb6 r5_1
  have c6_1 := cells6 r6_1
  have r6_2 : rowAt w6 (w.heap.size + 1 + 1) = some (.cells (tabA u) 39 (0, 0)) := rowNext' hb6 r5_2
  have c6_2 := lt_of_some r6_2
  have r6_3 : rowAt w6 (w1.heap.size) = some (.cells #[.int .i64 0, .int .u8 0] 29 (0, 0)) := rowNext' hb6 r5_3
  have c6_3 := cells2 r6_3
  have r6_4 : rowAt w6 (w2.heap.size) = some (.cells #[.int .i64 0, .int .i64 0, .bool false, .bool false, .bool false, .int .u8 0] 27 (0, 0)) := rowNext' hb6 r5_4
  have c6_4 := cells6 r6_4
  have r6_5 : rowAt w6 (w3.heap.size) = some (.cells (tabA p) 39 (0, 0)) := rowNext' hb6 r5_5
  have c6_5 := lt_of_some r6_5
  clear r5_0 c5_0 r5_1 c5_1 r5_2 c5_2 r5_3 c5_3 r5_4 c5_4 r5_5 c5_5 hb5 HB5 hs5
  go_wp2_with fail
  refine (refMay7_is HT.out a i o v _).mono ?_
  rintro e w7 ⟨rfl, hb7⟩
  have HCS7 := hid (HCS6.out.below hb7)
  have HB7 := hid (below_step HB6.out (by first | omega | (simp [putRow_size, drewN_heap, drew_heap] <;> omega)) hb7)
  have hs7 : w.heap.size ≤ w7.heap.size := HB7.out.size
  have r7_0 : rowAt w7 (w.heap.size) = some (.cells (tabA p) 25 (0, 0)) := rowNext' hb7 r6_0
  have c7_0 := lt_of_some r7_0
  have r7_1 : rowAt w7 (w.heap.size + 1) = some (.cells #[.int .i64 f, .int .i64 l, .bool a, .bool i, .bool o, .int .u8 v] 27 (0, 0)) := rowNext' hb7 r6_1
  have c7_1 := cells6 r7_1
  have r7_2 : rowAt w7 (w.heap.size + 1 + 1) = some (.cells (tabA u) 39 (0, 0)) := rowNext' hb7 r6_2
  have c7_2 := lt_of_some r7_2
  have r7_3 : rowAt w7 (w1.heap.size) = some (.cells #[.int .i64 0, .int .u8 0] 29 (0, 0)) := rowNext' hb7 r6_3
  have c7_3 := cells2 r7_3
  have r7_4 : rowAt w7 (w2.heap.size) = some (.cells #[.int .i64 0, .int .i64 0, .bool false, .bool false, .bool false, .int .u8 0] 27 (0, 0)) := rowNext' hb7 r6_4
  have c7_4 := cells6 r7_4
  have r7_5 : rowAt w7 (w3.heap.size) = some (.cells (tabA p) 39 (0, 0)) := rowNext' hb7 r6_5
  have c7_5 := lt_of_some r7_5
  clear r6_0 c6_0 r6_1 c6_1 r6_2 c6_2 r6_3 c6_3 r6_4 c6_4 r6_5 c6_5 hb6 HB6 hs6
  go_wp2_with fail
  refine wp_region_goodw (by kernel_rfl) (by kernel_rfl) ?_
  intro W8 hW8
  have R8_0 : rowAt W8 (w.heap.size) = some (.cells (tabA p) 25 (0, 0)) := by rw [hW8]; exact r7_0
  have R8_1 : rowAt W8 (w.heap.size + 1) = some (.cells #[.int .i64 f, .int .i64 l, .bool a, .bool i, .bool o, .int .u8 v] 27 (0, 0)) := by rw [hW8]; exact r7_1
  have R8_2 : rowAt W8 (w.heap.size + 1 + 1) = some (.cells (tabA u) 39 (0, 0)) := by rw [hW8]; exact r7_2
  have R8_3 : rowAt W8 (w1.heap.size) = some (.cells #[.int .i64 0, .int .u8 0] 29 (0, 0)) := by rw [hW8]; exact r7_3
  have R8_4 : rowAt W8 (w2.heap.size) = some (.cells #[.int .i64 0, .int .i64 0, .bool false, .bool false, .bool false, .int .u8 0] 27 (0, 0)) := by rw [hW8]; exact r7_4
  have R8_5 : rowAt W8 (w3.heap.size) = some (.cells (tabA p) 39 (0, 0)) := by rw [hW8]; exact r7_5
  have BW8 : Below w.heap.size w W8 := by rw [hW8]; exact HB7.out
  have HCSW : Hid (Tris W8 g u) := hid (by rw [hW8]; exact HCS7.out)
  clear hW8
  have g8_0 := goodRow R8_0
  have cg8_0 := fun x => lt_of_some (g8_0 x)
  have g8_1 := goodRow R8_1
  have cg8_1 := fun x => cells6 (g8_1 x)
  have g8_2 := goodRow R8_2
  have cg8_2 := fun x => lt_of_some (g8_2 x)
  have g8_3 := goodRow R8_3
  have cg8_3 := fun x => cells2 (g8_3 x)
  have g8_4 := goodRow R8_4
  have cg8_4 := fun x => cells6 (g8_4 x)
  have g8_5 := goodRow R8_5
  have cg8_5 := fun x => lt_of_some (g8_5 x)
  iterate 1 (go_big_quiet_step (fail))
  go_big_quiet_step ((go_at_call 23; exact Calls.good (refMay9_is HB.out _)))
  iterate 12 (go_big_quiet_step (fail))
  go_big_quiet_step ((go_at_call 23; exact Calls.good (refMay9_is HB.out _)))
  iterate 3 (go_big_quiet_step (fail))
  go_big_quiet_step ((go_at_call 27; exact Calls.good (refFirst9 (tabErr_ok HP.out) _)))
  iterate 7 (go_big_quiet_step (fail))
  refine wpQuiet_nil ?_
  rintro w8 ⟨⟨_, hb8⟩, rfl⟩
  have HCS8 := hid (HCSW.out.below hb8)
  clear HCSW
  have HB8 := hid (BW8.trans (hb8.mono BW8.size))
  have hs8 : w.heap.size ≤ w8.heap.size := HB8.out.size
  have r8_0 : rowAt w8 (w.heap.size) = some (.cells (tabA p) 25 (0, 0)) := rowNext' hb8 R8_0
  have c8_0 := lt_of_some r8_0
  have r8_1 : rowAt w8 (w.heap.size + 1) = some (.cells #[.int .i64 f, .int .i64 l, .bool a, .bool i, .bool o, .int .u8 v] 27 (0, 0)) := rowNext' hb8 R8_1
  have c8_1 := cells6 r8_1
  have r8_2 : rowAt w8 (w.heap.size + 1 + 1) = some (.cells (tabA u) 39 (0, 0)) := rowNext' hb8 R8_2
  have c8_2 := lt_of_some r8_2
  have r8_3 : rowAt w8 (w1.heap.size) = some (.cells #[.int .i64 0, .int .u8 0] 29 (0, 0)) := rowNext' hb8 R8_3
  have c8_3 := cells2 r8_3
  have r8_4 : rowAt w8 (w2.heap.size) = some (.cells #[.int .i64 0, .int .i64 0, .bool false, .bool false, .bool false, .int .u8 0] 27 (0, 0)) := rowNext' hb8 R8_4
  have c8_4 := cells6 r8_4
  have r8_5 : rowAt w8 (w3.heap.size) = some (.cells (tabA p) 39 (0, 0)) := rowNext' hb8 R8_5
  have c8_5 := lt_of_some r8_5
  clear R8_0 g8_0 cg8_0 r7_0 c7_0 R8_1 g8_1 cg8_1 r7_1 c7_1 R8_2 g8_2 cg8_2 r7_2 c7_2 R8_3 g8_3 cg8_3 r7_3 c7_3 R8_4 g8_4 cg8_4 r7_4 c7_4 R8_5 g8_5 cg8_5 r7_5 c7_5 hb7 HB7 hs7
  go_wp2_with fail
  refine (refMay_is9 HV.out _).mono ?_
  rintro e w9 ⟨rfl, hb9⟩
  have HCS9 := hid (HCS8.out.below hb9)
  have HB9 := hid (below_step HB8.out (by first | omega | (simp [putRow_size, drewN_heap, drew_heap] <;> omega)) hb9)
  have hs9 : w.heap.size ≤ w9.heap.size := HB9.out.size
  have r9_0 : rowAt w9 (w.heap.size) = some (.cells (tabA p) 25 (0, 0)) := rowNext' hb9 r8_0
  have c9_0 := lt_of_some r9_0
  have r9_1 : rowAt w9 (w.heap.size + 1) = some (.cells #[.int .i64 f, .int .i64 l, .bool a, .bool i, .bool o, .int .u8 v] 27 (0, 0)) := rowNext' hb9 r8_1
  have c9_1 := cells6 r9_1
  have r9_2 : rowAt w9 (w.heap.size + 1 + 1) = some (.cells (tabA u) 39 (0, 0)) := rowNext' hb9 r8_2
  have c9_2 := lt_of_some r9_2
  have r9_3 : rowAt w9 (w1.heap.size) = some (.cells #[.int .i64 0, .int .u8 0] 29 (0, 0)) := rowNext' hb9 r8_3
  have c9_3 := cells2 r9_3
  have r9_4 : rowAt w9 (w2.heap.size) = some (.cells #[.int .i64 0, .int .i64 0, .bool false, .bool false, .bool false, .int .u8 0] 27 (0, 0)) := rowNext' hb9 r8_4
  have c9_4 := cells6 r9_4
  have r9_5 : rowAt w9 (w3.heap.size) = some (.cells (tabA p) 39 (0, 0)) := rowNext' hb9 r8_5
  have c9_5 := lt_of_some r9_5
  clear r8_0 c8_0 r8_1 c8_1 r8_2 c8_2 r8_3 c8_3 r8_4 c8_4 r8_5 c8_5 hb8 HB8 hs8
  go_wp2_with fail
  refine (refWhole9 u _).mono ?_
  rintro e w10 ⟨g', cp, rfl, hcs', hb10⟩
  have HCSX := hid (HCS9.out.below hb10)
  have HCSY : Hid (Tris w10 g' u) := hid hcs'
  clear hcs'
  have HB10 := hid (below_step HB9.out (by first | omega | (simp [putRow_size, drewN_heap, drew_heap] <;> omega)) hb10)
  have hs10 : w.heap.size ≤ w10.heap.size := HB10.out.size
  have r10_0 : rowAt w10 (w.heap.size) = some (.cells (tabA p) 25 (0, 0)) := rowNext' hb10 r9_0
  have c10_0 := lt_of_some r10_0
  have r10_1 : rowAt w10 (w.heap.size + 1) = some (.cells #[.int .i64 f, .int .i64 l, .bool a, .bool i, .bool o, .int .u8 v] 27 (0, 0)) := rowNext' hb10 r9_1
  have c10_1 := cells6 r10_1
  have r10_2 : rowAt w10 (w.heap.size + 1 + 1) = some (.cells (tabA u) 39 (0, 0)) := rowNext' hb10 r9_2
  have c10_2 := lt_of_some r10_2
  have r10_3 : rowAt w10 (w1.heap.size) = some (.cells #[.int .i64 0, .int .u8 0] 29 (0, 0)) := rowNext' hb10 r9_3
  have c10_3 := cells2 r10_3
  have r10_4 : rowAt w10 (w2.heap.size) = some (.cells #[.int .i64 0, .int .i64 0, .bool false, .bool false, .bool false, .int .u8 0] 27 (0, 0)) := rowNext' hb10 r9_4
  have c10_4 := cells6 r10_4
  have r10_5 : rowAt w10 (w3.heap.size) = some (.cells (tabA p) 39 (0, 0)) := rowNext' hb10 r9_5
  have c10_5 := lt_of_some r10_5
  clear r9_0 c9_0 r9_1 c9_1 r9_2 c9_2 r9_3 c9_3 r9_4 c9_4 r9_5 c9_5 hb9 HB9 hs9
  go_wp2_with fail
  refine (refSame u g g' 31 cp _ HCSX.out HCSY.out).mono ?_
  rintro e w11 ⟨rfl, hb11⟩
  have HB11 := hid (below_step HB10.out (by first | omega | (simp [putRow_size, drewN_heap, drew_heap] <;> omega)) hb11)
  have hs11 : w.heap.size ≤ w11.heap.size := HB11.out.size
  have r11_0 : rowAt w11 (w.heap.size) = some (.cells (tabA p) 25 (0, 0)) := rowNext' hb11 r10_0
  have c11_0 := lt_of_some r11_0
  have r11_1 : rowAt w11 (w.heap.size + 1) = some (.cells #[.int .i64 f, .int .i64 l, .bool a, .bool i, .bool o, .int .u8 v] 27 (0, 0)) := rowNext' hb11 r10_1
  have c11_1 := cells6 r11_1
  have r11_2 : rowAt w11 (w.heap.size + 1 + 1) = some (.cells (tabA u) 39 (0, 0)) := rowNext' hb11 r10_2
  have c11_2 := lt_of_some r11_2
  have r11_3 : rowAt w11 (w1.heap.size) = some (.cells #[.int .i64 0, .int .u8 0] 29 (0, 0)) := rowNext' hb11 r10_3
  have c11_3 := cells2 r11_3
  have r11_4 : rowAt w11 (w2.heap.size) = some (.cells #[.int .i64 0, .int .i64 0, .bool false, .bool false, .bool false, .int .u8 0] 27 (0, 0)) := rowNext' hb11 r10_4
  have c11_4 := cells6 r11_4
  have r11_5 : rowAt w11 (w3.heap.size) = some (.cells (tabA p) 39 (0, 0)) := rowNext' hb11 r10_5
  have c11_5 := lt_of_some r11_5
  clear r10_0 c10_0 r10_1 c10_1 r10_2 c10_2 r10_3 c10_3 r10_4 c10_4 r10_5 c10_5 hb10 HB10 hs10
  go_wp2_with fail
  refine (awake9 _).mono ?_
  rintro e w12 ⟨rfl, hb12⟩
  have HB12 := hid (below_step HB11.out (by first | omega | (simp [putRow_size, drewN_heap, drew_heap] <;> omega)) hb12)
  have hs12 : w.heap.size ≤ w12.heap.size := HB12.out.size
  have r12_0 : rowAt w12 (w.heap.size) = some (.cells (tabA p) 25 (0, 0)) := rowNext' hb12 r11_0
  have c12_0 := lt_of_some r12_0
  have r12_1 : rowAt w12 (w.heap.size + 1) = some (.cells #[.int .i64 f, .int .i64 l, .bool a, .bool i, .bool o, .int .u8 v] 27 (0, 0)) := rowNext' hb12 r11_1
  have c12_1 := cells6 r12_1
  have r12_2 : rowAt w12 (w.heap.size + 1 + 1) = some (.cells (tabA u) 39 (0, 0)) := rowNext' hb12 r11_2
  have c12_2 := lt_of_some r12_2
  have r12_3 : rowAt w12 (w1.heap.size) = some (.cells #[.int .i64 0, .int .u8 0] 29 (0, 0)) := rowNext' hb12 r11_3
  have c12_3 := cells2 r12_3
  have r12_4 : rowAt w12 (w2.heap.size) = some (.cells #[.int .i64 0, .int .i64 0, .bool false, .bool false, .bool false, .int .u8 0] 27 (0, 0)) := rowNext' hb12 r11_4
  have c12_4 := cells6 r12_4
  have r12_5 : rowAt w12 (w3.heap.size) = some (.cells (tabA p) 39 (0, 0)) := rowNext' hb12 r11_5
  have c12_5 := lt_of_some r12_5
  clear r11_0 c11_0 r11_1 c11_1 r11_2 c11_2 r11_3 c11_3 r11_4 c11_4 r11_5 c11_5 hb11 HB11 hs11
  go_wp2_with fail
  go_ret
  exact ⟨rfl, HB12.out⟩

set_option maxHeartbeats 2000000 in
set_option maxRecDepth 100000 in
theorem at_pnn (p u : Tb) (f l v : Int) (a i o : Bool) (H1 : Hid (settle p f l v = ((0, 0), 1))) (HP : Hid (tabErr p = 0)) (HB : Hid (decide (tabOk p) = true)) (HT : Hid (decide (trOk f l) = false)) (HU : Hid (tabErr u = 1)) (HV : Hid (decide (tabOk u) = false)) (w : World) :
    Calls Try.prog 8 #[.agg (tabA p), .agg #[.int .i64 f, .int .i64 l, .bool a, .bool i, .bool o, .int .u8 v], .agg (tabA u)] w fun e w' => e = .returned (.bool true) ∧ Below w.heap.size w w' := by
  go_enter Try.func8, Try.ntmps8
  go_wp2_with fail
  refine (settle_eq H1.out a i o _).mono ?_
  rintro e w1 ⟨rfl, hb1⟩
  have HB1 := hid (below_step ((((Below.refl w.heap.size w).alloc (by first | omega | (simp [putRow_size, drewN_heap, drew_heap] <;> omega)) _).alloc (by first | omega | (simp [putRow_size, drewN_heap, drew_heap] <;> omega)) _).alloc (by first | omega | (simp [putRow_size, drewN_heap, drew_heap] <;> omega)) _) (by first | omega | (simp [putRow_size, drewN_heap, drew_heap] <;> omega)) hb1)
  have hs1 : w.heap.size ≤ w1.heap.size := HB1.out.size
  have r1_0 : rowAt w1 (w.heap.size) = some (.cells (tabA p) 25 (0, 0)) := rowNext' hb1 (by rw [rowAt_old _ _ _ (by first | omega | (simp [putRow_size, drewN_heap, drew_heap] <;> omega)), rowAt_old _ _ _ (by first | omega | (simp [putRow_size, drewN_heap, drew_heap] <;> omega)), rowAt_new _ _ _ (by first | omega | (simp [putRow_size, drewN_heap, drew_heap] <;> omega))])
  have c1_0 := lt_of_some r1_0
  have r1_1 : rowAt w1 (w.heap.size + 1) = some (.cells #[.int .i64 f, .int .i64 l, .bool a, .bool i, .bool o, .int .u8 v] 27 (0, 0)) := rowNext' hb1 (by rw [rowAt_old _ _ _ (by first | omega | (simp [putRow_size, drewN_heap, drew_heap] <;> omega)), rowAt_new _ _ _ (by first | omega | (simp [putRow_size, drewN_heap, drew_heap] <;> omega))])
  have c1_1 := cells6 r1_1
  have r1_2 : rowAt w1 (w.heap.size + 1 + 1) = some (.cells (tabA u) 39 (0, 0)) := rowNext' hb1 (by rw [rowAt_new _ _ _ (by first | omega | (simp [putRow_size, drewN_heap, drew_heap] <;> omega))])
  have c1_2 := lt_of_some r1_2
  go_wp2_with fail
  refine (answer_bad _ _ _ _ a i o _ _ H1 _).mono ?_
  rintro e w2 ⟨rfl, hb2⟩
  have HB2 := hid (below_step (HB1.out.alloc (by first | omega | (simp [putRow_size, drewN_heap, drew_heap] <;> omega)) _) (by first | omega | (simp [putRow_size, drewN_heap, drew_heap] <;> omega)) hb2)
  have hs2 : w.heap.size ≤ w2.heap.size := HB2.out.size
  have r2_0 : rowAt w2 (w.heap.size) = some (.cells (tabA p) 25 (0, 0)) := rowNext' hb2 (by rw [rowAt_old _ _ _ (by first | omega | (simp [putRow_size, drewN_heap, drew_heap] <;> omega))]; exact r1_0)
  have c2_0 := lt_of_some r2_0
  have r2_1 : rowAt w2 (w.heap.size + 1) = some (.cells #[.int .i64 f, .int .i64 l, .bool a, .bool i, .bool o, .int .u8 v] 27 (0, 0)) := rowNext' hb2 (by rw [rowAt_old _ _ _ (by first | omega | (simp [putRow_size, drewN_heap, drew_heap] <;> omega))]; exact r1_1)
  have c2_1 := cells6 r2_1
  have r2_2 : rowAt w2 (w.heap.size + 1 + 1) = some (.cells (tabA u) 39 (0, 0)) := rowNext' hb2 (by rw [rowAt_old _ _ _ (by first | omega | (simp [putRow_size, drewN_heap, drew_heap] <;> omega))]; exact r1_2)
  have c2_2 := lt_of_some r2_2
  have r2_3 : rowAt w2 (w1.heap.size) = some (.cells #[.int .i64 0, .int .u8 0] 29 (0, 0)) := rowNext' hb2 (by rw [rowAt_new _ _ _ (by first | omega | (simp [putRow_size, drewN_heap, drew_heap] <;> omega))])
  have c2_3 := cells2 r2_3
  clear r1_0 c1_0 r1_1 c1_1 r1_2 c1_2 hb1 HB1 hs1
  go_wp2_with fail
  refine (first_ok p HP.out _).mono ?_
  rintro e w3 ⟨rfl, hb3⟩
  have HB3 := hid (below_step (HB2.out.alloc (by first | omega | (simp [putRow_size, drewN_heap, drew_heap] <;> omega)) _) (by first | omega | (simp [putRow_size, drewN_heap, drew_heap] <;> omega)) hb3)
  have hs3 : w.heap.size ≤ w3.heap.size := HB3.out.size
  have r3_0 : rowAt w3 (w.heap.size) = some (.cells (tabA p) 25 (0, 0)) := rowNext' hb3 (by rw [rowAt_old _ _ _ (by first | omega | (simp [putRow_size, drewN_heap, drew_heap] <;> omega))]; exact r2_0)
  have c3_0 := lt_of_some r3_0
  have r3_1 : rowAt w3 (w.heap.size + 1) = some (.cells #[.int .i64 f, .int .i64 l, .bool a, .bool i, .bool o, .int .u8 v] 27 (0, 0)) := rowNext' hb3 (by rw [rowAt_old _ _ _ (by first | omega | (simp [putRow_size, drewN_heap, drew_heap] <;> omega))]; exact r2_1)
  have c3_1 := cells6 r3_1
  have r3_2 : rowAt w3 (w.heap.size + 1 + 1) = some (.cells (tabA u) 39 (0, 0)) := rowNext' hb3 (by rw [rowAt_old _ _ _ (by first | omega | (simp [putRow_size, drewN_heap, drew_heap] <;> omega))]; exact r2_2)
  have c3_2 := lt_of_some r3_2
  have r3_3 : rowAt w3 (w1.heap.size) = some (.cells #[.int .i64 0, .int .u8 0] 29 (0, 0)) := rowNext' hb3 (by rw [rowAt_old _ _ _ (by first | omega | (simp [putRow_size, drewN_heap, drew_heap] <;> omega))]; exact r2_3)
  have c3_3 := cells2 r3_3
  have r3_4 : rowAt w3 (w2.heap.size) = some (.cells #[.int .i64 0, .int .i64 0, .bool false, .bool false, .bool false, .int .u8 0] 27 (0, 0)) := rowNext' hb3 (by rw [rowAt_new _ _ _ (by first | omega | (simp [putRow_size, drewN_heap, drew_heap] <;> omega))])
  have c3_4 := cells6 r3_4
  clear r2_0 c2_0 r2_1 c2_1 r2_2 c2_2 r2_3 c2_3 hb2 HB2 hs2
  go_wp2_with fail
  refine (whole_no u HU.out _).mono ?_
  rintro e w4 ⟨rfl, hb4⟩
  have HB4 := hid (below_step (HB3.out.alloc (by first | omega | (simp [putRow_size, drewN_heap, drew_heap] <;> omega)) _) (by first | omega | (simp [putRow_size, drewN_heap, drew_heap] <;> omega)) hb4)
  have hs4 : w.heap.size ≤ w4.heap.size := HB4.out.size
  have r4_0 : rowAt w4 (w.heap.size) = some (.cells (tabA p) 25 (0, 0)) := rowNext' hb4 (by rw [rowAt_old _ _ _ (by first | omega | (simp [putRow_size, drewN_heap, drew_heap] <;> omega))]; exact r3_0)
  have c4_0 := lt_of_some r4_0
  have r4_1 : rowAt w4 (w.heap.size + 1) = some (.cells #[.int .i64 f, .int .i64 l, .bool a, .bool i, .bool o, .int .u8 v] 27 (0, 0)) := rowNext' hb4 (by rw [rowAt_old _ _ _ (by first | omega | (simp [putRow_size, drewN_heap, drew_heap] <;> omega))]; exact r3_1)
  have c4_1 := cells6 r4_1
  have r4_2 : rowAt w4 (w.heap.size + 1 + 1) = some (.cells (tabA u) 39 (0, 0)) := rowNext' hb4 (by rw [rowAt_old _ _ _ (by first | omega | (simp [putRow_size, drewN_heap, drew_heap] <;> omega))]; exact r3_2)
  have c4_2 := lt_of_some r4_2
  have r4_3 : rowAt w4 (w1.heap.size) = some (.cells #[.int .i64 0, .int .u8 0] 29 (0, 0)) := rowNext' hb4 (by rw [rowAt_old _ _ _ (by first | omega | (simp [putRow_size, drewN_heap, drew_heap] <;> omega))]; exact r3_3)
  have c4_3 := cells2 r4_3
  have r4_4 : rowAt w4 (w2.heap.size) = some (.cells #[.int .i64 0, .int .i64 0, .bool false, .bool false, .bool false, .int .u8 0] 27 (0, 0)) := rowNext' hb4 (by rw [rowAt_old _ _ _ (by first | omega | (simp [putRow_size, drewN_heap, drew_heap] <;> omega))]; exact r3_4)
  have c4_4 := cells6 r4_4
  have r4_5 : rowAt w4 (w3.heap.size) = some (.cells (tabA p) 39 (0, 0)) := rowNext' hb4 (by rw [rowAt_new _ _ _ (by first | omega | (simp [putRow_size, drewN_heap, drew_heap] <;> omega))])
  have c4_5 := lt_of_some r4_5
  clear r3_0 c3_0 r3_1 c3_1 r3_2 c3_2 r3_3 c3_3 r3_4 c3_4 hb3 HB3 hs3
  go_wp2_with fail
  refine wp_region_goodw (by kernel_rfl) (by kernel_rfl) ?_
  intro W5 hW5
  have R5_0 : rowAt W5 (w.heap.size) = some (.cells (tabA p) 25 (0, 0)) := by rw [hW5]; exact r4_0
  have R5_1 : rowAt W5 (w.heap.size + 1) = some (.cells #[.int .i64 f, .int .i64 l, .bool a, .bool i, .bool o, .int .u8 v] 27 (0, 0)) := by rw [hW5]; exact r4_1
  have R5_2 : rowAt W5 (w.heap.size + 1 + 1) = some (.cells (tabA u) 39 (0, 0)) := by rw [hW5]; exact r4_2
  have R5_3 : rowAt W5 (w1.heap.size) = some (.cells #[.int .i64 0, .int .u8 0] 29 (0, 0)) := by rw [hW5]; exact r4_3
  have R5_4 : rowAt W5 (w2.heap.size) = some (.cells #[.int .i64 0, .int .i64 0, .bool false, .bool false, .bool false, .int .u8 0] 27 (0, 0)) := by rw [hW5]; exact r4_4
  have R5_5 : rowAt W5 (w3.heap.size) = some (.cells (tabA p) 39 (0, 0)) := by rw [hW5]; exact r4_5
  have BW5 : Below w.heap.size w W5 := by rw [hW5]; exact HB4.out
  clear hW5
  have g5_0 := goodRow R5_0
  have cg5_0 := fun x => lt_of_some (g5_0 x)
  have g5_1 := goodRow R5_1
  have cg5_1 := fun x => cells6 (g5_1 x)
  have g5_2 := goodRow R5_2
  have cg5_2 := fun x => lt_of_some (g5_2 x)
  have g5_3 := goodRow R5_3
  have cg5_3 := fun x => cells2 (g5_3 x)
  have g5_4 := goodRow R5_4
  have cg5_4 := fun x => cells6 (g5_4 x)
  have g5_5 := goodRow R5_5
  have cg5_5 := fun x => lt_of_some (g5_5 x)
  iterate 1 (go_big_quiet_step (fail))
  go_big_quiet_step ((go_at_call 21; exact Calls.good (agreeCheck_eq' HP.out _)))
  iterate 2 (go_big_quiet_step (fail))
  go_big_quiet_step ((go_at_call 23; exact Calls.good (refMay9_is HB.out _)))
  iterate 1 (go_big_quiet_step (fail))
  refine wpQuiet_nil ?_
  rintro w5 ⟨⟨_, hb5⟩, rfl⟩
  have HB5 := hid (BW5.trans (hb5.mono BW5.size))
  have hs5 : w.heap.size ≤ w5.heap.size := HB5.out.size
  have r5_0 : rowAt w5 (w.heap.size) = some (.cells (tabA p) 25 (0, 0)) := rowNext' hb5 R5_0
  have c5_0 := lt_of_some r5_0
  have r5_1 : rowAt w5 (w.heap.size + 1) = some (.cells #[.int .i64 f, .int .i64 l, .bool a, .bool i, .bool o, .int .u8 v] 27 (0, 0)) := rowNext' hb5 R5_1
  have c5_1 := cells6 r5_1
  have r5_2 : rowAt w5 (w.heap.size + 1 + 1) = some (.cells (tabA u) 39 (0, 0)) := rowNext' hb5 R5_2
  have c5_2 := lt_of_some r5_2
  have r5_3 : rowAt w5 (w1.heap.size) = some (.cells #[.int .i64 0, .int .u8 0] 29 (0, 0)) := rowNext' hb5 R5_3
  have c5_3 := cells2 r5_3
  have r5_4 : rowAt w5 (w2.heap.size) = some (.cells #[.int .i64 0, .int .i64 0, .bool false, .bool false, .bool false, .int .u8 0] 27 (0, 0)) := rowNext' hb5 R5_4
  have c5_4 := cells6 r5_4
  have r5_5 : rowAt w5 (w3.heap.size) = some (.cells (tabA p) 39 (0, 0)) := rowNext' hb5 R5_5
  have c5_5 := lt_of_some r5_5
  clear R5_0 g5_0 cg5_0 r4_0 c4_0 R5_1 g5_1 cg5_1 r4_1 c4_1 R5_2 g5_2 cg5_2 r4_2 c4_2 R5_3 g5_3 cg5_3 r4_3 c4_3 R5_4 g5_4 cg5_4 r4_4 c4_4 R5_5 g5_5 cg5_5 r4_5 c4_5 hb4 HB4 hs4
  go_wp2_with fail
  refine (refMay9_is HB.out _).mono ?_
  rintro e w6 ⟨rfl, hb6⟩
  have HB6 := hid (below_step HB5.out (by first | omega | (simp [putRow_size, drewN_heap, drew_heap] <;> omega)) hb6)
  have hs6 : w.heap.size ≤ w6.heap.size := HB6.out.size
  have r6_0 : rowAt w6 (w.heap.size) = some (.cells (tabA p) 25 (0, 0)) := rowNext' hb6 r5_0
  have c6_0 := lt_of_some r6_0
  have r6_1 : rowAt w6 (w.heap.size + 1) = some (.cells #[.int .i64 f, .int .i64 l, .bool a, .bool i, .bool o, .int .u8 v] 27 (0, 0)) := rowNext' hb6 r5_1
  have c6_1 := cells6 r6_1
  have r6_2 : rowAt w6 (w.heap.size + 1 + 1) = some (.cells (tabA u) 39 (0, 0)) := rowNext' hb6 r5_2
  have c6_2 := lt_of_some r6_2
  have r6_3 : rowAt w6 (w1.heap.size) = some (.cells #[.int .i64 0, .int .u8 0] 29 (0, 0)) := rowNext' hb6 r5_3
  have c6_3 := cells2 r6_3
  have r6_4 : rowAt w6 (w2.heap.size) = some (.cells #[.int .i64 0, .int .i64 0, .bool false, .bool false, .bool false, .int .u8 0] 27 (0, 0)) := rowNext' hb6 r5_4
  have c6_4 := cells6 r6_4
  have r6_5 : rowAt w6 (w3.heap.size) = some (.cells (tabA p) 39 (0, 0)) := rowNext' hb6 r5_5
  have c6_5 := lt_of_some r6_5
  clear r5_0 c5_0 r5_1 c5_1 r5_2 c5_2 r5_3 c5_3 r5_4 c5_4 r5_5 c5_5 hb5 HB5 hs5
  go_wp2_with fail
  refine (refMay7_is HT.out a i o v _).mono ?_
  rintro e w7 ⟨rfl, hb7⟩
  have HB7 := hid (below_step HB6.out (by first | omega | (simp [putRow_size, drewN_heap, drew_heap] <;> omega)) hb7)
  have hs7 : w.heap.size ≤ w7.heap.size := HB7.out.size
  have r7_0 : rowAt w7 (w.heap.size) = some (.cells (tabA p) 25 (0, 0)) := rowNext' hb7 r6_0
  have c7_0 := lt_of_some r7_0
  have r7_1 : rowAt w7 (w.heap.size + 1) = some (.cells #[.int .i64 f, .int .i64 l, .bool a, .bool i, .bool o, .int .u8 v] 27 (0, 0)) := rowNext' hb7 r6_1
  have c7_1 := cells6 r7_1
  have r7_2 : rowAt w7 (w.heap.size + 1 + 1) = some (.cells (tabA u) 39 (0, 0)) := rowNext' hb7 r6_2
  have c7_2 := lt_of_some r7_2
  have r7_3 : rowAt w7 (w1.heap.size) = some (.cells #[.int .i64 0, .int .u8 0] 29 (0, 0)) := rowNext' hb7 r6_3
  have c7_3 := cells2 r7_3
  have r7_4 : rowAt w7 (w2.heap.size) = some (.cells #[.int .i64 0, .int .i64 0, .bool false, .bool false, .bool false, .int .u8 0] 27 (0, 0)) := rowNext' hb7 r6_4
  have c7_4 := cells6 r7_4
  have r7_5 : rowAt w7 (w3.heap.size) = some (.cells (tabA p) 39 (0, 0)) := rowNext' hb7 r6_5
  have c7_5 := lt_of_some r7_5
  clear r6_0 c6_0 r6_1 c6_1 r6_2 c6_2 r6_3 c6_3 r6_4 c6_4 r6_5 c6_5 hb6 HB6 hs6
  go_wp2_with fail
  refine wp_region_goodw (by kernel_rfl) (by kernel_rfl) ?_
  intro W8 hW8
  have R8_0 : rowAt W8 (w.heap.size) = some (.cells (tabA p) 25 (0, 0)) := by rw [hW8]; exact r7_0
  have R8_1 : rowAt W8 (w.heap.size + 1) = some (.cells #[.int .i64 f, .int .i64 l, .bool a, .bool i, .bool o, .int .u8 v] 27 (0, 0)) := by rw [hW8]; exact r7_1
  have R8_2 : rowAt W8 (w.heap.size + 1 + 1) = some (.cells (tabA u) 39 (0, 0)) := by rw [hW8]; exact r7_2
  have R8_3 : rowAt W8 (w1.heap.size) = some (.cells #[.int .i64 0, .int .u8 0] 29 (0, 0)) := by rw [hW8]; exact r7_3
  have R8_4 : rowAt W8 (w2.heap.size) = some (.cells #[.int .i64 0, .int .i64 0, .bool false, .bool false, .bool false, .int .u8 0] 27 (0, 0)) := by rw [hW8]; exact r7_4
  have R8_5 : rowAt W8 (w3.heap.size) = some (.cells (tabA p) 39 (0, 0)) := by rw [hW8]; exact r7_5
  have BW8 : Below w.heap.size w W8 := by rw [hW8]; exact HB7.out
  clear hW8
  have g8_0 := goodRow R8_0
  have cg8_0 := fun x => lt_of_some (g8_0 x)
  have g8_1 := goodRow R8_1
  have cg8_1 := fun x => cells6 (g8_1 x)
  have g8_2 := goodRow R8_2
  have cg8_2 := fun x => lt_of_some (g8_2 x)
  have g8_3 := goodRow R8_3
  have cg8_3 := fun x => cells2 (g8_3 x)
  have g8_4 := goodRow R8_4
  have cg8_4 := fun x => cells6 (g8_4 x)
  have g8_5 := goodRow R8_5
  have cg8_5 := fun x => lt_of_some (g8_5 x)
  iterate 1 (go_big_quiet_step (fail))
  go_big_quiet_step ((go_at_call 23; exact Calls.good (refMay9_is HB.out _)))
  iterate 12 (go_big_quiet_step (fail))
  go_big_quiet_step ((go_at_call 23; exact Calls.good (refMay9_is HB.out _)))
  iterate 3 (go_big_quiet_step (fail))
  go_big_quiet_step ((go_at_call 27; exact Calls.good (refFirst9 (tabErr_ok HP.out) _)))
  iterate 7 (go_big_quiet_step (fail))
  refine wpQuiet_nil ?_
  rintro w8 ⟨⟨_, hb8⟩, rfl⟩
  have HB8 := hid (BW8.trans (hb8.mono BW8.size))
  have hs8 : w.heap.size ≤ w8.heap.size := HB8.out.size
  have r8_0 : rowAt w8 (w.heap.size) = some (.cells (tabA p) 25 (0, 0)) := rowNext' hb8 R8_0
  have c8_0 := lt_of_some r8_0
  have r8_1 : rowAt w8 (w.heap.size + 1) = some (.cells #[.int .i64 f, .int .i64 l, .bool a, .bool i, .bool o, .int .u8 v] 27 (0, 0)) := rowNext' hb8 R8_1
  have c8_1 := cells6 r8_1
  have r8_2 : rowAt w8 (w.heap.size + 1 + 1) = some (.cells (tabA u) 39 (0, 0)) := rowNext' hb8 R8_2
  have c8_2 := lt_of_some r8_2
  have r8_3 : rowAt w8 (w1.heap.size) = some (.cells #[.int .i64 0, .int .u8 0] 29 (0, 0)) := rowNext' hb8 R8_3
  have c8_3 := cells2 r8_3
  have r8_4 : rowAt w8 (w2.heap.size) = some (.cells #[.int .i64 0, .int .i64 0, .bool false, .bool false, .bool false, .int .u8 0] 27 (0, 0)) := rowNext' hb8 R8_4
  have c8_4 := cells6 r8_4
  have r8_5 : rowAt w8 (w3.heap.size) = some (.cells (tabA p) 39 (0, 0)) := rowNext' hb8 R8_5
  have c8_5 := lt_of_some r8_5
  clear R8_0 g8_0 cg8_0 r7_0 c7_0 R8_1 g8_1 cg8_1 r7_1 c7_1 R8_2 g8_2 cg8_2 r7_2 c7_2 R8_3 g8_3 cg8_3 r7_3 c7_3 R8_4 g8_4 cg8_4 r7_4 c7_4 R8_5 g8_5 cg8_5 r7_5 c7_5 hb7 HB7 hs7
  go_wp2_with fail
  refine (refMay_is9 HV.out _).mono ?_
  rintro e w9 ⟨rfl, hb9⟩
  have HB9 := hid (below_step HB8.out (by first | omega | (simp [putRow_size, drewN_heap, drew_heap] <;> omega)) hb9)
  have hs9 : w.heap.size ≤ w9.heap.size := HB9.out.size
  have r9_0 : rowAt w9 (w.heap.size) = some (.cells (tabA p) 25 (0, 0)) := rowNext' hb9 r8_0
  have c9_0 := lt_of_some r9_0
  have r9_1 : rowAt w9 (w.heap.size + 1) = some (.cells #[.int .i64 f, .int .i64 l, .bool a, .bool i, .bool o, .int .u8 v] 27 (0, 0)) := rowNext' hb9 r8_1
  have c9_1 := cells6 r9_1
  have r9_2 : rowAt w9 (w.heap.size + 1 + 1) = some (.cells (tabA u) 39 (0, 0)) := rowNext' hb9 r8_2
  have c9_2 := lt_of_some r9_2
  have r9_3 : rowAt w9 (w1.heap.size) = some (.cells #[.int .i64 0, .int .u8 0] 29 (0, 0)) := rowNext' hb9 r8_3
  have c9_3 := cells2 r9_3
  have r9_4 : rowAt w9 (w2.heap.size) = some (.cells #[.int .i64 0, .int .i64 0, .bool false, .bool false, .bool false, .int .u8 0] 27 (0, 0)) := rowNext' hb9 r8_4
  have c9_4 := cells6 r9_4
  have r9_5 : rowAt w9 (w3.heap.size) = some (.cells (tabA p) 39 (0, 0)) := rowNext' hb9 r8_5
  have c9_5 := lt_of_some r9_5
  clear r8_0 c8_0 r8_1 c8_1 r8_2 c8_2 r8_3 c8_3 r8_4 c8_4 r8_5 c8_5 hb8 HB8 hs8
  go_wp2_with fail
  refine (awake9 _).mono ?_
  rintro e w10 ⟨rfl, hb10⟩
  have HB10 := hid (below_step HB9.out (by first | omega | (simp [putRow_size, drewN_heap, drew_heap] <;> omega)) hb10)
  have hs10 : w.heap.size ≤ w10.heap.size := HB10.out.size
  have r10_0 : rowAt w10 (w.heap.size) = some (.cells (tabA p) 25 (0, 0)) := rowNext' hb10 r9_0
  have c10_0 := lt_of_some r10_0
  have r10_1 : rowAt w10 (w.heap.size + 1) = some (.cells #[.int .i64 f, .int .i64 l, .bool a, .bool i, .bool o, .int .u8 v] 27 (0, 0)) := rowNext' hb10 r9_1
  have c10_1 := cells6 r10_1
  have r10_2 : rowAt w10 (w.heap.size + 1 + 1) = some (.cells (tabA u) 39 (0, 0)) := rowNext' hb10 r9_2
  have c10_2 := lt_of_some r10_2
  have r10_3 : rowAt w10 (w1.heap.size) = some (.cells #[.int .i64 0, .int .u8 0] 29 (0, 0)) := rowNext' hb10 r9_3
  have c10_3 := cells2 r10_3
  have r10_4 : rowAt w10 (w2.heap.size) = some (.cells #[.int .i64 0, .int .i64 0, .bool false, .bool false, .bool false, .int .u8 0] 27 (0, 0)) := rowNext' hb10 r9_4
  have c10_4 := cells6 r10_4
  have r10_5 : rowAt w10 (w3.heap.size) = some (.cells (tabA p) 39 (0, 0)) := rowNext' hb10 r9_5
  have c10_5 := lt_of_some r10_5
  clear r9_0 c9_0 r9_1 c9_1 r9_2 c9_2 r9_3 c9_3 r9_4 c9_4 r9_5 c9_5 hb9 HB9 hs9
  go_wp2_with fail
  go_ret
  exact ⟨rfl, HB10.out⟩

set_option maxHeartbeats 2000000 in
set_option maxRecDepth 100000 in
theorem at_ntu (p u : Tb) (f l v : Int) (a i o : Bool) (H1 : Hid (settle p f l v = ((0, 0), 1))) (HP : Hid (tabErr p = 1)) (HB : Hid (decide (tabOk p) = false)) (HU : Hid (tabErr u = 0)) (HV : Hid (decide (tabOk u) = true)) (w : World) :
    Calls Try.prog 8 #[.agg (tabA p), .agg #[.int .i64 f, .int .i64 l, .bool a, .bool i, .bool o, .int .u8 v], .agg (tabA u)] w fun e w' => e = .returned (.bool true) ∧ Below w.heap.size w w' := by
  go_enter Try.func8, Try.ntmps8
  go_wp2_with fail
  refine (settle_eq H1.out a i o _).mono ?_
  rintro e w1 ⟨rfl, hb1⟩
  have HB1 := hid (below_step ((((Below.refl w.heap.size w).alloc (by first | omega | (simp [putRow_size, drewN_heap, drew_heap] <;> omega)) _).alloc (by first | omega | (simp [putRow_size, drewN_heap, drew_heap] <;> omega)) _).alloc (by first | omega | (simp [putRow_size, drewN_heap, drew_heap] <;> omega)) _) (by first | omega | (simp [putRow_size, drewN_heap, drew_heap] <;> omega)) hb1)
  have hs1 : w.heap.size ≤ w1.heap.size := HB1.out.size
  have r1_0 : rowAt w1 (w.heap.size) = some (.cells (tabA p) 25 (0, 0)) := rowNext' hb1 (by rw [rowAt_old _ _ _ (by first | omega | (simp [putRow_size, drewN_heap, drew_heap] <;> omega)), rowAt_old _ _ _ (by first | omega | (simp [putRow_size, drewN_heap, drew_heap] <;> omega)), rowAt_new _ _ _ (by first | omega | (simp [putRow_size, drewN_heap, drew_heap] <;> omega))])
  have c1_0 := lt_of_some r1_0
  have r1_1 : rowAt w1 (w.heap.size + 1) = some (.cells #[.int .i64 f, .int .i64 l, .bool a, .bool i, .bool o, .int .u8 v] 27 (0, 0)) := rowNext' hb1 (by rw [rowAt_old _ _ _ (by first | omega | (simp [putRow_size, drewN_heap, drew_heap] <;> omega)), rowAt_new _ _ _ (by first | omega | (simp [putRow_size, drewN_heap, drew_heap] <;> omega))])
  have c1_1 := cells6 r1_1
  have r1_2 : rowAt w1 (w.heap.size + 1 + 1) = some (.cells (tabA u) 39 (0, 0)) := rowNext' hb1 (by rw [rowAt_new _ _ _ (by first | omega | (simp [putRow_size, drewN_heap, drew_heap] <;> omega))])
  have c1_2 := lt_of_some r1_2
  go_wp2_with fail
  refine (answer_bad _ _ _ _ a i o _ _ H1 _).mono ?_
  rintro e w2 ⟨rfl, hb2⟩
  have HB2 := hid (below_step (HB1.out.alloc (by first | omega | (simp [putRow_size, drewN_heap, drew_heap] <;> omega)) _) (by first | omega | (simp [putRow_size, drewN_heap, drew_heap] <;> omega)) hb2)
  have hs2 : w.heap.size ≤ w2.heap.size := HB2.out.size
  have r2_0 : rowAt w2 (w.heap.size) = some (.cells (tabA p) 25 (0, 0)) := rowNext' hb2 (by rw [rowAt_old _ _ _ (by first | omega | (simp [putRow_size, drewN_heap, drew_heap] <;> omega))]; exact r1_0)
  have c2_0 := lt_of_some r2_0
  have r2_1 : rowAt w2 (w.heap.size + 1) = some (.cells #[.int .i64 f, .int .i64 l, .bool a, .bool i, .bool o, .int .u8 v] 27 (0, 0)) := rowNext' hb2 (by rw [rowAt_old _ _ _ (by first | omega | (simp [putRow_size, drewN_heap, drew_heap] <;> omega))]; exact r1_1)
  have c2_1 := cells6 r2_1
  have r2_2 : rowAt w2 (w.heap.size + 1 + 1) = some (.cells (tabA u) 39 (0, 0)) := rowNext' hb2 (by rw [rowAt_old _ _ _ (by first | omega | (simp [putRow_size, drewN_heap, drew_heap] <;> omega))]; exact r1_2)
  have c2_2 := lt_of_some r2_2
  have r2_3 : rowAt w2 (w1.heap.size) = some (.cells #[.int .i64 0, .int .u8 0] 29 (0, 0)) := rowNext' hb2 (by rw [rowAt_new _ _ _ (by first | omega | (simp [putRow_size, drewN_heap, drew_heap] <;> omega))])
  have c2_3 := cells2 r2_3
  clear r1_0 c1_0 r1_1 c1_1 r1_2 c1_2 hb1 HB1 hs1
  go_wp2_with fail
  refine (first_no p HP.out _).mono ?_
  rintro e w3 ⟨rfl, hb3⟩
  have HB3 := hid (below_step (HB2.out.alloc (by first | omega | (simp [putRow_size, drewN_heap, drew_heap] <;> omega)) _) (by first | omega | (simp [putRow_size, drewN_heap, drew_heap] <;> omega)) hb3)
  have hs3 : w.heap.size ≤ w3.heap.size := HB3.out.size
  have r3_0 : rowAt w3 (w.heap.size) = some (.cells (tabA p) 25 (0, 0)) := rowNext' hb3 (by rw [rowAt_old _ _ _ (by first | omega | (simp [putRow_size, drewN_heap, drew_heap] <;> omega))]; exact r2_0)
  have c3_0 := lt_of_some r3_0
  have r3_1 : rowAt w3 (w.heap.size + 1) = some (.cells #[.int .i64 f, .int .i64 l, .bool a, .bool i, .bool o, .int .u8 v] 27 (0, 0)) := rowNext' hb3 (by rw [rowAt_old _ _ _ (by first | omega | (simp [putRow_size, drewN_heap, drew_heap] <;> omega))]; exact r2_1)
  have c3_1 := cells6 r3_1
  have r3_2 : rowAt w3 (w.heap.size + 1 + 1) = some (.cells (tabA u) 39 (0, 0)) := rowNext' hb3 (by rw [rowAt_old _ _ _ (by first | omega | (simp [putRow_size, drewN_heap, drew_heap] <;> omega))]; exact r2_2)
  have c3_2 := lt_of_some r3_2
  have r3_3 : rowAt w3 (w1.heap.size) = some (.cells #[.int .i64 0, .int .u8 0] 29 (0, 0)) := rowNext' hb3 (by rw [rowAt_old _ _ _ (by first | omega | (simp [putRow_size, drewN_heap, drew_heap] <;> omega))]; exact r2_3)
  have c3_3 := cells2 r3_3
  have r3_4 : rowAt w3 (w2.heap.size) = some (.cells #[.int .i64 0, .int .i64 0, .bool false, .bool false, .bool false, .int .u8 0] 27 (0, 0)) := rowNext' hb3 (by rw [rowAt_new _ _ _ (by first | omega | (simp [putRow_size, drewN_heap, drew_heap] <;> omega))])
  have c3_4 := cells6 r3_4
  clear r2_0 c2_0 r2_1 c2_1 r2_2 c2_2 r2_3 c2_3 hb2 HB2 hs2
  go_wp2_with fail
  refine (whole_ok u HU.out _).mono ?_
  rintro e w4 ⟨g, rfl, hcs, hg1, hg2, hb4⟩
  have HCS4 : Hid (Tris w4 g u) := hid hcs
  clear hcs hg1 hg2
  have HB4 := hid (below_step (HB3.out.alloc (by first | omega | (simp [putRow_size, drewN_heap, drew_heap] <;> omega)) _) (by first | omega | (simp [putRow_size, drewN_heap, drew_heap] <;> omega)) hb4)
  have hs4 : w.heap.size ≤ w4.heap.size := HB4.out.size
  have r4_0 : rowAt w4 (w.heap.size) = some (.cells (tabA p) 25 (0, 0)) := rowNext' hb4 (by rw [rowAt_old _ _ _ (by first | omega | (simp [putRow_size, drewN_heap, drew_heap] <;> omega))]; exact r3_0)
  have c4_0 := lt_of_some r4_0
  have r4_1 : rowAt w4 (w.heap.size + 1) = some (.cells #[.int .i64 f, .int .i64 l, .bool a, .bool i, .bool o, .int .u8 v] 27 (0, 0)) := rowNext' hb4 (by rw [rowAt_old _ _ _ (by first | omega | (simp [putRow_size, drewN_heap, drew_heap] <;> omega))]; exact r3_1)
  have c4_1 := cells6 r4_1
  have r4_2 : rowAt w4 (w.heap.size + 1 + 1) = some (.cells (tabA u) 39 (0, 0)) := rowNext' hb4 (by rw [rowAt_old _ _ _ (by first | omega | (simp [putRow_size, drewN_heap, drew_heap] <;> omega))]; exact r3_2)
  have c4_2 := lt_of_some r4_2
  have r4_3 : rowAt w4 (w1.heap.size) = some (.cells #[.int .i64 0, .int .u8 0] 29 (0, 0)) := rowNext' hb4 (by rw [rowAt_old _ _ _ (by first | omega | (simp [putRow_size, drewN_heap, drew_heap] <;> omega))]; exact r3_3)
  have c4_3 := cells2 r4_3
  have r4_4 : rowAt w4 (w2.heap.size) = some (.cells #[.int .i64 0, .int .i64 0, .bool false, .bool false, .bool false, .int .u8 0] 27 (0, 0)) := rowNext' hb4 (by rw [rowAt_old _ _ _ (by first | omega | (simp [putRow_size, drewN_heap, drew_heap] <;> omega))]; exact r3_4)
  have c4_4 := cells6 r4_4
  have r4_5 : rowAt w4 (w3.heap.size) = some (.cells (tabA zeroT) 39 (0, 0)) := rowNext' hb4 (by rw [rowAt_new _ _ _ (by first | omega | (simp [putRow_size, drewN_heap, drew_heap] <;> omega))])
  have c4_5 := lt_of_some r4_5
  clear r3_0 c3_0 r3_1 c3_1 r3_2 c3_2 r3_3 c3_3 r3_4 c3_4 hb3 HB3 hs3
  go_wp2_with fail
  refine wp_region_goodw (by kernel_rfl) (by kernel_rfl) ?_
  intro W5 hW5
  have R5_0 : rowAt W5 (w.heap.size) = some (.cells (tabA p) 25 (0, 0)) := by rw [hW5]; exact r4_0
  have R5_1 : rowAt W5 (w.heap.size + 1) = some (.cells #[.int .i64 f, .int .i64 l, .bool a, .bool i, .bool o, .int .u8 v] 27 (0, 0)) := by rw [hW5]; exact r4_1
  have R5_2 : rowAt W5 (w.heap.size + 1 + 1) = some (.cells (tabA u) 39 (0, 0)) := by rw [hW5]; exact r4_2
  have R5_3 : rowAt W5 (w1.heap.size) = some (.cells #[.int .i64 0, .int .u8 0] 29 (0, 0)) := by rw [hW5]; exact r4_3
  have R5_4 : rowAt W5 (w2.heap.size) = some (.cells #[.int .i64 0, .int .i64 0, .bool false, .bool false, .bool false, .int .u8 0] 27 (0, 0)) := by rw [hW5]; exact r4_4
  have R5_5 : rowAt W5 (w3.heap.size) = some (.cells (tabA zeroT) 39 (0, 0)) := by rw [hW5]; exact r4_5
  have BW5 : Below w.heap.size w W5 := by rw [hW5]; exact HB4.out
  have HCSW : Hid (Tris W5 g u) := hid (by rw [hW5]; exact HCS4.out)
  clear hW5
  have g5_0 := goodRow R5_0
  have cg5_0 := fun x => lt_of_some (g5_0 x)
  have g5_1 := goodRow R5_1
  have cg5_1 := fun x => cells6 (g5_1 x)
  have g5_2 := goodRow R5_2
  have cg5_2 := fun x => lt_of_some (g5_2 x)
  have g5_3 := goodRow R5_3
  have cg5_3 := fun x => cells2 (g5_3 x)
  have g5_4 := goodRow R5_4
  have cg5_4 := fun x => cells6 (g5_4 x)
  have g5_5 := goodRow R5_5
  have cg5_5 := fun x => lt_of_some (g5_5 x)
  iterate 1 (go_big_quiet_step (fail))
  go_big_quiet_step ((go_at_call 21; exact Calls.good (agreeCheck_eq' HP.out _)))
  iterate 2 (go_big_quiet_step (fail))
  go_big_quiet_step ((go_at_call 23; exact Calls.good (refMay9_is HB.out _)))
  iterate 1 (go_big_quiet_step (fail))
  refine wpQuiet_nil ?_
  rintro w5 ⟨⟨_, hb5⟩, rfl⟩
  have HCS5 := hid (HCSW.out.below hb5)
  clear HCSW
  have HB5 := hid (BW5.trans (hb5.mono BW5.size))
  have hs5 : w.heap.size ≤ w5.heap.size := HB5.out.size
  have r5_0 : rowAt w5 (w.heap.size) = some (.cells (tabA p) 25 (0, 0)) := rowNext' hb5 R5_0
  have c5_0 := lt_of_some r5_0
  have r5_1 : rowAt w5 (w.heap.size + 1) = some (.cells #[.int .i64 f, .int .i64 l, .bool a, .bool i, .bool o, .int .u8 v] 27 (0, 0)) := rowNext' hb5 R5_1
  have c5_1 := cells6 r5_1
  have r5_2 : rowAt w5 (w.heap.size + 1 + 1) = some (.cells (tabA u) 39 (0, 0)) := rowNext' hb5 R5_2
  have c5_2 := lt_of_some r5_2
  have r5_3 : rowAt w5 (w1.heap.size) = some (.cells #[.int .i64 0, .int .u8 0] 29 (0, 0)) := rowNext' hb5 R5_3
  have c5_3 := cells2 r5_3
  have r5_4 : rowAt w5 (w2.heap.size) = some (.cells #[.int .i64 0, .int .i64 0, .bool false, .bool false, .bool false, .int .u8 0] 27 (0, 0)) := rowNext' hb5 R5_4
  have c5_4 := cells6 r5_4
  have r5_5 : rowAt w5 (w3.heap.size) = some (.cells (tabA zeroT) 39 (0, 0)) := rowNext' hb5 R5_5
  have c5_5 := lt_of_some r5_5
  clear R5_0 g5_0 cg5_0 r4_0 c4_0 R5_1 g5_1 cg5_1 r4_1 c4_1 R5_2 g5_2 cg5_2 r4_2 c4_2 R5_3 g5_3 cg5_3 r4_3 c4_3 R5_4 g5_4 cg5_4 r4_4 c4_4 R5_5 g5_5 cg5_5 r4_5 c4_5 hb4 HB4 hs4
  go_wp2_with fail
  refine (refMay9_is HB.out _).mono ?_
  rintro e w6 ⟨rfl, hb6⟩
  have HCS6 := hid (HCS5.out.below hb6)
  have HB6 := hid (below_step HB5.out (by first | omega | (simp [putRow_size, drewN_heap, drew_heap] <;> omega)) hb6)
  have hs6 : w.heap.size ≤ w6.heap.size := HB6.out.size
  have r6_0 : rowAt w6 (w.heap.size) = some (.cells (tabA p) 25 (0, 0)) := rowNext' hb6 r5_0
  have c6_0 := lt_of_some r6_0
  have r6_1 : rowAt w6 (w.heap.size + 1) = some (.cells #[.int .i64 f, .int .i64 l, .bool a, .bool i, .bool o, .int .u8 v] 27 (0, 0)) := rowNext' hb6 r5_1
  have c6_1 := cells6 r6_1
  have r6_2 : rowAt w6 (w.heap.size + 1 + 1) = some (.cells (tabA u) 39 (0, 0)) := rowNext' hb6 r5_2
  have c6_2 := lt_of_some r6_2
  have r6_3 : rowAt w6 (w1.heap.size) = some (.cells #[.int .i64 0, .int .u8 0] 29 (0, 0)) := rowNext' hb6 r5_3
  have c6_3 := cells2 r6_3
  have r6_4 : rowAt w6 (w2.heap.size) = some (.cells #[.int .i64 0, .int .i64 0, .bool false, .bool false, .bool false, .int .u8 0] 27 (0, 0)) := rowNext' hb6 r5_4
  have c6_4 := cells6 r6_4
  have r6_5 : rowAt w6 (w3.heap.size) = some (.cells (tabA zeroT) 39 (0, 0)) := rowNext' hb6 r5_5
  have c6_5 := lt_of_some r6_5
  clear r5_0 c5_0 r5_1 c5_1 r5_2 c5_2 r5_3 c5_3 r5_4 c5_4 r5_5 c5_5 hb5 HB5 hs5
  go_wp2_with fail
  refine wp_region_goodw (by kernel_rfl) (by kernel_rfl) ?_
  intro W7 hW7
  have R7_0 : rowAt W7 (w.heap.size) = some (.cells (tabA p) 25 (0, 0)) := by rw [hW7]; exact r6_0
  have R7_1 : rowAt W7 (w.heap.size + 1) = some (.cells #[.int .i64 f, .int .i64 l, .bool a, .bool i, .bool o, .int .u8 v] 27 (0, 0)) := by rw [hW7]; exact r6_1
  have R7_2 : rowAt W7 (w.heap.size + 1 + 1) = some (.cells (tabA u) 39 (0, 0)) := by rw [hW7]; exact r6_2
  have R7_3 : rowAt W7 (w1.heap.size) = some (.cells #[.int .i64 0, .int .u8 0] 29 (0, 0)) := by rw [hW7]; exact r6_3
  have R7_4 : rowAt W7 (w2.heap.size) = some (.cells #[.int .i64 0, .int .i64 0, .bool false, .bool false, .bool false, .int .u8 0] 27 (0, 0)) := by rw [hW7]; exact r6_4
  have R7_5 : rowAt W7 (w3.heap.size) = some (.cells (tabA zeroT) 39 (0, 0)) := by rw [hW7]; exact r6_5
  have BW7 : Below w.heap.size w W7 := by rw [hW7]; exact HB6.out
  have HCSW : Hid (Tris W7 g u) := hid (by rw [hW7]; exact HCS6.out)
  clear hW7
  have g7_0 := goodRow R7_0
  have cg7_0 := fun x => lt_of_some (g7_0 x)
  have g7_1 := goodRow R7_1
  have cg7_1 := fun x => cells6 (g7_1 x)
  have g7_2 := goodRow R7_2
  have cg7_2 := fun x => lt_of_some (g7_2 x)
  have g7_3 := goodRow R7_3
  have cg7_3 := fun x => cells2 (g7_3 x)
  have g7_4 := goodRow R7_4
  have cg7_4 := fun x => cells6 (g7_4 x)
  have g7_5 := goodRow R7_5
  have cg7_5 := fun x => lt_of_some (g7_5 x)
  iterate 1 (go_big_quiet_step (fail))
  go_big_quiet_step ((go_at_call 23; exact Calls.good (refMay9_is HB.out _)))
  iterate 12 (go_big_quiet_step (fail))
  go_big_quiet_step ((go_at_call 23; exact Calls.good (refMay9_is HB.out _)))
  iterate 11 (go_big_quiet_step (fail))
  refine wpQuiet_nil ?_
  rintro w7 ⟨⟨_, hb7⟩, rfl⟩
  have HCS7 := hid (HCSW.out.below hb7)
  clear HCSW
  have HB7 := hid (BW7.trans (hb7.mono BW7.size))
  have hs7 : w.heap.size ≤ w7.heap.size := HB7.out.size
  have r7_0 : rowAt w7 (w.heap.size) = some (.cells (tabA p) 25 (0, 0)) := rowNext' hb7 R7_0
  have c7_0 := lt_of_some r7_0
  have r7_1 : rowAt w7 (w.heap.size + 1) = some (.cells #[.int .i64 f, .int .i64 l, .bool a, .bool i, .bool o, .int .u8 v] 27 (0, 0)) := rowNext' hb7 R7_1
  have c7_1 := cells6 r7_1
  have r7_2 : rowAt w7 (w.heap.size + 1 + 1) = some (.cells (tabA u) 39 (0, 0)) := rowNext' hb7 R7_2
  have c7_2 := lt_of_some r7_2
  have r7_3 : rowAt w7 (w1.heap.size) = some (.cells #[.int .i64 0, .int .u8 0] 29 (0, 0)) := rowNext' hb7 R7_3
  have c7_3 := cells2 r7_3
  have r7_4 : rowAt w7 (w2.heap.size) = some (.cells #[.int .i64 0, .int .i64 0, .bool false, .bool false, .bool false, .int .u8 0] 27 (0, 0)) := rowNext' hb7 R7_4
  have c7_4 := cells6 r7_4
  have r7_5 : rowAt w7 (w3.heap.size) = some (.cells (tabA zeroT) 39 (0, 0)) := rowNext' hb7 R7_5
  have c7_5 := lt_of_some r7_5
  clear R7_0 g7_0 cg7_0 r6_0 c6_0 R7_1 g7_1 cg7_1 r6_1 c6_1 R7_2 g7_2 cg7_2 r6_2 c6_2 R7_3 g7_3 cg7_3 r6_3 c6_3 R7_4 g7_4 cg7_4 r6_4 c6_4 R7_5 g7_5 cg7_5 r6_5 c6_5 hb6 HB6 hs6
  go_wp2_with fail
  refine (refMay_is9 HV.out _).mono ?_
  rintro e w8 ⟨rfl, hb8⟩
  have HCS8 := hid (HCS7.out.below hb8)
  have HB8 := hid (below_step HB7.out (by first | omega | (simp [putRow_size, drewN_heap, drew_heap] <;> omega)) hb8)
  have hs8 : w.heap.size ≤ w8.heap.size := HB8.out.size
  have r8_0 : rowAt w8 (w.heap.size) = some (.cells (tabA p) 25 (0, 0)) := rowNext' hb8 r7_0
  have c8_0 := lt_of_some r8_0
  have r8_1 : rowAt w8 (w.heap.size + 1) = some (.cells #[.int .i64 f, .int .i64 l, .bool a, .bool i, .bool o, .int .u8 v] 27 (0, 0)) := rowNext' hb8 r7_1
  have c8_1 := cells6 r8_1
  have r8_2 : rowAt w8 (w.heap.size + 1 + 1) = some (.cells (tabA u) 39 (0, 0)) := rowNext' hb8 r7_2
  have c8_2 := lt_of_some r8_2
  have r8_3 : rowAt w8 (w1.heap.size) = some (.cells #[.int .i64 0, .int .u8 0] 29 (0, 0)) := rowNext' hb8 r7_3
  have c8_3 := cells2 r8_3
  have r8_4 : rowAt w8 (w2.heap.size) = some (.cells #[.int .i64 0, .int .i64 0, .bool false, .bool false, .bool false, .int .u8 0] 27 (0, 0)) := rowNext' hb8 r7_4
  have c8_4 := cells6 r8_4
  have r8_5 : rowAt w8 (w3.heap.size) = some (.cells (tabA zeroT) 39 (0, 0)) := rowNext' hb8 r7_5
  have c8_5 := lt_of_some r8_5
  clear r7_0 c7_0 r7_1 c7_1 r7_2 c7_2 r7_3 c7_3 r7_4 c7_4 r7_5 c7_5 hb7 HB7 hs7
  go_wp2_with fail
  refine (refWhole9 u _).mono ?_
  rintro e w9 ⟨g', cp, rfl, hcs', hb9⟩
  have HCSX := hid (HCS8.out.below hb9)
  have HCSY : Hid (Tris w9 g' u) := hid hcs'
  clear hcs'
  have HB9 := hid (below_step HB8.out (by first | omega | (simp [putRow_size, drewN_heap, drew_heap] <;> omega)) hb9)
  have hs9 : w.heap.size ≤ w9.heap.size := HB9.out.size
  have r9_0 : rowAt w9 (w.heap.size) = some (.cells (tabA p) 25 (0, 0)) := rowNext' hb9 r8_0
  have c9_0 := lt_of_some r9_0
  have r9_1 : rowAt w9 (w.heap.size + 1) = some (.cells #[.int .i64 f, .int .i64 l, .bool a, .bool i, .bool o, .int .u8 v] 27 (0, 0)) := rowNext' hb9 r8_1
  have c9_1 := cells6 r9_1
  have r9_2 : rowAt w9 (w.heap.size + 1 + 1) = some (.cells (tabA u) 39 (0, 0)) := rowNext' hb9 r8_2
  have c9_2 := lt_of_some r9_2
  have r9_3 : rowAt w9 (w1.heap.size) = some (.cells #[.int .i64 0, .int .u8 0] 29 (0, 0)) := rowNext' hb9 r8_3
  have c9_3 := cells2 r9_3
  have r9_4 : rowAt w9 (w2.heap.size) = some (.cells #[.int .i64 0, .int .i64 0, .bool false, .bool false, .bool false, .int .u8 0] 27 (0, 0)) := rowNext' hb9 r8_4
  have c9_4 := cells6 r9_4
  have r9_5 : rowAt w9 (w3.heap.size) = some (.cells (tabA zeroT) 39 (0, 0)) := rowNext' hb9 r8_5
  have c9_5 := lt_of_some r9_5
  clear r8_0 c8_0 r8_1 c8_1 r8_2 c8_2 r8_3 c8_3 r8_4 c8_4 r8_5 c8_5 hb8 HB8 hs8
  go_wp2_with fail
  refine (refSame u g g' 31 cp _ HCSX.out HCSY.out).mono ?_
  rintro e w10 ⟨rfl, hb10⟩
  have HB10 := hid (below_step HB9.out (by first | omega | (simp [putRow_size, drewN_heap, drew_heap] <;> omega)) hb10)
  have hs10 : w.heap.size ≤ w10.heap.size := HB10.out.size
  have r10_0 : rowAt w10 (w.heap.size) = some (.cells (tabA p) 25 (0, 0)) := rowNext' hb10 r9_0
  have c10_0 := lt_of_some r10_0
  have r10_1 : rowAt w10 (w.heap.size + 1) = some (.cells #[.int .i64 f, .int .i64 l, .bool a, .bool i, .bool o, .int .u8 v] 27 (0, 0)) := rowNext' hb10 r9_1
  have c10_1 := cells6 r10_1
  have r10_2 : rowAt w10 (w.heap.size + 1 + 1) = some (.cells (tabA u) 39 (0, 0)) := rowNext' hb10 r9_2
  have c10_2 := lt_of_some r10_2
  have r10_3 : rowAt w10 (w1.heap.size) = some (.cells #[.int .i64 0, .int .u8 0] 29 (0, 0)) := rowNext' hb10 r9_3
  have c10_3 := cells2 r10_3
  have r10_4 : rowAt w10 (w2.heap.size) = some (.cells #[.int .i64 0, .int .i64 0, .bool false, .bool false, .bool false, .int .u8 0] 27 (0, 0)) := rowNext' hb10 r9_4
  have c10_4 := cells6 r10_4
  have r10_5 : rowAt w10 (w3.heap.size) = some (.cells (tabA zeroT) 39 (0, 0)) := rowNext' hb10 r9_5
  have c10_5 := lt_of_some r10_5
  clear r9_0 c9_0 r9_1 c9_1 r9_2 c9_2 r9_3 c9_3 r9_4 c9_4 r9_5 c9_5 hb9 HB9 hs9
  go_wp2_with fail
  refine (awake9 _).mono ?_
  rintro e w11 ⟨rfl, hb11⟩
  have HB11 := hid (below_step HB10.out (by first | omega | (simp [putRow_size, drewN_heap, drew_heap] <;> omega)) hb11)
  have hs11 : w.heap.size ≤ w11.heap.size := HB11.out.size
  have r11_0 : rowAt w11 (w.heap.size) = some (.cells (tabA p) 25 (0, 0)) := rowNext' hb11 r10_0
  have c11_0 := lt_of_some r11_0
  have r11_1 : rowAt w11 (w.heap.size + 1) = some (.cells #[.int .i64 f, .int .i64 l, .bool a, .bool i, .bool o, .int .u8 v] 27 (0, 0)) := rowNext' hb11 r10_1
  have c11_1 := cells6 r11_1
  have r11_2 : rowAt w11 (w.heap.size + 1 + 1) = some (.cells (tabA u) 39 (0, 0)) := rowNext' hb11 r10_2
  have c11_2 := lt_of_some r11_2
  have r11_3 : rowAt w11 (w1.heap.size) = some (.cells #[.int .i64 0, .int .u8 0] 29 (0, 0)) := rowNext' hb11 r10_3
  have c11_3 := cells2 r11_3
  have r11_4 : rowAt w11 (w2.heap.size) = some (.cells #[.int .i64 0, .int .i64 0, .bool false, .bool false, .bool false, .int .u8 0] 27 (0, 0)) := rowNext' hb11 r10_4
  have c11_4 := cells6 r11_4
  have r11_5 : rowAt w11 (w3.heap.size) = some (.cells (tabA zeroT) 39 (0, 0)) := rowNext' hb11 r10_5
  have c11_5 := lt_of_some r11_5
  clear r10_0 c10_0 r10_1 c10_1 r10_2 c10_2 r10_3 c10_3 r10_4 c10_4 r10_5 c10_5 hb10 HB10 hs10
  go_wp2_with fail
  go_ret
  exact ⟨rfl, HB11.out⟩

set_option maxHeartbeats 2000000 in
set_option maxRecDepth 100000 in
theorem at_ntn (p u : Tb) (f l v : Int) (a i o : Bool) (H1 : Hid (settle p f l v = ((0, 0), 1))) (HP : Hid (tabErr p = 1)) (HB : Hid (decide (tabOk p) = false)) (HU : Hid (tabErr u = 1)) (HV : Hid (decide (tabOk u) = false)) (w : World) :
    Calls Try.prog 8 #[.agg (tabA p), .agg #[.int .i64 f, .int .i64 l, .bool a, .bool i, .bool o, .int .u8 v], .agg (tabA u)] w fun e w' => e = .returned (.bool true) ∧ Below w.heap.size w w' := by
  go_enter Try.func8, Try.ntmps8
  go_wp2_with fail
  refine (settle_eq H1.out a i o _).mono ?_
  rintro e w1 ⟨rfl, hb1⟩
  have HB1 := hid (below_step ((((Below.refl w.heap.size w).alloc (by first | omega | (simp [putRow_size, drewN_heap, drew_heap] <;> omega)) _).alloc (by first | omega | (simp [putRow_size, drewN_heap, drew_heap] <;> omega)) _).alloc (by first | omega | (simp [putRow_size, drewN_heap, drew_heap] <;> omega)) _) (by first | omega | (simp [putRow_size, drewN_heap, drew_heap] <;> omega)) hb1)
  have hs1 : w.heap.size ≤ w1.heap.size := HB1.out.size
  have r1_0 : rowAt w1 (w.heap.size) = some (.cells (tabA p) 25 (0, 0)) := rowNext' hb1 (by rw [rowAt_old _ _ _ (by first | omega | (simp [putRow_size, drewN_heap, drew_heap] <;> omega)), rowAt_old _ _ _ (by first | omega | (simp [putRow_size, drewN_heap, drew_heap] <;> omega)), rowAt_new _ _ _ (by first | omega | (simp [putRow_size, drewN_heap, drew_heap] <;> omega))])
  have c1_0 := lt_of_some r1_0
  have r1_1 : rowAt w1 (w.heap.size + 1) = some (.cells #[.int .i64 f, .int .i64 l, .bool a, .bool i, .bool o, .int .u8 v] 27 (0, 0)) := rowNext' hb1 (by rw [rowAt_old _ _ _ (by first | omega | (simp [putRow_size, drewN_heap, drew_heap] <;> omega)), rowAt_new _ _ _ (by first | omega | (simp [putRow_size, drewN_heap, drew_heap] <;> omega))])
  have c1_1 := cells6 r1_1
  have r1_2 : rowAt w1 (w.heap.size + 1 + 1) = some (.cells (tabA u) 39 (0, 0)) := rowNext' hb1 (by rw [rowAt_new _ _ _ (by first | omega | (simp [putRow_size, drewN_heap, drew_heap] <;> omega))])
  have c1_2 := lt_of_some r1_2
  go_wp2_with fail
  refine (answer_bad _ _ _ _ a i o _ _ H1 _).mono ?_
  rintro e w2 ⟨rfl, hb2⟩
  have HB2 := hid (below_step (HB1.out.alloc (by first | omega | (simp [putRow_size, drewN_heap, drew_heap] <;> omega)) _) (by first | omega | (simp [putRow_size, drewN_heap, drew_heap] <;> omega)) hb2)
  have hs2 : w.heap.size ≤ w2.heap.size := HB2.out.size
  have r2_0 : rowAt w2 (w.heap.size) = some (.cells (tabA p) 25 (0, 0)) := rowNext' hb2 (by rw [rowAt_old _ _ _ (by first | omega | (simp [putRow_size, drewN_heap, drew_heap] <;> omega))]; exact r1_0)
  have c2_0 := lt_of_some r2_0
  have r2_1 : rowAt w2 (w.heap.size + 1) = some (.cells #[.int .i64 f, .int .i64 l, .bool a, .bool i, .bool o, .int .u8 v] 27 (0, 0)) := rowNext' hb2 (by rw [rowAt_old _ _ _ (by first | omega | (simp [putRow_size, drewN_heap, drew_heap] <;> omega))]; exact r1_1)
  have c2_1 := cells6 r2_1
  have r2_2 : rowAt w2 (w.heap.size + 1 + 1) = some (.cells (tabA u) 39 (0, 0)) := rowNext' hb2 (by rw [rowAt_old _ _ _ (by first | omega | (simp [putRow_size, drewN_heap, drew_heap] <;> omega))]; exact r1_2)
  have c2_2 := lt_of_some r2_2
  have r2_3 : rowAt w2 (w1.heap.size) = some (.cells #[.int .i64 0, .int .u8 0] 29 (0, 0)) := rowNext' hb2 (by rw [rowAt_new _ _ _ (by first | omega | (simp [putRow_size, drewN_heap, drew_heap] <;> omega))])
  have c2_3 := cells2 r2_3
  clear r1_0 c1_0 r1_1 c1_1 r1_2 c1_2 hb1 HB1 hs1
  go_wp2_with fail
  refine (first_no p HP.out _).mono ?_
  rintro e w3 ⟨rfl, hb3⟩
  have HB3 := hid (below_step (HB2.out.alloc (by first | omega | (simp [putRow_size, drewN_heap, drew_heap] <;> omega)) _) (by first | omega | (simp [putRow_size, drewN_heap, drew_heap] <;> omega)) hb3)
  have hs3 : w.heap.size ≤ w3.heap.size := HB3.out.size
  have r3_0 : rowAt w3 (w.heap.size) = some (.cells (tabA p) 25 (0, 0)) := rowNext' hb3 (by rw [rowAt_old _ _ _ (by first | omega | (simp [putRow_size, drewN_heap, drew_heap] <;> omega))]; exact r2_0)
  have c3_0 := lt_of_some r3_0
  have r3_1 : rowAt w3 (w.heap.size + 1) = some (.cells #[.int .i64 f, .int .i64 l, .bool a, .bool i, .bool o, .int .u8 v] 27 (0, 0)) := rowNext' hb3 (by rw [rowAt_old _ _ _ (by first | omega | (simp [putRow_size, drewN_heap, drew_heap] <;> omega))]; exact r2_1)
  have c3_1 := cells6 r3_1
  have r3_2 : rowAt w3 (w.heap.size + 1 + 1) = some (.cells (tabA u) 39 (0, 0)) := rowNext' hb3 (by rw [rowAt_old _ _ _ (by first | omega | (simp [putRow_size, drewN_heap, drew_heap] <;> omega))]; exact r2_2)
  have c3_2 := lt_of_some r3_2
  have r3_3 : rowAt w3 (w1.heap.size) = some (.cells #[.int .i64 0, .int .u8 0] 29 (0, 0)) := rowNext' hb3 (by rw [rowAt_old _ _ _ (by first | omega | (simp [putRow_size, drewN_heap, drew_heap] <;> omega))]; exact r2_3)
  have c3_3 := cells2 r3_3
  have r3_4 : rowAt w3 (w2.heap.size) = some (.cells #[.int .i64 0, .int .i64 0, .bool false, .bool false, .bool false, .int .u8 0] 27 (0, 0)) := rowNext' hb3 (by rw [rowAt_new _ _ _ (by first | omega | (simp [putRow_size, drewN_heap, drew_heap] <;> omega))])
  have c3_4 := cells6 r3_4
  clear r2_0 c2_0 r2_1 c2_1 r2_2 c2_2 r2_3 c2_3 hb2 HB2 hs2
  go_wp2_with fail
  refine (whole_no u HU.out _).mono ?_
  rintro e w4 ⟨rfl, hb4⟩
  have HB4 := hid (below_step (HB3.out.alloc (by first | omega | (simp [putRow_size, drewN_heap, drew_heap] <;> omega)) _) (by first | omega | (simp [putRow_size, drewN_heap, drew_heap] <;> omega)) hb4)
  have hs4 : w.heap.size ≤ w4.heap.size := HB4.out.size
  have r4_0 : rowAt w4 (w.heap.size) = some (.cells (tabA p) 25 (0, 0)) := rowNext' hb4 (by rw [rowAt_old _ _ _ (by first | omega | (simp [putRow_size, drewN_heap, drew_heap] <;> omega))]; exact r3_0)
  have c4_0 := lt_of_some r4_0
  have r4_1 : rowAt w4 (w.heap.size + 1) = some (.cells #[.int .i64 f, .int .i64 l, .bool a, .bool i, .bool o, .int .u8 v] 27 (0, 0)) := rowNext' hb4 (by rw [rowAt_old _ _ _ (by first | omega | (simp [putRow_size, drewN_heap, drew_heap] <;> omega))]; exact r3_1)
  have c4_1 := cells6 r4_1
  have r4_2 : rowAt w4 (w.heap.size + 1 + 1) = some (.cells (tabA u) 39 (0, 0)) := rowNext' hb4 (by rw [rowAt_old _ _ _ (by first | omega | (simp [putRow_size, drewN_heap, drew_heap] <;> omega))]; exact r3_2)
  have c4_2 := lt_of_some r4_2
  have r4_3 : rowAt w4 (w1.heap.size) = some (.cells #[.int .i64 0, .int .u8 0] 29 (0, 0)) := rowNext' hb4 (by rw [rowAt_old _ _ _ (by first | omega | (simp [putRow_size, drewN_heap, drew_heap] <;> omega))]; exact r3_3)
  have c4_3 := cells2 r4_3
  have r4_4 : rowAt w4 (w2.heap.size) = some (.cells #[.int .i64 0, .int .i64 0, .bool false, .bool false, .bool false, .int .u8 0] 27 (0, 0)) := rowNext' hb4 (by rw [rowAt_old _ _ _ (by first | omega | (simp [putRow_size, drewN_heap, drew_heap] <;> omega))]; exact r3_4)
  have c4_4 := cells6 r4_4
  have r4_5 : rowAt w4 (w3.heap.size) = some (.cells (tabA zeroT) 39 (0, 0)) := rowNext' hb4 (by rw [rowAt_new _ _ _ (by first | omega | (simp [putRow_size, drewN_heap, drew_heap] <;> omega))])
  have c4_5 := lt_of_some r4_5
  clear r3_0 c3_0 r3_1 c3_1 r3_2 c3_2 r3_3 c3_3 r3_4 c3_4 hb3 HB3 hs3
  go_wp2_with fail
  refine wp_region_goodw (by kernel_rfl) (by kernel_rfl) ?_
  intro W5 hW5
  have R5_0 : rowAt W5 (w.heap.size) = some (.cells (tabA p) 25 (0, 0)) := by rw [hW5]; exact r4_0
  have R5_1 : rowAt W5 (w.heap.size + 1) = some (.cells #[.int .i64 f, .int .i64 l, .bool a, .bool i, .bool o, .int .u8 v] 27 (0, 0)) := by rw [hW5]; exact r4_1
  have R5_2 : rowAt W5 (w.heap.size + 1 + 1) = some (.cells (tabA u) 39 (0, 0)) := by rw [hW5]; exact r4_2
  have R5_3 : rowAt W5 (w1.heap.size) = some (.cells #[.int .i64 0, .int .u8 0] 29 (0, 0)) := by rw [hW5]; exact r4_3
  have R5_4 : rowAt W5 (w2.heap.size) = some (.cells #[.int .i64 0, .int .i64 0, .bool false, .bool false, .bool false, .int .u8 0] 27 (0, 0)) := by rw [hW5]; exact r4_4
  have R5_5 : rowAt W5 (w3.heap.size) = some (.cells (tabA zeroT) 39 (0, 0)) := by rw [hW5]; exact r4_5
  have BW5 : Below w.heap.size w W5 := by rw [hW5]; exact HB4.out
  clear hW5
  have g5_0 := goodRow R5_0
  have cg5_0 := fun x => lt_of_some (g5_0 x)
  have g5_1 := goodRow R5_1
  have cg5_1 := fun x => cells6 (g5_1 x)
  have g5_2 := goodRow R5_2
  have cg5_2 := fun x => lt_of_some (g5_2 x)
  have g5_3 := goodRow R5_3
  have cg5_3 := fun x => cells2 (g5_3 x)
  have g5_4 := goodRow R5_4
  have cg5_4 := fun x => cells6 (g5_4 x)
  have g5_5 := goodRow R5_5
  have cg5_5 := fun x => lt_of_some (g5_5 x)
  iterate 1 (go_big_quiet_step (fail))
  go_big_quiet_step ((go_at_call 21; exact Calls.good (agreeCheck_eq' HP.out _)))
  iterate 2 (go_big_quiet_step (fail))
  go_big_quiet_step ((go_at_call 23; exact Calls.good (refMay9_is HB.out _)))
  iterate 1 (go_big_quiet_step (fail))
  refine wpQuiet_nil ?_
  rintro w5 ⟨⟨_, hb5⟩, rfl⟩
  have HB5 := hid (BW5.trans (hb5.mono BW5.size))
  have hs5 : w.heap.size ≤ w5.heap.size := HB5.out.size
  have r5_0 : rowAt w5 (w.heap.size) = some (.cells (tabA p) 25 (0, 0)) := rowNext' hb5 R5_0
  have c5_0 := lt_of_some r5_0
  have r5_1 : rowAt w5 (w.heap.size + 1) = some (.cells #[.int .i64 f, .int .i64 l, .bool a, .bool i, .bool o, .int .u8 v] 27 (0, 0)) := rowNext' hb5 R5_1
  have c5_1 := cells6 r5_1
  have r5_2 : rowAt w5 (w.heap.size + 1 + 1) = some (.cells (tabA u) 39 (0, 0)) := rowNext' hb5 R5_2
  have c5_2 := lt_of_some r5_2
  have r5_3 : rowAt w5 (w1.heap.size) = some (.cells #[.int .i64 0, .int .u8 0] 29 (0, 0)) := rowNext' hb5 R5_3
  have c5_3 := cells2 r5_3
  have r5_4 : rowAt w5 (w2.heap.size) = some (.cells #[.int .i64 0, .int .i64 0, .bool false, .bool false, .bool false, .int .u8 0] 27 (0, 0)) := rowNext' hb5 R5_4
  have c5_4 := cells6 r5_4
  have r5_5 : rowAt w5 (w3.heap.size) = some (.cells (tabA zeroT) 39 (0, 0)) := rowNext' hb5 R5_5
  have c5_5 := lt_of_some r5_5
  clear R5_0 g5_0 cg5_0 r4_0 c4_0 R5_1 g5_1 cg5_1 r4_1 c4_1 R5_2 g5_2 cg5_2 r4_2 c4_2 R5_3 g5_3 cg5_3 r4_3 c4_3 R5_4 g5_4 cg5_4 r4_4 c4_4 R5_5 g5_5 cg5_5 r4_5 c4_5 hb4 HB4 hs4
  go_wp2_with fail
  refine (refMay9_is HB.out _).mono ?_
  rintro e w6 ⟨rfl, hb6⟩
  have HB6 := hid (below_step HB5.out (by first | omega | (simp [putRow_size, drewN_heap, drew_heap] <;> omega)) hb6)
  have hs6 : w.heap.size ≤ w6.heap.size := HB6.out.size
  have r6_0 : rowAt w6 (w.heap.size) = some (.cells (tabA p) 25 (0, 0)) := rowNext' hb6 r5_0
  have c6_0 := lt_of_some r6_0
  have r6_1 : rowAt w6 (w.heap.size + 1) = some (.cells #[.int .i64 f, .int .i64 l, .bool a, .bool i, .bool o, .int .u8 v] 27 (0, 0)) := rowNext' hb6 r5_1
  have c6_1 := cells6 r6_1
  have r6_2 : rowAt w6 (w.heap.size + 1 + 1) = some (.cells (tabA u) 39 (0, 0)) := rowNext' hb6 r5_2
  have c6_2 := lt_of_some r6_2
  have r6_3 : rowAt w6 (w1.heap.size) = some (.cells #[.int .i64 0, .int .u8 0] 29 (0, 0)) := rowNext' hb6 r5_3
  have c6_3 := cells2 r6_3
  have r6_4 : rowAt w6 (w2.heap.size) = some (.cells #[.int .i64 0, .int .i64 0, .bool false, .bool false, .bool false, .int .u8 0] 27 (0, 0)) := rowNext' hb6 r5_4
  have c6_4 := cells6 r6_4
  have r6_5 : rowAt w6 (w3.heap.size) = some (.cells (tabA zeroT) 39 (0, 0)) := rowNext' hb6 r5_5
  have c6_5 := lt_of_some r6_5
  clear r5_0 c5_0 r5_1 c5_1 r5_2 c5_2 r5_3 c5_3 r5_4 c5_4 r5_5 c5_5 hb5 HB5 hs5
  go_wp2_with fail
  refine wp_region_goodw (by kernel_rfl) (by kernel_rfl) ?_
  intro W7 hW7
  have R7_0 : rowAt W7 (w.heap.size) = some (.cells (tabA p) 25 (0, 0)) := by rw [hW7]; exact r6_0
  have R7_1 : rowAt W7 (w.heap.size + 1) = some (.cells #[.int .i64 f, .int .i64 l, .bool a, .bool i, .bool o, .int .u8 v] 27 (0, 0)) := by rw [hW7]; exact r6_1
  have R7_2 : rowAt W7 (w.heap.size + 1 + 1) = some (.cells (tabA u) 39 (0, 0)) := by rw [hW7]; exact r6_2
  have R7_3 : rowAt W7 (w1.heap.size) = some (.cells #[.int .i64 0, .int .u8 0] 29 (0, 0)) := by rw [hW7]; exact r6_3
  have R7_4 : rowAt W7 (w2.heap.size) = some (.cells #[.int .i64 0, .int .i64 0, .bool false, .bool false, .bool false, .int .u8 0] 27 (0, 0)) := by rw [hW7]; exact r6_4
  have R7_5 : rowAt W7 (w3.heap.size) = some (.cells (tabA zeroT) 39 (0, 0)) := by rw [hW7]; exact r6_5
  have BW7 : Below w.heap.size w W7 := by rw [hW7]; exact HB6.out
  clear hW7
  have g7_0 := goodRow R7_0
  have cg7_0 := fun x => lt_of_some (g7_0 x)
  have g7_1 := goodRow R7_1
  have cg7_1 := fun x => cells6 (g7_1 x)
  have g7_2 := goodRow R7_2
  have cg7_2 := fun x => lt_of_some (g7_2 x)
  have g7_3 := goodRow R7_3
  have cg7_3 := fun x => cells2 (g7_3 x)
  have g7_4 := goodRow R7_4
  have cg7_4 := fun x => cells6 (g7_4 x)
  have g7_5 := goodRow R7_5
  have cg7_5 := fun x => lt_of_some (g7_5 x)
  iterate 1 (go_big_quiet_step (fail))
  go_big_quiet_step ((go_at_call 23; exact Calls.good (refMay9_is HB.out _)))
  iterate 12 (go_big_quiet_step (fail))
  go_big_quiet_step ((go_at_call 23; exact Calls.good (refMay9_is HB.out _)))
  iterate 11 (go_big_quiet_step (fail))
  refine wpQuiet_nil ?_
  rintro w7 ⟨⟨_, hb7⟩, rfl⟩
  have HB7 := hid (BW7.trans (hb7.mono BW7.size))
  have hs7 : w.heap.size ≤ w7.heap.size := HB7.out.size
  have r7_0 : rowAt w7 (w.heap.size) = some (.cells (tabA p) 25 (0, 0)) := rowNext' hb7 R7_0
  have c7_0 := lt_of_some r7_0
  have r7_1 : rowAt w7 (w.heap.size + 1) = some (.cells #[.int .i64 f, .int .i64 l, .bool a, .bool i, .bool o, .int .u8 v] 27 (0, 0)) := rowNext' hb7 R7_1
  have c7_1 := cells6 r7_1
  have r7_2 : rowAt w7 (w.heap.size + 1 + 1) = some (.cells (tabA u) 39 (0, 0)) := rowNext' hb7 R7_2
  have c7_2 := lt_of_some r7_2
  have r7_3 : rowAt w7 (w1.heap.size) = some (.cells #[.int .i64 0, .int .u8 0] 29 (0, 0)) := rowNext' hb7 R7_3
  have c7_3 := cells2 r7_3
  have r7_4 : rowAt w7 (w2.heap.size) = some (.cells #[.int .i64 0, .int .i64 0, .bool false, .bool false, .bool false, .int .u8 0] 27 (0, 0)) := rowNext' hb7 R7_4
  have c7_4 := cells6 r7_4
  have r7_5 : rowAt w7 (w3.heap.size) = some (.cells (tabA zeroT) 39 (0, 0)) := rowNext' hb7 R7_5
  have c7_5 := lt_of_some r7_5
  clear R7_0 g7_0 cg7_0 r6_0 c6_0 R7_1 g7_1 cg7_1 r6_1 c6_1 R7_2 g7_2 cg7_2 r6_2 c6_2 R7_3 g7_3 cg7_3 r6_3 c6_3 R7_4 g7_4 cg7_4 r6_4 c6_4 R7_5 g7_5 cg7_5 r6_5 c6_5 hb6 HB6 hs6
  go_wp2_with fail
  refine (refMay_is9 HV.out _).mono ?_
  rintro e w8 ⟨rfl, hb8⟩
  have HB8 := hid (below_step HB7.out (by first | omega | (simp [putRow_size, drewN_heap, drew_heap] <;> omega)) hb8)
  have hs8 : w.heap.size ≤ w8.heap.size := HB8.out.size
  have r8_0 : rowAt w8 (w.heap.size) = some (.cells (tabA p) 25 (0, 0)) := rowNext' hb8 r7_0
  have c8_0 := lt_of_some r8_0
  have r8_1 : rowAt w8 (w.heap.size + 1) = some (.cells #[.int .i64 f, .int .i64 l, .bool a, .bool i, .bool o, .int .u8 v] 27 (0, 0)) := rowNext' hb8 r7_1
  have c8_1 := cells6 r8_1
  have r8_2 : rowAt w8 (w.heap.size + 1 + 1) = some (.cells (tabA u) 39 (0, 0)) := rowNext' hb8 r7_2
  have c8_2 := lt_of_some r8_2
  have r8_3 : rowAt w8 (w1.heap.size) = some (.cells #[.int .i64 0, .int .u8 0] 29 (0, 0)) := rowNext' hb8 r7_3
  have c8_3 := cells2 r8_3
  have r8_4 : rowAt w8 (w2.heap.size) = some (.cells #[.int .i64 0, .int .i64 0, .bool false, .bool false, .bool false, .int .u8 0] 27 (0, 0)) := rowNext' hb8 r7_4
  have c8_4 := cells6 r8_4
  have r8_5 : rowAt w8 (w3.heap.size) = some (.cells (tabA zeroT) 39 (0, 0)) := rowNext' hb8 r7_5
  have c8_5 := lt_of_some r8_5
  clear r7_0 c7_0 r7_1 c7_1 r7_2 c7_2 r7_3 c7_3 r7_4 c7_4 r7_5 c7_5 hb7 HB7 hs7
  go_wp2_with fail
  refine (awake9 _).mono ?_
  rintro e w9 ⟨rfl, hb9⟩
  have HB9 := hid (below_step HB8.out (by first | omega | (simp [putRow_size, drewN_heap, drew_heap] <;> omega)) hb9)
  have hs9 : w.heap.size ≤ w9.heap.size := HB9.out.size
  have r9_0 : rowAt w9 (w.heap.size) = some (.cells (tabA p) 25 (0, 0)) := rowNext' hb9 r8_0
  have c9_0 := lt_of_some r9_0
  have r9_1 : rowAt w9 (w.heap.size + 1) = some (.cells #[.int .i64 f, .int .i64 l, .bool a, .bool i, .bool o, .int .u8 v] 27 (0, 0)) := rowNext' hb9 r8_1
  have c9_1 := cells6 r9_1
  have r9_2 : rowAt w9 (w.heap.size + 1 + 1) = some (.cells (tabA u) 39 (0, 0)) := rowNext' hb9 r8_2
  have c9_2 := lt_of_some r9_2
  have r9_3 : rowAt w9 (w1.heap.size) = some (.cells #[.int .i64 0, .int .u8 0] 29 (0, 0)) := rowNext' hb9 r8_3
  have c9_3 := cells2 r9_3
  have r9_4 : rowAt w9 (w2.heap.size) = some (.cells #[.int .i64 0, .int .i64 0, .bool false, .bool false, .bool false, .int .u8 0] 27 (0, 0)) := rowNext' hb9 r8_4
  have c9_4 := cells6 r9_4
  have r9_5 : rowAt w9 (w3.heap.size) = some (.cells (tabA zeroT) 39 (0, 0)) := rowNext' hb9 r8_5
  have c9_5 := lt_of_some r9_5
  clear r8_0 c8_0 r8_1 c8_1 r8_2 c8_2 r8_3 c8_3 r8_4 c8_4 r8_5 c8_5 hb8 HB8 hs8
  go_wp2_with fail
  go_ret
  exact ⟨rfl, HB9.out⟩

end Go.Proofs.Ytjghmgpmaallfaa
