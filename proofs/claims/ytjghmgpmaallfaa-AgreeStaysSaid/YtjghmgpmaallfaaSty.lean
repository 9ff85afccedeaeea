/-
  The walk of AgreeStays.
-/
import Derived.Test.YtjghmgpmaallfaaAns
namespace Go.Proofs.Ytjghmgpmaallfaa
open Go.RowKit
set_option linter.unusedVariables false
set_option linter.unusedSimpArgs false

set_option maxHeartbeats 2000000 in
set_option maxRecDepth 100000 in
theorem stays_no (p : Tb) (f l v : Int) (a i o : Bool) (c1 c2 : Int) (H1 : Hid (settle p f l v = ((c1, c2), 1))) (w : World) :
    Calls Try.prog 5 #[.agg (tabA p), .agg #[.int .i64 f, .int .i64 l, .bool a, .bool i, .bool o, .int .u8 v]] w fun e w' => e = .returned (.bool true) ∧ Below w.heap.size w w' := by
  go_enter Try.func5, Try.ntmps5
  go_wp2_with (refine wpList_load_row rfl 25 (.tmp 2) rfl (w.heap.size) rfl 25 (tabA p) (0, 0) _ (by rw [heapOld _ _ _ (by first | omega | (simp [putRow_size] <;> omega)), heapNew _ _ _ (by first | omega | (simp [putRow_size] <;> omega))]) Try.underlying25 rfl (by rw [tabA_size]; exact sizePrefs) ?_)
  refine (settle_eq H1.out a i o _).mono ?_
  rintro e w1 ⟨rfl, hb1⟩
  have HB1 := hid (below_step (((Below.refl w.heap.size w).alloc (by first | omega | (simp [putRow_size] <;> omega)) _).alloc (by first | omega | (simp [putRow_size] <;> omega)) _) (by first | omega | (simp [putRow_size] <;> omega)) hb1)
  have hs1 : w.heap.size ≤ w1.heap.size := HB1.out.size
  have r1_0 : w1.heap[w.heap.size]? = some (.cells (tabA p) 25 (0, 0)) := rowNext hb1 (by rw [heapOld _ _ _ (by first | omega | (simp [putRow_size] <;> omega)), heapNew _ _ _ (by first | omega | (simp [putRow_size] <;> omega))])
  have c1_0 := lt_of_some r1_0
  have r1_1 : w1.heap[w.heap.size + 1]? = some (.cells #[.int .i64 f, .int .i64 l, .bool a, .bool i, .bool o, .int .u8 v] 27 (0, 0)) := rowNext hb1 (by rw [heapNew _ _ _ (by first | omega | (simp [putRow_size] <;> omega))])
  have c1_1 := cells6 r1_1
  go_wp2_with fail
  refine (awake9 _).mono ?_
  rintro e w2 ⟨rfl, hb2⟩
  have HB2 := hid (below_step (HB1.out.alloc (by first | omega | (simp [putRow_size] <;> omega)) _) (by first | omega | (simp [putRow_size] <;> omega)) hb2)
  have hs2 : w.heap.size ≤ w2.heap.size := HB2.out.size
  have r2_0 : w2.heap[w.heap.size]? = some (.cells (tabA p) 25 (0, 0)) := rowNext hb2 (by rw [heapOld _ _ _ (by first | omega | (simp [putRow_size] <;> omega))]; exact r1_0)
  have c2_0 := lt_of_some r2_0
  have r2_1 : w2.heap[w.heap.size + 1]? = some (.cells #[.int .i64 f, .int .i64 l, .bool a, .bool i, .bool o, .int .u8 v] 27 (0, 0)) := rowNext hb2 (by rw [heapOld _ _ _ (by first | omega | (simp [putRow_size] <;> omega))]; exact r1_1)
  have c2_1 := cells6 r2_1
  have r2_2 : w2.heap[w1.heap.size]? = some (.cells #[.int .i64 c1, .int .u8 c2] 29 (0, 0)) := rowNext hb2 (by rw [heapNew _ _ _ (by first | omega | (simp [putRow_size] <;> omega))])
  have c2_2 := cells2 r2_2
  clear r1_0 c1_0 r1_1 c1_1 hb1 HB1 hs1
  go_wp2_with fail
  go_ret
  exact ⟨rfl, HB2.out⟩

set_option maxHeartbeats 2000000 in
set_option maxRecDepth 100000 in
theorem stays_ok (p : Tb) (f l v : Int) (a i o : Bool) (c1 c2 : Int) (H1 : Hid (settle p f l v = ((c1, c2), 0))) (H2 : Hid (settle p f c1 c2 = ((c1, c2), 0))) (w : World) :
    Calls Try.prog 5 #[.agg (tabA p), .agg #[.int .i64 f, .int .i64 l, .bool a, .bool i, .bool o, .int .u8 v]] w fun e w' => e = .returned (.bool true) ∧ Below w.heap.size w w' := by
  go_enter Try.func5, Try.ntmps5
  go_wp2_with (refine wpList_load_row rfl 25 (.tmp 2) rfl (w.heap.size) rfl 25 (tabA p) (0, 0) _ (by rw [heapOld _ _ _ (by first | omega | (simp [putRow_size] <;> omega)), heapNew _ _ _ (by first | omega | (simp [putRow_size] <;> omega))]) Try.underlying25 rfl (by rw [tabA_size]; exact sizePrefs) ?_)
  refine (settle_eq H1.out a i o _).mono ?_
  rintro e w1 ⟨rfl, hb1⟩
  have HB1 := hid (below_step (((Below.refl w.heap.size w).alloc (by first | omega | (simp [putRow_size] <;> omega)) _).alloc (by first | omega | (simp [putRow_size] <;> omega)) _) (by first | omega | (simp [putRow_size] <;> omega)) hb1)
  have hs1 : w.heap.size ≤ w1.heap.size := HB1.out.size
  have r1_0 : w1.heap[w.heap.size]? = some (.cells (tabA p) 25 (0, 0)) := rowNext hb1 (by rw [heapOld _ _ _ (by first | omega | (simp [putRow_size] <;> omega)), heapNew _ _ _ (by first | omega | (simp [putRow_size] <;> omega))])
  have c1_0 := lt_of_some r1_0
  have r1_1 : w1.heap[w.heap.size + 1]? = some (.cells #[.int .i64 f, .int .i64 l, .bool a, .bool i, .bool o, .int .u8 v] 27 (0, 0)) := rowNext hb1 (by rw [heapNew _ _ _ (by first | omega | (simp [putRow_size] <;> omega))])
  have c1_1 := cells6 r1_1
  go_wp2_with (refine wpList_load_row rfl 25 (.tmp 2) rfl (w.heap.size) rfl 25 (tabA p) (0, 0) _ (by rw [heapOld _ _ _ (by first | omega | (simp [putRow_size] <;> omega))]; exact r1_0) Try.underlying25 rfl (by rw [tabA_size]; exact sizePrefs) ?_)
  refine (settle_eq H2.out false false false _).mono ?_
  rintro e w2 ⟨rfl, hb2⟩
  have HB2 := hid (below_step (HB1.out.alloc (by first | omega | (simp [putRow_size] <;> omega)) _) (by first | omega | (simp [putRow_size] <;> omega)) hb2)
  have hs2 : w.heap.size ≤ w2.heap.size := HB2.out.size
  have r2_0 : w2.heap[w.heap.size]? = some (.cells (tabA p) 25 (0, 0)) := rowNext hb2 (by rw [heapOld _ _ _ (by first | omega | (simp [putRow_size] <;> omega))]; exact r1_0)
  have c2_0 := lt_of_some r2_0
  have r2_1 : w2.heap[w.heap.size + 1]? = some (.cells #[.int .i64 f, .int .i64 l, .bool a, .bool i, .bool o, .int .u8 v] 27 (0, 0)) := rowNext hb2 (by rw [heapOld _ _ _ (by first | omega | (simp [putRow_size] <;> omega))]; exact r1_1)
  have c2_1 := cells6 r2_1
  have r2_2 : w2.heap[w1.heap.size]? = some (.cells #[.int .i64 c1, .int .u8 c2] 29 (0, 0)) := rowNext hb2 (by rw [heapNew _ _ _ (by first | omega | (simp [putRow_size] <;> omega))])
  have c2_2 := cells2 r2_2
  clear r1_0 c1_0 r1_1 c1_1 hb1 HB1 hs1
  go_wp2_with (refine wpList_load_row rfl 25 (.tmp 2) rfl (w.heap.size) rfl 25 (tabA p) (0, 0) _ (by rw [heapOld _ _ _ (by first | omega | (simp [putRow_size] <;> omega))]; exact r2_0) Try.underlying25 rfl (by rw [tabA_size]; exact sizePrefs) ?_)
  refine (answer_ok _ _ _ _ a i o _ _ H1 _).mono ?_
  rintro e w3 ⟨rfl, hb3⟩
  have HB3 := hid (below_step (HB2.out.alloc (by first | omega | (simp [putRow_size] <;> omega)) _) (by first | omega | (simp [putRow_size] <;> omega)) hb3)
  have hs3 : w.heap.size ≤ w3.heap.size := HB3.out.size
  have r3_0 : w3.heap[w.heap.size]? = some (.cells (tabA p) 25 (0, 0)) := rowNext hb3 (by rw [heapOld _ _ _ (by first | omega | (simp [putRow_size] <;> omega))]; exact r2_0)
  have c3_0 := lt_of_some r3_0
  have r3_1 : w3.heap[w.heap.size + 1]? = some (.cells #[.int .i64 f, .int .i64 l, .bool a, .bool i, .bool o, .int .u8 v] 27 (0, 0)) := rowNext hb3 (by rw [heapOld _ _ _ (by first | omega | (simp [putRow_size] <;> omega))]; exact r2_1)
  have c3_1 := cells6 r3_1
  have r3_2 : w3.heap[w1.heap.size]? = some (.cells #[.int .i64 c1, .int .u8 c2] 29 (0, 0)) := rowNext hb3 (by rw [heapOld _ _ _ (by first | omega | (simp [putRow_size] <;> omega))]; exact r2_2)
  have c3_2 := cells2 r3_2
  have r3_3 : w3.heap[w2.heap.size]? = some (.cells #[.int .i64 c1, .int .u8 c2] 29 (0, 0)) := rowNext hb3 (by rw [heapNew _ _ _ (by first | omega | (simp [putRow_size] <;> omega))])
  have c3_3 := cells2 r3_3
  clear r2_0 c2_0 r2_1 c2_1 r2_2 c2_2 hb2 HB2 hs2
  go_wp2_with (refine wpList_load_row rfl 25 (.tmp 2) rfl (w.heap.size) rfl 25 (tabA p) (0, 0) _ (by rw [heapOld _ _ _ (by first | omega | (simp [putRow_size] <;> omega))]; exact r3_0) Try.underlying25 rfl (by rw [tabA_size]; exact sizePrefs) ?_)
  refine (answer_ok _ _ _ _ true i o _ _ H2 _).mono ?_
  rintro e w4 ⟨rfl, hb4⟩
  have HB4 := hid (below_step (HB3.out.alloc (by first | omega | (simp [putRow_size] <;> omega)) _) (by first | omega | (simp [putRow_size] <;> omega)) hb4)
  have hs4 : w.heap.size ≤ w4.heap.size := HB4.out.size
  have r4_0 : w4.heap[w.heap.size]? = some (.cells (tabA p) 25 (0, 0)) := rowNext hb4 (by rw [heapOld _ _ _ (by first | omega | (simp [putRow_size] <;> omega))]; exact r3_0)
  have c4_0 := lt_of_some r4_0
  have r4_1 : w4.heap[w.heap.size + 1]? = some (.cells #[.int .i64 f, .int .i64 l, .bool a, .bool i, .bool o, .int .u8 v] 27 (0, 0)) := rowNext hb4 (by rw [heapOld _ _ _ (by first | omega | (simp [putRow_size] <;> omega))]; exact r3_1)
  have c4_1 := cells6 r4_1
  have r4_2 : w4.heap[w1.heap.size]? = some (.cells #[.int .i64 c1, .int .u8 c2] 29 (0, 0)) := rowNext hb4 (by rw [heapOld _ _ _ (by first | omega | (simp [putRow_size] <;> omega))]; exact r3_2)
  have c4_2 := cells2 r4_2
  have r4_3 : w4.heap[w2.heap.size]? = some (.cells #[.int .i64 c1, .int .u8 c2] 29 (0, 0)) := rowNext hb4 (by rw [heapOld _ _ _ (by first | omega | (simp [putRow_size] <;> omega))]; exact r3_3)
  have c4_3 := cells2 r4_3
  have r4_4 : w4.heap[w3.heap.size]? = some (.cells #[.int .i64 f, .int .i64 c1, .bool true, .bool i, .bool o, .int .u8 c2] 27 (0, 0)) := rowNext hb4 (by rw [heapNew _ _ _ (by first | omega | (simp [putRow_size] <;> omega))])
  have c4_4 := cells6 r4_4
  clear r3_0 c3_0 r3_1 c3_1 r3_2 c3_2 r3_3 c3_3 hb3 HB3 hs3
  go_wp2_with fail
  refine (awake9 _).mono ?_
  rintro e w5 ⟨rfl, hb5⟩
  have HB5 := hid (below_step (HB4.out.alloc (by first | omega | (simp [putRow_size] <;> omega)) _) (by first | omega | (simp [putRow_size] <;> omega)) hb5)
  have hs5 : w.heap.size ≤ w5.heap.size := HB5.out.size
  have r5_0 : w5.heap[w.heap.size]? = some (.cells (tabA p) 25 (0, 0)) := rowNext hb5 (by rw [heapOld _ _ _ (by first | omega | (simp [putRow_size] <;> omega))]; exact r4_0)
  have c5_0 := lt_of_some r5_0
  have r5_1 : w5.heap[w.heap.size + 1]? = some (.cells #[.int .i64 f, .int .i64 l, .bool a, .bool i, .bool o, .int .u8 v] 27 (0, 0)) := rowNext hb5 (by rw [heapOld _ _ _ (by first | omega | (simp [putRow_size] <;> omega))]; exact r4_1)
  have c5_1 := cells6 r5_1
  have r5_2 : w5.heap[w1.heap.size]? = some (.cells #[.int .i64 c1, .int .u8 c2] 29 (0, 0)) := rowNext hb5 (by rw [heapOld _ _ _ (by first | omega | (simp [putRow_size] <;> omega))]; exact r4_2)
  have c5_2 := cells2 r5_2
  have r5_3 : w5.heap[w2.heap.size]? = some (.cells #[.int .i64 c1, .int .u8 c2] 29 (0, 0)) := rowNext hb5 (by rw [heapOld _ _ _ (by first | omega | (simp [putRow_size] <;> omega))]; exact r4_3)
  have c5_3 := cells2 r5_3
  have r5_4 : w5.heap[w3.heap.size]? = some (.cells #[.int .i64 f, .int .i64 c1, .bool true, .bool i, .bool o, .int .u8 c2] 27 (0, 0)) := rowNext hb5 (by rw [heapOld _ _ _ (by first | omega | (simp [putRow_size] <;> omega))]; exact r4_4)
  have c5_4 := cells6 r5_4
  have r5_5 : w5.heap[w4.heap.size]? = some (.cells #[.int .i64 f, .int .i64 c1, .bool true, .bool i, .bool o, .int .u8 c2] 27 (0, 0)) := rowNext hb5 (by rw [heapNew _ _ _ (by first | omega | (simp [putRow_size] <;> omega))])
  have c5_5 := cells6 r5_5
  clear r4_0 c4_0 r4_1 c4_1 r4_2 c4_2 r4_3 c4_3 r4_4 c4_4 hb4 HB4 hs4
  go_wp2_with fail
  go_ret
  exact ⟨rfl, HB5.out⟩

end Go.Proofs.Ytjghmgpmaallfaa
