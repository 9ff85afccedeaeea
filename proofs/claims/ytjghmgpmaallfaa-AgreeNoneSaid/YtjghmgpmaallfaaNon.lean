/-
  The walk of AgreeNone.
-/
import Derived.Test.YtjghmgpmaallfaaAw9
import Derived.Test.YtjghmgpmaallfaaPla
namespace Go.Proofs.Ytjghmgpmaallfaa
open Go.RowKit
set_option linter.unusedVariables false
set_option linter.unusedSimpArgs false

set_option maxHeartbeats 2000000 in
set_option maxRecDepth 100000 in
theorem none_no (p : Tb) (f l v : Int) (a i o : Bool) (c1 c2 : Int) (H1 : Hid (settle p f l v = ((c1, c2), 1))) (w : World) :
    Calls Try.prog 4 #[.agg (tabA p), .agg #[.int .i64 f, .int .i64 l, .bool a, .bool i, .bool o, .int .u8 v]] w fun e w' => e = .returned (.bool true) ∧ Below w.heap.size w w' := by
  go_enter Try.func4, Try.ntmps4
  go_wp2_with (refine wpList_load_row rfl 25 (.tmp 2) rfl (w.heap.size) rfl 25 (tabA p) (0, 0) _ (by rw [heapOld _ _ _ (by first | omega | (simp [putRow_size] <;> omega)), heapNew _ _ _ (by first | omega | (simp [putRow_size] <;> omega))]) Try.underlying25 rfl (by rw [tabA_size]; exact sizePrefs) ?_)
  refine (settle_eq H1.out a i o _).mono ?_
  rintro e w1 ⟨rfl, hb1⟩
  have HB1 := hid (below_step (((Below.refl w.heap.size w).alloc (by first | omega | (simp [putRow_size] <;> omega)) _).alloc (by first | omega | (simp [putRow_size] <;> omega)) _) (by first | omega | (simp [putRow_size] <;> omega)) hb1)
  have hs1 : w.heap.size ≤ w1.heap.size := HB1.out.size
  have r1_0 : w1.heap[w.heap.size]? = some (.cells (tabA p) 25 (0, 0)) := rowNext hb1 (by rw [heapOld _ _ _ (by first | omega | (simp [putRow_size] <;> omega)), heapNew _ _ _ (by first | omega | (simp [putRow_size] <;> omega))])
  have c1_0 := lt_of_some r1_0
  have r1_1 : w1.heap[w.heap.size + 1]? = some (.cells #[.int .i64 f, .int .i64 l, .bool a, .bool i, .bool o, .int .u8 v] 27 (0, 0)) := rowNext hb1 (by rw [heapNew _ _ _ (by first | omega | (simp [putRow_size] <;> omega))])
  have c1_1 := cells6 r1_1
  go_wp2_with fail
  refine (awake9 _).mono ?_
  rintro e w2 ⟨rfl, hb2⟩
  have HB2 := hid (below_step (HB1.out.alloc (by first | omega | (simp [putRow_size] <;> omega)) _) (by first | omega | (simp [putRow_size] <;> omega)) hb2)
  have hs2 : w.heap.size ≤ w2.heap.size := HB2.out.size
  have r2_0 : w2.heap[w.heap.size]? = some (.cells (tabA p) 25 (0, 0)) := rowNext hb2 (by rw [heapOld _ _ _ (by first | omega | (simp [putRow_size] <;> omega))]; exact r1_0)
  have c2_0 := lt_of_some r2_0
  have r2_1 : w2.heap[w.heap.size + 1]? = some (.cells #[.int .i64 f, .int .i64 l, .bool a, .bool i, .bool o, .int .u8 v] 27 (0, 0)) := rowNext hb2 (by rw [heapOld _ _ _ (by first | omega | (simp [putRow_size] <;> omega))]; exact r1_1)
  have c2_1 := cells6 r2_1
  have r2_2 : w2.heap[w1.heap.size]? = some (.cells #[.int .i64 c1, .int .u8 c2] 29 (0, 0)) := rowNext hb2 (by rw [heapNew _ _ _ (by first | omega | (simp [putRow_size] <;> omega))])
  have c2_2 := cells2 r2_2
  clear r1_0 c1_0 r1_1 c1_1 hb1 HB1 hs1
  go_wp2_with fail
  go_ret
  exact ⟨rfl, HB2.out⟩

set_option maxHeartbeats 2000000 in
set_option maxRecDepth 100000 in
theorem none_low (p : Tb) (f l v : Int) (a i o : Bool) (c1 c2 : Int) (H1 : Hid (settle p f l v = ((c1, c2), 0))) (hf : f < 1) (w : World) :
    Calls Try.prog 4 #[.agg (tabA p), .agg #[.int .i64 f, .int .i64 l, .bool a, .bool i, .bool o, .int .u8 v]] w fun e w' => e = .returned (.bool true) ∧ Below w.heap.size w w' := by
  go_enter Try.func4, Try.ntmps4
  go_wp2_with (refine wpList_load_row rfl 25 (.tmp 2) rfl (w.heap.size) rfl 25 (tabA p) (0, 0) _ (by rw [heapOld _ _ _ (by first | omega | (simp [putRow_size] <;> omega)), heapNew _ _ _ (by first | omega | (simp [putRow_size] <;> omega))]) Try.underlying25 rfl (by rw [tabA_size]; exact sizePrefs) ?_)
  refine (settle_eq H1.out a i o _).mono ?_
  rintro e w1 ⟨rfl, hb1⟩
  have HB1 := hid (below_step (((Below.refl w.heap.size w).alloc (by first | omega | (simp [putRow_size] <;> omega)) _).alloc (by first | omega | (simp [putRow_size] <;> omega)) _) (by first | omega | (simp [putRow_size] <;> omega)) hb1)
  have hs1 : w.heap.size ≤ w1.heap.size := HB1.out.size
  have r1_0 : w1.heap[w.heap.size]? = some (.cells (tabA p) 25 (0, 0)) := rowNext hb1 (by rw [heapOld _ _ _ (by first | omega | (simp [putRow_size] <;> omega)), heapNew _ _ _ (by first | omega | (simp [putRow_size] <;> omega))])
  have c1_0 := lt_of_some r1_0
  have r1_1 : w1.heap[w.heap.size + 1]? = some (.cells #[.int .i64 f, .int .i64 l, .bool a, .bool i, .bool o, .int .u8 v] 27 (0, 0)) := rowNext hb1 (by rw [heapNew _ _ _ (by first | omega | (simp [putRow_size] <;> omega))])
  have c1_1 := cells6 r1_1
  go_wp2_with fail
  refine (awake9 _).mono ?_
  rintro e w2 ⟨rfl, hb2⟩
  have HB2 := hid (below_step (HB1.out.alloc (by first | omega | (simp [putRow_size] <;> omega)) _) (by first | omega | (simp [putRow_size] <;> omega)) hb2)
  have hs2 : w.heap.size ≤ w2.heap.size := HB2.out.size
  have r2_0 : w2.heap[w.heap.size]? = some (.cells (tabA p) 25 (0, 0)) := rowNext hb2 (by rw [heapOld _ _ _ (by first | omega | (simp [putRow_size] <;> omega))]; exact r1_0)
  have c2_0 := lt_of_some r2_0
  have r2_1 : w2.heap[w.heap.size + 1]? = some (.cells #[.int .i64 f, .int .i64 l, .bool a, .bool i, .bool o, .int .u8 v] 27 (0, 0)) := rowNext hb2 (by rw [heapOld _ _ _ (by first | omega | (simp [putRow_size] <;> omega))]; exact r1_1)
  have c2_1 := cells6 r2_1
  have r2_2 : w2.heap[w1.heap.size]? = some (.cells #[.int .i64 c1, .int .u8 c2] 29 (0, 0)) := rowNext hb2 (by rw [heapNew _ _ _ (by first | omega | (simp [putRow_size] <;> omega))])
  have c2_2 := cells2 r2_2
  clear r1_0 c1_0 r1_1 c1_1 hb1 HB1 hs1
  go_wp2_with fail
  go_ret
  exact ⟨rfl, HB2.out⟩

set_option maxHeartbeats 2000000 in
set_option maxRecDepth 100000 in
theorem none_high (p : Tb) (f l v : Int) (a i o : Bool) (c1 c2 : Int) (H1 : Hid (settle p f l v = ((c1, c2), 0))) (hf : 31 ≤ f) (w : World) :
    Calls Try.prog 4 #[.agg (tabA p), .agg #[.int .i64 f, .int .i64 l, .bool a, .bool i, .bool o, .int .u8 v]] w fun e w' => e = .returned (.bool true) ∧ Below w.heap.size w w' := by
  go_enter Try.func4, Try.ntmps4
  go_wp2_with (refine wpList_load_row rfl 25 (.tmp 2) rfl (w.heap.size) rfl 25 (tabA p) (0, 0) _ (by rw [heapOld _ _ _ (by first | omega | (simp [putRow_size] <;> omega)), heapNew _ _ _ (by first | omega | (simp [putRow_size] <;> omega))]) Try.underlying25 rfl (by rw [tabA_size]; exact sizePrefs) ?_)
  refine (settle_eq H1.out a i o _).mono ?_
  rintro e w1 ⟨rfl, hb1⟩
  have HB1 := hid (below_step (((Below.refl w.heap.size w).alloc (by first | omega | (simp [putRow_size] <;> omega)) _).alloc (by first | omega | (simp [putRow_size] <;> omega)) _) (by first | omega | (simp [putRow_size] <;> omega)) hb1)
  have hs1 : w.heap.size ≤ w1.heap.size := HB1.out.size
  have r1_0 : w1.heap[w.heap.size]? = some (.cells (tabA p) 25 (0, 0)) := rowNext hb1 (by rw [heapOld _ _ _ (by first | omega | (simp [putRow_size] <;> omega)), heapNew _ _ _ (by first | omega | (simp [putRow_size] <;> omega))])
  have c1_0 := lt_of_some r1_0
  have r1_1 : w1.heap[w.heap.size + 1]? = some (.cells #[.int .i64 f, .int .i64 l, .bool a, .bool i, .bool o, .int .u8 v] 27 (0, 0)) := rowNext hb1 (by rw [heapNew _ _ _ (by first | omega | (simp [putRow_size] <;> omega))])
  have c1_1 := cells6 r1_1
  go_wp2_with fail
  refine (awake9 _).mono ?_
  rintro e w2 ⟨rfl, hb2⟩
  have HB2 := hid (below_step (HB1.out.alloc (by first | omega | (simp [putRow_size] <;> omega)) _) (by first | omega | (simp [putRow_size] <;> omega)) hb2)
  have hs2 : w.heap.size ≤ w2.heap.size := HB2.out.size
  have r2_0 : w2.heap[w.heap.size]? = some (.cells (tabA p) 25 (0, 0)) := rowNext hb2 (by rw [heapOld _ _ _ (by first | omega | (simp [putRow_size] <;> omega))]; exact r1_0)
  have c2_0 := lt_of_some r2_0
  have r2_1 : w2.heap[w.heap.size + 1]? = some (.cells #[.int .i64 f, .int .i64 l, .bool a, .bool i, .bool o, .int .u8 v] 27 (0, 0)) := rowNext hb2 (by rw [heapOld _ _ _ (by first | omega | (simp [putRow_size] <;> omega))]; exact r1_1)
  have c2_1 := cells6 r2_1
  have r2_2 : w2.heap[w1.heap.size]? = some (.cells #[.int .i64 c1, .int .u8 c2] 29 (0, 0)) := rowNext hb2 (by rw [heapNew _ _ _ (by first | omega | (simp [putRow_size] <;> omega))])
  have c2_2 := cells2 r2_2
  clear r1_0 c1_0 r1_1 c1_1 hb1 HB1 hs1
  go_wp2_with fail
  go_ret
  exact ⟨rfl, HB2.out⟩

set_option maxHeartbeats 2000000 in
set_option maxRecDepth 100000 in
theorem none_in1 (p : Tb) (n : Nat) (h1 : 1 ≤ n) (h2 : n < 31) (v m pv : Int) (a i o : Bool) (HP : Hid (p n = (m, pv))) (H1 : Hid (settle p n 0 v = ((0, 0), 0))) (w : World) :
    Calls Try.prog 4 #[.agg (tabA p), .agg #[.int .i64 n, .int .i64 0, .bool a, .bool i, .bool o, .int .u8 v]] w fun e w' => e = .returned (.bool true) ∧ Below w.heap.size w w' := by
  go_enter Try.func4, Try.ntmps4
  go_wp2_with (refine wpList_load_row rfl 25 (.tmp 2) rfl (w.heap.size) rfl 25 (tabA p) (0, 0) _ (by rw [heapOld _ _ _ (by first | omega | (simp [putRow_size] <;> omega)), heapNew _ _ _ (by first | omega | (simp [putRow_size] <;> omega))]) Try.underlying25 rfl (by rw [tabA_size]; exact sizePrefs) ?_)
  refine (settle_eq H1.out a i o _).mono ?_
  rintro e w1 ⟨rfl, hb1⟩
  have HB1 := hid (below_step (((Below.refl w.heap.size w).alloc (by first | omega | (simp [putRow_size] <;> omega)) _).alloc (by first | omega | (simp [putRow_size] <;> omega)) _) (by first | omega | (simp [putRow_size] <;> omega)) hb1)
  have hs1 : w.heap.size ≤ w1.heap.size := HB1.out.size
  have r1_0 : w1.heap[w.heap.size]? = some (.cells (tabA p) 25 (0, 0)) := rowNext hb1 (by rw [heapOld _ _ _ (by first | omega | (simp [putRow_size] <;> omega)), heapNew _ _ _ (by first | omega | (simp [putRow_size] <;> omega))])
  have c1_0 := lt_of_some r1_0
  have r1_1 : w1.heap[w.heap.size + 1]? = some (.cells #[.int .i64 n, .int .i64 0, .bool a, .bool i, .bool o, .int .u8 v] 27 (0, 0)) := rowNext hb1 (by rw [heapNew _ _ _ (by first | omega | (simp [putRow_size] <;> omega))])
  have c1_1 := cells6 r1_1
  have k0 := cell_of_row _ _ (n * 2) _ _ _ r1_0
  rw [tabA_cell0 p n h2, HP.out] at k0
  have k1 := cell_of_row _ _ (n * 2 + 1) _ _ _ r1_0
  rw [tabA_cell1 p n h2, HP.out] at k1
  dsimp only at k0 k1
  go_wp2_with (go_at_call 16; refine (awake9 _).mono ?_; rintro e w2 ⟨rfl, hb2⟩)
  all_goals go_ret
  all_goals
    refine ⟨rfl, below_step ?_ ?_ hb2⟩
    · repeat (first | exact HB1.out | refine Below.alloc ?_ (by first | omega | (simp <;> omega)) _)
    · first | omega | (simp <;> omega)

set_option maxHeartbeats 2000000 in
set_option maxRecDepth 100000 in
theorem none_in2 (p : Tb) (n : Nat) (h1 : 1 ≤ n) (h2 : n < 31) (l v pv : Int) (a i o : Bool) (g1 : ¬ l = 0) (HP : Hid (p n = (0, pv))) (H1 : Hid (settle p n l v = ((0, 0), 0))) (w : World) :
    Calls Try.prog 4 #[.agg (tabA p), .agg #[.int .i64 n, .int .i64 l, .bool a, .bool i, .bool o, .int .u8 v]] w fun e w' => e = .returned (.bool true) ∧ Below w.heap.size w w' := by
  go_enter Try.func4, Try.ntmps4
  go_wp2_with (refine wpList_load_row rfl 25 (.tmp 2) rfl (w.heap.size) rfl 25 (tabA p) (0, 0) _ (by rw [heapOld _ _ _ (by first | omega | (simp [putRow_size] <;> omega)), heapNew _ _ _ (by first | omega | (simp [putRow_size] <;> omega))]) Try.underlying25 rfl (by rw [tabA_size]; exact sizePrefs) ?_)
  refine (settle_eq H1.out a i o _).mono ?_
  rintro e w1 ⟨rfl, hb1⟩
  have HB1 := hid (below_step (((Below.refl w.heap.size w).alloc (by first | omega | (simp [putRow_size] <;> omega)) _).alloc (by first | omega | (simp [putRow_size] <;> omega)) _) (by first | omega | (simp [putRow_size] <;> omega)) hb1)
  have hs1 : w.heap.size ≤ w1.heap.size := HB1.out.size
  have r1_0 : w1.heap[w.heap.size]? = some (.cells (tabA p) 25 (0, 0)) := rowNext hb1 (by rw [heapOld _ _ _ (by first | omega | (simp [putRow_size] <;> omega)), heapNew _ _ _ (by first | omega | (simp [putRow_size] <;> omega))])
  have c1_0 := lt_of_some r1_0
  have r1_1 : w1.heap[w.heap.size + 1]? = some (.cells #[.int .i64 n, .int .i64 l, .bool a, .bool i, .bool o, .int .u8 v] 27 (0, 0)) := rowNext hb1 (by rw [heapNew _ _ _ (by first | omega | (simp [putRow_size] <;> omega))])
  have c1_1 := cells6 r1_1
  have k0 := cell_of_row _ _ (n * 2) _ _ _ r1_0
  rw [tabA_cell0 p n h2, HP.out] at k0
  have k1 := cell_of_row _ _ (n * 2 + 1) _ _ _ r1_0
  rw [tabA_cell1 p n h2, HP.out] at k1
  dsimp only at k0 k1
  go_wp2_with (go_at_call 16; refine (awake9 _).mono ?_; rintro e w2 ⟨rfl, hb2⟩)
  all_goals go_ret
  all_goals
    refine ⟨rfl, below_step ?_ ?_ hb2⟩
    · repeat (first | exact HB1.out | refine Below.alloc ?_ (by first | omega | (simp <;> omega)) _)
    · first | omega | (simp <;> omega)

set_option maxHeartbeats 2000000 in
set_option maxRecDepth 100000 in
theorem none_in3 (p : Tb) (n : Nat) (h1 : 1 ≤ n) (h2 : n < 31) (v pv : Int) (a i o : Bool) (g1 : ¬ v = pv) (HP : Hid (p n = (1, pv))) (H1 : Hid (settle p n 1 v = ((0, 0), 0))) (w : World) :
    Calls Try.prog 4 #[.agg (tabA p), .agg #[.int .i64 n, .int .i64 1, .bool a, .bool i, .bool o, .int .u8 v]] w fun e w' => e = .returned (.bool true) ∧ Below w.heap.size w w' := by
  go_enter Try.func4, Try.ntmps4
  go_wp2_with (refine wpList_load_row rfl 25 (.tmp 2) rfl (w.heap.size) rfl 25 (tabA p) (0, 0) _ (by rw [heapOld _ _ _ (by first | omega | (simp [putRow_size] <;> omega)), heapNew _ _ _ (by first | omega | (simp [putRow_size] <;> omega))]) Try.underlying25 rfl (by rw [tabA_size]; exact sizePrefs) ?_)
  refine (settle_eq H1.out a i o _).mono ?_
  rintro e w1 ⟨rfl, hb1⟩
  have HB1 := hid (below_step (((Below.refl w.heap.size w).alloc (by first | omega | (simp [putRow_size] <;> omega)) _).alloc (by first | omega | (simp [putRow_size] <;> omega)) _) (by first | omega | (simp [putRow_size] <;> omega)) hb1)
  have hs1 : w.heap.size ≤ w1.heap.size := HB1.out.size
  have r1_0 : w1.heap[w.heap.size]? = some (.cells (tabA p) 25 (0, 0)) := rowNext hb1 (by rw [heapOld _ _ _ (by first | omega | (simp [putRow_size] <;> omega)), heapNew _ _ _ (by first | omega | (simp [putRow_size] <;> omega))])
  have c1_0 := lt_of_some r1_0
  have r1_1 : w1.heap[w.heap.size + 1]? = some (.cells #[.int .i64 n, .int .i64 1, .bool a, .bool i, .bool o, .int .u8 v] 27 (0, 0)) := rowNext hb1 (by rw [heapNew _ _ _ (by first | omega | (simp [putRow_size] <;> omega))])
  have c1_1 := cells6 r1_1
  have k0 := cell_of_row _ _ (n * 2) _ _ _ r1_0
  rw [tabA_cell0 p n h2, HP.out] at k0
  have k1 := cell_of_row _ _ (n * 2 + 1) _ _ _ r1_0
  rw [tabA_cell1 p n h2, HP.out] at k1
  dsimp only at k0 k1
  go_wp2_with (go_at_call 16; refine (awake9 _).mono ?_; rintro e w2 ⟨rfl, hb2⟩)
  all_goals go_ret
  all_goals
    refine ⟨rfl, below_step ?_ ?_ hb2⟩
    · repeat (first | exact HB1.out | refine Below.alloc ?_ (by first | omega | (simp <;> omega)) _)
    · first | omega | (simp <;> omega)

set_option maxHeartbeats 2000000 in
set_option maxRecDepth 100000 in
theorem none_in4 (p : Tb) (n : Nat) (h1 : 1 ≤ n) (h2 : n < 31) (pv : Int) (a i o : Bool) (HP : Hid (p n = (1, pv))) (H1 : Hid (settle p n 1 pv = ((1, pv), 0))) (w : World) :
    Calls Try.prog 4 #[.agg (tabA p), .agg #[.int .i64 n, .int .i64 1, .bool a, .bool i, .bool o, .int .u8 pv]] w fun e w' => e = .returned (.bool true) ∧ Below w.heap.size w w' := by
  go_enter Try.func4, Try.ntmps4
  go_wp2_with (refine wpList_load_row rfl 25 (.tmp 2) rfl (w.heap.size) rfl 25 (tabA p) (0, 0) _ (by rw [heapOld _ _ _ (by first | omega | (simp [putRow_size] <;> omega)), heapNew _ _ _ (by first | omega | (simp [putRow_size] <;> omega))]) Try.underlying25 rfl (by rw [tabA_size]; exact sizePrefs) ?_)
  refine (settle_eq H1.out a i o _).mono ?_
  rintro e w1 ⟨rfl, hb1⟩
  have HB1 := hid (below_step (((Below.refl w.heap.size w).alloc (by first | omega | (simp [putRow_size] <;> omega)) _).alloc (by first | omega | (simp [putRow_size] <;> omega)) _) (by first | omega | (simp [putRow_size] <;> omega)) hb1)
  have hs1 : w.heap.size ≤ w1.heap.size := HB1.out.size
  have r1_0 : w1.heap[w.heap.size]? = some (.cells (tabA p) 25 (0, 0)) := rowNext hb1 (by rw [heapOld _ _ _ (by first | omega | (simp [putRow_size] <;> omega)), heapNew _ _ _ (by first | omega | (simp [putRow_size] <;> omega))])
  have c1_0 := lt_of_some r1_0
  have r1_1 : w1.heap[w.heap.size + 1]? = some (.cells #[.int .i64 n, .int .i64 1, .bool a, .bool i, .bool o, .int .u8 pv] 27 (0, 0)) := rowNext hb1 (by rw [heapNew _ _ _ (by first | omega | (simp [putRow_size] <;> omega))])
  have c1_1 := cells6 r1_1
  have k0 := cell_of_row _ _ (n * 2) _ _ _ r1_0
  rw [tabA_cell0 p n h2, HP.out] at k0
  have k1 := cell_of_row _ _ (n * 2 + 1) _ _ _ r1_0
  rw [tabA_cell1 p n h2, HP.out] at k1
  dsimp only at k0 k1
  go_wp2_with (go_at_call 16; refine (awake9 _).mono ?_; rintro e w2 ⟨rfl, hb2⟩)
  all_goals go_ret
  all_goals
    refine ⟨rfl, below_step ?_ ?_ hb2⟩
    · repeat (first | exact HB1.out | refine Below.alloc ?_ (by first | omega | (simp <;> omega)) _)
    · first | omega | (simp <;> omega)

set_option maxHeartbeats 2000000 in
set_option maxRecDepth 100000 in
theorem none_in5 (p : Tb) (n : Nat) (h1 : 1 ≤ n) (h2 : n < 31) (l v pv : Int) (a i o : Bool) (g1 : ¬ l = 0) (g2 : ¬ l = 1) (HP : Hid (p n = (1, pv))) (H1 : Hid (settle p n l v = ((1, pv), 0))) (w : World) :
    Calls Try.prog 4 #[.agg (tabA p), .agg #[.int .i64 n, .int .i64 l, .bool a, .bool i, .bool o, .int .u8 v]] w fun e w' => e = .returned (.bool true) ∧ Below w.heap.size w w' := by
  go_enter Try.func4, Try.ntmps4
  go_wp2_with (refine wpList_load_row rfl 25 (.tmp 2) rfl (w.heap.size) rfl 25 (tabA p) (0, 0) _ (by rw [heapOld _ _ _ (by first | omega | (simp [putRow_size] <;> omega)), heapNew _ _ _ (by first | omega | (simp [putRow_size] <;> omega))]) Try.underlying25 rfl (by rw [tabA_size]; exact sizePrefs) ?_)
  refine (settle_eq H1.out a i o _).mono ?_
  rintro e w1 ⟨rfl, hb1⟩
  have HB1 := hid (below_step (((Below.refl w.heap.size w).alloc (by first | omega | (simp [putRow_size] <;> omega)) _).alloc (by first | omega | (simp [putRow_size] <;> omega)) _) (by first | omega | (simp [putRow_size] <;> omega)) hb1)
  have hs1 : w.heap.size ≤ w1.heap.size := HB1.out.size
  have r1_0 : w1.heap[w.heap.size]? = some (.cells (tabA p) 25 (0, 0)) := rowNext hb1 (by rw [heapOld _ _ _ (by first | omega | (simp [putRow_size] <;> omega)), heapNew _ _ _ (by first | omega | (simp [putRow_size] <;> omega))])
  have c1_0 := lt_of_some r1_0
  have r1_1 : w1.heap[w.heap.size + 1]? = some (.cells #[.int .i64 n, .int .i64 l, .bool a, .bool i, .bool o, .int .u8 v] 27 (0, 0)) := rowNext hb1 (by rw [heapNew _ _ _ (by first | omega | (simp [putRow_size] <;> omega))])
  have c1_1 := cells6 r1_1
  have k0 := cell_of_row _ _ (n * 2) _ _ _ r1_0
  rw [tabA_cell0 p n h2, HP.out] at k0
  have k1 := cell_of_row _ _ (n * 2 + 1) _ _ _ r1_0
  rw [tabA_cell1 p n h2, HP.out] at k1
  dsimp only at k0 k1
  go_wp2_with (go_at_call 16; refine (awake9 _).mono ?_; rintro e w2 ⟨rfl, hb2⟩)
  all_goals go_ret
  all_goals
    refine ⟨rfl, below_step ?_ ?_ hb2⟩
    · repeat (first | exact HB1.out | refine Below.alloc ?_ (by first | omega | (simp <;> omega)) _)
    · first | omega | (simp <;> omega)

set_option maxHeartbeats 2000000 in
set_option maxRecDepth 100000 in
theorem none_in6 (p : Tb) (n : Nat) (h1 : 1 ≤ n) (h2 : n < 31) (v m pv : Int) (a i o : Bool) (g1 : ¬ m = 0) (g2 : ¬ m = 1) (HP : Hid (p n = (m, pv))) (H1 : Hid (settle p n 3 v = ((m, pv), 0))) (w : World) :
    Calls Try.prog 4 #[.agg (tabA p), .agg #[.int .i64 n, .int .i64 3, .bool a, .bool i, .bool o, .int .u8 v]] w fun e w' => e = .returned (.bool true) ∧ Below w.heap.size w w' := by
  go_enter Try.func4, Try.ntmps4
  go_wp2_with (refine wpList_load_row rfl 25 (.tmp 2) rfl (w.heap.size) rfl 25 (tabA p) (0, 0) _ (by rw [heapOld _ _ _ (by first | omega | (simp [putRow_size] <;> omega)), heapNew _ _ _ (by first | omega | (simp [putRow_size] <;> omega))]) Try.underlying25 rfl (by rw [tabA_size]; exact sizePrefs) ?_)
  refine (settle_eq H1.out a i o _).mono ?_
  rintro e w1 ⟨rfl, hb1⟩
  have HB1 := hid (below_step (((Below.refl w.heap.size w).alloc (by first | omega | (simp [putRow_size] <;> omega)) _).alloc (by first | omega | (simp [putRow_size] <;> omega)) _) (by first | omega | (simp [putRow_size] <;> omega)) hb1)
  have hs1 : w.heap.size ≤ w1.heap.size := HB1.out.size
  have r1_0 : w1.heap[w.heap.size]? = some (.cells (tabA p) 25 (0, 0)) := rowNext hb1 (by rw [heapOld _ _ _ (by first | omega | (simp [putRow_size] <;> omega)), heapNew _ _ _ (by first | omega | (simp [putRow_size] <;> omega))])
  have c1_0 := lt_of_some r1_0
  have r1_1 : w1.heap[w.heap.size + 1]? = some (.cells #[.int .i64 n, .int .i64 3, .bool a, .bool i, .bool o, .int .u8 v] 27 (0, 0)) := rowNext hb1 (by rw [heapNew _ _ _ (by first | omega | (simp [putRow_size] <;> omega))])
  have c1_1 := cells6 r1_1
  have k0 := cell_of_row _ _ (n * 2) _ _ _ r1_0
  rw [tabA_cell0 p n h2, HP.out] at k0
  have k1 := cell_of_row _ _ (n * 2 + 1) _ _ _ r1_0
  rw [tabA_cell1 p n h2, HP.out] at k1
  dsimp only at k0 k1
  go_wp2_with (go_at_call 16; refine (awake9 _).mono ?_; rintro e w2 ⟨rfl, hb2⟩)
  all_goals go_ret
  all_goals
    refine ⟨rfl, below_step ?_ ?_ hb2⟩
    · repeat (first | exact HB1.out | refine Below.alloc ?_ (by first | omega | (simp <;> omega)) _)
    · first | omega | (simp <;> omega)

set_option maxHeartbeats 2000000 in
set_option maxRecDepth 100000 in
theorem none_in7 (p : Tb) (n : Nat) (h1 : 1 ≤ n) (h2 : n < 31) (l v m pv : Int) (a i o : Bool) (g1 : ¬ m = 0) (g2 : ¬ m = 1) (g3 : ¬ l = 0) (g4 : ¬ l = 3) (HP : Hid (p n = (m, pv))) (H1 : Hid (settle p n l v = ((l, v), 0))) (w : World) :
    Calls Try.prog 4 #[.agg (tabA p), .agg #[.int .i64 n, .int .i64 l, .bool a, .bool i, .bool o, .int .u8 v]] w fun e w' => e = .returned (.bool true) ∧ Below w.heap.size w w' := by
  go_enter Try.func4, Try.ntmps4
  go_wp2_with (refine wpList_load_row rfl 25 (.tmp 2) rfl (w.heap.size) rfl 25 (tabA p) (0, 0) _ (by rw [heapOld _ _ _ (by first | omega | (simp [putRow_size] <;> omega)), heapNew _ _ _ (by first | omega | (simp [putRow_size] <;> omega))]) Try.underlying25 rfl (by rw [tabA_size]; exact sizePrefs) ?_)
  refine (settle_eq H1.out a i o _).mono ?_
  rintro e w1 ⟨rfl, hb1⟩
  have HB1 := hid (below_step (((Below.refl w.heap.size w).alloc (by first | omega | (simp [putRow_size] <;> omega)) _).alloc (by first | omega | (simp [putRow_size] <;> omega)) _) (by first | omega | (simp [putRow_size] <;> omega)) hb1)
  have hs1 : w.heap.size ≤ w1.heap.size := HB1.out.size
  have r1_0 : w1.heap[w.heap.size]? = some (.cells (tabA p) 25 (0, 0)) := rowNext hb1 (by rw [heapOld _ _ _ (by first | omega | (simp [putRow_size] <;> omega)), heapNew _ _ _ (by first | omega | (simp [putRow_size] <;> omega))])
  have c1_0 := lt_of_some r1_0
  have r1_1 : w1.heap[w.heap.size + 1]? = some (.cells #[.int .i64 n, .int .i64 l, .bool a, .bool i, .bool o, .int .u8 v] 27 (0, 0)) := rowNext hb1 (by rw [heapNew _ _ _ (by first | omega | (simp [putRow_size] <;> omega))])
  have c1_1 := cells6 r1_1
  have k0 := cell_of_row _ _ (n * 2) _ _ _ r1_0
  rw [tabA_cell0 p n h2, HP.out] at k0
  have k1 := cell_of_row _ _ (n * 2 + 1) _ _ _ r1_0
  rw [tabA_cell1 p n h2, HP.out] at k1
  dsimp only at k0 k1
  go_wp2_with (go_at_call 16; refine (awake9 _).mono ?_; rintro e w2 ⟨rfl, hb2⟩)
  all_goals go_ret
  all_goals
    refine ⟨rfl, below_step ?_ ?_ hb2⟩
    · repeat (first | exact HB1.out | refine Below.alloc ?_ (by first | omega | (simp <;> omega)) _)
    · first | omega | (simp <;> omega)

end Go.Proofs.Ytjghmgpmaallfaa
