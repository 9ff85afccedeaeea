/-
  The walk of AgreeLowers.
-/
import Derived.Test.YtjghmgpmaallfaaAns
import Derived.Test.YtjghmgpmaallfaaWit
import Derived.Deep.QuietTactic
import Derived.BigQuiet
import Derived.Deep.RegionWith
namespace Go.Proofs.Ytjghmgpmaallfaa
open Go.RowKit
set_option linter.unusedVariables false
set_option linter.unusedSimpArgs false

set_option maxHeartbeats 2000000 in
set_option maxRecDepth 100000 in
theorem low_no (p u : Tb) (f l v : Int) (a i o : Bool) (c1 c2 : Int) (H1 : Hid (settle p f l v = ((c1, c2), 1))) (w : World) :
    Calls Try.prog 6 #[.agg (tabA p), .agg #[.int .i64 f, .int .i64 l, .bool a, .bool i, .bool o, .int .u8 v], .agg (tabA u)] w fun e w' => e = .returned (.bool true) ∧ Below w.heap.size w w' := by
  go_enter Try.func6, Try.ntmps6
  go_wp2_with (refine wpList_load_row rfl 25 (.tmp 3) rfl (w.heap.size) rfl 25 (tabA p) (0, 0) _ ?_ Try.underlying25 rfl (by rw [tabA_size]; exact sizePrefs) ?_; · (rw [heapOld _ _ _ (by first | omega | (simp [putRow_size, drewN_heap, drew_heap] <;> omega)), heapOld _ _ _ (by first | omega | (simp [putRow_size, drewN_heap, drew_heap] <;> omega)), heapNew _ _ _ (by first | omega | (simp [putRow_size, drewN_heap, drew_heap] <;> omega))]))
  refine (settle_eq H1.out a i o _).mono ?_
  rintro e w1 ⟨rfl, hb1⟩
  have HB1 := hid (below_step ((((Below.refl w.heap.size w).alloc (by first | omega | (simp [putRow_size, drewN_heap, drew_heap] <;> omega)) _).alloc (by first | omega | (simp [putRow_size, drewN_heap, drew_heap] <;> omega)) _).alloc (by first | omega | (simp [putRow_size, drewN_heap, drew_heap] <;> omega)) _) (by first | omega | (simp [putRow_size, drewN_heap, drew_heap] <;> omega)) hb1)
  have hs1 : w.heap.size ≤ w1.heap.size := HB1.out.size
  have r1_0 : w1.heap[w.heap.size]? = some (.cells (tabA p) 25 (0, 0)) := rowNext hb1 (by rw [heapOld _ _ _ (by first | omega | (simp [putRow_size, drewN_heap, drew_heap] <;> omega)), heapOld _ _ _ (by first | omega | (simp [putRow_size, drewN_heap, drew_heap] <;> omega)), heapNew _ _ _ (by first | omega | (simp [putRow_size, drewN_heap, drew_heap] <;> omega))])
  have c1_0 := lt_of_some r1_0
  have r1_1 : w1.heap[w.heap.size + 1]? = some (.cells #[.int .i64 f, .int .i64 l, .bool a, .bool i, .bool o, .int .u8 v] 27 (0, 0)) := rowNext hb1 (by rw [heapOld _ _ _ (by first | omega | (simp [putRow_size, drewN_heap, drew_heap] <;> omega)), heapNew _ _ _ (by first | omega | (simp [putRow_size, drewN_heap, drew_heap] <;> omega))])
  have c1_1 := cells6 r1_1
  have r1_2 : w1.heap[w.heap.size + 1 + 1]? = some (.cells (tabA u) 39 (0, 0)) := rowNext hb1 (by rw [heapNew _ _ _ (by first | omega | (simp [putRow_size, drewN_heap, drew_heap] <;> omega))])
  have c1_2 := lt_of_some r1_2
  go_wp2_with fail
  refine (awake9 _).mono ?_
  rintro e w2 ⟨rfl, hb2⟩
  have HB2 := hid (below_step (HB1.out.alloc (by first | omega | (simp [putRow_size, drewN_heap, drew_heap] <;> omega)) _) (by first | omega | (simp [putRow_size, drewN_heap, drew_heap] <;> omega)) hb2)
  have hs2 : w.heap.size ≤ w2.heap.size := HB2.out.size
  have r2_0 : w2.heap[w.heap.size]? = some (.cells (tabA p) 25 (0, 0)) := rowNext hb2 (by rw [heapOld _ _ _ (by first | omega | (simp [putRow_size, drewN_heap, drew_heap] <;> omega))]; exact r1_0)
  have c2_0 := lt_of_some r2_0
  have r2_1 : w2.heap[w.heap.size + 1]? = some (.cells #[.int .i64 f, .int .i64 l, .bool a, .bool i, .bool o, .int .u8 v] 27 (0, 0)) := rowNext hb2 (by rw [heapOld _ _ _ (by first | omega | (simp [putRow_size, drewN_heap, drew_heap] <;> omega))]; exact r1_1)
  have c2_1 := cells6 r2_1
  have r2_2 : w2.heap[w.heap.size + 1 + 1]? = some (.cells (tabA u) 39 (0, 0)) := rowNext hb2 (by rw [heapOld _ _ _ (by first | omega | (simp [putRow_size, drewN_heap, drew_heap] <;> omega))]; exact r1_2)
  have c2_2 := lt_of_some r2_2
  have r2_3 : w2.heap[w1.heap.size]? = some (.cells #[.int .i64 c1, .int .u8 c2] 29 (0, 0)) := rowNext hb2 (by rw [heapNew _ _ _ (by first | omega | (simp [putRow_size, drewN_heap, drew_heap] <;> omega))])
  have c2_3 := cells2 r2_3
  clear r1_0 c1_0 r1_1 c1_1 r1_2 c1_2 hb1 HB1 hs1
  go_wp2_with fail
  go_ret
  exact ⟨rfl, HB2.out⟩

set_option maxHeartbeats 2000000 in
set_option maxRecDepth 100000 in
theorem low_zero (p u : Tb) (l v : Int) (a i o : Bool) (hl : 0 ≤ l) (H1 : Hid (settle p 0 l v = ((0, 0), 0))) (w : World) :
    Calls Try.prog 6 #[.agg (tabA p), .agg #[.int .i64 0, .int .i64 l, .bool a, .bool i, .bool o, .int .u8 v], .agg (tabA u)] w fun e w' => e = .returned (.bool true) ∧ Below w.heap.size w w' := by
  have d1 : decide (l < 0) = false := by simp; omega
  go_enter Try.func6, Try.ntmps6
  go_wp2_with (refine wpList_load_row rfl 25 (.tmp 3) rfl (w.heap.size) rfl 25 (tabA p) (0, 0) _ ?_ Try.underlying25 rfl (by rw [tabA_size]; exact sizePrefs) ?_; · (rw [heapOld _ _ _ (by first | omega | (simp [putRow_size, drewN_heap, drew_heap] <;> omega)), heapOld _ _ _ (by first | omega | (simp [putRow_size, drewN_heap, drew_heap] <;> omega)), heapNew _ _ _ (by first | omega | (simp [putRow_size, drewN_heap, drew_heap] <;> omega))]))
  refine (settle_eq H1.out a i o _).mono ?_
  rintro e w1 ⟨rfl, hb1⟩
  have HB1 := hid (below_step ((((Below.refl w.heap.size w).alloc (by first | omega | (simp [putRow_size, drewN_heap, drew_heap] <;> omega)) _).alloc (by first | omega | (simp [putRow_size, drewN_heap, drew_heap] <;> omega)) _).alloc (by first | omega | (simp [putRow_size, drewN_heap, drew_heap] <;> omega)) _) (by first | omega | (simp [putRow_size, drewN_heap, drew_heap] <;> omega)) hb1)
  have hs1 : w.heap.size ≤ w1.heap.size := HB1.out.size
  have r1_0 : w1.heap[w.heap.size]? = some (.cells (tabA p) 25 (0, 0)) := rowNext hb1 (by rw [heapOld _ _ _ (by first | omega | (simp [putRow_size, drewN_heap, drew_heap] <;> omega)), heapOld _ _ _ (by first | omega | (simp [putRow_size, drewN_heap, drew_heap] <;> omega)), heapNew _ _ _ (by first | omega | (simp [putRow_size, drewN_heap, drew_heap] <;> omega))])
  have c1_0 := lt_of_some r1_0
  have r1_1 : w1.heap[w.heap.size + 1]? = some (.cells #[.int .i64 0, .int .i64 l, .bool a, .bool i, .bool o, .int .u8 v] 27 (0, 0)) := rowNext hb1 (by rw [heapOld _ _ _ (by first | omega | (simp [putRow_size, drewN_heap, drew_heap] <;> omega)), heapNew _ _ _ (by first | omega | (simp [putRow_size, drewN_heap, drew_heap] <;> omega))])
  have c1_1 := cells6 r1_1
  have r1_2 : w1.heap[w.heap.size + 1 + 1]? = some (.cells (tabA u) 39 (0, 0)) := rowNext hb1 (by rw [heapNew _ _ _ (by first | omega | (simp [putRow_size, drewN_heap, drew_heap] <;> omega))])
  have c1_2 := lt_of_some r1_2
  go_wp2_with fail
  go_quiet (fail)
  go_wp2_with (go_at_call 16; refine (awake9 _).mono ?_; rintro e w2 ⟨rfl, hb2⟩)
  go_ret
  exact ⟨rfl, below_step (below_drewN' (HB1.out.alloc (by first | omega | (simp [putRow_size, drewN_heap, drew_heap] <;> omega)) _) _) (by first | omega | (simp [putRow_size, drewN_heap, drew_heap] <;> omega)) hb2⟩

set_option maxHeartbeats 2000000 in
set_option maxRecDepth 100000 in
theorem low_high (p u : Tb) (f l v : Int) (a i o : Bool) (hf : 31 ≤ f) (hl : 0 ≤ l) (H1 : Hid (settle p f l v = ((0, 0), 0))) (w : World) :
    Calls Try.prog 6 #[.agg (tabA p), .agg #[.int .i64 f, .int .i64 l, .bool a, .bool i, .bool o, .int .u8 v], .agg (tabA u)] w fun e w' => e = .returned (.bool true) ∧ Below w.heap.size w w' := by
  have d1 : decide (l < 0) = false := by simp; omega
  have d2 : decide ((1 : Int) ≤ f) = true := by simp; omega
  have d3 : decide (f < 31) = false := by simp; omega
  go_enter Try.func6, Try.ntmps6
  go_wp2_with (refine wpList_load_row rfl 25 (.tmp 3) rfl (w.heap.size) rfl 25 (tabA p) (0, 0) _ ?_ Try.underlying25 rfl (by rw [tabA_size]; exact sizePrefs) ?_; · (rw [heapOld _ _ _ (by first | omega | (simp [putRow_size, drewN_heap, drew_heap] <;> omega)), heapOld _ _ _ (by first | omega | (simp [putRow_size, drewN_heap, drew_heap] <;> omega)), heapNew _ _ _ (by first | omega | (simp [putRow_size, drewN_heap, drew_heap] <;> omega))]))
  refine (settle_eq H1.out a i o _).mono ?_
  rintro e w1 ⟨rfl, hb1⟩
  have HB1 := hid (below_step ((((Below.refl w.heap.size w).alloc (by first | omega | (simp [putRow_size, drewN_heap, drew_heap] <;> omega)) _).alloc (by first | omega | (simp [putRow_size, drewN_heap, drew_heap] <;> omega)) _).alloc (by first | omega | (simp [putRow_size, drewN_heap, drew_heap] <;> omega)) _) (by first | omega | (simp [putRow_size, drewN_heap, drew_heap] <;> omega)) hb1)
  have hs1 : w.heap.size ≤ w1.heap.size := HB1.out.size
  have r1_0 : w1.heap[w.heap.size]? = some (.cells (tabA p) 25 (0, 0)) := rowNext hb1 (by rw [heapOld _ _ _ (by first | omega | (simp [putRow_size, drewN_heap, drew_heap] <;> omega)), heapOld _ _ _ (by first | omega | (simp [putRow_size, drewN_heap, drew_heap] <;> omega)), heapNew _ _ _ (by first | omega | (simp [putRow_size, drewN_heap, drew_heap] <;> omega))])
  have c1_0 := lt_of_some r1_0
  have r1_1 : w1.heap[w.heap.size + 1]? = some (.cells #[.int .i64 f, .int .i64 l, .bool a, .bool i, .bool o, .int .u8 v] 27 (0, 0)) := rowNext hb1 (by rw [heapOld _ _ _ (by first | omega | (simp [putRow_size, drewN_heap, drew_heap] <;> omega)), heapNew _ _ _ (by first | omega | (simp [putRow_size, drewN_heap, drew_heap] <;> omega))])
  have c1_1 := cells6 r1_1
  have r1_2 : w1.heap[w.heap.size + 1 + 1]? = some (.cells (tabA u) 39 (0, 0)) := rowNext hb1 (by rw [heapNew _ _ _ (by first | omega | (simp [putRow_size, drewN_heap, drew_heap] <;> omega))])
  have c1_2 := lt_of_some r1_2
  go_wp2_with fail
  go_quiet (fail)
  go_wp2_with (go_at_call 16; refine (awake9 _).mono ?_; rintro e w2 ⟨rfl, hb2⟩)
  go_ret
  exact ⟨rfl, below_step (below_drewN' (HB1.out.alloc (by first | omega | (simp [putRow_size, drewN_heap, drew_heap] <;> omega)) _) _) (by first | omega | (simp [putRow_size, drewN_heap, drew_heap] <;> omega)) hb2⟩

end Go.Proofs.Ytjghmgpmaallfaa
