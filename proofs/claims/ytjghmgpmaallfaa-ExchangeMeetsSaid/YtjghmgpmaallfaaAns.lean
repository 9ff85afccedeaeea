/-
  agree.Answer.
-/
import Derived.Test.YtjghmgpmaallfaaAw9
import Derived.Test.YtjghmgpmaallfaaPla
import Derived.Test.YtjghmgpmaallfaaLib2
import Derived.RegionTactic
import Derived.BigRegion
namespace Go.Proofs.Ytjghmgpmaallfaa
open Go.RowKit
set_option linter.unusedVariables false
set_option linter.unusedSimpArgs false

set_option maxHeartbeats 2000000 in
set_option maxRecDepth 100000 in
theorem answer_bad (p : Tb) (f l v : Int) (a i o : Bool) (c1 c2 : Int) (H1 : Hid (settle p f l v = ((c1, c2), 1))) (w : World) :
    Calls Try.prog 17 #[.agg (tabA p), .agg #[.int .i64 f, .int .i64 l, .bool a, .bool i, .bool o, .int .u8 v]] w fun e w' => e = .returned (.tuple #[.agg #[.int .i64 0, .int .i64 0, .bool false, .bool false, .bool false, .int .u8 0], .int .i64 1]) ∧ Below w.heap.size w w' := by
  go_enter Try.func17, Try.ntmps17
  go_wp2_with (refine wpList_load_row rfl 25 (.tmp 2) rfl (w.heap.size) rfl 25 (tabA p) (0, 0) _ (by rw [heapOld _ _ _ (by first | omega | (simp [putRow_size] <;> omega)), heapOld _ _ _ (by first | omega | (simp [putRow_size] <;> omega)), heapNew _ _ _ (by first | omega | (simp [putRow_size] <;> omega))]) Try.underlying25 rfl (by rw [tabA_size]; exact sizePrefs) ?_)
  refine (settle_eq H1.out a i o _).mono ?_
  rintro e w1 ⟨rfl, hb1⟩
  have HB1 := hid (below_step ((((Below.refl w.heap.size w).alloc (by first | omega | (simp [putRow_size] <;> omega)) _).alloc (by first | omega | (simp [putRow_size] <;> omega)) _).alloc (by first | omega | (simp [putRow_size] <;> omega)) _) (by first | omega | (simp [putRow_size] <;> omega)) hb1)
  have hs1 : w.heap.size ≤ w1.heap.size := HB1.out.size
  have r1_0 : w1.heap[w.heap.size]? = some (.cells (tabA p) 25 (0, 0)) := rowNext hb1 (by rw [heapOld _ _ _ (by first | omega | (simp [putRow_size] <;> omega)), heapOld _ _ _ (by first | omega | (simp [putRow_size] <;> omega)), heapNew _ _ _ (by first | omega | (simp [putRow_size] <;> omega))])
  have c1_0 := lt_of_some r1_0
  have r1_1 : w1.heap[w.heap.size + 1]? = some (.cells #[.int .i64 f, .int .i64 l, .bool a, .bool i, .bool o, .int .u8 v] 27 (0, 0)) := rowNext hb1 (by rw [heapOld _ _ _ (by first | omega | (simp [putRow_size] <;> omega)), heapNew _ _ _ (by first | omega | (simp [putRow_size] <;> omega))])
  have c1_1 := cells6 r1_1
  have r1_2 : w1.heap[w.heap.size + 1 + 1]? = some (.cells #[.int .i64 0, .int .i64 0, .bool false, .bool false, .bool false, .int .u8 0] 27 (0, 0)) := rowNext hb1 (by rw [heapNew _ _ _ (by first | omega | (simp [putRow_size] <;> omega))])
  have c1_2 := cells6 r1_2
  go_wp2_with (refine wpList_store_mid rfl 27 (.tmp 4) (.tmp 16) rfl (w.heap.size + 1 + 1) 0 rfl 27 (#[.int .i64 0, .int .i64 0, .bool false, .bool false, .bool false, .int .u8 0]) (by rw [heapOld _ _ _ (by first | omega | (simp [putRow_size] <;> omega))]; exact r1_2) _ rfl sizeTriple (by simp) rfl (#[.int .i64 0, .int .i64 0, .bool false, .bool false, .bool false, .int .u8 0]) rfl ?_)
  exact bodyPost_ret (v := .tuple #[.agg #[.int .i64 0, .int .i64 0, .bool false, .bool false, .bool false, .int .u8 0], .int .i64 1]) (results_row_tmp Try.results17 _ _ (w.heap.size + 1 + 1) 27 #[.int .i64 0, .int .i64 0, .bool false, .bool false, .bool false, .int .u8 0] (0, 0) _ rfl (by rw [putRow_same _ _ _ _ (by first | omega | (simp [putRow_size] <;> omega))]) Try.underlying27 rfl sizeTriple (.int .i64 1) rfl) rfl ⟨rfl, (below_putRow (HB1.out.alloc (by first | omega | (simp [putRow_size] <;> omega)) _) _ _ _ (by first | omega | (simp [putRow_size] <;> omega)))⟩

set_option maxHeartbeats 2000000 in
set_option maxRecDepth 100000 in
theorem answer_ok (p : Tb) (f l v : Int) (a i o : Bool) (c1 c2 : Int) (H1 : Hid (settle p f l v = ((c1, c2), 0))) (w : World) :
    Calls Try.prog 17 #[.agg (tabA p), .agg #[.int .i64 f, .int .i64 l, .bool a, .bool i, .bool o, .int .u8 v]] w fun e w' => e = .returned (.tuple #[.agg #[.int .i64 f, .int .i64 c1, .bool true, .bool i, .bool o, .int .u8 c2], .int .i64 0]) ∧ Below w.heap.size w w' := by
  go_enter Try.func17, Try.ntmps17
  go_wp2_with (refine wpList_load_row rfl 25 (.tmp 2) rfl (w.heap.size) rfl 25 (tabA p) (0, 0) _ (by rw [heapOld _ _ _ (by first | omega | (simp [putRow_size] <;> omega)), heapOld _ _ _ (by first | omega | (simp [putRow_size] <;> omega)), heapNew _ _ _ (by first | omega | (simp [putRow_size] <;> omega))]) Try.underlying25 rfl (by rw [tabA_size]; exact sizePrefs) ?_)
  refine (settle_eq H1.out a i o _).mono ?_
  rintro e w1 ⟨rfl, hb1⟩
  have HB1 := hid (below_step ((((Below.refl w.heap.size w).alloc (by first | omega | (simp [putRow_size] <;> omega)) _).alloc (by first | omega | (simp [putRow_size] <;> omega)) _).alloc (by first | omega | (simp [putRow_size] <;> omega)) _) (by first | omega | (simp [putRow_size] <;> omega)) hb1)
  have hs1 : w.heap.size ≤ w1.heap.size := HB1.out.size
  have r1_0 : w1.heap[w.heap.size]? = some (.cells (tabA p) 25 (0, 0)) := rowNext hb1 (by rw [heapOld _ _ _ (by first | omega | (simp [putRow_size] <;> omega)), heapOld _ _ _ (by first | omega | (simp [putRow_size] <;> omega)), heapNew _ _ _ (by first | omega | (simp [putRow_size] <;> omega))])
  have c1_0 := lt_of_some r1_0
  have r1_1 : w1.heap[w.heap.size + 1]? = some (.cells #[.int .i64 f, .int .i64 l, .bool a, .bool i, .bool o, .int .u8 v] 27 (0, 0)) := rowNext hb1 (by rw [heapOld _ _ _ (by first | omega | (simp [putRow_size] <;> omega)), heapNew _ _ _ (by first | omega | (simp [putRow_size] <;> omega))])
  have c1_1 := cells6 r1_1
  have r1_2 : w1.heap[w.heap.size + 1 + 1]? = some (.cells #[.int .i64 0, .int .i64 0, .bool false, .bool false, .bool false, .int .u8 0] 27 (0, 0)) := rowNext hb1 (by rw [heapNew _ _ _ (by first | omega | (simp [putRow_size] <;> omega))])
  have c1_2 := cells6 r1_2
  go_wp2
  go_region
  go_wp2_with (first | (refine wpList_load_row rfl 27 (.tmp 3) rfl (w.heap.size + 1) rfl 27 #[.int .i64 f, .int .i64 c1, .bool true, .bool i, .bool o, .int .u8 c2] (0, 0) _ (by exact drewRow (allocRow (setCell_rowSame (setCell_rowSame (setCell_rowSame r1_1 2 (.bool true)) 1 (.int .i64 c1)) 5 (.int .u8 c2)) _)) Try.underlying27 rfl sizeTriple ?_) | (refine wpList_store_mid rfl 27 (.tmp 4) (.tmp 25) rfl (w.heap.size + 1 + 1) 0 rfl 27 #[.int .i64 0, .int .i64 0, .bool false, .bool false, .bool false, .int .u8 0] (by exact drewRow (allocRow (setCell_rowOther (setCell_rowOther (setCell_rowOther r1_2 2 (.bool true) (by omega)) 1 (.int .i64 c1) (by omega)) 5 (.int .u8 c2) (by omega)) _)) _ rfl sizeTriple (by simp) rfl #[.int .i64 f, .int .i64 c1, .bool true, .bool i, .bool o, .int .u8 c2] rfl ?_))
  refine bodyPost_ret (v := .tuple #[.agg #[.int .i64 f, .int .i64 c1, .bool true, .bool i, .bool o, .int .u8 c2], .int .i64 0]) (results_row_tmp Try.results17 _ _ (w.heap.size + 1 + 1) 27 #[.int .i64 f, .int .i64 c1, .bool true, .bool i, .bool o, .int .u8 c2] (0, 0) _ rfl (putRowSame (drewRow (allocRow (setCell_rowOther (setCell_rowOther (setCell_rowOther r1_2 2 (.bool true) (by omega)) 1 (.int .i64 c1) (by omega)) 5 (.int .u8 c2) (by omega)) _)) _ _) Try.underlying27 rfl sizeTriple (.int .i64 0) rfl) rfl ⟨rfl, ?_⟩
  refine below_putRow ?_ _ _ _ (by omega)
  repeat (first | exact HB1.out | (refine Below.setCell ?_ (by first | omega | (simp <;> omega)) _) | (refine Below.alloc ?_ (by first | omega | (simp <;> omega)) _) | (refine Below.drew ?_))

end Go.Proofs.Ytjghmgpmaallfaa
