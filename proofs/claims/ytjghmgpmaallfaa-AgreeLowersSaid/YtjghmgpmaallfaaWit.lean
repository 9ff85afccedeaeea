/-
  table.With.
-/
import Derived.Test.YtjghmgpmaallfaaCel
import Derived.Test.YtjghmgpmaallfaaLib2
namespace Go.Proofs.Ytjghmgpmaallfaa
open Go.RowKit
set_option linter.unusedVariables false
set_option linter.unusedSimpArgs false

theorem tableCheck_eq {t : Tb} {e0 : Int} (h : tabErr t = e0) (w : World) :
    Calls Try.prog 19 #[.agg (tabA t)] w fun e w' => e = .returned (.int .i64 e0) ∧ Below w.heap.size w w' := by
  rw [← h]; exact tableCheck t w
set_option maxHeartbeats 2000000 in
set_option maxRecDepth 100000 in
theorem with_low (t : Tb) (f c1 c2 : Int) (hf : f < 1) (w : World) :
    Calls Try.prog 18 #[.agg (tabA t), .int .i64 f, .agg #[.int .i64 c1, .int .u8 c2]] w fun e w' => e = .returned (.tuple #[.agg (tabA t), .int .i64 1]) ∧ Below w.heap.size w w' := by
  go_enter Try.func18, Try.ntmps18
  go_wp2_with (first | (refine wpList_alloc_at rfl 39 rfl (tabA zeroT) zeroTable (w.heap.size + 1 + 1) ?_ ?_; · (first | rfl | (simp [putRow_size]; done))) | (refine wpList_load_row rfl 39 (.tmp 3) rfl (w.heap.size) rfl 39 (tabA t) (0, 0) _ ?_ Try.underlying39 rfl (by rw [tabA_size]; exact sizeTable) ?_; · (rw [heapOld _ _ _ (by first | omega | (simp [putRow_size] <;> omega)), heapOld _ _ _ (by first | omega | (simp [putRow_size] <;> omega)), heapNew _ _ _ (by first | omega | (simp [putRow_size] <;> omega))])) | (refine wpList_store_mid rfl 39 (.tmp 6) (.tmp 15) rfl (w.heap.size + 1 + 1) 0 rfl 39 (tabA zeroT) ?_ _ rfl (by rw [tabA_size]; exact sizeTable) (by rw [tabA_size, tabA_size]; omega) (plain_tab _) (tabA t) (lay_tab _ _ (tabA_size _)) ?_; · (rw [heapNew _ _ _ (by first | omega | (simp [putRow_size] <;> omega))])))
  exact bodyPost_ret (v := .tuple #[.agg (tabA t), .int .i64 1]) (results_row_tmp Try.results18 _ _ (w.heap.size + 1 + 1) 39 (tabA t) (0, 0) _ rfl (by rw [putRow_same _ _ _ _ (by first | omega | (simp [putRow_size] <;> omega))]) Try.underlying39 rfl (by rw [tabA_size]; exact sizeTable) (.int .i64 1) rfl) rfl ⟨rfl, (below_putRow ((((Below.refl w.heap.size w).alloc (by first | omega | (simp [putRow_size] <;> omega)) _).alloc (by first | omega | (simp [putRow_size] <;> omega)) _).alloc (by first | omega | (simp [putRow_size] <;> omega)) _) _ _ _ (by first | omega | (simp [putRow_size] <;> omega)))⟩

set_option maxHeartbeats 2000000 in
set_option maxRecDepth 100000 in
theorem with_high (t : Tb) (f c1 c2 : Int) (hf : 31 ≤ f) (w : World) :
    Calls Try.prog 18 #[.agg (tabA t), .int .i64 f, .agg #[.int .i64 c1, .int .u8 c2]] w fun e w' => e = .returned (.tuple #[.agg (tabA t), .int .i64 1]) ∧ Below w.heap.size w w' := by
  go_enter Try.func18, Try.ntmps18
  go_wp2_with (first | (refine wpList_alloc_at rfl 39 rfl (tabA zeroT) zeroTable (w.heap.size + 1 + 1) ?_ ?_; · (first | rfl | (simp [putRow_size]; done))) | (refine wpList_load_row rfl 39 (.tmp 3) rfl (w.heap.size) rfl 39 (tabA t) (0, 0) _ ?_ Try.underlying39 rfl (by rw [tabA_size]; exact sizeTable) ?_; · (rw [heapOld _ _ _ (by first | omega | (simp [putRow_size] <;> omega)), heapOld _ _ _ (by first | omega | (simp [putRow_size] <;> omega)), heapNew _ _ _ (by first | omega | (simp [putRow_size] <;> omega))])) | (refine wpList_store_mid rfl 39 (.tmp 6) (.tmp 15) rfl (w.heap.size + 1 + 1) 0 rfl 39 (tabA zeroT) ?_ _ rfl (by rw [tabA_size]; exact sizeTable) (by rw [tabA_size, tabA_size]; omega) (plain_tab _) (tabA t) (lay_tab _ _ (tabA_size _)) ?_; · (rw [heapNew _ _ _ (by first | omega | (simp [putRow_size] <;> omega))])))
  exact bodyPost_ret (v := .tuple #[.agg (tabA t), .int .i64 1]) (results_row_tmp Try.results18 _ _ (w.heap.size + 1 + 1) 39 (tabA t) (0, 0) _ rfl (by rw [putRow_same _ _ _ _ (by first | omega | (simp [putRow_size] <;> omega))]) Try.underlying39 rfl (by rw [tabA_size]; exact sizeTable) (.int .i64 1) rfl) rfl ⟨rfl, (below_putRow ((((Below.refl w.heap.size w).alloc (by first | omega | (simp [putRow_size] <;> omega)) _).alloc (by first | omega | (simp [putRow_size] <;> omega)) _).alloc (by first | omega | (simp [putRow_size] <;> omega)) _) _ _ _ (by first | omega | (simp [putRow_size] <;> omega)))⟩

set_option maxHeartbeats 2000000 in
set_option maxRecDepth 100000 in
theorem with_bad (t : Tb) (n : Nat) (h1 : 1 ≤ n) (h2 : n < 31) (c1 c2 : Int) (HE : Hid (tabErr (upd t n (c1, c2)) = 1)) (w : World) :
    Calls Try.prog 18 #[.agg (tabA t), .int .i64 n, .agg #[.int .i64 c1, .int .u8 c2]] w fun e w' => e = .returned (.tuple #[.agg (tabA t), .int .i64 1]) ∧ Below w.heap.size w w' := by
  go_enter Try.func18, Try.ntmps18
  go_wp2_with (first | (refine wpList_alloc_at rfl 39 rfl (tabA zeroT) zeroTable (w.heap.size + 1 + 1) ?_ ?_; · (first | rfl | (simp [putRow_size]; done))) | (refine wpList_load_row rfl 39 (.tmp 3) rfl (w.heap.size) rfl 39 (tabA t) (0, 0) _ ?_ Try.underlying39 rfl (by rw [tabA_size]; exact sizeTable) ?_; · (rw [heapOld _ _ _ (by first | omega | (simp [putRow_size] <;> omega)), heapOld _ _ _ (by first | omega | (simp [putRow_size] <;> omega)), heapNew _ _ _ (by first | omega | (simp [putRow_size] <;> omega))])) | (refine wpList_alloc_at rfl 39 rfl (tabA zeroT) zeroTable (w.heap.size + 1 + 1 + 1) ?_ ?_; · (first | rfl | (simp [putRow_size]; done))) | (refine wpList_store_mid rfl 39 (.tmp 8) (.tmp 16) rfl (w.heap.size + 1 + 1 + 1) 0 rfl 39 (tabA zeroT) ?_ _ rfl (by rw [tabA_size]; exact sizeTable) (by rw [tabA_size, tabA_size]; omega) (plain_tab _) (tabA t) (lay_tab _ _ (tabA_size _)) ?_; · (rw [heapNew _ _ _ (by first | omega | (simp [putRow_size] <;> omega))])) | (refine wpList_store_mid rfl 29 (.tmp 19) (.tmp 18) rfl (w.heap.size) (n * 2) rfl 39 (tabA t) ?_ _ rfl sizeCell (by rw [tabA_size]; simp; omega) rfl (tabA (upd t n (c1, c2))) (lay_upd _ _ _ _ (by omega)) ?_; · (rw [putRow_other _ _ _ _ _ (by first | omega | (simp [putRow_size] <;> omega)), heapOld _ _ _ (by first | omega | (simp [putRow_size] <;> omega)), heapOld _ _ _ (by first | omega | (simp [putRow_size] <;> omega)), heapOld _ _ _ (by first | omega | (simp [putRow_size] <;> omega)), heapNew _ _ _ (by first | omega | (simp [putRow_size] <;> omega))])) | (refine wpList_load_row rfl 39 (.tmp 3) rfl (w.heap.size) rfl 39 (tabA (upd t n (c1, c2))) (0, 0) _ ?_ Try.underlying39 rfl (by rw [tabA_size]; exact sizeTable) ?_; · (rw [putRow_same _ _ _ _ (by first | omega | (simp [putRow_size] <;> omega))])))
  refine (tableCheck_eq HE.out _).mono ?_
  rintro e w1 ⟨rfl, hb1⟩
  have HB1 := hid (below_step (below_putRow (below_putRow (((((Below.refl w.heap.size w).alloc (by first | omega | (simp [putRow_size] <;> omega)) _).alloc (by first | omega | (simp [putRow_size] <;> omega)) _).alloc (by first | omega | (simp [putRow_size] <;> omega)) _).alloc (by first | omega | (simp [putRow_size] <;> omega)) _) _ _ _ (by first | omega | (simp [putRow_size] <;> omega))) _ _ _ (by first | omega | (simp [putRow_size] <;> omega))) (by first | omega | (simp [putRow_size] <;> omega)) hb1)
  have hs1 : w.heap.size ≤ w1.heap.size := HB1.out.size
  have r1_0 : w1.heap[w.heap.size]? = some (.cells (tabA (upd t n (c1, c2))) 39 (0, 0)) := rowNext hb1 (by rw [putRow_same _ _ _ _ (by first | omega | (simp [putRow_size] <;> omega))])
  have c1_0 := lt_of_some r1_0
  have r1_1 : w1.heap[w.heap.size + 1]? = some (.cells #[.int .i64 c1, .int .u8 c2] 29 (0, 0)) := rowNext hb1 (by rw [putRow_other _ _ _ _ _ (by first | omega | (simp [putRow_size] <;> omega)), putRow_other _ _ _ _ _ (by first | omega | (simp [putRow_size] <;> omega)), heapOld _ _ _ (by first | omega | (simp [putRow_size] <;> omega)), heapOld _ _ _ (by first | omega | (simp [putRow_size] <;> omega)), heapNew _ _ _ (by first | omega | (simp [putRow_size] <;> omega))])
  have c1_1 := cells2 r1_1
  have r1_2 : w1.heap[w.heap.size + 1 + 1]? = some (.cells (tabA zeroT) 39 (0, 0)) := rowNext hb1 (by rw [putRow_other _ _ _ _ _ (by first | omega | (simp [putRow_size] <;> omega)), putRow_other _ _ _ _ _ (by first | omega | (simp [putRow_size] <;> omega)), heapOld _ _ _ (by first | omega | (simp [putRow_size] <;> omega)), heapNew _ _ _ (by first | omega | (simp [putRow_size] <;> omega))])
  have c1_2 := lt_of_some r1_2
  have r1_3 : w1.heap[w.heap.size + 1 + 1 + 1]? = some (.cells (tabA t) 39 (0, 0)) := rowNext hb1 (by rw [putRow_other _ _ _ _ _ (by first | omega | (simp [putRow_size] <;> omega)), putRow_same _ _ _ _ (by first | omega | (simp [putRow_size] <;> omega))])
  have c1_3 := lt_of_some r1_3
  go_wp2_with (first | (refine wpList_load_row rfl 39 (.tmp 8) rfl (w.heap.size + 1 + 1 + 1) rfl 39 (tabA t) (0, 0) _ ?_ Try.underlying39 rfl (by rw [tabA_size]; exact sizeTable) ?_; · (exact r1_3)) | (refine wpList_store_mid rfl 39 (.tmp 6) (.tmp 23) rfl (w.heap.size + 1 + 1) 0 rfl 39 (tabA zeroT) ?_ _ rfl (by rw [tabA_size]; exact sizeTable) (by rw [tabA_size, tabA_size]; omega) (plain_tab _) (tabA t) (lay_tab _ _ (tabA_size _)) ?_; · (exact r1_2)))
  exact bodyPost_ret (v := .tuple #[.agg (tabA t), .int .i64 1]) (results_row_tmp Try.results18 _ _ (w.heap.size + 1 + 1) 39 (tabA t) (0, 0) _ rfl (by rw [putRow_same _ _ _ _ (by first | omega | (simp [putRow_size] <;> omega))]) Try.underlying39 rfl (by rw [tabA_size]; exact sizeTable) (.int .i64 1) rfl) rfl ⟨rfl, (below_putRow HB1.out _ _ _ (by first | omega | (simp [putRow_size] <;> omega)))⟩

set_option maxHeartbeats 2000000 in
set_option maxRecDepth 100000 in
theorem with_ok (t : Tb) (n : Nat) (h1 : 1 ≤ n) (h2 : n < 31) (c1 c2 : Int) (HE : Hid (tabErr (upd t n (c1, c2)) = 0)) (w : World) :
    Calls Try.prog 18 #[.agg (tabA t), .int .i64 n, .agg #[.int .i64 c1, .int .u8 c2]] w fun e w' => e = .returned (.tuple #[.agg (tabA (upd t n (c1, c2))), .int .i64 0]) ∧ Below w.heap.size w w' := by
  go_enter Try.func18, Try.ntmps18
  go_wp2_with (first | (refine wpList_alloc_at rfl 39 rfl (tabA zeroT) zeroTable (w.heap.size + 1 + 1) ?_ ?_; · (first | rfl | (simp [putRow_size]; done))) | (refine wpList_load_row rfl 39 (.tmp 3) rfl (w.heap.size) rfl 39 (tabA t) (0, 0) _ ?_ Try.underlying39 rfl (by rw [tabA_size]; exact sizeTable) ?_; · (rw [heapOld _ _ _ (by first | omega | (simp [putRow_size] <;> omega)), heapOld _ _ _ (by first | omega | (simp [putRow_size] <;> omega)), heapNew _ _ _ (by first | omega | (simp [putRow_size] <;> omega))])) | (refine wpList_alloc_at rfl 39 rfl (tabA zeroT) zeroTable (w.heap.size + 1 + 1 + 1) ?_ ?_; · (first | rfl | (simp [putRow_size]; done))) | (refine wpList_store_mid rfl 39 (.tmp 8) (.tmp 16) rfl (w.heap.size + 1 + 1 + 1) 0 rfl 39 (tabA zeroT) ?_ _ rfl (by rw [tabA_size]; exact sizeTable) (by rw [tabA_size, tabA_size]; omega) (plain_tab _) (tabA t) (lay_tab _ _ (tabA_size _)) ?_; · (rw [heapNew _ _ _ (by first | omega | (simp [putRow_size] <;> omega))])) | (refine wpList_store_mid rfl 29 (.tmp 19) (.tmp 18) rfl (w.heap.size) (n * 2) rfl 39 (tabA t) ?_ _ rfl sizeCell (by rw [tabA_size]; simp; omega) rfl (tabA (upd t n (c1, c2))) (lay_upd _ _ _ _ (by omega)) ?_; · (rw [putRow_other _ _ _ _ _ (by first | omega | (simp [putRow_size] <;> omega)), heapOld _ _ _ (by first | omega | (simp [putRow_size] <;> omega)), heapOld _ _ _ (by first | omega | (simp [putRow_size] <;> omega)), heapOld _ _ _ (by first | omega | (simp [putRow_size] <;> omega)), heapNew _ _ _ (by first | omega | (simp [putRow_size] <;> omega))])) | (refine wpList_load_row rfl 39 (.tmp 3) rfl (w.heap.size) rfl 39 (tabA (upd t n (c1, c2))) (0, 0) _ ?_ Try.underlying39 rfl (by rw [tabA_size]; exact sizeTable) ?_; · (rw [putRow_same _ _ _ _ (by first | omega | (simp [putRow_size] <;> omega))])))
  refine (tableCheck_eq HE.out _).mono ?_
  rintro e w1 ⟨rfl, hb1⟩
  have HB1 := hid (below_step (below_putRow (below_putRow (((((Below.refl w.heap.size w).alloc (by first | omega | (simp [putRow_size] <;> omega)) _).alloc (by first | omega | (simp [putRow_size] <;> omega)) _).alloc (by first | omega | (simp [putRow_size] <;> omega)) _).alloc (by first | omega | (simp [putRow_size] <;> omega)) _) _ _ _ (by first | omega | (simp [putRow_size] <;> omega))) _ _ _ (by first | omega | (simp [putRow_size] <;> omega))) (by first | omega | (simp [putRow_size] <;> omega)) hb1)
  have hs1 : w.heap.size ≤ w1.heap.size := HB1.out.size
  have r1_0 : w1.heap[w.heap.size]? = some (.cells (tabA (upd t n (c1, c2))) 39 (0, 0)) := rowNext hb1 (by rw [putRow_same _ _ _ _ (by first | omega | (simp [putRow_size] <;> omega))])
  have c1_0 := lt_of_some r1_0
  have r1_1 : w1.heap[w.heap.size + 1]? = some (.cells #[.int .i64 c1, .int .u8 c2] 29 (0, 0)) := rowNext hb1 (by rw [putRow_other _ _ _ _ _ (by first | omega | (simp [putRow_size] <;> omega)), putRow_other _ _ _ _ _ (by first | omega | (simp [putRow_size] <;> omega)), heapOld _ _ _ (by first | omega | (simp [putRow_size] <;> omega)), heapOld _ _ _ (by first | omega | (simp [putRow_size] <;> omega)), heapNew _ _ _ (by first | omega | (simp [putRow_size] <;> omega))])
  have c1_1 := cells2 r1_1
  have r1_2 : w1.heap[w.heap.size + 1 + 1]? = some (.cells (tabA zeroT) 39 (0, 0)) := rowNext hb1 (by rw [putRow_other _ _ _ _ _ (by first | omega | (simp [putRow_size] <;> omega)), putRow_other _ _ _ _ _ (by first | omega | (simp [putRow_size] <;> omega)), heapOld _ _ _ (by first | omega | (simp [putRow_size] <;> omega)), heapNew _ _ _ (by first | omega | (simp [putRow_size] <;> omega))])
  have c1_2 := lt_of_some r1_2
  have r1_3 : w1.heap[w.heap.size + 1 + 1 + 1]? = some (.cells (tabA t) 39 (0, 0)) := rowNext hb1 (by rw [putRow_other _ _ _ _ _ (by first | omega | (simp [putRow_size] <;> omega)), putRow_same _ _ _ _ (by first | omega | (simp [putRow_size] <;> omega))])
  have c1_3 := lt_of_some r1_3
  go_wp2_with (first | (refine wpList_load_row rfl 39 (.tmp 3) rfl (w.heap.size) rfl 39 (tabA (upd t n (c1, c2))) (0, 0) _ ?_ Try.underlying39 rfl (by rw [tabA_size]; exact sizeTable) ?_; · (exact r1_0)) | (refine wpList_store_mid rfl 39 (.tmp 6) (.tmp 24) rfl (w.heap.size + 1 + 1) 0 rfl 39 (tabA zeroT) ?_ _ rfl (by rw [tabA_size]; exact sizeTable) (by rw [tabA_size, tabA_size]; omega) (plain_tab _) (tabA (upd t n (c1, c2))) (lay_tab _ _ (tabA_size _)) ?_; · (exact r1_2)))
  exact bodyPost_ret (v := .tuple #[.agg (tabA (upd t n (c1, c2))), .int .i64 0]) (results_row_tmp Try.results18 _ _ (w.heap.size + 1 + 1) 39 (tabA (upd t n (c1, c2))) (0, 0) _ rfl (by rw [putRow_same _ _ _ _ (by first | omega | (simp [putRow_size] <;> omega))]) Try.underlying39 rfl (by rw [tabA_size]; exact sizeTable) (.int .i64 0) rfl) rfl ⟨rfl, (below_putRow HB1.out _ _ _ (by first | omega | (simp [putRow_size] <;> omega)))⟩

end Go.Proofs.Ytjghmgpmaallfaa
