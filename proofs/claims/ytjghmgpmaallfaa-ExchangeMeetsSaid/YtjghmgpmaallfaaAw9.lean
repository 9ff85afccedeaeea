/-
  linnetlaw09.awake, and the walk of AgreeBoth.
-/
import Derived.Test.YtjghmgpmaallfaaSta
namespace Go.Proofs.Ytjghmgpmaallfaa
open Go.RowKit
set_option linter.unusedVariables false
set_option linter.unusedSimpArgs false

/-- the prefs of awake. -/
def aw9 : Tb := fun i => if i = 3 then (2, 3) else if i = 10 then (1, 3) else (0, 0)
theorem build9 (w : World) : (Instr.build 25 #[(3, .agg #[.int .i64 2, .int .u8 3]), (10, .agg #[.int .i64 1, .int .u8 3])]).run Try.prog w = .ok (.agg (tabA aw9)) w := by kernel_rfl
set_option maxHeartbeats 2000000 in
set_option maxRecDepth 100000 in
theorem awake9  (w : World) :
    Calls Try.prog 16 #[] w fun e w' => e = .returned (.bool true) ∧ Below w.heap.size w w' := by
  have H1 := hid (show settle aw9 3 1 9 = ((1, 9), 0) from by decide +kernel)
  have H2 := hid (show settle aw9 10 2 9 = ((1, 3), 0) from by decide +kernel)
  have H3 := hid (show settle aw9 10 1 9 = ((0, 0), 0) from by decide +kernel)
  go_enter Try.func16, Try.ntmps16
  go_wp2_with (first | (refine wpList_build_known rfl 25 #[(3, .tmp 8), (10, .tmp 9)] rfl #[(3, .agg #[.int .i64 2, .int .u8 3]), (10, .agg #[.int .i64 1, .int .u8 3])] (by simp [Act.eval]) (.agg (tabA aw9)) (build9 _) ?_) | (refine wpList_alloc_row rfl 25 rfl (tabA zeroT) zeroPrefs ?_) | (refine wpList_store_mid rfl 25 (.tmp 1) (.tmp 10) rfl (w.heap.size) 0 rfl 25 (tabA zeroT) (by rw [heapNew _ _ _ (by first | omega | (simp [putRow_size] <;> omega))]) _ rfl (by rw [tabA_size]; exact sizePrefs) (by rw [tabA_size, tabA_size]; omega) (plain_tab _) (tabA aw9) (lay_tab _ _ (tabA_size _)) ?_) | (refine wpList_load_row rfl 25 (.tmp 1) rfl (w.heap.size) rfl 25 (tabA aw9) (0, 0) _ (by rw [putRow_same _ _ _ _ (by first | omega | (simp [putRow_size] <;> omega))]) Try.underlying25 rfl (by rw [tabA_size]; exact sizePrefs) ?_))
  refine (settle_eq H1.out false false false _).mono ?_
  rintro e w1 ⟨rfl, hb1⟩
  have HB1 := hid (below_step (below_putRow ((Below.refl w.heap.size w).alloc (by first | omega | (simp [putRow_size] <;> omega)) _) _ _ _ (by first | omega | (simp [putRow_size] <;> omega))) (by first | omega | (simp [putRow_size] <;> omega)) hb1)
  have hs1 : w.heap.size ≤ w1.heap.size := HB1.out.size
  have r1_0 : w1.heap[w.heap.size]? = some (.cells (tabA aw9) 25 (0, 0)) := rowNext hb1 (by rw [putRow_same _ _ _ _ (by first | omega | (simp [putRow_size] <;> omega))])
  have c1_0 := lt_of_some r1_0
  go_wp2_with (refine wpList_load_row rfl 25 (.tmp 1) rfl (w.heap.size) rfl 25 (tabA aw9) (0, 0) _ (by rw [heapOld _ _ _ (by first | omega | (simp [putRow_size] <;> omega))]; exact r1_0) Try.underlying25 rfl (by rw [tabA_size]; exact sizePrefs) ?_)
  refine (settle_eq H2.out false false false _).mono ?_
  rintro e w2 ⟨rfl, hb2⟩
  have HB2 := hid (below_step (HB1.out.alloc (by first | omega | (simp [putRow_size] <;> omega)) _) (by first | omega | (simp [putRow_size] <;> omega)) hb2)
  have hs2 : w.heap.size ≤ w2.heap.size := HB2.out.size
  have r2_0 : w2.heap[w.heap.size]? = some (.cells (tabA aw9) 25 (0, 0)) := rowNext hb2 (by rw [heapOld _ _ _ (by first | omega | (simp [putRow_size] <;> omega))]; exact r1_0)
  have c2_0 := lt_of_some r2_0
  have r2_1 : w2.heap[w1.heap.size]? = some (.cells #[.int .i64 1, .int .u8 9] 29 (0, 0)) := rowNext hb2 (by rw [heapNew _ _ _ (by first | omega | (simp [putRow_size] <;> omega))])
  have c2_1 := cells2 r2_1
  clear r1_0 c1_0 hb1 HB1 hs1
  go_wp2_with (refine wpList_load_row rfl 25 (.tmp 1) rfl (w.heap.size) rfl 25 (tabA aw9) (0, 0) _ (by rw [heapOld _ _ _ (by first | omega | (simp [putRow_size] <;> omega))]; exact r2_0) Try.underlying25 rfl (by rw [tabA_size]; exact sizePrefs) ?_)
  refine (settle_eq H3.out false false false _).mono ?_
  rintro e w3 ⟨rfl, hb3⟩
  have HB3 := hid (below_step (HB2.out.alloc (by first | omega | (simp [putRow_size] <;> omega)) _) (by first | omega | (simp [putRow_size] <;> omega)) hb3)
  have hs3 : w.heap.size ≤ w3.heap.size := HB3.out.size
  have r3_0 : w3.heap[w.heap.size]? = some (.cells (tabA aw9) 25 (0, 0)) := rowNext hb3 (by rw [heapOld _ _ _ (by first | omega | (simp [putRow_size] <;> omega))]; exact r2_0)
  have c3_0 := lt_of_some r3_0
  have r3_1 : w3.heap[w1.heap.size]? = some (.cells #[.int .i64 1, .int .u8 9] 29 (0, 0)) := rowNext hb3 (by rw [heapOld _ _ _ (by first | omega | (simp [putRow_size] <;> omega))]; exact r2_1)
  have c3_1 := cells2 r3_1
  have r3_2 : w3.heap[w2.heap.size]? = some (.cells #[.int .i64 1, .int .u8 3] 29 (0, 0)) := rowNext hb3 (by rw [heapNew _ _ _ (by first | omega | (simp [putRow_size] <;> omega))])
  have c3_2 := cells2 r3_2
  clear r2_0 c2_0 r2_1 c2_1 hb2 HB2 hs2
  go_wp2_with fail
  go_ret
  exact ⟨rfl, (HB3.out.alloc (by first | omega | (simp [putRow_size] <;> omega)) _)⟩

end Go.Proofs.Ytjghmgpmaallfaa
