/-
  The contracts of agree.Check, agree.Settle.
-/
import Derived.Test.YtjghmgpmaallfaaStl
import Derived.Test.YtjghmgpmaallfaaCel
import Derived.Deep.RegionWith
namespace Go.Proofs.Ytjghmgpmaallfaa
open Go.RowKit
set_option linter.unusedVariables false
set_option linter.unusedSimpArgs false

set_option maxHeartbeats 400000 in
/-- agree.Check -/
theorem agreeCheck (t : Tb) (w : World) :
    Calls Try.prog 21 #[.agg (tabA t)] w fun e w' => e = .returned (.int .i64 (tabErr t)) ∧ Below w.heap.size w w' := by
  go_enter Try.func21, Try.ntmps21
  go_wp2_with (first | (refine wpList_load_row rfl 25 _ rfl w.heap.size rfl 25 (tabA t) (0, 0) _ (by rw [heapNew _ _ _ rfl]) Try.underlying25 rfl (by rw [tabA_size]; exact sizePrefs) ?_) | (go_at_call 42; refine (cells t _).mono ?_; rintro e w1 ⟨rfl, hb1⟩) | (go_at_call 19; refine (tableCheck t _).mono ?_; rintro e w2 ⟨rfl, hb2⟩))
  go_ret
  have h1 := below_step ((Below.refl w.heap.size w).alloc (Nat.le_refl _) _) (by simp) hb1
  exact ⟨rfl, below_step h1 h1.size hb2⟩

set_option maxHeartbeats 1000000 in
theorem settle_bad (t : Tb) (f l v : Int) (a i o : Bool) (w : World) (h : tabErr t = 1) :
    Calls Try.prog 15 #[.agg (tabA t), .agg #[.int .i64 f, .int .i64 l, .bool a, .bool i, .bool o, .int .u8 v]] w fun e w' => e = .returned (.tuple #[.agg #[.int .i64 0, .int .u8 0], .int .i64 1]) ∧ Below w.heap.size w w' := by
  go_enter Try.func15, Try.ntmps15
  go_wp2_with (first | (refine wpList_load_row rfl 25 _ rfl w.heap.size rfl 25 (tabA t) (0, 0) _ (by rw [heapOld _ _ _ (by simp <;> omega), heapOld _ _ _ (by simp), heapNew _ _ _ rfl]) Try.underlying25 rfl (by rw [tabA_size]; exact sizePrefs) ?_) | (go_at_call 21; refine (agreeCheck t _).mono ?_; rintro e w1 ⟨rfl, hb1⟩; have r1_0 : w1.heap[w.heap.size]? = some (.cells (tabA t) 25 (0, 0)) := rowNext hb1 (by rw [heapOld _ _ _ (by simp <;> omega), heapOld _ _ _ (by simp), heapNew _ _ _ rfl]); have r1_1 : w1.heap[w.heap.size + 1]? = some (.cells #[.int .i64 f, .int .i64 l, .bool a, .bool i, .bool o, .int .u8 v] 27 (0, 0)) := rowNext hb1 (by rw [heapOld _ _ _ (by simp), heapNew _ _ _ (by simp)]); have r1_2 : w1.heap[w.heap.size + 1 + 1]? = some (.cells #[.int .i64 0, .int .u8 0] 29 (0, 0)) := rowNext hb1 (by rw [heapNew _ _ _ (by simp)]); have c1_1 := cells6 r1_1; have c1_2 := cells2 r1_2))
  have h1 := below_step ((((Below.refl w.heap.size w).alloc (Nat.le_refl _) _).alloc (by simp) _).alloc (by simp <;> omega) _) (by simp <;> omega) hb1
  refine bodyPost_ret ?_ rfl ⟨rfl, ?_⟩
  · simp [results, Try.results15, go_sem, c1_2]
  · exact (h1.setCell (by simp <;> omega) _).setCell (by simp <;> omega) _

set_option maxHeartbeats 1000000 in
theorem settle_bad2 (t : Tb) (f l v : Int) (a i o : Bool) (w : World) (h : tabErr t = 0) (h2 : trErr f l = 1) :
    Calls Try.prog 15 #[.agg (tabA t), .agg #[.int .i64 f, .int .i64 l, .bool a, .bool i, .bool o, .int .u8 v]] w fun e w' => e = .returned (.tuple #[.agg #[.int .i64 0, .int .u8 0], .int .i64 1]) ∧ Below w.heap.size w w' := by
  go_enter Try.func15, Try.ntmps15
  go_wp2_with (first | (refine wpList_load_row rfl 25 _ rfl w.heap.size rfl 25 (tabA t) (0, 0) _ (by rw [heapOld _ _ _ (by simp <;> omega), heapOld _ _ _ (by simp), heapNew _ _ _ rfl]) Try.underlying25 rfl (by rw [tabA_size]; exact sizePrefs) ?_) | (go_at_call 21; refine (agreeCheck t _).mono ?_; rintro e w1 ⟨rfl, hb1⟩; have r1_0 : w1.heap[w.heap.size]? = some (.cells (tabA t) 25 (0, 0)) := rowNext hb1 (by rw [heapOld _ _ _ (by simp <;> omega), heapOld _ _ _ (by simp), heapNew _ _ _ rfl]); have r1_1 : w1.heap[w.heap.size + 1]? = some (.cells #[.int .i64 f, .int .i64 l, .bool a, .bool i, .bool o, .int .u8 v] 27 (0, 0)) := rowNext hb1 (by rw [heapOld _ _ _ (by simp), heapNew _ _ _ (by simp)]); have r1_2 : w1.heap[w.heap.size + 1 + 1]? = some (.cells #[.int .i64 0, .int .u8 0] 29 (0, 0)) := rowNext hb1 (by rw [heapNew _ _ _ (by simp)]); have c1_1 := cells6 r1_1; have c1_2 := cells2 r1_2) | (go_at_call 40; refine (slcCheck f l v a i o _).mono ?_; rintro e w2 ⟨rfl, hb2⟩; have r2_0 : w2.heap[w.heap.size]? = some (.cells (tabA t) 25 (0, 0)) := rowNext hb2 r1_0; have r2_1 : w2.heap[w.heap.size + 1]? = some (.cells #[.int .i64 f, .int .i64 l, .bool a, .bool i, .bool o, .int .u8 v] 27 (0, 0)) := rowNext hb2 r1_1; have r2_2 : w2.heap[w.heap.size + 1 + 1]? = some (.cells #[.int .i64 0, .int .u8 0] 29 (0, 0)) := rowNext hb2 r1_2; have c2_1 := cells6 r2_1; have c2_2 := cells2 r2_2))
  have h1 := below_step ((((Below.refl w.heap.size w).alloc (Nat.le_refl _) _).alloc (by simp) _).alloc (by simp <;> omega) _) (by simp <;> omega) hb1
  have h2 := below_step h1 h1.size hb2
  refine bodyPost_ret ?_ rfl ⟨rfl, ?_⟩
  · simp [results, Try.results15, go_sem, c2_2]
  · exact (h2.setCell (by simp <;> omega) _).setCell (by simp <;> omega) _

set_option maxHeartbeats 1000000 in
theorem settle_out (t : Tb) (f l v : Int) (a i o : Bool) (w : World) (h : tabErr t = 0) (h2 : trErr f l = 0) (h3 : 31 ≤ f) :
    Calls Try.prog 15 #[.agg (tabA t), .agg #[.int .i64 f, .int .i64 l, .bool a, .bool i, .bool o, .int .u8 v]] w fun e w' => e = .returned (.tuple #[.agg #[.int .i64 0, .int .u8 0], .int .i64 0]) ∧ Below w.heap.size w w' := by
  go_enter Try.func15, Try.ntmps15
  go_wp2_with (first | (refine wpList_load_row rfl 25 _ rfl w.heap.size rfl 25 (tabA t) (0, 0) _ (by rw [heapOld _ _ _ (by simp <;> omega), heapOld _ _ _ (by simp), heapNew _ _ _ rfl]) Try.underlying25 rfl (by rw [tabA_size]; exact sizePrefs) ?_) | (go_at_call 21; refine (agreeCheck t _).mono ?_; rintro e w1 ⟨rfl, hb1⟩; have r1_0 : w1.heap[w.heap.size]? = some (.cells (tabA t) 25 (0, 0)) := rowNext hb1 (by rw [heapOld _ _ _ (by simp <;> omega), heapOld _ _ _ (by simp), heapNew _ _ _ rfl]); have r1_1 : w1.heap[w.heap.size + 1]? = some (.cells #[.int .i64 f, .int .i64 l, .bool a, .bool i, .bool o, .int .u8 v] 27 (0, 0)) := rowNext hb1 (by rw [heapOld _ _ _ (by simp), heapNew _ _ _ (by simp)]); have r1_2 : w1.heap[w.heap.size + 1 + 1]? = some (.cells #[.int .i64 0, .int .u8 0] 29 (0, 0)) := rowNext hb1 (by rw [heapNew _ _ _ (by simp)]); have c1_1 := cells6 r1_1; have c1_2 := cells2 r1_2) | (go_at_call 40; refine (slcCheck f l v a i o _).mono ?_; rintro e w2 ⟨rfl, hb2⟩; have r2_0 : w2.heap[w.heap.size]? = some (.cells (tabA t) 25 (0, 0)) := rowNext hb2 r1_0; have r2_1 : w2.heap[w.heap.size + 1]? = some (.cells #[.int .i64 f, .int .i64 l, .bool a, .bool i, .bool o, .int .u8 v] 27 (0, 0)) := rowNext hb2 r1_1; have r2_2 : w2.heap[w.heap.size + 1 + 1]? = some (.cells #[.int .i64 0, .int .u8 0] 29 (0, 0)) := rowNext hb2 r1_2; have c2_1 := cells6 r2_1; have c2_2 := cells2 r2_2))
  have h1 := below_step ((((Below.refl w.heap.size w).alloc (Nat.le_refl _) _).alloc (by simp) _).alloc (by simp <;> omega) _) (by simp <;> omega) hb1
  have h2 := below_step h1 h1.size hb2
  refine bodyPost_ret ?_ rfl ⟨rfl, ?_⟩
  · simp [results, Try.results15, go_sem, c2_2]
  · exact (h2.setCell (by simp <;> omega) _).setCell (by simp <;> omega) _

set_option maxHeartbeats 1000000 in
theorem settle_in (t : Tb) (l v : Int) (a i o : Bool) (w : World) (n : Nat) (hn : n < 31) (h : tabErr t = 0) (h2 : trErr n l = 0) :
    Calls Try.prog 15 #[.agg (tabA t), .agg #[.int .i64 n, .int .i64 l, .bool a, .bool i, .bool o, .int .u8 v]] w fun e w' => e = .returned (.tuple #[.agg #[.int .i64 (setl (t n).1 (t n).2 l v).1, .int .u8 (setl (t n).1 (t n).2 l v).2], .int .i64 0]) ∧ Below w.heap.size w w' := by
  obtain ⟨c1, c2, hc⟩ : ∃ c1 c2, t n = (c1, c2) := ⟨_, _, rfl⟩
  have HC := hid hc
  rw [hc]
  clear hc
  go_enter Try.func15, Try.ntmps15
  go_wp2_with (first | (refine wpList_load_row rfl 25 _ rfl w.heap.size rfl 25 (tabA t) (0, 0) _ (by rw [heapOld _ _ _ (by simp <;> omega), heapOld _ _ _ (by simp), heapNew _ _ _ rfl]) Try.underlying25 rfl (by rw [tabA_size]; exact sizePrefs) ?_) | (go_at_call 21; refine (agreeCheck t _).mono ?_; rintro e w1 ⟨rfl, hb1⟩; have r1_0 : w1.heap[w.heap.size]? = some (.cells (tabA t) 25 (0, 0)) := rowNext hb1 (by rw [heapOld _ _ _ (by simp <;> omega), heapOld _ _ _ (by simp), heapNew _ _ _ rfl]); have r1_1 : w1.heap[w.heap.size + 1]? = some (.cells #[.int .i64 n, .int .i64 l, .bool a, .bool i, .bool o, .int .u8 v] 27 (0, 0)) := rowNext hb1 (by rw [heapOld _ _ _ (by simp), heapNew _ _ _ (by simp)]); have r1_2 : w1.heap[w.heap.size + 1 + 1]? = some (.cells #[.int .i64 0, .int .u8 0] 29 (0, 0)) := rowNext hb1 (by rw [heapNew _ _ _ (by simp)]); have c1_1 := cells6 r1_1; have c1_2 := cells2 r1_2) | (go_at_call 40; refine (slcCheck n l v a i o _).mono ?_; rintro e w2 ⟨rfl, hb2⟩; have r2_0 : w2.heap[w.heap.size]? = some (.cells (tabA t) 25 (0, 0)) := rowNext hb2 r1_0; have r2_1 : w2.heap[w.heap.size + 1]? = some (.cells #[.int .i64 n, .int .i64 l, .bool a, .bool i, .bool o, .int .u8 v] 27 (0, 0)) := rowNext hb2 r1_1; have r2_2 : w2.heap[w.heap.size + 1 + 1]? = some (.cells #[.int .i64 0, .int .u8 0] 29 (0, 0)) := rowNext hb2 r1_2; have c2_1 := cells6 r2_1; have c2_2 := cells2 r2_2))
  have k0 : w2.cell? ⟨w.heap.size, n * 2, none⟩ = some (.int .i64 c1) := by rw [cell_of_row _ _ _ _ _ _ r2_0, tabA_cell0 t n hn, HC.out]
  have k1 : w2.cell? ⟨w.heap.size, n * 2 + 1, none⟩ = some (.int .u8 c2) := by rw [cell_of_row _ _ _ _ _ _ r2_0, tabA_cell1 t n hn, HC.out]
  have h1 := below_step ((((Below.refl w.heap.size w).alloc (Nat.le_refl _) _).alloc (by simp) _).alloc (by simp <;> omega) _) (by simp <;> omega) hb1
  have h2' := below_step h1 h1.size hb2
  have H2 := hid h2'
  clear h1 h2' hb1
  go_region_with (go_at_call 41; refine (settled c1 c2 n l v a i o _).mono ?_; rintro e w3 ⟨rfl, hb3⟩; have c3_2 := cells2 (rowNext hb3 r2_2))
  all_goals
    go_wp2
    refine bodyPost_ret ?_ rfl ⟨rfl, ?_⟩
    · simp [results, Try.results15, go_sem, c3_2]
    · exact ((below_step H2.out.drew H2.out.drew.size hb3).setCell (by simp <;> omega) _).setCell (by simp <;> omega) _

end Go.Proofs.Ytjghmgpmaallfaa
