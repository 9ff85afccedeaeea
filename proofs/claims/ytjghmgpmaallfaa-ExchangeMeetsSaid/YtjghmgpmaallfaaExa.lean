/-
  exchange.answered.
-/
import Derived.Test.YtjghmgpmaallfaaExk
namespace Go.Proofs.Ytjghmgpmaallfaa
open Go.RowKit
set_option linter.unusedVariables false
set_option linter.unusedSimpArgs false

set_option maxHeartbeats 1000000 in
theorem answered_no (t : Tb) (m : Wt) (f l v : Int) (a i o : Bool) (hf : isF f = false) (w : World) :
    Calls Try.prog 43 #[.agg (exA t m), .agg #[.int .i64 f, .int .i64 l, .bool a, .bool i, .bool o, .int .u8 v]] w fun e w' => e = .returned (.tuple #[.agg (exA t m), .slice none 0 0, .int .i64 5]) ∧ Below w.heap.size w w' := by
  go_enter Try.func43, Try.ntmps43
  go_wp2_with fail
  refine (exFunction_is hf _).mono ?_
  rintro e w1 ⟨rfl, hb1⟩
  have HB1 := hid (below_step ((((Below.refl w.heap.size w).alloc (by omega) _).alloc (by simp) _).alloc (by simp; omega) _) (by simp; omega) hb1)
  have r0 : rowAt w1 w.heap.size = some (.cells (exA t m) 60 (0, 0)) := rowNext' hb1 (by rw [rowAt_old _ _ _ (by simp; omega), rowAt_old _ _ _ (by simp), rowAt_new _ _ _ rfl])
  have r2 : rowAt w1 (w.heap.size + 1 + 1) = some (.cells (exA zeroT zeroW) 60 (0, 0)) := rowNext' hb1 (by rw [rowAt_new _ _ _ (by simp)])
  have c0 := lt_of_some r0
  have c2 := lt_of_some r2
  go_wp2_with fail
  exact bodyPost_ret (v := .tuple #[.agg (exA t m), .slice none 0 0, .int .i64 5]) (results_row_tmp2 Try.results43 _ _ (w.heap.size + 1 + 1) 60 (exA t m) (0, 0) _ rfl (rowAt_put _ _ _ _ c2) Try.underlying60 rfl (by rw [exA_size]; exact sizeExch) (.slice none 0 0) (.int .i64 5) rfl rfl) rfl
    ⟨rfl, below_putRow HB1.out _ _ _ (by omega)⟩
set_option maxHeartbeats 1000000 in
theorem answered_none (t : Tb) (m : Wt) (n : Nat) (l v : Int) (a i o : Bool) (h1 : 1 ≤ n) (h2 : n < 31) (hm : m n = 0) (w : World) :
    Calls Try.prog 43 #[.agg (exA t m), .agg #[.int .i64 n, .int .i64 l, .bool a, .bool i, .bool o, .int .u8 v]] w fun e w' => e = .returned (.tuple #[.agg (exA t m), .slice none 0 0, .int .i64 5]) ∧ Below w.heap.size w w' := by
  have HF := hid (show isF n = true from by unfold isF; simp; omega)
  have HM := hid hm
  clear hm
  go_enter Try.func43, Try.ntmps43
  go_wp2_with fail
  refine (exFunction_is HF.out _).mono ?_
  rintro e w1 ⟨rfl, hb1⟩
  have HB1 := hid (below_step ((((Below.refl w.heap.size w).alloc (by omega) _).alloc (by simp) _).alloc (by simp; omega) _) (by simp; omega) hb1)
  have r0 : rowAt w1 w.heap.size = some (.cells (exA t m) 60 (0, 0)) := rowNext' hb1 (by rw [rowAt_old _ _ _ (by simp; omega), rowAt_old _ _ _ (by simp), rowAt_new _ _ _ rfl])
  have r1 : rowAt w1 (w.heap.size + 1) = some (.cells #[.int .i64 n, .int .i64 l, .bool a, .bool i, .bool o, .int .u8 v] 27 (0, 0)) := rowNext' hb1 (by rw [rowAt_old _ _ _ (by simp), rowAt_new _ _ _ (by simp)])
  have r2 : rowAt w1 (w.heap.size + 1 + 1) = some (.cells (exA zeroT zeroW) 60 (0, 0)) := rowNext' hb1 (by rw [rowAt_new _ _ _ (by simp)])
  have c0 := lt_of_some r0
  have c1 := cells6 r1
  have c2 := lt_of_some r2
  have k0 : w1.cell? ⟨w.heap.size, 62 + n, none⟩ = some (.int .i64 0) := by rw [cell_of_row w1 _ _ _ _ _ r0, exA_wait t m n h2, HM.out]
  go_wp2_with fail
  exact bodyPost_ret (v := .tuple #[.agg (exA t m), .slice none 0 0, .int .i64 5]) (results_row_tmp2 Try.results43 _ _ (w.heap.size + 1 + 1) 60 (exA t m) (0, 0) _ rfl (rowAt_put _ _ _ _ c2) Try.underlying60 rfl (by rw [exA_size]; exact sizeExch) (.slice none 0 0) (.int .i64 5) rfl rfl) rfl
    ⟨rfl, below_putRow HB1.out _ _ _ (by omega)⟩
end Go.Proofs.Ytjghmgpmaallfaa
