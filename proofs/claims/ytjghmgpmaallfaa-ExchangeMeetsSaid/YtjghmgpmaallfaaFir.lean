/-
  The contracts of agree.First, agree.Whole.
-/
import Derived.Test.YtjghmgpmaallfaaSta
import Derived.Test.YtjghmgpmaallfaaSim
import Derived.Test.YtjghmgpmaallfaaRgn
namespace Go.Proofs.Ytjghmgpmaallfaa
open Go.RowKit
set_option linter.unusedVariables false
set_option linter.unusedSimpArgs false

theorem build39 (w : World) : (Instr.build 39 #[]).run Try.prog w = .ok (.agg (tabA zeroT)) w := by kernel_rfl
theorem agreeCheck_eq' {t : Tb} {e0 : Int} (h : tabErr t = e0) (w : World) :
    Calls Try.prog 21 #[.agg (tabA t)] w fun e w' => e = .returned (.int .i64 e0) ∧ Below w.heap.size w w' := by
  subst h; exact agreeCheck t w
theorem tableCheck_eq' {t : Tb} {e0 : Int} (h : tabErr t = e0) (w : World) :
    Calls Try.prog 19 #[.agg (tabA t)] w fun e w' => e = .returned (.int .i64 e0) ∧ Below w.heap.size w w' := by
  subst h; exact tableCheck t w
set_option maxHeartbeats 4000000 in
set_option maxRecDepth 100000 in
/-- agree.First -/
theorem first_ok (p : Tb) (h : tabErr p = 0) (w : World) :
    Calls Try.prog 20 #[.agg (tabA p)] w fun e w' => e = .returned (.tuple #[.agg (tabA p), .int .i64 0]) ∧ Below w.heap.size w w' := by
  have H := hid h
  clear h
  go_enter Try.func20, Try.ntmps20
  go_wp2_with (first
    | (go_at_call 21; (with_reducible refine (agreeCheck_eq' H.out _).mono ?_); rintro e w1 ⟨rfl, hb1⟩; have r0 := rowNext' hb1 (show rowAt _ w.heap.size = _ from by rw [rowAt_old _ _ _ (by simp), rowAt_new _ _ _ rfl]); have r1 := rowNext' hb1 (show rowAt _ (w.heap.size + 1) = _ from rowAt_new _ _ _ (by simp)))
    | (go_at_call 42; (with_reducible refine (cells p _).mono ?_); rintro e w2 ⟨rfl, hb2⟩; have q1 := rowNext' hb2 r1; have l1 := lt_of_some q1))
  have HB : Below w.heap.size w w2 := ((((Below.refl _ _).alloc (Nat.le_refl _) _).alloc (by simp) _).trans (hb1.mono (by simp; omega))).trans (hb2.mono (by have := hb1.size; simp at this; omega))
  exact bodyPost_ret (v := .tuple #[.agg (tabA p), .int .i64 0]) (results_row_tmp Try.results20 _ _ (w.heap.size + 1) 39 (tabA p) (0, 0) _ rfl (rowAt_put _ _ _ _ l1) Try.underlying39 rfl (by rw [tabA_size]; exact sizeTable) (.int .i64 0) rfl) rfl
    ⟨rfl, below_putRow HB _ _ _ (by omega)⟩
set_option maxHeartbeats 4000000 in
set_option maxRecDepth 100000 in
theorem first_no (p : Tb) (h : tabErr p = 1) (w : World) :
    Calls Try.prog 20 #[.agg (tabA p)] w fun e w' => e = .returned (.tuple #[.agg (tabA zeroT), .int .i64 1]) ∧ Below w.heap.size w w' := by
  have H := hid h
  clear h
  go_enter Try.func20, Try.ntmps20
  go_wp2_with (first
    | (refine wpList_build_known rfl 39 #[] rfl #[] (by simp [Act.eval]) (.agg (tabA zeroT)) (build39 _) ?_)
    | (go_at_call 21; (with_reducible refine (agreeCheck_eq' H.out _).mono ?_); rintro e w1 ⟨rfl, hb1⟩; have r0 := rowNext' hb1 (show rowAt _ w.heap.size = _ from by rw [rowAt_old _ _ _ (by simp), rowAt_new _ _ _ rfl]); have r1 := rowNext' hb1 (show rowAt _ (w.heap.size + 1) = _ from rowAt_new _ _ _ (by simp)); have l1 := lt_of_some r1))
  have HB : Below w.heap.size w w1 := (((Below.refl _ _).alloc (Nat.le_refl _) _).alloc (by simp) _).trans (hb1.mono (by simp; omega))
  exact bodyPost_ret (v := .tuple #[.agg (tabA zeroT), .int .i64 1]) (results_row_tmp Try.results20 _ _ (w.heap.size + 1) 39 (tabA zeroT) (0, 0) _ rfl (rowAt_put _ _ _ _ l1) Try.underlying39 rfl (by rw [tabA_size]; exact sizeTable) (.int .i64 1) rfl) rfl
    ⟨rfl, below_putRow HB _ _ _ (by omega)⟩
end Go.Proofs.Ytjghmgpmaallfaa
