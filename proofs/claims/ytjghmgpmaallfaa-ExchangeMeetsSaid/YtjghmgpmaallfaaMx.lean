/-
  The walk of ExchangeMeets, where prefs may not be.
-/
import Derived.Test.YtjghmgpmaallfaaMs
import Derived.Deep.QuietTactic
import Derived.BigQuiet
namespace Go.Proofs.Ytjghmgpmaallfaa
open Go.RowKit
set_option linter.unusedVariables false
set_option linter.unusedSimpArgs false

set_option maxHeartbeats 2000000 in
set_option maxRecDepth 100000 in
theorem meets_no0 (p0 p1 : Tb) (sv : Value) (w : World) (H0 : Hid (tabErr p0 = 1)) :
    Calls Try.prog 13 #[.agg (prA p0 p1 sv)] w fun e w' => e = .returned (.bool true) ∧ Below w.heap.size w w' := by
  go_enter Try.func13, Try.ntmps13
  go_wp2_with fail
  have s0 : rowAt (((w.alloc (.cells (prA p0 p1 sv) 79)).alloc (.cells (xsA zeroT zeroT zeroW zeroW) 80)).alloc (.cells #[.slice none 0 0, .slice none 0 0] 81)) (w.heap.size) = some (.cells (prA p0 p1 sv) 79 (0, 0)) ∧ rowAt (((w.alloc (.cells (prA p0 p1 sv) 79)).alloc (.cells (xsA zeroT zeroT zeroW zeroW) 80)).alloc (.cells #[.slice none 0 0, .slice none 0 0] 81)) (w.heap.size + 1) = some (.cells (xsA zeroT zeroT zeroW zeroW) 80 (0, 0)) ∧ rowAt (((w.alloc (.cells (prA p0 p1 sv) 79)).alloc (.cells (xsA zeroT zeroT zeroW zeroW) 80)).alloc (.cells #[.slice none 0 0, .slice none 0 0] 81)) (w.heap.size + 1 + 1) = some (.cells #[.slice none 0 0, .slice none 0 0] 81 (0, 0)) := ⟨by rw [rowAt_old _ _ _ (by simp <;> omega), rowAt_old _ _ _ (by simp), rowAt_new _ _ _ rfl], by rw [rowAt_old _ _ _ (by simp), rowAt_new _ _ _ (by simp)], rowAt_new _ _ _ (by simp)⟩
  have HBA : Hid (Below w.heap.size w (((w.alloc (.cells (prA p0 p1 sv) 79)).alloc (.cells (xsA zeroT zeroT zeroW zeroW) 80)).alloc (.cells #[.slice none 0 0, .slice none 0 0] 81))) := hid ((((Below.refl _ _).alloc (Nat.le_refl _) _).alloc (by simp) _).alloc (by simp; omega) _)
  have hsz : (((w.alloc (.cells (prA p0 p1 sv) 79)).alloc (.cells (xsA zeroT zeroT zeroW zeroW) 80)).alloc (.cells #[.slice none 0 0, .slice none 0 0] 81)).heap.size = w.heap.size + 1 + 1 + 1 := by simp
  generalize (((w.alloc (.cells (prA p0 p1 sv) 79)).alloc (.cells (xsA zeroT zeroT zeroW zeroW) 80)).alloc (.cells #[.slice none 0 0, .slice none 0 0] 81)) = wA at *
  have S0 := hid s0
  clear s0
  go_loopw [5] (fun i' wr => ∃ k : Nat, i' = .int .i64 k ∧ (k = 0 ∧ rowAt wr (w.heap.size) = some (.cells (prA p0 p1 sv) 79 (0, 0)) ∧ rowAt wr (w.heap.size + 1) = some (.cells (xsA zeroT zeroT zeroW zeroW) 80 (0, 0)) ∧ rowAt wr (w.heap.size + 1 + 1) = some (.cells #[.slice none 0 0, .slice none 0 0] 81 (0, 0))) ∧ w.heap.size + 1 + 1 + 1 ≤ wr.heap.size ∧ Below w.heap.size w wr) (fun i' _ => 2 - (intOf i').toNat)
  case atStart => exact ⟨0, rfl, ⟨rfl, S0.out⟩, by omega, HBA.out⟩
  case round =>
    clear S0 HBA hsz
    obtain ⟨k, rfl, hst, hsz, hbr⟩ := hrel
    have HBR := hid hbr
    clear hbr
    obtain ⟨rfl, rp, rx, rt⟩ := hst
    have lx := lt_of_some rx
    have ct := cells2 rt
    go_wp2_with fail
    refine (begin_no p0 true H0.out _).mono ?_
    rintro e w3 ⟨rfl, hb3⟩
    have HB3 := hid (below_step HBR.out (by omega) hb3)
    have hs3 : w.heap.size ≤ w3.heap.size := HB3.out.size
    clear rp rx rt lx ct hb3
    go_wp2_with fail
    refine (awake17 _).mono ?_
    rintro e w7 ⟨rfl, hb7⟩
    have HB7 := hid (below_step (HB3.out.alloc hs3 (.cells (exA zeroT zeroW) 60)) (by first | omega | (simp <;> omega)) hb7)
    go_wp2_with fail
    go_ret
    exact ⟨rfl, HB7.out⟩

set_option maxHeartbeats 2000000 in
set_option maxRecDepth 100000 in
theorem meets_no1 (p0 p1 : Tb) (sv : Value) (w : World) (H0 : Hid (tabErr p0 = 0)) (H1 : Hid (tabErr p1 = 1)) :
    Calls Try.prog 13 #[.agg (prA p0 p1 sv)] w fun e w' => e = .returned (.bool true) ∧ Below w.heap.size w w' := by
  go_enter Try.func13, Try.ntmps13
  go_wp2_with fail
  have s0 : rowAt (((w.alloc (.cells (prA p0 p1 sv) 79)).alloc (.cells (xsA zeroT zeroT zeroW zeroW) 80)).alloc (.cells #[.slice none 0 0, .slice none 0 0] 81)) (w.heap.size) = some (.cells (prA p0 p1 sv) 79 (0, 0)) ∧ rowAt (((w.alloc (.cells (prA p0 p1 sv) 79)).alloc (.cells (xsA zeroT zeroT zeroW zeroW) 80)).alloc (.cells #[.slice none 0 0, .slice none 0 0] 81)) (w.heap.size + 1) = some (.cells (xsA zeroT zeroT zeroW zeroW) 80 (0, 0)) ∧ rowAt (((w.alloc (.cells (prA p0 p1 sv) 79)).alloc (.cells (xsA zeroT zeroT zeroW zeroW) 80)).alloc (.cells #[.slice none 0 0, .slice none 0 0] 81)) (w.heap.size + 1 + 1) = some (.cells #[.slice none 0 0, .slice none 0 0] 81 (0, 0)) := ⟨by rw [rowAt_old _ _ _ (by simp <;> omega), rowAt_old _ _ _ (by simp), rowAt_new _ _ _ rfl], by rw [rowAt_old _ _ _ (by simp), rowAt_new _ _ _ (by simp)], rowAt_new _ _ _ (by simp)⟩
  have HBA : Hid (Below w.heap.size w (((w.alloc (.cells (prA p0 p1 sv) 79)).alloc (.cells (xsA zeroT zeroT zeroW zeroW) 80)).alloc (.cells #[.slice none 0 0, .slice none 0 0] 81))) := hid ((((Below.refl _ _).alloc (Nat.le_refl _) _).alloc (by simp) _).alloc (by simp; omega) _)
  have hsz : (((w.alloc (.cells (prA p0 p1 sv) 79)).alloc (.cells (xsA zeroT zeroT zeroW zeroW) 80)).alloc (.cells #[.slice none 0 0, .slice none 0 0] 81)).heap.size = w.heap.size + 1 + 1 + 1 := by simp
  generalize (((w.alloc (.cells (prA p0 p1 sv) 79)).alloc (.cells (xsA zeroT zeroT zeroW zeroW) 80)).alloc (.cells #[.slice none 0 0, .slice none 0 0] 81)) = wA at *
  have S0 := hid s0
  clear s0
  go_loopw [5] (fun i' wr => ∃ k : Nat, i' = .int .i64 k ∧ ((k = 0 ∧ rowAt wr (w.heap.size) = some (.cells (prA p0 p1 sv) 79 (0, 0)) ∧ rowAt wr (w.heap.size + 1) = some (.cells (xsA zeroT zeroT zeroW zeroW) 80 (0, 0)) ∧ rowAt wr (w.heap.size + 1 + 1) = some (.cells #[.slice none 0 0, .slice none 0 0] 81 (0, 0))) ∨ (k = 1 ∧ ∃ g, rowAt wr (w.heap.size) = some (.cells (prA p0 p1 sv) 79 (0, 0)) ∧ rowAt wr (w.heap.size + 1) = some (.cells (xsA p0 zeroT (onesTo 31) zeroW) 80 (0, 0)) ∧ rowAt wr (w.heap.size + 1 + 1) = some (.cells #[.slice none 0 0, .slice (some ⟨g, 0, none⟩) 30 31] 81 (0, 0)) ∧ HasQ wr (w.heap.size + 1 + 1 + 1) (.slice (some ⟨g, 0, none⟩) 30 31) (props p0))) ∧ w.heap.size + 1 + 1 + 1 ≤ wr.heap.size ∧ Below w.heap.size w wr) (fun i' _ => 2 - (intOf i').toNat)
  case atStart => exact ⟨0, rfl, .inl ⟨rfl, S0.out⟩, by omega, HBA.out⟩
  case round =>
    clear S0 HBA hsz
    obtain ⟨k, rfl, hst, hsz, hbr⟩ := hrel
    have HBR := hid hbr
    clear hbr
    rcases hst with ⟨rfl, rp, rx, rt⟩ | ⟨rfl, g, rp, rx, rt, hq⟩
    · have lx := lt_of_some rx
      have ct := cells2 rt
      go_wp2_with fail
      refine (begin_q p0 H0.out _).mono ?_
      rintro e w3 ⟨g, rfl, ⟨cur, hg1, hg2, hg3⟩, hgl, hgu, hb3⟩
      have r3p := rowNext' hb3 rp
      have r3x := rowNext' hb3 rx
      have r3t := rowNext' hb3 rt
      have HQ3 := hid (props_q (B := w.heap.size + 1 + 1 + 1) (by omega) hg1 hg2 hg3)
      have HB3 := hid (below_step HBR.out (by omega) hb3)
      have hs3 : w.heap.size + 1 + 1 + 1 ≤ w3.heap.size := by have := hb3.size; omega
      have c3x := lt_of_some r3x
      have c3t := cells2 r3t
      clear rp rx rt lx ct hb3 hg1 hg2 hg3
      go_wp2_with fail
      go_roundw
      case rel => exact ⟨1, rfl, .inr (⟨rfl, g, by rw [rowAt_old _ _ _ (by rw [setCell_size, putRow_size]; omega), rowAt_setCell _ _ _ _ _ (by omega), rowAt_putOther _ _ _ _ _ (by omega)]; exact r3p, by rw [rowAt_old _ _ _ (by rw [setCell_size, putRow_size]; omega), rowAt_setCell _ _ _ _ _ (by omega), rowAt_put _ _ _ _ c3x], by rw [rowAt_old _ _ _ (by rw [setCell_size, putRow_size]; omega)]; exact row_put3 r3t (by omega), HQ3.out.put3 (by omega) (by omega) _ _ _ _ _⟩), by rw [heap_alloc_size', setCell_size, putRow_size]; omega, (((below_putRow HB3.out _ _ _ (by omega)).setCell (p := ⟨w.heap.size + 1 + 1, 1, none⟩) (show w.heap.size ≤ w.heap.size + 1 + 1 by omega) _).alloc (by rw [setCell_size, putRow_size]; omega) _)⟩
      case measure => simp [intOf]
    · have lx := lt_of_some rx
      have ct := cells2 rt
      go_wp2_with fail
      refine (begin_no p1 false H1.out _).mono ?_
      rintro e w3 ⟨rfl, hb3⟩
      have HB3 := hid (below_step HBR.out (by omega) hb3)
      have hs3 : w.heap.size ≤ w3.heap.size := HB3.out.size
      clear rp rx rt lx ct hb3
      go_wp2_with fail
      refine (awake17 _).mono ?_
      rintro e w7 ⟨rfl, hb7⟩
      have HB7 := hid (below_step (HB3.out.alloc hs3 (.cells (exA zeroT zeroW) 60)) (by first | omega | (simp <;> omega)) hb7)
      go_wp2_with fail
      go_ret
      exact ⟨rfl, HB7.out⟩
end Go.Proofs.Ytjghmgpmaallfaa
