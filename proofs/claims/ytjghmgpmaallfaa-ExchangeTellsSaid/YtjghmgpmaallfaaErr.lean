/-
  linnetref17.Begin.
-/
import Derived.Test.YtjghmgpmaallfaaErq
import Derived.Test.YtjghmgpmaallfaaEbg
import Derived.BigRegion
import Derived.Deep.RegionHeld3
namespace Go.Proofs.Ytjghmgpmaallfaa
open Go.RowKit
set_option linter.unusedVariables false
set_option linter.unusedSimpArgs false

set_option maxHeartbeats 2000000 in
set_option maxRecDepth 100000 in
theorem rbegin_c (p : Tb) (HP : Hid (tabOk p)) (w : World) :
    Calls Try.prog 39 #[.agg (tabA p), .bool false] w fun e w' => e = .returned (.tuple #[.agg (exA p zeroW), .slice none 0 0]) ∧ Below w.heap.size w w' := by
  go_enter Try.func39, Try.ntmps39
  go_wp2_with fail
  refine (refFirst9 HP.out _).mono ?_
  rintro e w1 ⟨rfl, hb1⟩
  have HB1 := hid (below_step (((Below.refl w.heap.size w).alloc (by first | omega | (simp [putRow_size, drewN_heap, drew_heap] <;> omega)) _).alloc (by first | omega | (simp [putRow_size, drewN_heap, drew_heap] <;> omega)) _) (by first | omega | (simp [putRow_size, drewN_heap, drew_heap] <;> omega)) hb1)
  have hs1 : w.heap.size ≤ w1.heap.size := HB1.out.size
  have r1_0 : rowAt w1 (w.heap.size) = some (.cells (tabA p) 25 (0, 0)) := rowNext' hb1 (by rw [rowAt_old _ _ _ (by first | omega | (simp [putRow_size, drewN_heap, drew_heap] <;> omega)), rowAt_new _ _ _ (by first | omega | (simp [putRow_size, drewN_heap, drew_heap] <;> omega))])
  have c1_0 := lt_of_some r1_0
  have r1_1 : rowAt w1 (w.heap.size + 1) = some (.cells (exA zeroT zeroW) 60 (0, 0)) := rowNext' hb1 (by rw [rowAt_new _ _ _ (by first | omega | (simp [putRow_size, drewN_heap, drew_heap] <;> omega))])
  have c1_1 := lt_of_some r1_1
  go_wp2_with (refine wpList_build_known rfl 60 #[(0, .tmp 9)] rfl #[(0, .agg (tabA p))] (by simp [Act.eval]) (.agg (exA p zeroW)) (buildExT p _) ?_)
  exact bodyPost_ret (v := .tuple #[.agg (exA p zeroW), .slice none 0 0]) (results_row_tmp Try.results39 _ _ (w.heap.size + 1) 60 (exA p zeroW) (0, 0) _ rfl (by show rowAt _ _ = _; rw [rowAt_old _ _ _ (by first | omega | (simp [putRow_size, drewN_heap, drew_heap] <;> omega)), rowAt_put _ _ _ _ (by first | omega | (simp [putRow_size, drewN_heap, drew_heap] <;> omega))]) Try.underlying60 rfl (by rw [exA_size]; exact sizeExch) (.slice none 0 0) rfl) rfl ⟨rfl, ((below_putRow HB1.out _ _ _ (by first | omega | (simp [putRow_size, drewN_heap, drew_heap] <;> omega))).alloc (by first | omega | (simp [putRow_size, drewN_heap, drew_heap] <;> omega)) _)⟩

theorem tris_ne {w : World} {g b : Nat} {p : Tb} {ty : TypeId} (h : Tris w g p) (hr : rowAt w b = some (.cells (exA zeroT zeroW) ty (0, 0))) : b ≠ g := by
  rintro rfl
  have h1 := h 0 0 (.int .i64 1) (by omega) (by rfl)
  have h2 := cell_of_row w b (0 * 2) _ _ _ hr
  rw [exA_cell0 zeroT zeroW 0 (by omega)] at h2
  have h3 := h1.symm.trans h2
  simp [zeroT] at h3
theorem range_exT' {w : World} {g : Nat} {t : Tb} {m : Wt} {ty : TypeId} {U : List Value} (h : rowAt w g = some (.cells (exA t m) ty (0, 0))) (hU : tabA t = U.toArray) : w.rangeAt g 0 U := by
  intro j x hx
  have hj : j < 62 := by
    have := len_of_tab hU
    rcases Nat.lt_or_ge j U.length with h | h
    · omega
    · rw [List.getElem?_eq_none h] at hx; cases hx
  rw [cell_of_row w g (0 + j) _ ty (0, 0) h, Nat.zero_add]
  unfold exA
  rw [Array.getElem?_append_left (by rw [tabA_size]; exact hj), hU]
  simpa using hx
set_option maxHeartbeats 2000000 in
set_option maxRecDepth 100000 in
theorem rbegin_s (p : Tb) (HP : Hid (tabOk p)) (w : World) :
    Calls Try.prog 39 #[.agg (tabA p), .bool true] w fun e w' => ∃ g c, e = .returned (.tuple #[.agg (exA p (onesTo 31)), .slice (some ⟨g, 0, none⟩) 30 c]) ∧ Tris w' g p ∧ Below w.heap.size w w' := by
  go_enter Try.func39, Try.ntmps39
  go_wp2_with fail
  refine (refFirst9 HP.out _).mono ?_
  rintro e w1 ⟨rfl, hb1⟩
  have HB1 := hid (below_step (((Below.refl w.heap.size w).alloc (by first | omega | (simp [putRow_size, drewN_heap, drew_heap] <;> omega)) _).alloc (by first | omega | (simp [putRow_size, drewN_heap, drew_heap] <;> omega)) _) (by first | omega | (simp [putRow_size, drewN_heap, drew_heap] <;> omega)) hb1)
  have hs1 : w.heap.size ≤ w1.heap.size := HB1.out.size
  have r1_0 : rowAt w1 (w.heap.size) = some (.cells (tabA p) 25 (0, 0)) := rowNext' hb1 (by rw [rowAt_old _ _ _ (by first | omega | (simp [putRow_size, drewN_heap, drew_heap] <;> omega)), rowAt_new _ _ _ (by first | omega | (simp [putRow_size, drewN_heap, drew_heap] <;> omega))])
  have c1_0 := lt_of_some r1_0
  have r1_1 : rowAt w1 (w.heap.size + 1) = some (.cells (exA zeroT zeroW) 60 (0, 0)) := rowNext' hb1 (by rw [rowAt_new _ _ _ (by first | omega | (simp [putRow_size, drewN_heap, drew_heap] <;> omega))])
  have c1_1 := lt_of_some r1_1
  go_wp2_with (refine wpList_build_known rfl 60 #[(0, .tmp 9)] rfl #[(0, .agg (tabA p))] (by simp [Act.eval]) (.agg (exA p zeroW)) (buildExT p _) ?_)
  have R4 : Hid (rowAt (w1.alloc (.cells (exA p zeroW) 60)) (w.heap.size + 1) = some (.cells (exA zeroT zeroW) 60 (0, 0))) := hid (by rw [rowAt_old _ _ _ (by omega)]; exact r1_1)
  have R6 : Hid (rowAt (w1.alloc (.cells (exA p zeroW) 60)) (w1.heap.size) = some (.cells (exA p (onesTo 1)) 60 (0, 0))) := hid (by rw [onesTo_one]; exact rowAt_new _ _ _ rfl)
  have HBA := hid (HB1.out.alloc hs1 (.cells (exA p zeroW) 60))
  have hne : w1.heap.size ≠ w.heap.size + 1 := by omega
  have hse : w.heap.size + 1 < w1.heap.size := by omega
  generalize (w1.alloc (.cells (exA p zeroW) 60)) = wA at *
  clear r1_1 c1_1 hb1
  go_loopw [7] (fun i' wr => ∃ k : Nat, 1 ≤ k ∧ k ≤ 31 ∧ i' = .int .i64 k ∧ rowAt wr (w.heap.size + 1) = some (.cells (exA zeroT zeroW) 60 (0, 0)) ∧ rowAt wr (w1.heap.size) = some (.cells (exA p (onesTo k)) 60 (0, 0)) ∧ Below w.heap.size w wr) (fun i' _ => 31 - (intOf i').toNat)
  case atStart => exact ⟨1, by omega, by omega, rfl, R4.out, R6.out, HBA.out⟩
  case round =>
    obtain ⟨k, hk1, hk, rfl, r4, r9, hbr⟩ := hrel
    have HBR := hid hbr
    have hsr := hbr.size
    have c4 := lt_of_some r4
    have c9 := lt_of_some r9
    clear hbr R4 R6 HBA
    by_cases hlt : k < 31
    · have k9 := cell_of_row _ _ (62 + k) _ _ _ r9
      rw [exA_wait _ _ k hlt] at k9
      have f9 := frozenRow r9
      have hn0 : (0 : Int) ≤ (k : Int) := by omega
      have hn31 : (k : Int) < 31 := by omega
      have q9 : rowAt (wr.setCell ⟨w1.heap.size, 62 + k, none⟩ (.int .i64 1)) (w1.heap.size) = some (.cells (exA p (onesTo (k + 1))) 60 (0, 0)) := by rw [← onesTo_succ k hk1, ← exA_updW p (onesTo k) k 1 hlt]; exact setCell_rowSame r9 _ _
      have q4 : rowAt (wr.setCell ⟨w1.heap.size, 62 + k, none⟩ (.int .i64 1)) (w.heap.size + 1) = some (.cells (exA zeroT zeroW) 60 (0, 0)) := setCell_rowOther r4 (b := w1.heap.size) (62 + k) (.int .i64 1) (Ne.symm hne)
      have HQ4 := hid q4
      have HQ9 := hid q9
      have HBS := hid (HBR.out.setCell (p := ⟨w1.heap.size, 62 + k, none⟩) (show w.heap.size ≤ w1.heap.size by omega) (.int .i64 1))
      clear q9 q4
      go_wp2_with fail
      go_roundw
      case rel => exact ⟨k + 1, by omega, by omega, by go_num, HQ4.out, HQ9.out, HBS.out⟩
      case measure => simp [intOf]; omega
    · obtain rfl : k = 31 := by omega
      go_upto_region 8 with fail
      obtain ⟨U, hU⟩ : ∃ U : List Value, tabA p = U.toArray := ⟨rows2 31 p, rfl⟩
      have hu39 := Try.underlying39
      have hiU : (Try.prog.info? 39).map (·.size) = some U.length := by rw [sizeTable, len_of_tab hU]
      have HC : ∀ W, Calls Try.prog 30 #[.agg U.toArray] W fun e w' => ∃ g c, e = .returned (.slice (some ⟨g, 0, none⟩) 30 c) ∧ Tris w' g p ∧ Below W.heap.size W w' := by
        intro W; rw [← hU]; exact refWhole9 p W
      have HC := hid HC
      have q0 : ∀ W : World, rowAt W (w1.heap.size) = some (.cells (exA p (onesTo 31)) 60 (0, 0)) → rowAt W (w1.heap.size) = some (.cells (exA p (onesTo 31)) 60 (0, 0)) ∧ W.rangeAt (w1.heap.size) 0 U := by
        intro W h0
        exact ⟨h0, range_exT' h0 hU⟩
      have HQQ := hid q0
      have HR0 := hid r9
      have HR3 := hid r4
      clear q0 hU r9 r4 c9
      go_region_held3 (fun w' => rowAt w' (w1.heap.size) = some (.cells (exA p (onesTo 31)) 60 (0, 0)) ∧ w'.rangeAt (w1.heap.size) 0 U)
        (exact HQQ.out _ (by repeat (first | exact HR0.out | exact X0.out | rw [rowAt_drew] | rw [rowAt_putOther _ _ _ _ _ (by omega)] | rw [rowAt_old _ _ _ (by first | omega | (simp [putRow_size, drew_heap] <;> omega))])))
        (first | (go_at_call 30; (with_reducible refine (HC.out _).mono ?_); rintro e w9 ⟨g, c, rfl, ht, hb9⟩; have x0 := rowNext' hb9 (show rowAt _ (w1.heap.size) = some (.cells (exA p (onesTo 31)) 60 (0, 0)) from (by repeat (first | exact HR0.out | rw [rowAt_drew] | rw [rowAt_putOther _ _ _ _ _ (by omega)] | rw [rowAt_old _ _ _ (by first | omega | (simp [putRow_size, drew_heap] <;> omega))]))); have hB9 := hid (below_step (show Below w.heap.size w _ from by first | exact HBR.out.drew | exact (below_putRow HBR.out _ _ _ (by omega)).drew | exact below_putRow HBR.out.drew _ _ _ (by omega)) (by first | omega | (simp [putRow_size, drew_heap] <;> omega)) hb9); have hT := hid ht; have X0 := hid x0; (first | (have r9 : rowAt w9 (w.heap.size + 1) = some (.cells (exA zeroT zeroW) 60 (0, 0)) := rowNext' hb9 (by first | exact HR3.out | (rw [rowAt_drew]; exact HR3.out)); have hgne := hid (tris_ne hT.out r9)) | (have r9 : rowAt w9 (w.heap.size + 1) = some (.cells (exA p (onesTo 31)) 60 (0, 0)) := rowNext' hb9 (by first | exact rowAt_put _ _ _ _ c4 | (rw [rowAt_drew]; exact rowAt_put _ _ _ _ c4)))); have l9 := lt_of_some r9; clear hb9 x0 ht))
      all_goals go_wp2_with fail
      all_goals exact bodyPost_ret (v := .tuple #[.agg (exA p (onesTo 31)), .slice (some ⟨g, 0, none⟩) 30 c]) (results_row_tmp Try.results39 _ _ (w.heap.size + 1) 60 (exA p (onesTo 31)) (0, 0) _ rfl (rowAt_put _ _ _ _ l9) Try.underlying60 rfl (by rw [exA_size]; exact sizeExch) (.slice (some ⟨g, 0, none⟩) 30 c) rfl) rfl ⟨g, c, rfl, Tris.put hT.out hgne.out, below_putRow hB9.out _ _ _ (by omega)⟩

end Go.Proofs.Ytjghmgpmaallfaa
