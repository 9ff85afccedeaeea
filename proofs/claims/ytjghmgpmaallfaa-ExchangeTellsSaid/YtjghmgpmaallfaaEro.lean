/-
  linnetref17.Ask, Got: what they take.
-/
import Derived.Test.YtjghmgpmaallfaaErn
import Derived.BigRegion
import Derived.Deep.RegionHeld3
namespace Go.Proofs.Ytjghmgpmaallfaa
open Go.RowKit
set_option linter.unusedVariables false
set_option linter.unusedSimpArgs false

theorem upd_twice (t : Tb) (n : Nat) (c d : Int × Int) : upd (upd t n c) n d = upd t n d := by funext i; unfold upd; split <;> rfl
set_option maxHeartbeats 2000000 in
set_option maxRecDepth 100000 in
theorem rask_ok (t : Tb) (m : Wt) (n : Nat) (h1 : 1 ≤ n) (h2 : n < 31) (l v : Int) (i o : Bool) (c : Int) (hc0 : 0 ≤ c) (hc1 : c < 65536) (HX : Hid (MayIs t m true)) (HT : Hid (decide (trOk n l) = true)) (HM : Hid (m n = c)) (w : World) :
    Calls Try.prog 37 #[.agg (exA t m), .agg #[.int .i64 n, .int .i64 l, .bool false, .bool i, .bool o, .int .u8 v]] w fun e w' => ∃ g, e = .returned (.tuple #[.agg (exA t (updW m n (c + 1))), .slice (some ⟨g, 0, none⟩) 1 1, .int .i64 0]) ∧ rowAt w' g = some (.cells #[.int .i64 n, .int .i64 l, .bool false, .bool i, .bool o, .int .u8 v] 27 (0, 0)) ∧ w.heap.size ≤ g ∧ Below w.heap.size w w' := by
  have d1 : decide ((n : Int) < 1) = false := by simp; omega
  have d2 : decide ((30 : Int) < (n : Int)) = false := by simp; omega
  have d3 : decide ((1 : Int) ≤ (n : Int)) = true := by simp; omega
  have d4 : decide ((n : Int) ≤ 30) = true := by simp; omega
  have hn0 : (0 : Int) ≤ (n : Int) := by omega
  have hn31 : (n : Int) < 31 := by omega
  go_enter Try.func37, Try.ntmps37
  go_wp2_with fail
  refine (refMay17_is HX.out _).mono ?_
  rintro e w1 ⟨rfl, hb1⟩
  have HB1 := hid (below_step ((((Below.refl w.heap.size w).alloc (by first | omega | (simp [putRow_size, drewN_heap, drew_heap] <;> omega)) _).alloc (by first | omega | (simp [putRow_size, drewN_heap, drew_heap] <;> omega)) _).alloc (by first | omega | (simp [putRow_size, drewN_heap, drew_heap] <;> omega)) _) (by first | omega | (simp [putRow_size, drewN_heap, drew_heap] <;> omega)) hb1)
  have hs1 : w.heap.size ≤ w1.heap.size := HB1.out.size
  have r1_0 : rowAt w1 (w.heap.size) = some (.cells (exA t m) 60 (0, 0)) := rowNext' hb1 (by rw [rowAt_old _ _ _ (by first | omega | (simp [putRow_size, drewN_heap, drew_heap] <;> omega)), rowAt_old _ _ _ (by first | omega | (simp [putRow_size, drewN_heap, drew_heap] <;> omega)), rowAt_new _ _ _ (by first | omega | (simp [putRow_size, drewN_heap, drew_heap] <;> omega))])
  have c1_0 := lt_of_some r1_0
  have r1_1 : rowAt w1 (w.heap.size + 1) = some (.cells #[.int .i64 n, .int .i64 l, .bool false, .bool i, .bool o, .int .u8 v] 27 (0, 0)) := rowNext' hb1 (by rw [rowAt_old _ _ _ (by first | omega | (simp [putRow_size, drewN_heap, drew_heap] <;> omega)), rowAt_new _ _ _ (by first | omega | (simp [putRow_size, drewN_heap, drew_heap] <;> omega))])
  have c1_1 := cells6 r1_1
  have r1_2 : rowAt w1 (w.heap.size + 1 + 1) = some (.cells (exA zeroT zeroW) 60 (0, 0)) := rowNext' hb1 (by rw [rowAt_new _ _ _ (by first | omega | (simp [putRow_size, drewN_heap, drew_heap] <;> omega))])
  have c1_2 := lt_of_some r1_2
  go_wp2_with fail
  refine (refMay7_eq HT.out false i o v _).mono ?_
  rintro e w2 ⟨rfl, hb2⟩
  have HB2 := hid (below_step HB1.out (by first | omega | (simp [putRow_size, drewN_heap, drew_heap] <;> omega)) hb2)
  have hs2 : w.heap.size ≤ w2.heap.size := HB2.out.size
  have r2_0 : rowAt w2 (w.heap.size) = some (.cells (exA t m) 60 (0, 0)) := rowNext' hb2 r1_0
  have c2_0 := lt_of_some r2_0
  have r2_1 : rowAt w2 (w.heap.size + 1) = some (.cells #[.int .i64 n, .int .i64 l, .bool false, .bool i, .bool o, .int .u8 v] 27 (0, 0)) := rowNext' hb2 r1_1
  have c2_1 := cells6 r2_1
  have r2_2 : rowAt w2 (w.heap.size + 1 + 1) = some (.cells (exA zeroT zeroW) 60 (0, 0)) := rowNext' hb2 r1_2
  have c2_2 := lt_of_some r2_2
  clear r1_0 c1_0 r1_1 c1_1 r1_2 c1_2 hb1 HB1 hs1
  have k0 : w2.cell? ⟨w.heap.size, 62 + n, none⟩ = some (.int .i64 c) := by rw [cell_of_row w2 _ _ _ _ _ r2_0, exA_wait t m n h2, HM.out]
  have f0 := frozenRow r2_0
  have hcz : (c == 65536) = false := by simp; omega
  have q0 : rowAt (w2.setCell ⟨w.heap.size, 62 + n, none⟩ (.int .i64 (c + 1))) w.heap.size = some (.cells (exA t (updW m n (c + 1))) 60 (0, 0)) := by rw [← exA_updW t m n (c + 1) h2]; exact setCell_rowSame r2_0 _ _
  have q1 := setCell_rowOther r2_1 (b := w.heap.size) (62 + n) (.int .i64 (c + 1)) (by omega)
  have q2 := setCell_rowOther r2_2 (b := w.heap.size) (62 + n) (.int .i64 (c + 1)) (by omega)
  have HQ0 := hid q0
  have HQ1 := hid q1
  have HQ2 := hid q2
  have HBS := hid (HB2.out.setCell (p := ⟨w.heap.size, 62 + n, none⟩) (Nat.le_refl _) (.int .i64 (c + 1)))
  clear q0 q1 q2
  go_upto_region 6 with (fail)
  generalize w2.setCell ⟨w.heap.size, 62 + n, none⟩ (.int .i64 (c + 1)) = wz at *
  clear k0 f0 r2_0 r2_1 r2_2 c2_0 c2_1 c2_2 hb2 HB2 hs2
  have q0 := HQ0.out
  have q1 : rowAt wz (w.heap.size + 1) = some (.cells #[.int .i64 n, .int .i64 l, .bool false, .bool i, .bool o, .int .u8 v] 27 (0, 0)) := HQ1.out
  have q2 : rowAt wz (w.heap.size + 1 + 1) = some (.cells (exA zeroT zeroW) 60 (0, 0)) := HQ2.out
  have l0 := lt_of_some q0
  have l2 := lt_of_some q2
  have l1 := cells6 q1
  have hsz : w.heap.size ≤ wz.heap.size := HBS.out.size
  go_region
  go_wp2_with fail
  exact bodyPost_ret (v := .tuple #[.agg (exA t (updW m n (c + 1))), .slice (some ⟨wz.heap.size, 0, none⟩) 1 1, .int .i64 0]) (results_row_tmp2 Try.results37 _ _ (w.heap.size + 1 + 1) 60 (exA t (updW m n (c + 1))) (0, 0) _ rfl (by show rowAt _ _ = _; rw [rowAt_drew, rowAt_old _ _ _ (by first | omega | (simp [putRow_size, drewN_heap, drew_heap] <;> omega)), rowAt_put _ _ _ _ (by first | omega | (simp [putRow_size, drewN_heap, drew_heap] <;> omega))]) Try.underlying60 rfl (by rw [exA_size]; exact sizeExch) (.slice (some ⟨wz.heap.size, 0, none⟩) 1 1) (.int .i64 0) rfl rfl) rfl ⟨_, rfl, (by rw [rowAt_drew, rowAt_new _ _ _ (by first | omega | (simp [putRow_size, drewN_heap, drew_heap] <;> omega))]), hsz, ((below_putRow HBS.out _ _ _ (by first | omega | (simp [putRow_size, drewN_heap, drew_heap] <;> omega))).alloc (by first | omega | (simp [putRow_size, drewN_heap, drew_heap] <;> omega)) _).drew⟩

set_option maxHeartbeats 2000000 in
set_option maxRecDepth 100000 in
theorem rgot_ack0 (t : Tb) (m : Wt) (p : Tb) (b : Bool) (n : Nat) (h1 : 1 ≤ n) (h2 : n < 31) (v : Int) (i o : Bool) (c : Int) (hc0 : 1 ≤ c) (hc1 : c ≤ 65536) (HX : Hid (MayIs t m true)) (HP : Hid (decide (tabOk p) = true)) (HT : Hid (decide (trOk n 0) = true)) (HM : Hid (m n = c)) (w : World) :
    Calls Try.prog 38 #[.agg (exA t m), .agg (tabA p), .bool b, .agg #[.int .i64 n, .int .i64 0, .bool true, .bool i, .bool o, .int .u8 v]] w fun e w' => e = .returned (.tuple #[.agg (exA (upd t n (0, 0)) (updW m n (c - 1))), .slice none 0 0, .int .i64 0]) ∧ Below w.heap.size w w' := by
  have d1 : decide ((n : Int) < 1) = false := by simp; omega
  have d2 : decide ((30 : Int) < (n : Int)) = false := by simp; omega
  have d3 : decide ((1 : Int) ≤ (n : Int)) = true := by simp; omega
  have d4 : decide ((n : Int) ≤ 30) = true := by simp; omega
  have hn0 : (0 : Int) ≤ (n : Int) := by omega
  have hn31 : (n : Int) < 31 := by omega
  go_enter Try.func38, Try.ntmps38
  go_wp2_with fail
  refine (refMay17_is HX.out _).mono ?_
  rintro e w1 ⟨rfl, hb1⟩
  have HB1 := hid (below_step (((((Below.refl w.heap.size w).alloc (by first | omega | (simp [putRow_size, drewN_heap, drew_heap] <;> omega)) _).alloc (by first | omega | (simp [putRow_size, drewN_heap, drew_heap] <;> omega)) _).alloc (by first | omega | (simp [putRow_size, drewN_heap, drew_heap] <;> omega)) _).alloc (by first | omega | (simp [putRow_size, drewN_heap, drew_heap] <;> omega)) _) (by first | omega | (simp [putRow_size, drewN_heap, drew_heap] <;> omega)) hb1)
  have hs1 : w.heap.size ≤ w1.heap.size := HB1.out.size
  have r1_0 : rowAt w1 (w.heap.size) = some (.cells (exA t m) 60 (0, 0)) := rowNext' hb1 (by rw [rowAt_old _ _ _ (by first | omega | (simp [putRow_size, drewN_heap, drew_heap] <;> omega)), rowAt_old _ _ _ (by first | omega | (simp [putRow_size, drewN_heap, drew_heap] <;> omega)), rowAt_old _ _ _ (by first | omega | (simp [putRow_size, drewN_heap, drew_heap] <;> omega)), rowAt_new _ _ _ (by first | omega | (simp [putRow_size, drewN_heap, drew_heap] <;> omega))])
  have c1_0 := lt_of_some r1_0
  have r1_1 : rowAt w1 (w.heap.size + 1) = some (.cells (tabA p) 25 (0, 0)) := rowNext' hb1 (by rw [rowAt_old _ _ _ (by first | omega | (simp [putRow_size, drewN_heap, drew_heap] <;> omega)), rowAt_old _ _ _ (by first | omega | (simp [putRow_size, drewN_heap, drew_heap] <;> omega)), rowAt_new _ _ _ (by first | omega | (simp [putRow_size, drewN_heap, drew_heap] <;> omega))])
  have c1_1 := lt_of_some r1_1
  have r1_2 : rowAt w1 (w.heap.size + 1 + 1) = some (.cells #[.int .i64 n, .int .i64 0, .bool true, .bool i, .bool o, .int .u8 v] 27 (0, 0)) := rowNext' hb1 (by rw [rowAt_old _ _ _ (by first | omega | (simp [putRow_size, drewN_heap, drew_heap] <;> omega)), rowAt_new _ _ _ (by first | omega | (simp [putRow_size, drewN_heap, drew_heap] <;> omega))])
  have c1_2 := cells6 r1_2
  have r1_3 : rowAt w1 (w.heap.size + 1 + 1 + 1) = some (.cells (exA zeroT zeroW) 60 (0, 0)) := rowNext' hb1 (by rw [rowAt_new _ _ _ (by first | omega | (simp [putRow_size, drewN_heap, drew_heap] <;> omega))])
  have c1_3 := lt_of_some r1_3
  go_wp2_with fail
  refine (refMay9_eq HP.out _).mono ?_
  rintro e w2 ⟨rfl, hb2⟩
  have HB2 := hid (below_step HB1.out (by first | omega | (simp [putRow_size, drewN_heap, drew_heap] <;> omega)) hb2)
  have hs2 : w.heap.size ≤ w2.heap.size := HB2.out.size
  have r2_0 : rowAt w2 (w.heap.size) = some (.cells (exA t m) 60 (0, 0)) := rowNext' hb2 r1_0
  have c2_0 := lt_of_some r2_0
  have r2_1 : rowAt w2 (w.heap.size + 1) = some (.cells (tabA p) 25 (0, 0)) := rowNext' hb2 r1_1
  have c2_1 := lt_of_some r2_1
  have r2_2 : rowAt w2 (w.heap.size + 1 + 1) = some (.cells #[.int .i64 n, .int .i64 0, .bool true, .bool i, .bool o, .int .u8 v] 27 (0, 0)) := rowNext' hb2 r1_2
  have c2_2 := cells6 r2_2
  have r2_3 : rowAt w2 (w.heap.size + 1 + 1 + 1) = some (.cells (exA zeroT zeroW) 60 (0, 0)) := rowNext' hb2 r1_3
  have c2_3 := lt_of_some r2_3
  clear r1_0 c1_0 r1_1 c1_1 r1_2 c1_2 r1_3 c1_3 hb1 HB1 hs1
  go_wp2_with fail
  refine (refMay7_eq HT.out true i o v _).mono ?_
  rintro e w3 ⟨rfl, hb3⟩
  have HB3 := hid (below_step HB2.out (by first | omega | (simp [putRow_size, drewN_heap, drew_heap] <;> omega)) hb3)
  have hs3 : w.heap.size ≤ w3.heap.size := HB3.out.size
  have r3_0 : rowAt w3 (w.heap.size) = some (.cells (exA t m) 60 (0, 0)) := rowNext' hb3 r2_0
  have c3_0 := lt_of_some r3_0
  have r3_1 : rowAt w3 (w.heap.size + 1) = some (.cells (tabA p) 25 (0, 0)) := rowNext' hb3 r2_1
  have c3_1 := lt_of_some r3_1
  have r3_2 : rowAt w3 (w.heap.size + 1 + 1) = some (.cells #[.int .i64 n, .int .i64 0, .bool true, .bool i, .bool o, .int .u8 v] 27 (0, 0)) := rowNext' hb3 r2_2
  have c3_2 := cells6 r3_2
  have r3_3 : rowAt w3 (w.heap.size + 1 + 1 + 1) = some (.cells (exA zeroT zeroW) 60 (0, 0)) := rowNext' hb3 r2_3
  have c3_3 := lt_of_some r3_3
  clear r2_0 c2_0 r2_1 c2_1 r2_2 c2_2 r2_3 c2_3 hb2 HB2 hs2
  have hne3 : w.heap.size + 1 + 1 + 1 ≠ w.heap.size := by omega
  have k0 : w3.cell? ⟨w.heap.size, 62 + n, none⟩ = some (.int .i64 c) := by rw [cell_of_row w3 _ _ _ _ _ r3_0, exA_wait t m n h2, HM.out]
  have k1 := cell_of_row _ _ (n * 2) _ _ _ r3_0
  have k2 := cell_of_row _ _ (n * 2 + 1) _ _ _ r3_0
  rw [exA_cell0 t m n h2] at k1
  rw [exA_cell1 t m n h2] at k2
  have f0 := frozenRow r3_0
  have hcz : (c == 0) = false := by simp; omega
  have e1 : n * 2 ≠ 62 + n := by omega
  have e2 : n * 2 + 1 ≠ 62 + n := by omega
  have e3 : 62 + n ≠ n * 2 := by omega
  have e4 : 62 + n ≠ n * 2 + 1 := by omega
  have q0 : rowAt (((((w3.setCell ⟨w.heap.size, 62 + n, none⟩ (.int .i64 (c - 1))).setCell ⟨w.heap.size, n * 2, none⟩ (.int .i64 0)).setCell ⟨w.heap.size, n * 2 + 1, none⟩ (.int .u8 v)).setCell ⟨w.heap.size, n * 2, none⟩ (.int .i64 0)).setCell ⟨w.heap.size, n * 2 + 1, none⟩ (.int .u8 0)) w.heap.size = some (.cells (exA (upd t n (0, 0)) (updW m n (c - 1))) 60 (0, 0)) := by
    rw [← upd_twice t n (0, v) (0, 0), ← exA_upd (upd t n (0, v)) (updW m n (c - 1)) n (0, 0) h2]; exact setCell_rowSame (setCell_rowSame (show rowAt (((w3.setCell ⟨w.heap.size, 62 + n, none⟩ (.int .i64 (c - 1))).setCell ⟨w.heap.size, n * 2, none⟩ (.int .i64 0)).setCell ⟨w.heap.size, n * 2 + 1, none⟩ (.int .u8 v)) w.heap.size = some (.cells (exA (upd t n (0, v)) (updW m n (c - 1))) 60 (0, 0)) by rw [← exA_upd t (updW m n (c - 1)) n (0, v) h2]; exact setCell_rowSame (setCell_rowSame (show rowAt (w3.setCell ⟨w.heap.size, 62 + n, none⟩ (.int .i64 (c - 1))) w.heap.size = some (.cells (exA t (updW m n (c - 1))) 60 (0, 0)) by rw [← exA_updW t m n (c - 1) h2]; exact setCell_rowSame r3_0 _ _) _ _) _ _) _ _) _ _
  have q3 : rowAt (((((w3.setCell ⟨w.heap.size, 62 + n, none⟩ (.int .i64 (c - 1))).setCell ⟨w.heap.size, n * 2, none⟩ (.int .i64 0)).setCell ⟨w.heap.size, n * 2 + 1, none⟩ (.int .u8 v)).setCell ⟨w.heap.size, n * 2, none⟩ (.int .i64 0)).setCell ⟨w.heap.size, n * 2 + 1, none⟩ (.int .u8 0)) (w.heap.size + 1 + 1 + 1) = some (.cells (exA zeroT zeroW) 60 (0, 0)) := setCell_rowOther (setCell_rowOther (setCell_rowOther (setCell_rowOther (setCell_rowOther r3_3 (b := w.heap.size) _ _ hne3) (b := w.heap.size) _ _ hne3) (b := w.heap.size) _ _ hne3) (b := w.heap.size) _ _ hne3) (b := w.heap.size) _ _ hne3
  have HBS : Hid (Below w.heap.size w (((((w3.setCell ⟨w.heap.size, 62 + n, none⟩ (.int .i64 (c - 1))).setCell ⟨w.heap.size, n * 2, none⟩ (.int .i64 0)).setCell ⟨w.heap.size, n * 2 + 1, none⟩ (.int .u8 v)).setCell ⟨w.heap.size, n * 2, none⟩ (.int .i64 0)).setCell ⟨w.heap.size, n * 2 + 1, none⟩ (.int .u8 0))) := hid (((((HB3.out.setCell (p := ⟨w.heap.size, 62 + n, none⟩) (Nat.le_refl _) _).setCell (p := ⟨w.heap.size, n * 2, none⟩) (Nat.le_refl _) _).setCell (p := ⟨w.heap.size, n * 2 + 1, none⟩) (Nat.le_refl _) _).setCell (p := ⟨w.heap.size, n * 2, none⟩) (Nat.le_refl _) _).setCell (p := ⟨w.heap.size, n * 2 + 1, none⟩) (Nat.le_refl _) _)
  have HQ0 := hid q0
  have HQ3 := hid q3
  clear q0 q3
  go_upto_region 13 with (fail)
  generalize (((((w3.setCell ⟨w.heap.size, 62 + n, none⟩ (.int .i64 (c - 1))).setCell ⟨w.heap.size, n * 2, none⟩ (.int .i64 0)).setCell ⟨w.heap.size, n * 2 + 1, none⟩ (.int .u8 v)).setCell ⟨w.heap.size, n * 2, none⟩ (.int .i64 0)).setCell ⟨w.heap.size, n * 2 + 1, none⟩ (.int .u8 0)) = wz at *
  clear k0 k1 k2 f0 r3_0 r3_1 r3_2 r3_3 c3_0 c3_1 c3_2 c3_3 hb3 HB3 hs3
  have q0 := HQ0.out
  have q3 := HQ3.out
  have l0 := lt_of_some q0
  have l3 := lt_of_some q3
  go_wp2_with fail
  exact bodyPost_ret (v := .tuple #[.agg (exA (upd t n (0, 0)) (updW m n (c - 1))), .slice none 0 0, .int .i64 0]) (results_row_tmp2 Try.results38 _ _ (w.heap.size + 1 + 1 + 1) 60 (exA (upd t n (0, 0)) (updW m n (c - 1))) (0, 0) _ rfl (rowAt_put _ _ _ _ l3) Try.underlying60 rfl (by rw [exA_size]; exact sizeExch) (.slice none 0 0) (.int .i64 0) rfl rfl) rfl ⟨rfl, below_putRow HBS.out _ _ _ (by omega)⟩

set_option maxHeartbeats 2000000 in
set_option maxRecDepth 100000 in
theorem rgot_ack3 (t : Tb) (m : Wt) (p : Tb) (b : Bool) (n : Nat) (h1 : 1 ≤ n) (h2 : n < 31) (v : Int) (i o : Bool) (c : Int) (hc0 : 1 ≤ c) (hc1 : c ≤ 65536) (HX : Hid (MayIs t m true)) (HP : Hid (decide (tabOk p) = true)) (HT : Hid (decide (trOk n 3) = true)) (HM : Hid (m n = c)) (w : World) :
    Calls Try.prog 38 #[.agg (exA t m), .agg (tabA p), .bool b, .agg #[.int .i64 n, .int .i64 3, .bool true, .bool i, .bool o, .int .u8 v]] w fun e w' => e = .returned (.tuple #[.agg (exA (upd t n (2, v)) (updW m n (c - 1))), .slice none 0 0, .int .i64 0]) ∧ Below w.heap.size w w' := by
  have d1 : decide ((n : Int) < 1) = false := by simp; omega
  have d2 : decide ((30 : Int) < (n : Int)) = false := by simp; omega
  have d3 : decide ((1 : Int) ≤ (n : Int)) = true := by simp; omega
  have d4 : decide ((n : Int) ≤ 30) = true := by simp; omega
  have hn0 : (0 : Int) ≤ (n : Int) := by omega
  have hn31 : (n : Int) < 31 := by omega
  go_enter Try.func38, Try.ntmps38
  go_wp2_with fail
  refine (refMay17_is HX.out _).mono ?_
  rintro e w1 ⟨rfl, hb1⟩
  have HB1 := hid (below_step (((((Below.refl w.heap.size w).alloc (by first | omega | (simp [putRow_size, drewN_heap, drew_heap] <;> omega)) _).alloc (by first | omega | (simp [putRow_size, drewN_heap, drew_heap] <;> omega)) _).alloc (by first | omega | (simp [putRow_size, drewN_heap, drew_heap] <;> omega)) _).alloc (by first | omega | (simp [putRow_size, drewN_heap, drew_heap] <;> omega)) _) (by first | omega | (simp [putRow_size, drewN_heap, drew_heap] <;> omega)) hb1)
  have hs1 : w.heap.size ≤ w1.heap.size := HB1.out.size
  have r1_0 : rowAt w1 (w.heap.size) = some (.cells (exA t m) 60 (0, 0)) := rowNext' hb1 (by rw [rowAt_old _ _ _ (by first | omega | (simp [putRow_size, drewN_heap, drew_heap] <;> omega)), rowAt_old _ _ _ (by first | omega | (simp [putRow_size, drewN_heap, drew_heap] <;> omega)), rowAt_old _ _ _ (by first | omega | (simp [putRow_size, drewN_heap, drew_heap] <;> omega)), rowAt_new _ _ _ (by first | omega | (simp [putRow_size, drewN_heap, drew_heap] <;> omega))])
  have c1_0 := lt_of_some r1_0
  have r1_1 : rowAt w1 (w.heap.size + 1) = some (.cells (tabA p) 25 (0, 0)) := rowNext' hb1 (by rw [rowAt_old _ _ _ (by first | omega | (simp [putRow_size, drewN_heap, drew_heap] <;> omega)), rowAt_old _ _ _ (by first | omega | (simp [putRow_size, drewN_heap, drew_heap] <;> omega)), rowAt_new _ _ _ (by first | omega | (simp [putRow_size, drewN_heap, drew_heap] <;> omega))])
  have c1_1 := lt_of_some r1_1
  have r1_2 : rowAt w1 (w.heap.size + 1 + 1) = some (.cells #[.int .i64 n, .int .i64 3, .bool true, .bool i, .bool o, .int .u8 v] 27 (0, 0)) := rowNext' hb1 (by rw [rowAt_old _ _ _ (by first | omega | (simp [putRow_size, drewN_heap, drew_heap] <;> omega)), rowAt_new _ _ _ (by first | omega | (simp [putRow_size, drewN_heap, drew_heap] <;> omega))])
  have c1_2 := cells6 r1_2
  have r1_3 : rowAt w1 (w.heap.size + 1 + 1 + 1) = some (.cells (exA zeroT zeroW) 60 (0, 0)) := rowNext' hb1 (by rw [rowAt_new _ _ _ (by first | omega | (simp [putRow_size, drewN_heap, drew_heap] <;> omega))])
  have c1_3 := lt_of_some r1_3
  go_wp2_with fail
  refine (refMay9_eq HP.out _).mono ?_
  rintro e w2 ⟨rfl, hb2⟩
  have HB2 := hid (below_step HB1.out (by first | omega | (simp [putRow_size, drewN_heap, drew_heap] <;> omega)) hb2)
  have hs2 : w.heap.size ≤ w2.heap.size := HB2.out.size
  have r2_0 : rowAt w2 (w.heap.size) = some (.cells (exA t m) 60 (0, 0)) := rowNext' hb2 r1_0
  have c2_0 := lt_of_some r2_0
  have r2_1 : rowAt w2 (w.heap.size + 1) = some (.cells (tabA p) 25 (0, 0)) := rowNext' hb2 r1_1
  have c2_1 := lt_of_some r2_1
  have r2_2 : rowAt w2 (w.heap.size + 1 + 1) = some (.cells #[.int .i64 n, .int .i64 3, .bool true, .bool i, .bool o, .int .u8 v] 27 (0, 0)) := rowNext' hb2 r1_2
  have c2_2 := cells6 r2_2
  have r2_3 : rowAt w2 (w.heap.size + 1 + 1 + 1) = some (.cells (exA zeroT zeroW) 60 (0, 0)) := rowNext' hb2 r1_3
  have c2_3 := lt_of_some r2_3
  clear r1_0 c1_0 r1_1 c1_1 r1_2 c1_2 r1_3 c1_3 hb1 HB1 hs1
  go_wp2_with fail
  refine (refMay7_eq HT.out true i o v _).mono ?_
  rintro e w3 ⟨rfl, hb3⟩
  have HB3 := hid (below_step HB2.out (by first | omega | (simp [putRow_size, drewN_heap, drew_heap] <;> omega)) hb3)
  have hs3 : w.heap.size ≤ w3.heap.size := HB3.out.size
  have r3_0 : rowAt w3 (w.heap.size) = some (.cells (exA t m) 60 (0, 0)) := rowNext' hb3 r2_0
  have c3_0 := lt_of_some r3_0
  have r3_1 : rowAt w3 (w.heap.size + 1) = some (.cells (tabA p) 25 (0, 0)) := rowNext' hb3 r2_1
  have c3_1 := lt_of_some r3_1
  have r3_2 : rowAt w3 (w.heap.size + 1 + 1) = some (.cells #[.int .i64 n, .int .i64 3, .bool true, .bool i, .bool o, .int .u8 v] 27 (0, 0)) := rowNext' hb3 r2_2
  have c3_2 := cells6 r3_2
  have r3_3 : rowAt w3 (w.heap.size + 1 + 1 + 1) = some (.cells (exA zeroT zeroW) 60 (0, 0)) := rowNext' hb3 r2_3
  have c3_3 := lt_of_some r3_3
  clear r2_0 c2_0 r2_1 c2_1 r2_2 c2_2 r2_3 c2_3 hb2 HB2 hs2
  have hne3 : w.heap.size + 1 + 1 + 1 ≠ w.heap.size := by omega
  have k0 : w3.cell? ⟨w.heap.size, 62 + n, none⟩ = some (.int .i64 c) := by rw [cell_of_row w3 _ _ _ _ _ r3_0, exA_wait t m n h2, HM.out]
  have k1 := cell_of_row _ _ (n * 2) _ _ _ r3_0
  have k2 := cell_of_row _ _ (n * 2 + 1) _ _ _ r3_0
  rw [exA_cell0 t m n h2] at k1
  rw [exA_cell1 t m n h2] at k2
  have f0 := frozenRow r3_0
  have hcz : (c == 0) = false := by simp; omega
  have e1 : n * 2 ≠ 62 + n := by omega
  have e2 : n * 2 + 1 ≠ 62 + n := by omega
  have e3 : 62 + n ≠ n * 2 := by omega
  have e4 : 62 + n ≠ n * 2 + 1 := by omega
  have q0 : rowAt (((((w3.setCell ⟨w.heap.size, 62 + n, none⟩ (.int .i64 (c - 1))).setCell ⟨w.heap.size, n * 2, none⟩ (.int .i64 3)).setCell ⟨w.heap.size, n * 2 + 1, none⟩ (.int .u8 v)).setCell ⟨w.heap.size, n * 2, none⟩ (.int .i64 2)).setCell ⟨w.heap.size, n * 2 + 1, none⟩ (.int .u8 v)) w.heap.size = some (.cells (exA (upd t n (2, v)) (updW m n (c - 1))) 60 (0, 0)) := by
    rw [← upd_twice t n (3, v) (2, v), ← exA_upd (upd t n (3, v)) (updW m n (c - 1)) n (2, v) h2]; exact setCell_rowSame (setCell_rowSame (show rowAt (((w3.setCell ⟨w.heap.size, 62 + n, none⟩ (.int .i64 (c - 1))).setCell ⟨w.heap.size, n * 2, none⟩ (.int .i64 3)).setCell ⟨w.heap.size, n * 2 + 1, none⟩ (.int .u8 v)) w.heap.size = some (.cells (exA (upd t n (3, v)) (updW m n (c - 1))) 60 (0, 0)) by rw [← exA_upd t (updW m n (c - 1)) n (3, v) h2]; exact setCell_rowSame (setCell_rowSame (show rowAt (w3.setCell ⟨w.heap.size, 62 + n, none⟩ (.int .i64 (c - 1))) w.heap.size = some (.cells (exA t (updW m n (c - 1))) 60 (0, 0)) by rw [← exA_updW t m n (c - 1) h2]; exact setCell_rowSame r3_0 _ _) _ _) _ _) _ _) _ _
  have q3 : rowAt (((((w3.setCell ⟨w.heap.size, 62 + n, none⟩ (.int .i64 (c - 1))).setCell ⟨w.heap.size, n * 2, none⟩ (.int .i64 3)).setCell ⟨w.heap.size, n * 2 + 1, none⟩ (.int .u8 v)).setCell ⟨w.heap.size, n * 2, none⟩ (.int .i64 2)).setCell ⟨w.heap.size, n * 2 + 1, none⟩ (.int .u8 v)) (w.heap.size + 1 + 1 + 1) = some (.cells (exA zeroT zeroW) 60 (0, 0)) := setCell_rowOther (setCell_rowOther (setCell_rowOther (setCell_rowOther (setCell_rowOther r3_3 (b := w.heap.size) _ _ hne3) (b := w.heap.size) _ _ hne3) (b := w.heap.size) _ _ hne3) (b := w.heap.size) _ _ hne3) (b := w.heap.size) _ _ hne3
  have HBS : Hid (Below w.heap.size w (((((w3.setCell ⟨w.heap.size, 62 + n, none⟩ (.int .i64 (c - 1))).setCell ⟨w.heap.size, n * 2, none⟩ (.int .i64 3)).setCell ⟨w.heap.size, n * 2 + 1, none⟩ (.int .u8 v)).setCell ⟨w.heap.size, n * 2, none⟩ (.int .i64 2)).setCell ⟨w.heap.size, n * 2 + 1, none⟩ (.int .u8 v))) := hid (((((HB3.out.setCell (p := ⟨w.heap.size, 62 + n, none⟩) (Nat.le_refl _) _).setCell (p := ⟨w.heap.size, n * 2, none⟩) (Nat.le_refl _) _).setCell (p := ⟨w.heap.size, n * 2 + 1, none⟩) (Nat.le_refl _) _).setCell (p := ⟨w.heap.size, n * 2, none⟩) (Nat.le_refl _) _).setCell (p := ⟨w.heap.size, n * 2 + 1, none⟩) (Nat.le_refl _) _)
  have HQ0 := hid q0
  have HQ3 := hid q3
  clear q0 q3
  go_upto_region 13 with (fail)
  generalize (((((w3.setCell ⟨w.heap.size, 62 + n, none⟩ (.int .i64 (c - 1))).setCell ⟨w.heap.size, n * 2, none⟩ (.int .i64 3)).setCell ⟨w.heap.size, n * 2 + 1, none⟩ (.int .u8 v)).setCell ⟨w.heap.size, n * 2, none⟩ (.int .i64 2)).setCell ⟨w.heap.size, n * 2 + 1, none⟩ (.int .u8 v)) = wz at *
  clear k0 k1 k2 f0 r3_0 r3_1 r3_2 r3_3 c3_0 c3_1 c3_2 c3_3 hb3 HB3 hs3
  have q0 := HQ0.out
  have q3 := HQ3.out
  have l0 := lt_of_some q0
  have l3 := lt_of_some q3
  go_wp2_with fail
  exact bodyPost_ret (v := .tuple #[.agg (exA (upd t n (2, v)) (updW m n (c - 1))), .slice none 0 0, .int .i64 0]) (results_row_tmp2 Try.results38 _ _ (w.heap.size + 1 + 1 + 1) 60 (exA (upd t n (2, v)) (updW m n (c - 1))) (0, 0) _ rfl (rowAt_put _ _ _ _ l3) Try.underlying60 rfl (by rw [exA_size]; exact sizeExch) (.slice none 0 0) (.int .i64 0) rfl rfl) rfl ⟨rfl, below_putRow HBS.out _ _ _ (by omega)⟩

set_option maxHeartbeats 2000000 in
set_option maxRecDepth 100000 in
theorem rgot_ack1 (t : Tb) (m : Wt) (p : Tb) (b : Bool) (n : Nat) (h1 : 1 ≤ n) (h2 : n < 31) (l v : Int) (i o : Bool) (c : Int) (hc0 : 1 ≤ c) (hc1 : c ≤ 65536) (hl : ¬ l = 0) (hl3 : ¬ l = 3) (HX : Hid (MayIs t m true)) (HP : Hid (decide (tabOk p) = true)) (HT : Hid (decide (trOk n l) = true)) (HM : Hid (m n = c)) (w : World) :
    Calls Try.prog 38 #[.agg (exA t m), .agg (tabA p), .bool b, .agg #[.int .i64 n, .int .i64 l, .bool true, .bool i, .bool o, .int .u8 v]] w fun e w' => e = .returned (.tuple #[.agg (exA (upd t n (l, v)) (updW m n (c - 1))), .slice none 0 0, .int .i64 0]) ∧ Below w.heap.size w w' := by
  have d1 : decide ((n : Int) < 1) = false := by simp; omega
  have d2 : decide ((30 : Int) < (n : Int)) = false := by simp; omega
  have d3 : decide ((1 : Int) ≤ (n : Int)) = true := by simp; omega
  have d4 : decide ((n : Int) ≤ 30) = true := by simp; omega
  have hn0 : (0 : Int) ≤ (n : Int) := by omega
  have hn31 : (n : Int) < 31 := by omega
  have hl0 : (l == 0) = false := by simpa using hl
  have hl3 : (l == 3) = false := by simpa using hl3
  go_enter Try.func38, Try.ntmps38
  go_wp2_with fail
  refine (refMay17_is HX.out _).mono ?_
  rintro e w1 ⟨rfl, hb1⟩
  have HB1 := hid (below_step (((((Below.refl w.heap.size w).alloc (by first | omega | (simp [putRow_size, drewN_heap, drew_heap] <;> omega)) _).alloc (by first | omega | (simp [putRow_size, drewN_heap, drew_heap] <;> omega)) _).alloc (by first | omega | (simp [putRow_size, drewN_heap, drew_heap] <;> omega)) _).alloc (by first | omega | (simp [putRow_size, drewN_heap, drew_heap] <;> omega)) _) (by first | omega | (simp [putRow_size, drewN_heap, drew_heap] <;> omega)) hb1)
  have hs1 : w.heap.size ≤ w1.heap.size := HB1.out.size
  have r1_0 : rowAt w1 (w.heap.size) = some (.cells (exA t m) 60 (0, 0)) := rowNext' hb1 (by rw [rowAt_old _ _ _ (by first | omega | (simp [putRow_size, drewN_heap, drew_heap] <;> omega)), rowAt_old _ _ _ (by first | omega | (simp [putRow_size, drewN_heap, drew_heap] <;> omega)), rowAt_old _ _ _ (by first | omega | (simp [putRow_size, drewN_heap, drew_heap] <;> omega)), rowAt_new _ _ _ (by first | omega | (simp [putRow_size, drewN_heap, drew_heap] <;> omega))])
  have c1_0 := lt_of_some r1_0
  have r1_1 : rowAt w1 (w.heap.size + 1) = some (.cells (tabA p) 25 (0, 0)) := rowNext' hb1 (by rw [rowAt_old _ _ _ (by first | omega | (simp [putRow_size, drewN_heap, drew_heap] <;> omega)), rowAt_old _ _ _ (by first | omega | (simp [putRow_size, drewN_heap, drew_heap] <;> omega)), rowAt_new _ _ _ (by first | omega | (simp [putRow_size, drewN_heap, drew_heap] <;> omega))])
  have c1_1 := lt_of_some r1_1
  have r1_2 : rowAt w1 (w.heap.size + 1 + 1) = some (.cells #[.int .i64 n, .int .i64 l, .bool true, .bool i, .bool o, .int .u8 v] 27 (0, 0)) := rowNext' hb1 (by rw [rowAt_old _ _ _ (by first | omega | (simp [putRow_size, drewN_heap, drew_heap] <;> omega)), rowAt_new _ _ _ (by first | omega | (simp [putRow_size, drewN_heap, drew_heap] <;> omega))])
  have c1_2 := cells6 r1_2
  have r1_3 : rowAt w1 (w.heap.size + 1 + 1 + 1) = some (.cells (exA zeroT zeroW) 60 (0, 0)) := rowNext' hb1 (by rw [rowAt_new _ _ _ (by first | omega | (simp [putRow_size, drewN_heap, drew_heap] <;> omega))])
  have c1_3 := lt_of_some r1_3
  go_wp2_with fail
  refine (refMay9_eq HP.out _).mono ?_
  rintro e w2 ⟨rfl, hb2⟩
  have HB2 := hid (below_step HB1.out (by first | omega | (simp [putRow_size, drewN_heap, drew_heap] <;> omega)) hb2)
  have hs2 : w.heap.size ≤ w2.heap.size := HB2.out.size
  have r2_0 : rowAt w2 (w.heap.size) = some (.cells (exA t m) 60 (0, 0)) := rowNext' hb2 r1_0
  have c2_0 := lt_of_some r2_0
  have r2_1 : rowAt w2 (w.heap.size + 1) = some (.cells (tabA p) 25 (0, 0)) := rowNext' hb2 r1_1
  have c2_1 := lt_of_some r2_1
  have r2_2 : rowAt w2 (w.heap.size + 1 + 1) = some (.cells #[.int .i64 n, .int .i64 l, .bool true, .bool i, .bool o, .int .u8 v] 27 (0, 0)) := rowNext' hb2 r1_2
  have c2_2 := cells6 r2_2
  have r2_3 : rowAt w2 (w.heap.size + 1 + 1 + 1) = some (.cells (exA zeroT zeroW) 60 (0, 0)) := rowNext' hb2 r1_3
  have c2_3 := lt_of_some r2_3
  clear r1_0 c1_0 r1_1 c1_1 r1_2 c1_2 r1_3 c1_3 hb1 HB1 hs1
  go_wp2_with fail
  refine (refMay7_eq HT.out true i o v _).mono ?_
  rintro e w3 ⟨rfl, hb3⟩
  have HB3 := hid (below_step HB2.out (by first | omega | (simp [putRow_size, drewN_heap, drew_heap] <;> omega)) hb3)
  have hs3 : w.heap.size ≤ w3.heap.size := HB3.out.size
  have r3_0 : rowAt w3 (w.heap.size) = some (.cells (exA t m) 60 (0, 0)) := rowNext' hb3 r2_0
  have c3_0 := lt_of_some r3_0
  have r3_1 : rowAt w3 (w.heap.size + 1) = some (.cells (tabA p) 25 (0, 0)) := rowNext' hb3 r2_1
  have c3_1 := lt_of_some r3_1
  have r3_2 : rowAt w3 (w.heap.size + 1 + 1) = some (.cells #[.int .i64 n, .int .i64 l, .bool true, .bool i, .bool o, .int .u8 v] 27 (0, 0)) := rowNext' hb3 r2_2
  have c3_2 := cells6 r3_2
  have r3_3 : rowAt w3 (w.heap.size + 1 + 1 + 1) = some (.cells (exA zeroT zeroW) 60 (0, 0)) := rowNext' hb3 r2_3
  have c3_3 := lt_of_some r3_3
  clear r2_0 c2_0 r2_1 c2_1 r2_2 c2_2 r2_3 c2_3 hb2 HB2 hs2
  have hne3 : w.heap.size + 1 + 1 + 1 ≠ w.heap.size := by omega
  have k0 : w3.cell? ⟨w.heap.size, 62 + n, none⟩ = some (.int .i64 c) := by rw [cell_of_row w3 _ _ _ _ _ r3_0, exA_wait t m n h2, HM.out]
  have k1 := cell_of_row _ _ (n * 2) _ _ _ r3_0
  have k2 := cell_of_row _ _ (n * 2 + 1) _ _ _ r3_0
  rw [exA_cell0 t m n h2] at k1
  rw [exA_cell1 t m n h2] at k2
  have f0 := frozenRow r3_0
  have hcz : (c == 0) = false := by simp; omega
  have e1 : n * 2 ≠ 62 + n := by omega
  have e2 : n * 2 + 1 ≠ 62 + n := by omega
  have e3 : 62 + n ≠ n * 2 := by omega
  have e4 : 62 + n ≠ n * 2 + 1 := by omega
  have q0 : rowAt (((w3.setCell ⟨w.heap.size, 62 + n, none⟩ (.int .i64 (c - 1))).setCell ⟨w.heap.size, n * 2, none⟩ (.int .i64 l)).setCell ⟨w.heap.size, n * 2 + 1, none⟩ (.int .u8 v)) w.heap.size = some (.cells (exA (upd t n (l, v)) (updW m n (c - 1))) 60 (0, 0)) := by
    exact (show rowAt (((w3.setCell ⟨w.heap.size, 62 + n, none⟩ (.int .i64 (c - 1))).setCell ⟨w.heap.size, n * 2, none⟩ (.int .i64 l)).setCell ⟨w.heap.size, n * 2 + 1, none⟩ (.int .u8 v)) w.heap.size = some (.cells (exA (upd t n (l, v)) (updW m n (c - 1))) 60 (0, 0)) by rw [← exA_upd t (updW m n (c - 1)) n (l, v) h2]; exact setCell_rowSame (setCell_rowSame (show rowAt (w3.setCell ⟨w.heap.size, 62 + n, none⟩ (.int .i64 (c - 1))) w.heap.size = some (.cells (exA t (updW m n (c - 1))) 60 (0, 0)) by rw [← exA_updW t m n (c - 1) h2]; exact setCell_rowSame r3_0 _ _) _ _) _ _)
  have q3 : rowAt (((w3.setCell ⟨w.heap.size, 62 + n, none⟩ (.int .i64 (c - 1))).setCell ⟨w.heap.size, n * 2, none⟩ (.int .i64 l)).setCell ⟨w.heap.size, n * 2 + 1, none⟩ (.int .u8 v)) (w.heap.size + 1 + 1 + 1) = some (.cells (exA zeroT zeroW) 60 (0, 0)) := setCell_rowOther (setCell_rowOther (setCell_rowOther r3_3 (b := w.heap.size) _ _ hne3) (b := w.heap.size) _ _ hne3) (b := w.heap.size) _ _ hne3
  have HBS : Hid (Below w.heap.size w (((w3.setCell ⟨w.heap.size, 62 + n, none⟩ (.int .i64 (c - 1))).setCell ⟨w.heap.size, n * 2, none⟩ (.int .i64 l)).setCell ⟨w.heap.size, n * 2 + 1, none⟩ (.int .u8 v))) := hid (((HB3.out.setCell (p := ⟨w.heap.size, 62 + n, none⟩) (Nat.le_refl _) _).setCell (p := ⟨w.heap.size, n * 2, none⟩) (Nat.le_refl _) _).setCell (p := ⟨w.heap.size, n * 2 + 1, none⟩) (Nat.le_refl _) _)
  have HQ0 := hid q0
  have HQ3 := hid q3
  clear q0 q3
  go_upto_region 13 with (fail)
  generalize (((w3.setCell ⟨w.heap.size, 62 + n, none⟩ (.int .i64 (c - 1))).setCell ⟨w.heap.size, n * 2, none⟩ (.int .i64 l)).setCell ⟨w.heap.size, n * 2 + 1, none⟩ (.int .u8 v)) = wz at *
  clear k0 k1 k2 f0 r3_0 r3_1 r3_2 r3_3 c3_0 c3_1 c3_2 c3_3 hb3 HB3 hs3
  have q0 := HQ0.out
  have q3 := HQ3.out
  have l0 := lt_of_some q0
  have l3 := lt_of_some q3
  go_wp2_with fail
  exact bodyPost_ret (v := .tuple #[.agg (exA (upd t n (l, v)) (updW m n (c - 1))), .slice none 0 0, .int .i64 0]) (results_row_tmp2 Try.results38 _ _ (w.heap.size + 1 + 1 + 1) 60 (exA (upd t n (l, v)) (updW m n (c - 1))) (0, 0) _ rfl (rowAt_put _ _ _ _ l3) Try.underlying60 rfl (by rw [exA_size]; exact sizeExch) (.slice none 0 0) (.int .i64 0) rfl rfl) rfl ⟨rfl, below_putRow HBS.out _ _ _ (by omega)⟩

end Go.Proofs.Ytjghmgpmaallfaa
