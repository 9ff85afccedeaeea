/-
  linnetref17.Got: what it hears.
-/
import Derived.Test.YtjghmgpmaallfaaErp
import Derived.Test.YtjghmgpmaallfaaExb
import Derived.BigRegion
import Derived.Deep.RegionHeld3
namespace Go.Proofs.Ytjghmgpmaallfaa
open Go.RowKit
set_option linter.unusedVariables false
set_option linter.unusedSimpArgs false

set_option maxHeartbeats 2000000 in
set_option maxRecDepth 100000 in
theorem rgot_s (t : Tb) (m : Wt) (p : Tb) (n : Nat) (h1 : 1 ≤ n) (h2 : n < 31) (l v : Int) (i o : Bool) (c1 c2 : Int) (HM : Hid (m n = 0)) (HX : Hid (MayIs t m true)) (HP : Hid (decide (tabOk p) = true)) (HT : Hid (decide (trOk n l) = true)) (H1 : Hid (settle p n l v = ((c1, c2), 0))) (w : World) :
    Calls Try.prog 38 #[.agg (exA t m), .agg (tabA p), .bool true, .agg #[.int .i64 n, .int .i64 l, .bool false, .bool i, .bool o, .int .u8 v]] w fun e w' => ∃ g, e = .returned (.tuple #[.agg (exA (upd t n (c1, c2)) (updW m n 0)), .slice (some ⟨g, 0, none⟩) 1 1, .int .i64 0]) ∧ rowAt w' g = some (.cells #[.int .i64 n, .int .i64 c1, .bool true, .bool i, .bool o, .int .u8 c2] 27 (0, 0)) ∧ w.heap.size ≤ g ∧ Below w.heap.size w w' := by
  have d1 : decide ((n : Int) < 1) = false := by simp; omega
  have d2 : decide ((30 : Int) < (n : Int)) = false := by simp; omega
  have d3 : decide ((1 : Int) ≤ (n : Int)) = true := by simp; omega
  have d4 : decide ((n : Int) ≤ 30) = true := by simp; omega
  have hn0 : (0 : Int) ≤ (n : Int) := by omega
  have hn31 : (n : Int) < 31 := by omega
  go_enter Try.func38, Try.ntmps38
  go_wp2_with fail
  refine (refMay17_is HX.out _).mono ?_
  rintro e w1 ⟨rfl, hb1⟩
  have HB1 := hid (below_step (((((Below.refl w.heap.size w).alloc (by first | omega | (simp [putRow_size, drewN_heap, drew_heap] <;> omega)) _).alloc (by first | omega | (simp [putRow_size, drewN_heap, drew_heap] <;> omega)) _).alloc (by first | omega | (simp [putRow_size, drewN_heap, drew_heap] <;> omega)) _).alloc (by first | omega | (simp [putRow_size, drewN_heap, drew_heap] <;> omega)) _) (by first | omega | (simp [putRow_size, drewN_heap, drew_heap] <;> omega)) hb1)
  have hs1 : w.heap.size ≤ w1.heap.size := HB1.out.size
  have r1_0 : rowAt w1 (w.heap.size) = some (.cells (exA t m) 60 (0, 0)) := rowNext' hb1 (by rw [rowAt_old _ _ _ (by first | omega | (simp [putRow_size, drewN_heap, drew_heap] <;> omega)), rowAt_old _ _ _ (by first | omega | (simp [putRow_size, drewN_heap, drew_heap] <;> omega)), rowAt_old _ _ _ (by first | omega | (simp [putRow_size, drewN_heap, drew_heap] <;> omega)), rowAt_new _ _ _ (by first | omega | (simp [putRow_size, drewN_heap, drew_heap] <;> omega))])
  have c1_0 := lt_of_some r1_0
  have r1_1 : rowAt w1 (w.heap.size + 1) = some (.cells (tabA p) 25 (0, 0)) := rowNext' hb1 (by rw [rowAt_old _ _ _ (by first | omega | (simp [putRow_size, drewN_heap, drew_heap] <;> omega)), rowAt_old _ _ _ (by first | omega | (simp [putRow_size, drewN_heap, drew_heap] <;> omega)), rowAt_new _ _ _ (by first | omega | (simp [putRow_size, drewN_heap, drew_heap] <;> omega))])
  have c1_1 := lt_of_some r1_1
  have r1_2 : rowAt w1 (w.heap.size + 1 + 1) = some (.cells #[.int .i64 n, .int .i64 l, .bool false, .bool i, .bool o, .int .u8 v] 27 (0, 0)) := rowNext' hb1 (by rw [rowAt_old _ _ _ (by first | omega | (simp [putRow_size, drewN_heap, drew_heap] <;> omega)), rowAt_new _ _ _ (by first | omega | (simp [putRow_size, drewN_heap, drew_heap] <;> omega))])
  have c1_2 := cells6 r1_2
  have r1_3 : rowAt w1 (w.heap.size + 1 + 1 + 1) = some (.cells (exA zeroT zeroW) 60 (0, 0)) := rowNext' hb1 (by rw [rowAt_new _ _ _ (by first | omega | (simp [putRow_size, drewN_heap, drew_heap] <;> omega))])
  have c1_3 := lt_of_some r1_3
  go_wp2_with fail
  refine (refMay9_eq HP.out _).mono ?_
  rintro e w2 ⟨rfl, hb2⟩
  have HB2 := hid (below_step HB1.out (by first | omega | (simp [putRow_size, drewN_heap, drew_heap] <;> omega)) hb2)
  have hs2 : w.heap.size ≤ w2.heap.size := HB2.out.size
  have r2_0 : rowAt w2 (w.heap.size) = some (.cells (exA t m) 60 (0, 0)) := rowNext' hb2 r1_0
  have c2_0 := lt_of_some r2_0
  have r2_1 : rowAt w2 (w.heap.size + 1) = some (.cells (tabA p) 25 (0, 0)) := rowNext' hb2 r1_1
  have c2_1 := lt_of_some r2_1
  have r2_2 : rowAt w2 (w.heap.size + 1 + 1) = some (.cells #[.int .i64 n, .int .i64 l, .bool false, .bool i, .bool o, .int .u8 v] 27 (0, 0)) := rowNext' hb2 r1_2
  have c2_2 := cells6 r2_2
  have r2_3 : rowAt w2 (w.heap.size + 1 + 1 + 1) = some (.cells (exA zeroT zeroW) 60 (0, 0)) := rowNext' hb2 r1_3
  have c2_3 := lt_of_some r2_3
  clear r1_0 c1_0 r1_1 c1_1 r1_2 c1_2 r1_3 c1_3 hb1 HB1 hs1
  go_wp2_with fail
  refine (refMay7_eq HT.out false i o v _).mono ?_
  rintro e w3 ⟨rfl, hb3⟩
  have HB3 := hid (below_step HB2.out (by first | omega | (simp [putRow_size, drewN_heap, drew_heap] <;> omega)) hb3)
  have hs3 : w.heap.size ≤ w3.heap.size := HB3.out.size
  have r3_0 : rowAt w3 (w.heap.size) = some (.cells (exA t m) 60 (0, 0)) := rowNext' hb3 r2_0
  have c3_0 := lt_of_some r3_0
  have r3_1 : rowAt w3 (w.heap.size + 1) = some (.cells (tabA p) 25 (0, 0)) := rowNext' hb3 r2_1
  have c3_1 := lt_of_some r3_1
  have r3_2 : rowAt w3 (w.heap.size + 1 + 1) = some (.cells #[.int .i64 n, .int .i64 l, .bool false, .bool i, .bool o, .int .u8 v] 27 (0, 0)) := rowNext' hb3 r2_2
  have c3_2 := cells6 r3_2
  have r3_3 : rowAt w3 (w.heap.size + 1 + 1 + 1) = some (.cells (exA zeroT zeroW) 60 (0, 0)) := rowNext' hb3 r2_3
  have c3_3 := lt_of_some r3_3
  clear r2_0 c2_0 r2_1 c2_1 r2_2 c2_2 r2_3 c2_3 hb2 HB2 hs2
  have k0 := cell_of_row _ _ (62 + n) _ _ _ r3_0
  rw [exA_wait t m n h2, HM.out] at k0
  go_upto_region 17 with fail
  obtain ⟨U, hU⟩ : ∃ U : List Value, tabA p = U.toArray := ⟨rows2 31 p, rfl⟩
  have hu25 := Try.underlying25
  have hiU : (Try.prog.info? 25).map (·.size) = some U.length := by rw [sizePrefs, len_of_tab hU]
  have HC : ∀ W, Calls Try.prog 25 #[.agg U.toArray, .agg #[.int .i64 n, .int .i64 l, .bool false, .bool i, .bool o, .int .u8 v]] W fun e w' => e = .returned (.agg #[.int .i64 c1, .int .u8 c2]) ∧ Below W.heap.size W w' := by
    intro W; rw [← hU]; exact refSettle9 H1.out false i o W
  have HC := hid HC
  have q0 : ∀ W : World, rowAt W (w.heap.size + 1) = some (.cells (tabA p) 25 (0, 0)) → rowAt W (w.heap.size + 1 + 1) = some (.cells #[.int .i64 n, .int .i64 l, .bool false, .bool i, .bool o, .int .u8 v] 27 (0, 0)) → W.rangeAt (w.heap.size + 1) 0 U ∧ W.cell? ⟨w.heap.size + 1 + 1, 0, none⟩ = some (.int .i64 n) ∧ W.cell? ⟨w.heap.size + 1 + 1, 1, none⟩ = some (.int .i64 l) ∧ W.cell? ⟨w.heap.size + 1 + 1, 2, none⟩ = some (.bool false) ∧ W.cell? ⟨w.heap.size + 1 + 1, 3, none⟩ = some (.bool i) ∧ W.cell? ⟨w.heap.size + 1 + 1, 4, none⟩ = some (.bool o) ∧ W.cell? ⟨w.heap.size + 1 + 1, 5, none⟩ = some (.int .u8 v) := by
    intro W h1 h2
    have y := cells6 h2
    exact ⟨range_of_row h1 hU, y.1, y.2.1, y.2.2.1, y.2.2.2.1, y.2.2.2.2.1, y.2.2.2.2.2.1⟩
  have HQQ := hid q0
  have HR0 := hid r3_0
  have HR1 := hid r3_1
  have HR2 := hid r3_2
  have HR3 := hid r3_3
  have l3 := lt_of_some r3_3
  clear q0 hU k0 r3_0 r3_1 r3_2 r3_3 c3_0 c3_1 c3_2 c3_3 hb3
  have e1 : n * 2 ≠ 62 + n := by omega
  have e2 : n * 2 + 1 ≠ 62 + n := by omega
  have e3 : 62 + n ≠ n * 2 := by omega
  have e4 : 62 + n ≠ n * 2 + 1 := by omega
  go_region_held3 (fun w' => w'.rangeAt (w.heap.size + 1) 0 U ∧ w'.cell? ⟨w.heap.size + 1 + 1, 0, none⟩ = some (.int .i64 n) ∧ w'.cell? ⟨w.heap.size + 1 + 1, 1, none⟩ = some (.int .i64 l) ∧ w'.cell? ⟨w.heap.size + 1 + 1, 2, none⟩ = some (.bool false) ∧ w'.cell? ⟨w.heap.size + 1 + 1, 3, none⟩ = some (.bool i) ∧ w'.cell? ⟨w.heap.size + 1 + 1, 4, none⟩ = some (.bool o) ∧ w'.cell? ⟨w.heap.size + 1 + 1, 5, none⟩ = some (.int .u8 v))
    (exact HQQ.out _ (by repeat (first | exact HR1.out | exact rowNext' hb9' HR1.out | (rw [rowAt_drew]; exact HR1.out) | refine setCell_rowOther ?_ _ _ (by omega))) (by repeat (first | exact HR2.out | exact rowNext' hb9' HR2.out | (rw [rowAt_drew]; exact HR2.out) | refine setCell_rowOther ?_ _ _ (by omega))))
    (first | (go_at_call 25; (with_reducible refine (HC.out _).mono ?_); rintro e w9 ⟨rfl, hb9⟩; have hb9' := below9 (w3 := w3) hb9; have r9 := ex_cells HR0.out hb9' h2; have k9 : w9.cell? ⟨w.heap.size, 62 + n, none⟩ = some (.int .i64 (m n)) := (by rw [cell_of_row w9 _ _ _ _ _ (rowNext' hb9' HR0.out), exA_wait t m n h2]); have HL := hid hb9'))
  go_upto_region 19 with fail
  have rf0 : rowAt (((w9.setCell ⟨w.heap.size, n * 2, none⟩ (.int .i64 c1)).setCell ⟨w.heap.size, n * 2 + 1, none⟩ (.int .u8 c2)).setCell ⟨w.heap.size, 62 + n, none⟩ (.int .i64 0)) w.heap.size = some (.cells (exA (upd t n (c1, c2)) (updW m n 0)) 60 (0, 0)) := by
    rw [← exA_updW (upd t n (c1, c2)) m n 0 h2]; exact setCell_rowSame (ex_store HR0.out HL.out h2 c1 c2) _ _
  have rf1 := setCell_rowOther (ex_store_other HR1.out HL.out (g := w.heap.size) (by omega) (n * 2) (n * 2 + 1) (.int .i64 c1) (.int .u8 c2)) (b := w.heap.size) (62 + n) (.int .i64 0) (by omega)
  have rf2 := setCell_rowOther (ex_store_other HR2.out HL.out (g := w.heap.size) (by omega) (n * 2) (n * 2 + 1) (.int .i64 c1) (.int .u8 c2)) (b := w.heap.size) (62 + n) (.int .i64 0) (by omega)
  have rf3 := setCell_rowOther (ex_store_other HR3.out HL.out (g := w.heap.size) (by omega) (n * 2) (n * 2 + 1) (.int .i64 c1) (.int .u8 c2)) (b := w.heap.size) (62 + n) (.int .i64 0) (by omega)
  have HBF := hid ((((below_step HB3.out (by omega) HL.out).setCell (p := ⟨w.heap.size, n * 2, none⟩) (Nat.le_refl _) (.int .i64 c1)).setCell (p := ⟨w.heap.size, n * 2 + 1, none⟩) (Nat.le_refl _) (.int .u8 c2)).setCell (p := ⟨w.heap.size, 62 + n, none⟩) (Nat.le_refl _) (.int .i64 0))
  generalize ((w9.setCell ⟨w.heap.size, n * 2, none⟩ (.int .i64 c1)).setCell ⟨w.heap.size, n * 2 + 1, none⟩ (.int .u8 c2)).setCell ⟨w.heap.size, 62 + n, none⟩ (.int .i64 0) = wz at *
  clear r9 k9 HL hb9 hb9' HQQ HR0 HR1 HR2 HR3 HC hu25 hiU
  have r3_0 : rowAt wz w.heap.size = some (.cells (exA (upd t n (c1, c2)) (updW m n 0)) 60 (0, 0)) := rf0
  have r3_1 : rowAt wz (w.heap.size + 1) = some (.cells (tabA p) 25 (0, 0)) := rf1
  have r3_2 : rowAt wz (w.heap.size + 1 + 1) = some (.cells #[.int .i64 n, .int .i64 l, .bool false, .bool i, .bool o, .int .u8 v] 27 (0, 0)) := rf2
  have r3_3 : rowAt wz (w.heap.size + 1 + 1 + 1) = some (.cells (exA zeroT zeroW) 60 (0, 0)) := rf3
  have cz3 := lt_of_some r3_3
  clear rf0 rf1 rf2 rf3
  obtain ⟨U, hU⟩ : ∃ U : List Value, tabA p = U.toArray := ⟨rows2 31 p, rfl⟩
  have hu25 := Try.underlying25
  have hiU : (Try.prog.info? 25).map (·.size) = some U.length := by rw [sizePrefs, len_of_tab hU]
  have HC : ∀ W, Calls Try.prog 26 #[.agg U.toArray, .agg #[.int .i64 n, .int .i64 l, .bool false, .bool i, .bool o, .int .u8 v]] W fun e w' => e = .returned (.agg #[.int .i64 n, .int .i64 c1, .bool true, .bool i, .bool o, .int .u8 c2]) ∧ Below W.heap.size W w' := by
    intro W; rw [← hU]; exact refAnswer9 H1.out false i o W
  have HC := hid HC
  have q0 : ∀ W : World, rowAt W (w.heap.size) = some (.cells (exA (upd t n (c1, c2)) (updW m n 0)) 60 (0, 0)) → rowAt W (w.heap.size + 1) = some (.cells (tabA p) 25 (0, 0)) → rowAt W (w.heap.size + 1 + 1) = some (.cells #[.int .i64 n, .int .i64 l, .bool false, .bool i, .bool o, .int .u8 v] 27 (0, 0)) → rowAt W (w.heap.size) = some (.cells (exA (upd t n (c1, c2)) (updW m n 0)) 60 (0, 0)) ∧ W.rangeAt (w.heap.size + 1) 0 U ∧ W.cell? ⟨w.heap.size + 1 + 1, 0, none⟩ = some (.int .i64 n) ∧ W.cell? ⟨w.heap.size + 1 + 1, 1, none⟩ = some (.int .i64 l) ∧ W.cell? ⟨w.heap.size + 1 + 1, 2, none⟩ = some (.bool false) ∧ W.cell? ⟨w.heap.size + 1 + 1, 3, none⟩ = some (.bool i) ∧ W.cell? ⟨w.heap.size + 1 + 1, 4, none⟩ = some (.bool o) ∧ W.cell? ⟨w.heap.size + 1 + 1, 5, none⟩ = some (.int .u8 v) := by
    intro W h0 h1 h2
    have y := cells6 h2
    exact ⟨h0, range_of_row h1 hU, y.1, y.2.1, y.2.2.1, y.2.2.2.1, y.2.2.2.2.1, y.2.2.2.2.2.1⟩
  have HQQ := hid q0
  have hneq : w.heap.size ≠ w.heap.size + 1 + 1 + 1 := by omega
  have HR0 := hid r3_0
  have HR1 := hid r3_1
  have HR2 := hid r3_2
  have HR3 : Hid (rowAt wz (w.heap.size + 1 + 1 + 1) = some (.cells (exA zeroT zeroW) 60 (0, 0))) := hid r3_3
  clear q0 hU r3_0 r3_1 r3_2 r3_3
  go_region_held3 (fun w' => rowAt w' (w.heap.size) = some (.cells (exA (upd t n (c1, c2)) (updW m n 0)) 60 (0, 0)) ∧ w'.rangeAt (w.heap.size + 1) 0 U ∧ w'.cell? ⟨w.heap.size + 1 + 1, 0, none⟩ = some (.int .i64 n) ∧ w'.cell? ⟨w.heap.size + 1 + 1, 1, none⟩ = some (.int .i64 l) ∧ w'.cell? ⟨w.heap.size + 1 + 1, 2, none⟩ = some (.bool false) ∧ w'.cell? ⟨w.heap.size + 1 + 1, 3, none⟩ = some (.bool i) ∧ w'.cell? ⟨w.heap.size + 1 + 1, 4, none⟩ = some (.bool o) ∧ w'.cell? ⟨w.heap.size + 1 + 1, 5, none⟩ = some (.int .u8 v))
    (exact HQQ.out _ (by repeat (first | exact HR0.out | exact X0.out | rw [rowAt_drew] | rw [rowAt_putOther _ _ _ _ _ (by omega)] | rw [rowAt_old _ _ _ (by first | omega | (simp [putRow_size, drew_heap] <;> omega))])) (by repeat (first | exact HR1.out | exact X1.out | rw [rowAt_drew] | rw [rowAt_putOther _ _ _ _ _ (by omega)] | rw [rowAt_old _ _ _ (by first | omega | (simp [putRow_size, drew_heap] <;> omega))])) (by repeat (first | exact HR2.out | exact X2.out | rw [rowAt_drew] | rw [rowAt_putOther _ _ _ _ _ (by omega)] | rw [rowAt_old _ _ _ (by first | omega | (simp [putRow_size, drew_heap] <;> omega))])))
    (first | (go_at_call 26; (with_reducible refine (HC.out _).mono ?_); rintro e w9 ⟨rfl, hb9⟩; have x0 := rowNext' hb9 (show rowAt _ (w.heap.size) = some (.cells (exA (upd t n (c1, c2)) (updW m n 0)) 60 (0, 0)) from (by repeat (first | exact HR0.out | rw [rowAt_drew] | rw [rowAt_putOther _ _ _ _ _ (by omega)] | rw [rowAt_old _ _ _ (by first | omega | (simp [putRow_size, drew_heap] <;> omega))]))); have x1 := rowNext' hb9 (show rowAt _ (w.heap.size + 1) = some (.cells (tabA p) 25 (0, 0)) from (by repeat (first | exact HR1.out | rw [rowAt_drew] | rw [rowAt_putOther _ _ _ _ _ (by omega)] | rw [rowAt_old _ _ _ (by first | omega | (simp [putRow_size, drew_heap] <;> omega))]))); have x2 := rowNext' hb9 (show rowAt _ (w.heap.size + 1 + 1) = some (.cells #[.int .i64 n, .int .i64 l, .bool false, .bool i, .bool o, .int .u8 v] 27 (0, 0)) from (by repeat (first | exact HR2.out | rw [rowAt_drew] | rw [rowAt_putOther _ _ _ _ _ (by omega)] | rw [rowAt_old _ _ _ (by first | omega | (simp [putRow_size, drew_heap] <;> omega))]))); have hB9 := hid (below_step (show Below w.heap.size w _ from by first | exact HBF.out.drew | exact (below_putRow HBF.out _ _ _ (by omega)).drew | exact below_putRow HBF.out.drew _ _ _ (by omega)) (by first | omega | (simp [putRow_size, drew_heap] <;> omega)) hb9); have hsz9 := hid hB9.out.size; have X0 := hid x0; have X1 := hid x1; have X2 := hid x2; (first | (have r9 : rowAt w9 (w.heap.size + 1 + 1 + 1) = some (.cells (exA zeroT zeroW) 60 (0, 0)) := rowNext' hb9 (by first | exact HR3.out | (rw [rowAt_drew]; exact HR3.out))) | (have r9 : rowAt w9 (w.heap.size + 1 + 1 + 1) = some (.cells (exA (upd t n (c1, c2)) (updW m n 0)) 60 (0, 0)) := rowNext' hb9 (by first | exact rowAt_put _ _ _ _ cz3 | (rw [rowAt_drew]; exact rowAt_put _ _ _ _ cz3)))); have l9 := lt_of_some r9; clear hb9 x0 x1 x2))
  all_goals go_wp2_with fail
  all_goals exact bodyPost_ret (v := .tuple #[.agg (exA (upd t n (c1, c2)) (updW m n 0)), .slice (some ⟨w9.heap.size, 0, none⟩) 1 1, .int .i64 0]) (results_row_tmp2 Try.results38 _ _ (w.heap.size + 1 + 1 + 1) 60 (exA (upd t n (c1, c2)) (updW m n 0)) (0, 0) _ rfl (by show rowAt _ _ = _; rw [rowAt_old _ _ _ (by first | omega | (simp [putRow_size, drewN_heap, drew_heap] <;> omega)), rowAt_put _ _ _ _ l9]) Try.underlying60 rfl (by rw [exA_size]; exact sizeExch) (.slice (some ⟨w9.heap.size, 0, none⟩) 1 1) (.int .i64 0) rfl rfl) rfl ⟨_, rfl, (by first | exact rowAt_new _ _ _ (by first | omega | (simp [putRow_size, drewN_heap, drew_heap] <;> omega)) | (rw [rowAt_drew]; exact rowAt_new _ _ _ (by first | omega | (simp [putRow_size, drewN_heap, drew_heap] <;> omega)))), hsz9.out, (below_putRow hB9.out _ _ _ (by omega)).alloc (by first | omega | (simp [putRow_size, drewN_heap, drew_heap] <;> omega)) _⟩

set_option maxHeartbeats 2000000 in
set_option maxRecDepth 100000 in
theorem rgot_c (t : Tb) (m : Wt) (p : Tb) (n : Nat) (h1 : 1 ≤ n) (h2 : n < 31) (l v : Int) (i o : Bool) (c1 c2 : Int) (HX : Hid (MayIs t m true)) (HP : Hid (decide (tabOk p) = true)) (HT : Hid (decide (trOk n l) = true)) (H1 : Hid (settle p n l v = ((c1, c2), 0))) (w : World) :
    Calls Try.prog 38 #[.agg (exA t m), .agg (tabA p), .bool false, .agg #[.int .i64 n, .int .i64 l, .bool false, .bool i, .bool o, .int .u8 v]] w fun e w' => ∃ g, e = .returned (.tuple #[.agg (exA (upd t n (c1, c2)) (updW m n 0)), .slice (some ⟨g, 0, none⟩) 1 1, .int .i64 0]) ∧ rowAt w' g = some (.cells #[.int .i64 n, .int .i64 c1, .bool true, .bool i, .bool o, .int .u8 c2] 27 (0, 0)) ∧ w.heap.size ≤ g ∧ Below w.heap.size w w' := by
  have d1 : decide ((n : Int) < 1) = false := by simp; omega
  have d2 : decide ((30 : Int) < (n : Int)) = false := by simp; omega
  have d3 : decide ((1 : Int) ≤ (n : Int)) = true := by simp; omega
  have d4 : decide ((n : Int) ≤ 30) = true := by simp; omega
  have hn0 : (0 : Int) ≤ (n : Int) := by omega
  have hn31 : (n : Int) < 31 := by omega
  go_enter Try.func38, Try.ntmps38
  go_wp2_with fail
  refine (refMay17_is HX.out _).mono ?_
  rintro e w1 ⟨rfl, hb1⟩
  have HB1 := hid (below_step (((((Below.refl w.heap.size w).alloc (by first | omega | (simp [putRow_size, drewN_heap, drew_heap] <;> omega)) _).alloc (by first | omega | (simp [putRow_size, drewN_heap, drew_heap] <;> omega)) _).alloc (by first | omega | (simp [putRow_size, drewN_heap, drew_heap] <;> omega)) _).alloc (by first | omega | (simp [putRow_size, drewN_heap, drew_heap] <;> omega)) _) (by first | omega | (simp [putRow_size, drewN_heap, drew_heap] <;> omega)) hb1)
  have hs1 : w.heap.size ≤ w1.heap.size := HB1.out.size
  have r1_0 : rowAt w1 (w.heap.size) = some (.cells (exA t m) 60 (0, 0)) := rowNext' hb1 (by rw [rowAt_old _ _ _ (by first | omega | (simp [putRow_size, drewN_heap, drew_heap] <;> omega)), rowAt_old _ _ _ (by first | omega | (simp [putRow_size, drewN_heap, drew_heap] <;> omega)), rowAt_old _ _ _ (by first | omega | (simp [putRow_size, drewN_heap, drew_heap] <;> omega)), rowAt_new _ _ _ (by first | omega | (simp [putRow_size, drewN_heap, drew_heap] <;> omega))])
  have c1_0 := lt_of_some r1_0
  have r1_1 : rowAt w1 (w.heap.size + 1) = some (.cells (tabA p) 25 (0, 0)) := rowNext' hb1 (by rw [rowAt_old _ _ _ (by first | omega | (simp [putRow_size, drewN_heap, drew_heap] <;> omega)), rowAt_old _ _ _ (by first | omega | (simp [putRow_size, drewN_heap, drew_heap] <;> omega)), rowAt_new _ _ _ (by first | omega | (simp [putRow_size, drewN_heap, drew_heap] <;> omega))])
  have c1_1 := lt_of_some r1_1
  have r1_2 : rowAt w1 (w.heap.size + 1 + 1) = some (.cells #[.int .i64 n, .int .i64 l, .bool false, .bool i, .bool o, .int .u8 v] 27 (0, 0)) := rowNext' hb1 (by rw [rowAt_old _ _ _ (by first | omega | (simp [putRow_size, drewN_heap, drew_heap] <;> omega)), rowAt_new _ _ _ (by first | omega | (simp [putRow_size, drewN_heap, drew_heap] <;> omega))])
  have c1_2 := cells6 r1_2
  have r1_3 : rowAt w1 (w.heap.size + 1 + 1 + 1) = some (.cells (exA zeroT zeroW) 60 (0, 0)) := rowNext' hb1 (by rw [rowAt_new _ _ _ (by first | omega | (simp [putRow_size, drewN_heap, drew_heap] <;> omega))])
  have c1_3 := lt_of_some r1_3
  go_wp2_with fail
  refine (refMay9_eq HP.out _).mono ?_
  rintro e w2 ⟨rfl, hb2⟩
  have HB2 := hid (below_step HB1.out (by first | omega | (simp [putRow_size, drewN_heap, drew_heap] <;> omega)) hb2)
  have hs2 : w.heap.size ≤ w2.heap.size := HB2.out.size
  have r2_0 : rowAt w2 (w.heap.size) = some (.cells (exA t m) 60 (0, 0)) := rowNext' hb2 r1_0
  have c2_0 := lt_of_some r2_0
  have r2_1 : rowAt w2 (w.heap.size + 1) = some (.cells (tabA p) 25 (0, 0)) := rowNext' hb2 r1_1
  have c2_1 := lt_of_some r2_1
  have r2_2 : rowAt w2 (w.heap.size + 1 + 1) = some (.cells #[.int .i64 n, .int .i64 l, .bool false, .bool i, .bool o, .int .u8 v] 27 (0, 0)) := rowNext' hb2 r1_2
  have c2_2 := cells6 r2_2
  have r2_3 : rowAt w2 (w.heap.size + 1 + 1 + 1) = some (.cells (exA zeroT zeroW) 60 (0, 0)) := rowNext' hb2 r1_3
  have c2_3 := lt_of_some r2_3
  clear r1_0 c1_0 r1_1 c1_1 r1_2 c1_2 r1_3 c1_3 hb1 HB1 hs1
  go_wp2_with fail
  refine (refMay7_eq HT.out false i o v _).mono ?_
  rintro e w3 ⟨rfl, hb3⟩
  have HB3 := hid (below_step HB2.out (by first | omega | (simp [putRow_size, drewN_heap, drew_heap] <;> omega)) hb3)
  have hs3 : w.heap.size ≤ w3.heap.size := HB3.out.size
  have r3_0 : rowAt w3 (w.heap.size) = some (.cells (exA t m) 60 (0, 0)) := rowNext' hb3 r2_0
  have c3_0 := lt_of_some r3_0
  have r3_1 : rowAt w3 (w.heap.size + 1) = some (.cells (tabA p) 25 (0, 0)) := rowNext' hb3 r2_1
  have c3_1 := lt_of_some r3_1
  have r3_2 : rowAt w3 (w.heap.size + 1 + 1) = some (.cells #[.int .i64 n, .int .i64 l, .bool false, .bool i, .bool o, .int .u8 v] 27 (0, 0)) := rowNext' hb3 r2_2
  have c3_2 := cells6 r3_2
  have r3_3 : rowAt w3 (w.heap.size + 1 + 1 + 1) = some (.cells (exA zeroT zeroW) 60 (0, 0)) := rowNext' hb3 r2_3
  have c3_3 := lt_of_some r3_3
  clear r2_0 c2_0 r2_1 c2_1 r2_2 c2_2 r2_3 c2_3 hb2 HB2 hs2
  go_upto_region 17 with fail
  obtain ⟨U, hU⟩ : ∃ U : List Value, tabA p = U.toArray := ⟨rows2 31 p, rfl⟩
  have hu25 := Try.underlying25
  have hiU : (Try.prog.info? 25).map (·.size) = some U.length := by rw [sizePrefs, len_of_tab hU]
  have HC : ∀ W, Calls Try.prog 25 #[.agg U.toArray, .agg #[.int .i64 n, .int .i64 l, .bool false, .bool i, .bool o, .int .u8 v]] W fun e w' => e = .returned (.agg #[.int .i64 c1, .int .u8 c2]) ∧ Below W.heap.size W w' := by
    intro W; rw [← hU]; exact refSettle9 H1.out false i o W
  have HC := hid HC
  have q0 : ∀ W : World, rowAt W (w.heap.size + 1) = some (.cells (tabA p) 25 (0, 0)) → rowAt W (w.heap.size + 1 + 1) = some (.cells #[.int .i64 n, .int .i64 l, .bool false, .bool i, .bool o, .int .u8 v] 27 (0, 0)) → W.rangeAt (w.heap.size + 1) 0 U ∧ W.cell? ⟨w.heap.size + 1 + 1, 0, none⟩ = some (.int .i64 n) ∧ W.cell? ⟨w.heap.size + 1 + 1, 1, none⟩ = some (.int .i64 l) ∧ W.cell? ⟨w.heap.size + 1 + 1, 2, none⟩ = some (.bool false) ∧ W.cell? ⟨w.heap.size + 1 + 1, 3, none⟩ = some (.bool i) ∧ W.cell? ⟨w.heap.size + 1 + 1, 4, none⟩ = some (.bool o) ∧ W.cell? ⟨w.heap.size + 1 + 1, 5, none⟩ = some (.int .u8 v) := by
    intro W h1 h2
    have y := cells6 h2
    exact ⟨range_of_row h1 hU, y.1, y.2.1, y.2.2.1, y.2.2.2.1, y.2.2.2.2.1, y.2.2.2.2.2.1⟩
  have HQQ := hid q0
  have HR0 := hid r3_0
  have HR1 := hid r3_1
  have HR2 := hid r3_2
  have HR3 := hid r3_3
  have l3 := lt_of_some r3_3
  clear q0 hU r3_0 r3_1 r3_2 r3_3 c3_0 c3_1 c3_2 c3_3 hb3
  have e1 : n * 2 ≠ 62 + n := by omega
  have e2 : n * 2 + 1 ≠ 62 + n := by omega
  have e3 : 62 + n ≠ n * 2 := by omega
  have e4 : 62 + n ≠ n * 2 + 1 := by omega
  go_region_held3 (fun w' => w'.rangeAt (w.heap.size + 1) 0 U ∧ w'.cell? ⟨w.heap.size + 1 + 1, 0, none⟩ = some (.int .i64 n) ∧ w'.cell? ⟨w.heap.size + 1 + 1, 1, none⟩ = some (.int .i64 l) ∧ w'.cell? ⟨w.heap.size + 1 + 1, 2, none⟩ = some (.bool false) ∧ w'.cell? ⟨w.heap.size + 1 + 1, 3, none⟩ = some (.bool i) ∧ w'.cell? ⟨w.heap.size + 1 + 1, 4, none⟩ = some (.bool o) ∧ w'.cell? ⟨w.heap.size + 1 + 1, 5, none⟩ = some (.int .u8 v))
    (exact HQQ.out _ (by repeat (first | exact HR1.out | exact rowNext' hb9' HR1.out | (rw [rowAt_drew]; exact HR1.out) | refine setCell_rowOther ?_ _ _ (by omega))) (by repeat (first | exact HR2.out | exact rowNext' hb9' HR2.out | (rw [rowAt_drew]; exact HR2.out) | refine setCell_rowOther ?_ _ _ (by omega))))
    (first | (go_at_call 25; (with_reducible refine (HC.out _).mono ?_); rintro e w9 ⟨rfl, hb9⟩; have hb9' := below9 (w3 := w3) hb9; have r9 := ex_cells HR0.out hb9' h2; have k9 : w9.cell? ⟨w.heap.size, 62 + n, none⟩ = some (.int .i64 (m n)) := (by rw [cell_of_row w9 _ _ _ _ _ (rowNext' hb9' HR0.out), exA_wait t m n h2]); have HL := hid hb9'))
  go_upto_region 19 with fail
  have rf0 : rowAt (((w9.setCell ⟨w.heap.size, n * 2, none⟩ (.int .i64 c1)).setCell ⟨w.heap.size, n * 2 + 1, none⟩ (.int .u8 c2)).setCell ⟨w.heap.size, 62 + n, none⟩ (.int .i64 0)) w.heap.size = some (.cells (exA (upd t n (c1, c2)) (updW m n 0)) 60 (0, 0)) := by
    rw [← exA_updW (upd t n (c1, c2)) m n 0 h2]; exact setCell_rowSame (ex_store HR0.out HL.out h2 c1 c2) _ _
  have rf1 := setCell_rowOther (ex_store_other HR1.out HL.out (g := w.heap.size) (by omega) (n * 2) (n * 2 + 1) (.int .i64 c1) (.int .u8 c2)) (b := w.heap.size) (62 + n) (.int .i64 0) (by omega)
  have rf2 := setCell_rowOther (ex_store_other HR2.out HL.out (g := w.heap.size) (by omega) (n * 2) (n * 2 + 1) (.int .i64 c1) (.int .u8 c2)) (b := w.heap.size) (62 + n) (.int .i64 0) (by omega)
  have rf3 := setCell_rowOther (ex_store_other HR3.out HL.out (g := w.heap.size) (by omega) (n * 2) (n * 2 + 1) (.int .i64 c1) (.int .u8 c2)) (b := w.heap.size) (62 + n) (.int .i64 0) (by omega)
  have HBF := hid ((((below_step HB3.out (by omega) HL.out).setCell (p := ⟨w.heap.size, n * 2, none⟩) (Nat.le_refl _) (.int .i64 c1)).setCell (p := ⟨w.heap.size, n * 2 + 1, none⟩) (Nat.le_refl _) (.int .u8 c2)).setCell (p := ⟨w.heap.size, 62 + n, none⟩) (Nat.le_refl _) (.int .i64 0))
  generalize ((w9.setCell ⟨w.heap.size, n * 2, none⟩ (.int .i64 c1)).setCell ⟨w.heap.size, n * 2 + 1, none⟩ (.int .u8 c2)).setCell ⟨w.heap.size, 62 + n, none⟩ (.int .i64 0) = wz at *
  clear r9 k9 HL hb9 hb9' HQQ HR0 HR1 HR2 HR3 HC hu25 hiU
  have r3_0 : rowAt wz w.heap.size = some (.cells (exA (upd t n (c1, c2)) (updW m n 0)) 60 (0, 0)) := rf0
  have r3_1 : rowAt wz (w.heap.size + 1) = some (.cells (tabA p) 25 (0, 0)) := rf1
  have r3_2 : rowAt wz (w.heap.size + 1 + 1) = some (.cells #[.int .i64 n, .int .i64 l, .bool false, .bool i, .bool o, .int .u8 v] 27 (0, 0)) := rf2
  have r3_3 : rowAt wz (w.heap.size + 1 + 1 + 1) = some (.cells (exA zeroT zeroW) 60 (0, 0)) := rf3
  have cz3 := lt_of_some r3_3
  clear rf0 rf1 rf2 rf3
  obtain ⟨U, hU⟩ : ∃ U : List Value, tabA p = U.toArray := ⟨rows2 31 p, rfl⟩
  have hu25 := Try.underlying25
  have hiU : (Try.prog.info? 25).map (·.size) = some U.length := by rw [sizePrefs, len_of_tab hU]
  have HC : ∀ W, Calls Try.prog 26 #[.agg U.toArray, .agg #[.int .i64 n, .int .i64 l, .bool false, .bool i, .bool o, .int .u8 v]] W fun e w' => e = .returned (.agg #[.int .i64 n, .int .i64 c1, .bool true, .bool i, .bool o, .int .u8 c2]) ∧ Below W.heap.size W w' := by
    intro W; rw [← hU]; exact refAnswer9 H1.out false i o W
  have HC := hid HC
  have q0 : ∀ W : World, rowAt W (w.heap.size) = some (.cells (exA (upd t n (c1, c2)) (updW m n 0)) 60 (0, 0)) → rowAt W (w.heap.size + 1) = some (.cells (tabA p) 25 (0, 0)) → rowAt W (w.heap.size + 1 + 1) = some (.cells #[.int .i64 n, .int .i64 l, .bool false, .bool i, .bool o, .int .u8 v] 27 (0, 0)) → rowAt W (w.heap.size) = some (.cells (exA (upd t n (c1, c2)) (updW m n 0)) 60 (0, 0)) ∧ W.rangeAt (w.heap.size + 1) 0 U ∧ W.cell? ⟨w.heap.size + 1 + 1, 0, none⟩ = some (.int .i64 n) ∧ W.cell? ⟨w.heap.size + 1 + 1, 1, none⟩ = some (.int .i64 l) ∧ W.cell? ⟨w.heap.size + 1 + 1, 2, none⟩ = some (.bool false) ∧ W.cell? ⟨w.heap.size + 1 + 1, 3, none⟩ = some (.bool i) ∧ W.cell? ⟨w.heap.size + 1 + 1, 4, none⟩ = some (.bool o) ∧ W.cell? ⟨w.heap.size + 1 + 1, 5, none⟩ = some (.int .u8 v) := by
    intro W h0 h1 h2
    have y := cells6 h2
    exact ⟨h0, range_of_row h1 hU, y.1, y.2.1, y.2.2.1, y.2.2.2.1, y.2.2.2.2.1, y.2.2.2.2.2.1⟩
  have HQQ := hid q0
  have hneq : w.heap.size ≠ w.heap.size + 1 + 1 + 1 := by omega
  have HR0 := hid r3_0
  have HR1 := hid r3_1
  have HR2 := hid r3_2
  have HR3 : Hid (rowAt wz (w.heap.size + 1 + 1 + 1) = some (.cells (exA zeroT zeroW) 60 (0, 0))) := hid r3_3
  clear q0 hU r3_0 r3_1 r3_2 r3_3
  go_region_held3 (fun w' => rowAt w' (w.heap.size) = some (.cells (exA (upd t n (c1, c2)) (updW m n 0)) 60 (0, 0)) ∧ w'.rangeAt (w.heap.size + 1) 0 U ∧ w'.cell? ⟨w.heap.size + 1 + 1, 0, none⟩ = some (.int .i64 n) ∧ w'.cell? ⟨w.heap.size + 1 + 1, 1, none⟩ = some (.int .i64 l) ∧ w'.cell? ⟨w.heap.size + 1 + 1, 2, none⟩ = some (.bool false) ∧ w'.cell? ⟨w.heap.size + 1 + 1, 3, none⟩ = some (.bool i) ∧ w'.cell? ⟨w.heap.size + 1 + 1, 4, none⟩ = some (.bool o) ∧ w'.cell? ⟨w.heap.size + 1 + 1, 5, none⟩ = some (.int .u8 v))
    (exact HQQ.out _ (by repeat (first | exact HR0.out | exact X0.out | rw [rowAt_drew] | rw [rowAt_putOther _ _ _ _ _ (by omega)] | rw [rowAt_old _ _ _ (by first | omega | (simp [putRow_size, drew_heap] <;> omega))])) (by repeat (first | exact HR1.out | exact X1.out | rw [rowAt_drew] | rw [rowAt_putOther _ _ _ _ _ (by omega)] | rw [rowAt_old _ _ _ (by first | omega | (simp [putRow_size, drew_heap] <;> omega))])) (by repeat (first | exact HR2.out | exact X2.out | rw [rowAt_drew] | rw [rowAt_putOther _ _ _ _ _ (by omega)] | rw [rowAt_old _ _ _ (by first | omega | (simp [putRow_size, drew_heap] <;> omega))])))
    (first | (go_at_call 26; (with_reducible refine (HC.out _).mono ?_); rintro e w9 ⟨rfl, hb9⟩; have x0 := rowNext' hb9 (show rowAt _ (w.heap.size) = some (.cells (exA (upd t n (c1, c2)) (updW m n 0)) 60 (0, 0)) from (by repeat (first | exact HR0.out | rw [rowAt_drew] | rw [rowAt_putOther _ _ _ _ _ (by omega)] | rw [rowAt_old _ _ _ (by first | omega | (simp [putRow_size, drew_heap] <;> omega))]))); have x1 := rowNext' hb9 (show rowAt _ (w.heap.size + 1) = some (.cells (tabA p) 25 (0, 0)) from (by repeat (first | exact HR1.out | rw [rowAt_drew] | rw [rowAt_putOther _ _ _ _ _ (by omega)] | rw [rowAt_old _ _ _ (by first | omega | (simp [putRow_size, drew_heap] <;> omega))]))); have x2 := rowNext' hb9 (show rowAt _ (w.heap.size + 1 + 1) = some (.cells #[.int .i64 n, .int .i64 l, .bool false, .bool i, .bool o, .int .u8 v] 27 (0, 0)) from (by repeat (first | exact HR2.out | rw [rowAt_drew] | rw [rowAt_putOther _ _ _ _ _ (by omega)] | rw [rowAt_old _ _ _ (by first | omega | (simp [putRow_size, drew_heap] <;> omega))]))); have hB9 := hid (below_step (show Below w.heap.size w _ from by first | exact HBF.out.drew | exact (below_putRow HBF.out _ _ _ (by omega)).drew | exact below_putRow HBF.out.drew _ _ _ (by omega)) (by first | omega | (simp [putRow_size, drew_heap] <;> omega)) hb9); have hsz9 := hid hB9.out.size; have X0 := hid x0; have X1 := hid x1; have X2 := hid x2; (first | (have r9 : rowAt w9 (w.heap.size + 1 + 1 + 1) = some (.cells (exA zeroT zeroW) 60 (0, 0)) := rowNext' hb9 (by first | exact HR3.out | (rw [rowAt_drew]; exact HR3.out))) | (have r9 : rowAt w9 (w.heap.size + 1 + 1 + 1) = some (.cells (exA (upd t n (c1, c2)) (updW m n 0)) 60 (0, 0)) := rowNext' hb9 (by first | exact rowAt_put _ _ _ _ cz3 | (rw [rowAt_drew]; exact rowAt_put _ _ _ _ cz3)))); have l9 := lt_of_some r9; clear hb9 x0 x1 x2))
  all_goals go_wp2_with fail
  all_goals exact bodyPost_ret (v := .tuple #[.agg (exA (upd t n (c1, c2)) (updW m n 0)), .slice (some ⟨w9.heap.size, 0, none⟩) 1 1, .int .i64 0]) (results_row_tmp2 Try.results38 _ _ (w.heap.size + 1 + 1 + 1) 60 (exA (upd t n (c1, c2)) (updW m n 0)) (0, 0) _ rfl (by show rowAt _ _ = _; rw [rowAt_old _ _ _ (by first | omega | (simp [putRow_size, drewN_heap, drew_heap] <;> omega)), rowAt_put _ _ _ _ l9]) Try.underlying60 rfl (by rw [exA_size]; exact sizeExch) (.slice (some ⟨w9.heap.size, 0, none⟩) 1 1) (.int .i64 0) rfl rfl) rfl ⟨_, rfl, (by first | exact rowAt_new _ _ _ (by first | omega | (simp [putRow_size, drewN_heap, drew_heap] <;> omega)) | (rw [rowAt_drew]; exact rowAt_new _ _ _ (by first | omega | (simp [putRow_size, drewN_heap, drew_heap] <;> omega)))), hsz9.out, (below_putRow hB9.out _ _ _ (by omega)).alloc (by first | omega | (simp [putRow_size, drewN_heap, drew_heap] <;> omega)) _⟩

end Go.Proofs.Ytjghmgpmaallfaa
