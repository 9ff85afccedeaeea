/-
  linnetref17.Got: what it answers.
-/
import Derived.Test.YtjghmgpmaallfaaEro
import Derived.BigRegion
import Derived.Deep.RegionHeld3
namespace Go.Proofs.Ytjghmgpmaallfaa
open Go.RowKit
set_option linter.unusedVariables false
set_option linter.unusedSimpArgs false

set_option maxHeartbeats 2000000 in
set_option maxRecDepth 100000 in
theorem rgot_low (t : Tb) (m : Wt) (p : Tb) (b : Bool) (f l v : Int) (i o : Bool) (c1 c2 : Int) (hf : f < 1) (HX : Hid (MayIs t m true)) (HP : Hid (decide (tabOk p) = true)) (HT : Hid (decide (trOk f l) = true)) (H1 : Hid (settle p f l v = ((c1, c2), 0))) (w : World) :
    Calls Try.prog 38 #[.agg (exA t m), .agg (tabA p), .bool b, .agg #[.int .i64 f, .int .i64 l, .bool false, .bool i, .bool o, .int .u8 v]] w fun e w' => ∃ g, e = .returned (.tuple #[.agg (exA t m), .slice (some ⟨g, 0, none⟩) 1 1, .int .i64 0]) ∧ rowAt w' g = some (.cells #[.int .i64 f, .int .i64 c1, .bool true, .bool i, .bool o, .int .u8 c2] 27 (0, 0)) ∧ w.heap.size ≤ g ∧ Below w.heap.size w w' := by
  have d9 : decide ((1 : Int) ≤ f) = false := by simp; omega
  go_enter Try.func38, Try.ntmps38
  go_wp2_with fail
  refine (refMay17_is HX.out _).mono ?_
  rintro e w1 ⟨rfl, hb1⟩
  have HB1 := hid (below_step (((((Below.refl w.heap.size w).alloc (by first | omega | (simp [putRow_size, drewN_heap, drew_heap] <;> omega)) _).alloc (by first | omega | (simp [putRow_size, drewN_heap, drew_heap] <;> omega)) _).alloc (by first | omega | (simp [putRow_size, drewN_heap, drew_heap] <;> omega)) _).alloc (by first | omega | (simp [putRow_size, drewN_heap, drew_heap] <;> omega)) _) (by first | omega | (simp [putRow_size, drewN_heap, drew_heap] <;> omega)) hb1)
  have hs1 : w.heap.size ≤ w1.heap.size := HB1.out.size
  have r1_0 : rowAt w1 (w.heap.size) = some (.cells (exA t m) 60 (0, 0)) := rowNext' hb1 (by rw [rowAt_old _ _ _ (by first | omega | (simp [putRow_size, drewN_heap, drew_heap] <;> omega)), rowAt_old _ _ _ (by first | omega | (simp [putRow_size, drewN_heap, drew_heap] <;> omega)), rowAt_old _ _ _ (by first | omega | (simp [putRow_size, drewN_heap, drew_heap] <;> omega)), rowAt_new _ _ _ (by first | omega | (simp [putRow_size, drewN_heap, drew_heap] <;> omega))])
  have c1_0 := lt_of_some r1_0
  have r1_1 : rowAt w1 (w.heap.size + 1) = some (.cells (tabA p) 25 (0, 0)) := rowNext' hb1 (by rw [rowAt_old _ _ _ (by first | omega | (simp [putRow_size, drewN_heap, drew_heap] <;> omega)), rowAt_old _ _ _ (by first | omega | (simp [putRow_size, drewN_heap, drew_heap] <;> omega)), rowAt_new _ _ _ (by first | omega | (simp [putRow_size, drewN_heap, drew_heap] <;> omega))])
  have c1_1 := lt_of_some r1_1
  have r1_2 : rowAt w1 (w.heap.size + 1 + 1) = some (.cells #[.int .i64 f, .int .i64 l, .bool false, .bool i, .bool o, .int .u8 v] 27 (0, 0)) := rowNext' hb1 (by rw [rowAt_old _ _ _ (by first | omega | (simp [putRow_size, drewN_heap, drew_heap] <;> omega)), rowAt_new _ _ _ (by first | omega | (simp [putRow_size, drewN_heap, drew_heap] <;> omega))])
  have c1_2 := cells6 r1_2
  have r1_3 : rowAt w1 (w.heap.size + 1 + 1 + 1) = some (.cells (exA zeroT zeroW) 60 (0, 0)) := rowNext' hb1 (by rw [rowAt_new _ _ _ (by first | omega | (simp [putRow_size, drewN_heap, drew_heap] <;> omega))])
  have c1_3 := lt_of_some r1_3
  go_wp2_with fail
  refine (refMay9_eq HP.out _).mono ?_
  rintro e w2 ⟨rfl, hb2⟩
  have HB2 := hid (below_step HB1.out (by first | omega | (simp [putRow_size, drewN_heap, drew_heap] <;> omega)) hb2)
  have hs2 : w.heap.size ≤ w2.heap.size := HB2.out.size
  have r2_0 : rowAt w2 (w.heap.size) = some (.cells (exA t m) 60 (0, 0)) := rowNext' hb2 r1_0
  have c2_0 := lt_of_some r2_0
  have r2_1 : rowAt w2 (w.heap.size + 1) = some (.cells (tabA p) 25 (0, 0)) := rowNext' hb2 r1_1
  have c2_1 := lt_of_some r2_1
  have r2_2 : rowAt w2 (w.heap.size + 1 + 1) = some (.cells #[.int .i64 f, .int .i64 l, .bool false, .bool i, .bool o, .int .u8 v] 27 (0, 0)) := rowNext' hb2 r1_2
  have c2_2 := cells6 r2_2
  have r2_3 : rowAt w2 (w.heap.size + 1 + 1 + 1) = some (.cells (exA zeroT zeroW) 60 (0, 0)) := rowNext' hb2 r1_3
  have c2_3 := lt_of_some r2_3
  clear r1_0 c1_0 r1_1 c1_1 r1_2 c1_2 r1_3 c1_3 hb1 HB1 hs1
  go_wp2_with fail
  refine (refMay7_eq HT.out false i o v _).mono ?_
  rintro e w3 ⟨rfl, hb3⟩
  have HB3 := hid (below_step HB2.out (by first | omega | (simp [putRow_size, drewN_heap, drew_heap] <;> omega)) hb3)
  have hs3 : w.heap.size ≤ w3.heap.size := HB3.out.size
  have r3_0 : rowAt w3 (w.heap.size) = some (.cells (exA t m) 60 (0, 0)) := rowNext' hb3 r2_0
  have c3_0 := lt_of_some r3_0
  have r3_1 : rowAt w3 (w.heap.size + 1) = some (.cells (tabA p) 25 (0, 0)) := rowNext' hb3 r2_1
  have c3_1 := lt_of_some r3_1
  have r3_2 : rowAt w3 (w.heap.size + 1 + 1) = some (.cells #[.int .i64 f, .int .i64 l, .bool false, .bool i, .bool o, .int .u8 v] 27 (0, 0)) := rowNext' hb3 r2_2
  have c3_2 := cells6 r3_2
  have r3_3 : rowAt w3 (w.heap.size + 1 + 1 + 1) = some (.cells (exA zeroT zeroW) 60 (0, 0)) := rowNext' hb3 r2_3
  have c3_3 := lt_of_some r3_3
  clear r2_0 c2_0 r2_1 c2_1 r2_2 c2_2 r2_3 c2_3 hb2 HB2 hs2
  go_upto_region 19 with fail
  obtain ⟨U, hU⟩ : ∃ U : List Value, tabA p = U.toArray := ⟨rows2 31 p, rfl⟩
  have hu25 := Try.underlying25
  have hiU : (Try.prog.info? 25).map (·.size) = some U.length := by rw [sizePrefs, len_of_tab hU]
  have HC : ∀ W, Calls Try.prog 26 #[.agg U.toArray, .agg #[.int .i64 f, .int .i64 l, .bool false, .bool i, .bool o, .int .u8 v]] W fun e w' => e = .returned (.agg #[.int .i64 f, .int .i64 c1, .bool true, .bool i, .bool o, .int .u8 c2]) ∧ Below W.heap.size W w' := by
    intro W; rw [← hU]; exact refAnswer9 H1.out false i o W
  have HC := hid HC
  have q0 : ∀ W : World, rowAt W (w.heap.size) = some (.cells (exA t m) 60 (0, 0)) → rowAt W (w.heap.size + 1) = some (.cells (tabA p) 25 (0, 0)) → rowAt W (w.heap.size + 1 + 1) = some (.cells #[.int .i64 f, .int .i64 l, .bool false, .bool i, .bool o, .int .u8 v] 27 (0, 0)) → rowAt W (w.heap.size) = some (.cells (exA t m) 60 (0, 0)) ∧ W.rangeAt (w.heap.size + 1) 0 U ∧ W.cell? ⟨w.heap.size + 1 + 1, 0, none⟩ = some (.int .i64 f) ∧ W.cell? ⟨w.heap.size + 1 + 1, 1, none⟩ = some (.int .i64 l) ∧ W.cell? ⟨w.heap.size + 1 + 1, 2, none⟩ = some (.bool false) ∧ W.cell? ⟨w.heap.size + 1 + 1, 3, none⟩ = some (.bool i) ∧ W.cell? ⟨w.heap.size + 1 + 1, 4, none⟩ = some (.bool o) ∧ W.cell? ⟨w.heap.size + 1 + 1, 5, none⟩ = some (.int .u8 v) := by
    intro W h0 h1 h2
    have y := cells6 h2
    exact ⟨h0, range_of_row h1 hU, y.1, y.2.1, y.2.2.1, y.2.2.2.1, y.2.2.2.2.1, y.2.2.2.2.2.1⟩
  have HQQ := hid q0
  have hneq : w.heap.size ≠ w.heap.size + 1 + 1 + 1 := by omega
  have HR0 := hid r3_0
  have HR1 := hid r3_1
  have HR2 := hid r3_2
  have HR3 : Hid (rowAt w3 (w.heap.size + 1 + 1 + 1) = some (.cells (exA zeroT zeroW) 60 (0, 0))) := hid r3_3
  clear q0 hU r3_0 r3_1 r3_2 r3_3 c3_0 c3_1 c3_2 hb3
  go_region_held3 (fun w' => rowAt w' (w.heap.size) = some (.cells (exA t m) 60 (0, 0)) ∧ w'.rangeAt (w.heap.size + 1) 0 U ∧ w'.cell? ⟨w.heap.size + 1 + 1, 0, none⟩ = some (.int .i64 f) ∧ w'.cell? ⟨w.heap.size + 1 + 1, 1, none⟩ = some (.int .i64 l) ∧ w'.cell? ⟨w.heap.size + 1 + 1, 2, none⟩ = some (.bool false) ∧ w'.cell? ⟨w.heap.size + 1 + 1, 3, none⟩ = some (.bool i) ∧ w'.cell? ⟨w.heap.size + 1 + 1, 4, none⟩ = some (.bool o) ∧ w'.cell? ⟨w.heap.size + 1 + 1, 5, none⟩ = some (.int .u8 v))
    (exact HQQ.out _ (by repeat (first | exact HR0.out | exact X0.out | rw [rowAt_drew] | rw [rowAt_putOther _ _ _ _ _ (by omega)] | rw [rowAt_old _ _ _ (by first | omega | (simp [putRow_size, drew_heap] <;> omega))])) (by repeat (first | exact HR1.out | exact X1.out | rw [rowAt_drew] | rw [rowAt_putOther _ _ _ _ _ (by omega)] | rw [rowAt_old _ _ _ (by first | omega | (simp [putRow_size, drew_heap] <;> omega))])) (by repeat (first | exact HR2.out | exact X2.out | rw [rowAt_drew] | rw [rowAt_putOther _ _ _ _ _ (by omega)] | rw [rowAt_old _ _ _ (by first | omega | (simp [putRow_size, drew_heap] <;> omega))])))
    (first | (go_at_call 26; (with_reducible refine (HC.out _).mono ?_); rintro e w9 ⟨rfl, hb9⟩; have x0 := rowNext' hb9 (show rowAt _ (w.heap.size) = some (.cells (exA t m) 60 (0, 0)) from (by repeat (first | exact HR0.out | rw [rowAt_drew] | rw [rowAt_putOther _ _ _ _ _ (by omega)] | rw [rowAt_old _ _ _ (by first | omega | (simp [putRow_size, drew_heap] <;> omega))]))); have x1 := rowNext' hb9 (show rowAt _ (w.heap.size + 1) = some (.cells (tabA p) 25 (0, 0)) from (by repeat (first | exact HR1.out | rw [rowAt_drew] | rw [rowAt_putOther _ _ _ _ _ (by omega)] | rw [rowAt_old _ _ _ (by first | omega | (simp [putRow_size, drew_heap] <;> omega))]))); have x2 := rowNext' hb9 (show rowAt _ (w.heap.size + 1 + 1) = some (.cells #[.int .i64 f, .int .i64 l, .bool false, .bool i, .bool o, .int .u8 v] 27 (0, 0)) from (by repeat (first | exact HR2.out | rw [rowAt_drew] | rw [rowAt_putOther _ _ _ _ _ (by omega)] | rw [rowAt_old _ _ _ (by first | omega | (simp [putRow_size, drew_heap] <;> omega))]))); have hB9 := hid (below_step (show Below w.heap.size w _ from by first | exact HB3.out.drew | exact (below_putRow HB3.out _ _ _ (by omega)).drew | exact below_putRow HB3.out.drew _ _ _ (by omega)) (by first | omega | (simp [putRow_size, drew_heap] <;> omega)) hb9); have hsz9 := hid hB9.out.size; have X0 := hid x0; have X1 := hid x1; have X2 := hid x2; (first | (have r9 : rowAt w9 (w.heap.size + 1 + 1 + 1) = some (.cells (exA zeroT zeroW) 60 (0, 0)) := rowNext' hb9 (by first | exact HR3.out | (rw [rowAt_drew]; exact HR3.out))) | (have r9 : rowAt w9 (w.heap.size + 1 + 1 + 1) = some (.cells (exA t m) 60 (0, 0)) := rowNext' hb9 (by first | exact rowAt_put _ _ _ _ c3_3 | (rw [rowAt_drew]; exact rowAt_put _ _ _ _ c3_3)))); have l9 := lt_of_some r9; clear hb9 x0 x1 x2))
  all_goals go_wp2_with fail
  all_goals exact bodyPost_ret (v := .tuple #[.agg (exA t m), .slice (some ⟨w9.heap.size, 0, none⟩) 1 1, .int .i64 0]) (results_row_tmp2 Try.results38 _ _ (w.heap.size + 1 + 1 + 1) 60 (exA t m) (0, 0) _ rfl (by show rowAt _ _ = _; rw [rowAt_old _ _ _ (by first | omega | (simp [putRow_size, drewN_heap, drew_heap] <;> omega)), rowAt_put _ _ _ _ l9]) Try.underlying60 rfl (by rw [exA_size]; exact sizeExch) (.slice (some ⟨w9.heap.size, 0, none⟩) 1 1) (.int .i64 0) rfl rfl) rfl ⟨_, rfl, (by first | exact rowAt_new _ _ _ (by first | omega | (simp [putRow_size, drewN_heap, drew_heap] <;> omega)) | (rw [rowAt_drew]; exact rowAt_new _ _ _ (by first | omega | (simp [putRow_size, drewN_heap, drew_heap] <;> omega)))), hsz9.out, (below_putRow hB9.out _ _ _ (by omega)).alloc (by first | omega | (simp [putRow_size, drewN_heap, drew_heap] <;> omega)) _⟩

set_option maxHeartbeats 2000000 in
set_option maxRecDepth 100000 in
theorem rgot_high (t : Tb) (m : Wt) (p : Tb) (b : Bool) (f l v : Int) (i o : Bool) (c1 c2 : Int) (hf : ¬ f < 1) (hg : 30 < f) (HX : Hid (MayIs t m true)) (HP : Hid (decide (tabOk p) = true)) (HT : Hid (decide (trOk f l) = true)) (H1 : Hid (settle p f l v = ((c1, c2), 0))) (w : World) :
    Calls Try.prog 38 #[.agg (exA t m), .agg (tabA p), .bool b, .agg #[.int .i64 f, .int .i64 l, .bool false, .bool i, .bool o, .int .u8 v]] w fun e w' => ∃ g, e = .returned (.tuple #[.agg (exA t m), .slice (some ⟨g, 0, none⟩) 1 1, .int .i64 0]) ∧ rowAt w' g = some (.cells #[.int .i64 f, .int .i64 c1, .bool true, .bool i, .bool o, .int .u8 c2] 27 (0, 0)) ∧ w.heap.size ≤ g ∧ Below w.heap.size w w' := by
  have d9 : decide ((1 : Int) ≤ f) = true := by simp; omega
  have d8 : decide (f ≤ 30) = false := by simp; omega
  go_enter Try.func38, Try.ntmps38
  go_wp2_with fail
  refine (refMay17_is HX.out _).mono ?_
  rintro e w1 ⟨rfl, hb1⟩
  have HB1 := hid (below_step (((((Below.refl w.heap.size w).alloc (by first | omega | (simp [putRow_size, drewN_heap, drew_heap] <;> omega)) _).alloc (by first | omega | (simp [putRow_size, drewN_heap, drew_heap] <;> omega)) _).alloc (by first | omega | (simp [putRow_size, drewN_heap, drew_heap] <;> omega)) _).alloc (by first | omega | (simp [putRow_size, drewN_heap, drew_heap] <;> omega)) _) (by first | omega | (simp [putRow_size, drewN_heap, drew_heap] <;> omega)) hb1)
  have hs1 : w.heap.size ≤ w1.heap.size := HB1.out.size
  have r1_0 : rowAt w1 (w.heap.size) = some (.cells (exA t m) 60 (0, 0)) := rowNext' hb1 (by rw [rowAt_old _ _ _ (by first | omega | (simp [putRow_size, drewN_heap, drew_heap] <;> omega)), rowAt_old _ _ _ (by first | omega | (simp [putRow_size, drewN_heap, drew_heap] <;> omega)), rowAt_old _ _ _ (by first | omega | (simp [putRow_size, drewN_heap, drew_heap] <;> omega)), rowAt_new _ _ _ (by first | omega | (simp [putRow_size, drewN_heap, drew_heap] <;> omega))])
  have c1_0 := lt_of_some r1_0
  have r1_1 : rowAt w1 (w.heap.size + 1) = some (.cells (tabA p) 25 (0, 0)) := rowNext' hb1 (by rw [rowAt_old _ _ _ (by first | omega | (simp [putRow_size, drewN_heap, drew_heap] <;> omega)), rowAt_old _ _ _ (by first | omega | (simp [putRow_size, drewN_heap, drew_heap] <;> omega)), rowAt_new _ _ _ (by first | omega | (simp [putRow_size, drewN_heap, drew_heap] <;> omega))])
  have c1_1 := lt_of_some r1_1
  have r1_2 : rowAt w1 (w.heap.size + 1 + 1) = some (.cells #[.int .i64 f, .int .i64 l, .bool false, .bool i, .bool o, .int .u8 v] 27 (0, 0)) := rowNext' hb1 (by rw [rowAt_old _ _ _ (by first | omega | (simp [putRow_size, drewN_heap, drew_heap] <;> omega)), rowAt_new _ _ _ (by first | omega | (simp [putRow_size, drewN_heap, drew_heap] <;> omega))])
  have c1_2 := cells6 r1_2
  have r1_3 : rowAt w1 (w.heap.size + 1 + 1 + 1) = some (.cells (exA zeroT zeroW) 60 (0, 0)) := rowNext' hb1 (by rw [rowAt_new _ _ _ (by first | omega | (simp [putRow_size, drewN_heap, drew_heap] <;> omega))])
  have c1_3 := lt_of_some r1_3
  go_wp2_with fail
  refine (refMay9_eq HP.out _).mono ?_
  rintro e w2 ⟨rfl, hb2⟩
  have HB2 := hid (below_step HB1.out (by first | omega | (simp [putRow_size, drewN_heap, drew_heap] <;> omega)) hb2)
  have hs2 : w.heap.size ≤ w2.heap.size := HB2.out.size
  have r2_0 : rowAt w2 (w.heap.size) = some (.cells (exA t m) 60 (0, 0)) := rowNext' hb2 r1_0
  have c2_0 := lt_of_some r2_0
  have r2_1 : rowAt w2 (w.heap.size + 1) = some (.cells (tabA p) 25 (0, 0)) := rowNext' hb2 r1_1
  have c2_1 := lt_of_some r2_1
  have r2_2 : rowAt w2 (w.heap.size + 1 + 1) = some (.cells #[.int .i64 f, .int .i64 l, .bool false, .bool i, .bool o, .int .u8 v] 27 (0, 0)) := rowNext' hb2 r1_2
  have c2_2 := cells6 r2_2
  have r2_3 : rowAt w2 (w.heap.size + 1 + 1 + 1) = some (.cells (exA zeroT zeroW) 60 (0, 0)) := rowNext' hb2 r1_3
  have c2_3 := lt_of_some r2_3
  clear r1_0 c1_0 r1_1 c1_1 r1_2 c1_2 r1_3 c1_3 hb1 HB1 hs1
  go_wp2_with fail
  refine (refMay7_eq HT.out false i o v _).mono ?_
  rintro e w3 ⟨rfl, hb3⟩
  have HB3 := hid (below_step HB2.out (by first | omega | (simp [putRow_size, drewN_heap, drew_heap] <;> omega)) hb3)
  have hs3 : w.heap.size ≤ w3.heap.size := HB3.out.size
  have r3_0 : rowAt w3 (w.heap.size) = some (.cells (exA t m) 60 (0, 0)) := rowNext' hb3 r2_0
  have c3_0 := lt_of_some r3_0
  have r3_1 : rowAt w3 (w.heap.size + 1) = some (.cells (tabA p) 25 (0, 0)) := rowNext' hb3 r2_1
  have c3_1 := lt_of_some r3_1
  have r3_2 : rowAt w3 (w.heap.size + 1 + 1) = some (.cells #[.int .i64 f, .int .i64 l, .bool false, .bool i, .bool o, .int .u8 v] 27 (0, 0)) := rowNext' hb3 r2_2
  have c3_2 := cells6 r3_2
  have r3_3 : rowAt w3 (w.heap.size + 1 + 1 + 1) = some (.cells (exA zeroT zeroW) 60 (0, 0)) := rowNext' hb3 r2_3
  have c3_3 := lt_of_some r3_3
  clear r2_0 c2_0 r2_1 c2_1 r2_2 c2_2 r2_3 c2_3 hb2 HB2 hs2
  go_upto_region 19 with fail
  obtain ⟨U, hU⟩ : ∃ U : List Value, tabA p = U.toArray := ⟨rows2 31 p, rfl⟩
  have hu25 := Try.underlying25
  have hiU : (Try.prog.info? 25).map (·.size) = some U.length := by rw [sizePrefs, len_of_tab hU]
  have HC : ∀ W, Calls Try.prog 26 #[.agg U.toArray, .agg #[.int .i64 f, .int .i64 l, .bool false, .bool i, .bool o, .int .u8 v]] W fun e w' => e = .returned (.agg #[.int .i64 f, .int .i64 c1, .bool true, .bool i, .bool o, .int .u8 c2]) ∧ Below W.heap.size W w' := by
    intro W; rw [← hU]; exact refAnswer9 H1.out false i o W
  have HC := hid HC
  have q0 : ∀ W : World, rowAt W (w.heap.size) = some (.cells (exA t m) 60 (0, 0)) → rowAt W (w.heap.size + 1) = some (.cells (tabA p) 25 (0, 0)) → rowAt W (w.heap.size + 1 + 1) = some (.cells #[.int .i64 f, .int .i64 l, .bool false, .bool i, .bool o, .int .u8 v] 27 (0, 0)) → rowAt W (w.heap.size) = some (.cells (exA t m) 60 (0, 0)) ∧ W.rangeAt (w.heap.size + 1) 0 U ∧ W.cell? ⟨w.heap.size + 1 + 1, 0, none⟩ = some (.int .i64 f) ∧ W.cell? ⟨w.heap.size + 1 + 1, 1, none⟩ = some (.int .i64 l) ∧ W.cell? ⟨w.heap.size + 1 + 1, 2, none⟩ = some (.bool false) ∧ W.cell? ⟨w.heap.size + 1 + 1, 3, none⟩ = some (.bool i) ∧ W.cell? ⟨w.heap.size + 1 + 1, 4, none⟩ = some (.bool o) ∧ W.cell? ⟨w.heap.size + 1 + 1, 5, none⟩ = some (.int .u8 v) := by
    intro W h0 h1 h2
    have y := cells6 h2
    exact ⟨h0, range_of_row h1 hU, y.1, y.2.1, y.2.2.1, y.2.2.2.1, y.2.2.2.2.1, y.2.2.2.2.2.1⟩
  have HQQ := hid q0
  have hneq : w.heap.size ≠ w.heap.size + 1 + 1 + 1 := by omega
  have HR0 := hid r3_0
  have HR1 := hid r3_1
  have HR2 := hid r3_2
  have HR3 : Hid (rowAt w3 (w.heap.size + 1 + 1 + 1) = some (.cells (exA zeroT zeroW) 60 (0, 0))) := hid r3_3
  clear q0 hU r3_0 r3_1 r3_2 r3_3 c3_0 c3_1 c3_2 hb3
  go_region_held3 (fun w' => rowAt w' (w.heap.size) = some (.cells (exA t m) 60 (0, 0)) ∧ w'.rangeAt (w.heap.size + 1) 0 U ∧ w'.cell? ⟨w.heap.size + 1 + 1, 0, none⟩ = some (.int .i64 f) ∧ w'.cell? ⟨w.heap.size + 1 + 1, 1, none⟩ = some (.int .i64 l) ∧ w'.cell? ⟨w.heap.size + 1 + 1, 2, none⟩ = some (.bool false) ∧ w'.cell? ⟨w.heap.size + 1 + 1, 3, none⟩ = some (.bool i) ∧ w'.cell? ⟨w.heap.size + 1 + 1, 4, none⟩ = some (.bool o) ∧ w'.cell? ⟨w.heap.size + 1 + 1, 5, none⟩ = some (.int .u8 v))
    (exact HQQ.out _ (by repeat (first | exact HR0.out | exact X0.out | rw [rowAt_drew] | rw [rowAt_putOther _ _ _ _ _ (by omega)] | rw [rowAt_old _ _ _ (by first | omega | (simp [putRow_size, drew_heap] <;> omega))])) (by repeat (first | exact HR1.out | exact X1.out | rw [rowAt_drew] | rw [rowAt_putOther _ _ _ _ _ (by omega)] | rw [rowAt_old _ _ _ (by first | omega | (simp [putRow_size, drew_heap] <;> omega))])) (by repeat (first | exact HR2.out | exact X2.out | rw [rowAt_drew] | rw [rowAt_putOther _ _ _ _ _ (by omega)] | rw [rowAt_old _ _ _ (by first | omega | (simp [putRow_size, drew_heap] <;> omega))])))
    (first | (go_at_call 26; (with_reducible refine (HC.out _).mono ?_); rintro e w9 ⟨rfl, hb9⟩; have x0 := rowNext' hb9 (show rowAt _ (w.heap.size) = some (.cells (exA t m) 60 (0, 0)) from (by repeat (first | exact HR0.out | rw [rowAt_drew] | rw [rowAt_putOther _ _ _ _ _ (by omega)] | rw [rowAt_old _ _ _ (by first | omega | (simp [putRow_size, drew_heap] <;> omega))]))); have x1 := rowNext' hb9 (show rowAt _ (w.heap.size + 1) = some (.cells (tabA p) 25 (0, 0)) from (by repeat (first | exact HR1.out | rw [rowAt_drew] | rw [rowAt_putOther _ _ _ _ _ (by omega)] | rw [rowAt_old _ _ _ (by first | omega | (simp [putRow_size, drew_heap] <;> omega))]))); have x2 := rowNext' hb9 (show rowAt _ (w.heap.size + 1 + 1) = some (.cells #[.int .i64 f, .int .i64 l, .bool false, .bool i, .bool o, .int .u8 v] 27 (0, 0)) from (by repeat (first | exact HR2.out | rw [rowAt_drew] | rw [rowAt_putOther _ _ _ _ _ (by omega)] | rw [rowAt_old _ _ _ (by first | omega | (simp [putRow_size, drew_heap] <;> omega))]))); have hB9 := hid (below_step (show Below w.heap.size w _ from by first | exact HB3.out.drew | exact (below_putRow HB3.out _ _ _ (by omega)).drew | exact below_putRow HB3.out.drew _ _ _ (by omega)) (by first | omega | (simp [putRow_size, drew_heap] <;> omega)) hb9); have hsz9 := hid hB9.out.size; have X0 := hid x0; have X1 := hid x1; have X2 := hid x2; (first | (have r9 : rowAt w9 (w.heap.size + 1 + 1 + 1) = some (.cells (exA zeroT zeroW) 60 (0, 0)) := rowNext' hb9 (by first | exact HR3.out | (rw [rowAt_drew]; exact HR3.out))) | (have r9 : rowAt w9 (w.heap.size + 1 + 1 + 1) = some (.cells (exA t m) 60 (0, 0)) := rowNext' hb9 (by first | exact rowAt_put _ _ _ _ c3_3 | (rw [rowAt_drew]; exact rowAt_put _ _ _ _ c3_3)))); have l9 := lt_of_some r9; clear hb9 x0 x1 x2))
  all_goals go_wp2_with fail
  all_goals exact bodyPost_ret (v := .tuple #[.agg (exA t m), .slice (some ⟨w9.heap.size, 0, none⟩) 1 1, .int .i64 0]) (results_row_tmp2 Try.results38 _ _ (w.heap.size + 1 + 1 + 1) 60 (exA t m) (0, 0) _ rfl (by show rowAt _ _ = _; rw [rowAt_old _ _ _ (by first | omega | (simp [putRow_size, drewN_heap, drew_heap] <;> omega)), rowAt_put _ _ _ _ l9]) Try.underlying60 rfl (by rw [exA_size]; exact sizeExch) (.slice (some ⟨w9.heap.size, 0, none⟩) 1 1) (.int .i64 0) rfl rfl) rfl ⟨_, rfl, (by first | exact rowAt_new _ _ _ (by first | omega | (simp [putRow_size, drewN_heap, drew_heap] <;> omega)) | (rw [rowAt_drew]; exact rowAt_new _ _ _ (by first | omega | (simp [putRow_size, drewN_heap, drew_heap] <;> omega)))), hsz9.out, (below_putRow hB9.out _ _ _ (by omega)).alloc (by first | omega | (simp [putRow_size, drewN_heap, drew_heap] <;> omega)) _⟩

end Go.Proofs.Ytjghmgpmaallfaa
