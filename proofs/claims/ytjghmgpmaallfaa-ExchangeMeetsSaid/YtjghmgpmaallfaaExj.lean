/-
  exchange.Got: a proposal that is heard.
-/
import Derived.Test.YtjghmgpmaallfaaAns
import Derived.Test.YtjghmgpmaallfaaExi
import Derived.BigRegion
namespace Go.Proofs.Ytjghmgpmaallfaa
open Go.RowKit
set_option linter.unusedVariables false
set_option linter.unusedSimpArgs false

attribute [local go_sem] nilServer nilClient methServer methClient
set_option maxHeartbeats 2000000 in
set_option maxRecDepth 100000 in
theorem got_heard_s (t : Tb) (m : Wt) (p : Tb) (n : Nat) (h1 : 1 ≤ n) (h2 : n < 31) (l v : Int) (i o : Bool) (c1 c2 d1 d2 : Int) (H1 : Hid (settle p n l v = ((c1, c2), 0))) (HX : Hid (exErr t m = 0)) (HM : Hid (m n = 0)) (HD : Hid (toldC c1 c2 = (d1, d2))) (w : World) :
    Calls Try.prog 31 #[.agg (exA t m), .agg (tabA p), .bool true, .agg #[.int .i64 n, .int .i64 l, .bool false, .bool i, .bool o, .int .u8 v]] w fun e w' => ∃ g, e = .returned (.tuple #[.agg (exA (upd t n (d1, d2)) (updW m n 0)), .slice (some ⟨g, 0, none⟩) 1 1, .int .i64 0]) ∧ rowAt w' g = some (.cells #[.int .i64 n, .int .i64 c1, .bool true, .bool i, .bool o, .int .u8 c2] 27 (0, 0)) ∧ w.heap.size ≤ g ∧ Below w.heap.size w w' := by
  have HF := hid (show isF n = true from by unfold isF; simp; omega)
  have HT : Hid (∀ W, Calls Try.prog 46 #[.agg #[.int .i64 n, .int .i64 c1, .bool true, .bool i, .bool o, .int .u8 c2]] W fun e w' => e = .returned (.agg #[.int .i64 d1, .int .u8 d2]) ∧ Below W.heap.size W w') := by
    intro W; have := exTold n c1 c2 true i o W; rw [HD.out] at this; exact this
  go_enter Try.func31, Try.ntmps31
  go_wp2_with fail
  refine (answer_ok _ _ _ _ false i o _ _ H1 _).mono ?_
  rintro e w1 ⟨rfl, hb1⟩
  have HB1 := hid (below_step (((((Below.refl w.heap.size w).alloc (by first | omega | (simp [putRow_size, drewN_heap, drew_heap] <;> omega)) _).alloc (by first | omega | (simp [putRow_size, drewN_heap, drew_heap] <;> omega)) _).alloc (by first | omega | (simp [putRow_size, drewN_heap, drew_heap] <;> omega)) _).alloc (by first | omega | (simp [putRow_size, drewN_heap, drew_heap] <;> omega)) _) (by first | omega | (simp [putRow_size, drewN_heap, drew_heap] <;> omega)) hb1)
  have hs1 : w.heap.size ≤ w1.heap.size := HB1.out.size
  have r1_0 : rowAt w1 (w.heap.size) = some (.cells (exA t m) 60 (0, 0)) := rowNext' hb1 (by rw [rowAt_old _ _ _ (by first | omega | (simp [putRow_size, drewN_heap, drew_heap] <;> omega)), rowAt_old _ _ _ (by first | omega | (simp [putRow_size, drewN_heap, drew_heap] <;> omega)), rowAt_old _ _ _ (by first | omega | (simp [putRow_size, drewN_heap, drew_heap] <;> omega)), rowAt_new _ _ _ (by first | omega | (simp [putRow_size, drewN_heap, drew_heap] <;> omega))])
  have c1_0 := lt_of_some r1_0
  have r1_1 : rowAt w1 (w.heap.size + 1) = some (.cells (tabA p) 25 (0, 0)) := rowNext' hb1 (by rw [rowAt_old _ _ _ (by first | omega | (simp [putRow_size, drewN_heap, drew_heap] <;> omega)), rowAt_old _ _ _ (by first | omega | (simp [putRow_size, drewN_heap, drew_heap] <;> omega)), rowAt_new _ _ _ (by first | omega | (simp [putRow_size, drewN_heap, drew_heap] <;> omega))])
  have c1_1 := lt_of_some r1_1
  have r1_2 : rowAt w1 (w.heap.size + 1 + 1) = some (.cells #[.int .i64 n, .int .i64 l, .bool false, .bool i, .bool o, .int .u8 v] 27 (0, 0)) := rowNext' hb1 (by rw [rowAt_old _ _ _ (by first | omega | (simp [putRow_size, drewN_heap, drew_heap] <;> omega)), rowAt_new _ _ _ (by first | omega | (simp [putRow_size, drewN_heap, drew_heap] <;> omega))])
  have c1_2 := cells6 r1_2
  have r1_3 : rowAt w1 (w.heap.size + 1 + 1 + 1) = some (.cells (exA zeroT zeroW) 60 (0, 0)) := rowNext' hb1 (by rw [rowAt_new _ _ _ (by first | omega | (simp [putRow_size, drewN_heap, drew_heap] <;> omega))])
  have c1_3 := lt_of_some r1_3
  have hne1 : w1.heap.size ≠ w.heap.size + 1 + 1 + 1 := by omega
  have hne2 : w.heap.size + 1 + 1 + 1 ≠ w1.heap.size := by omega
  have hne3 : w.heap.size ≠ w.heap.size + 1 + 1 + 1 := by omega
  have hne4 : w1.heap.size ≠ w.heap.size := by omega
  go_wp2_with fail
  refine (exCheck_eq HX.out _).mono ?_
  rintro e w2 ⟨rfl, hb2⟩
  have HB2 := hid (below_step (HB1.out.alloc (by first | omega | (simp [putRow_size, drewN_heap, drew_heap] <;> omega)) _) (by first | omega | (simp [putRow_size, drewN_heap, drew_heap] <;> omega)) hb2)
  have hs2 : w.heap.size ≤ w2.heap.size := HB2.out.size
  have r2_0 : rowAt w2 (w.heap.size) = some (.cells (exA t m) 60 (0, 0)) := rowNext' hb2 (by rw [rowAt_old _ _ _ (by first | omega | (simp [putRow_size, drewN_heap, drew_heap] <;> omega))]; exact r1_0)
  have c2_0 := lt_of_some r2_0
  have r2_1 : rowAt w2 (w.heap.size + 1) = some (.cells (tabA p) 25 (0, 0)) := rowNext' hb2 (by rw [rowAt_old _ _ _ (by first | omega | (simp [putRow_size, drewN_heap, drew_heap] <;> omega))]; exact r1_1)
  have c2_1 := lt_of_some r2_1
  have r2_2 : rowAt w2 (w.heap.size + 1 + 1) = some (.cells #[.int .i64 n, .int .i64 l, .bool false, .bool i, .bool o, .int .u8 v] 27 (0, 0)) := rowNext' hb2 (by rw [rowAt_old _ _ _ (by first | omega | (simp [putRow_size, drewN_heap, drew_heap] <;> omega))]; exact r1_2)
  have c2_2 := cells6 r2_2
  have r2_3 : rowAt w2 (w.heap.size + 1 + 1 + 1) = some (.cells (exA zeroT zeroW) 60 (0, 0)) := rowNext' hb2 (by rw [rowAt_old _ _ _ (by first | omega | (simp [putRow_size, drewN_heap, drew_heap] <;> omega))]; exact r1_3)
  have c2_3 := lt_of_some r2_3
  have r2_4 : rowAt w2 (w1.heap.size) = some (.cells #[.int .i64 n, .int .i64 c1, .bool true, .bool i, .bool o, .int .u8 c2] 27 (0, 0)) := rowNext' hb2 (by rw [rowAt_new _ _ _ (by first | omega | (simp [putRow_size, drewN_heap, drew_heap] <;> omega))])
  have c2_4 := cells6 r2_4
  clear r1_0 c1_0 r1_1 c1_1 r1_2 c1_2 r1_3 c1_3 hb1 HB1 hs1
  go_wp2_with fail
  refine (exFunction_is HF.out _).mono ?_
  rintro e w3 ⟨rfl, hb3⟩
  have HB3 := hid (below_step HB2.out (by first | omega | (simp [putRow_size, drewN_heap, drew_heap] <;> omega)) hb3)
  have hs3 : w.heap.size ≤ w3.heap.size := HB3.out.size
  have r3_0 : rowAt w3 (w.heap.size) = some (.cells (exA t m) 60 (0, 0)) := rowNext' hb3 r2_0
  have c3_0 := lt_of_some r3_0
  have r3_1 : rowAt w3 (w.heap.size + 1) = some (.cells (tabA p) 25 (0, 0)) := rowNext' hb3 r2_1
  have c3_1 := lt_of_some r3_1
  have r3_2 : rowAt w3 (w.heap.size + 1 + 1) = some (.cells #[.int .i64 n, .int .i64 l, .bool false, .bool i, .bool o, .int .u8 v] 27 (0, 0)) := rowNext' hb3 r2_2
  have c3_2 := cells6 r3_2
  have r3_3 : rowAt w3 (w.heap.size + 1 + 1 + 1) = some (.cells (exA zeroT zeroW) 60 (0, 0)) := rowNext' hb3 r2_3
  have c3_3 := lt_of_some r3_3
  have r3_4 : rowAt w3 (w1.heap.size) = some (.cells #[.int .i64 n, .int .i64 c1, .bool true, .bool i, .bool o, .int .u8 c2] 27 (0, 0)) := rowNext' hb3 r2_4
  have c3_4 := cells6 r3_4
  clear r2_0 c2_0 r2_1 c2_1 r2_2 c2_2 r2_3 c2_3 r2_4 c2_4 hb2 HB2 hs2
  have k0 : w3.cell? ⟨w.heap.size, 62 + n, none⟩ = some (.int .i64 0) := by rw [cell_of_row w3 _ _ _ _ _ r3_0, exA_wait t m n h2, HM.out]
  have hn0 : (0 : Int) ≤ (n : Int) := by omega
  have hn31 : (n : Int) < 31 := by omega
  go_upto_region 8 with fail
  have q : ∀ x : Good w3, x.u.cell? ⟨w.heap.size + 1 + 1, 0, none⟩ = some (.int .i64 n) ∧ x.u.cell? ⟨w.heap.size, 62 + n, none⟩ = some (.int .i64 0) := by
    intro x; exact ⟨(cells6 (rowNext' x.b r3_2)).1, by rw [cell_of_row x.u _ _ _ _ _ (rowNext' x.b r3_0), exA_wait t m n h2, HM.out]⟩
  have HQQ := hid q
  clear q
  go_region_held3 (fun w' => w'.cell? ⟨w.heap.size + 1 + 1, 0, none⟩ = some (.int .i64 n) ∧ w'.cell? ⟨w.heap.size, 62 + n, none⟩ = some (.int .i64 0))
    (exact HQQ.out ⟨_, by first | exact Below.refl _ _ | exact (Below.refl _ _).drew | exact hb9' | exact hb9'.drew | exact hb9'.alloc hb9'.size _ | exact ((Below.refl _ _).alloc (Nat.le_refl _) _).drew⟩)
    (first | (go_at_call 45; (with_reducible refine (exKind true _).mono ?_); rintro e w9 ⟨rfl, hb9⟩; have hb9' := below9 (w3 := w3) hb9) | (go_at_call 62; (with_reducible refine (serverHears 0 _).mono ?_); rintro e w8 ⟨rfl, hb8⟩; have hb9' := hb9'.trans (hb8.mono hb9'.size)))
  have HB8 := hid (HB3.out.trans (hb9'.mono hs3))
  have r8_0 := rowNext' hb9' r3_0
  have r8_2 := rowNext' hb9' r3_2
  have r8_3 := rowNext' hb9' r3_3
  have r8_4 := rowNext' hb9' r3_4
  clear hb9' hb8 hb9 HQQ k0 r3_0 r3_1 r3_2 r3_3 r3_4 c3_0 c3_1 c3_2 c3_3 c3_4 hb3
  have l8 := lt_of_some r8_0
  have l84 := lt_of_some r8_4
  have hs8 : w.heap.size ≤ w8.heap.size := HB8.out.size
  go_upto_region 10 with fail
  have HR0 := hid r8_0
  have HR2 := hid r8_2
  have HR3 := hid r8_3
  have HR4 := hid r8_4
  have q : ∀ W : World, rowAt W (w.heap.size + 1 + 1) = some (.cells #[.int .i64 n, .int .i64 l, .bool false, .bool i, .bool o, .int .u8 v] 27 (0, 0)) → rowAt W w1.heap.size = some (.cells #[.int .i64 n, .int .i64 c1, .bool true, .bool i, .bool o, .int .u8 c2] 27 (0, 0)) → W.cell? ⟨w.heap.size + 1 + 1, 0, none⟩ = some (.int .i64 n) ∧ W.cell? ⟨w1.heap.size, 0, none⟩ = some (.int .i64 n) ∧ W.cell? ⟨w1.heap.size, 1, none⟩ = some (.int .i64 c1) ∧ W.cell? ⟨w1.heap.size, 2, none⟩ = some (.bool true) ∧ W.cell? ⟨w1.heap.size, 3, none⟩ = some (.bool i) ∧ W.cell? ⟨w1.heap.size, 4, none⟩ = some (.bool o) ∧ W.cell? ⟨w1.heap.size, 5, none⟩ = some (.int .u8 c2) := by
    intro W hW hV
    have a := cells6 hW
    have b := cells6 hV
    exact ⟨a.1, b.1, b.2.1, b.2.2.1, b.2.2.2.1, b.2.2.2.2.1, b.2.2.2.2.2.1⟩
  have HQQ := hid q
  clear q r8_0 r8_2 r8_3 r8_4
  have e1 : n * 2 ≠ 62 + n := by omega
  have e2 : n * 2 + 1 ≠ 62 + n := by omega
  have e3 : 62 + n ≠ n * 2 := by omega
  have e4 : 62 + n ≠ n * 2 + 1 := by omega
  go_region_held3 (fun w' => w'.cell? ⟨w.heap.size + 1 + 1, 0, none⟩ = some (.int .i64 n) ∧ w'.cell? ⟨w1.heap.size, 0, none⟩ = some (.int .i64 n) ∧ w'.cell? ⟨w1.heap.size, 1, none⟩ = some (.int .i64 c1) ∧ w'.cell? ⟨w1.heap.size, 2, none⟩ = some (.bool true) ∧ w'.cell? ⟨w1.heap.size, 3, none⟩ = some (.bool i) ∧ w'.cell? ⟨w1.heap.size, 4, none⟩ = some (.bool o) ∧ w'.cell? ⟨w1.heap.size, 5, none⟩ = some (.int .u8 c2))
    (exact HQQ.out _ (by repeat (first | exact HR2.out | exact rowNext' hb9' HR2.out | refine setCell_rowOther ?_ _ _ (by omega))) (by repeat (first | exact HR4.out | exact rowNext' hb9' HR4.out | refine setCell_rowOther ?_ _ _ (by omega))))
    (first | (go_at_call 46; (with_reducible refine (HT.out _).mono ?_); rintro e w9 ⟨rfl, hb9⟩; have hb9' := below9 (w3 := w8) hb9; have r9 := ex_cells HR0.out hb9' h2; have k9 : w9.cell? ⟨w.heap.size, 62 + n, none⟩ = some (.int .i64 (m n)) := (by rw [cell_of_row w9 _ _ _ _ _ (rowNext' hb9' HR0.out), exA_wait t m n h2]); have hL := hid hb9'))
  have rf0 : rowAt (((w9.setCell ⟨w.heap.size, n * 2, none⟩ (.int .i64 d1)).setCell ⟨w.heap.size, n * 2 + 1, none⟩ (.int .u8 d2)).setCell ⟨w.heap.size, 62 + n, none⟩ (.int .i64 0)) w.heap.size = some (.cells (exA (upd t n (d1, d2)) (updW m n 0)) 60 (0, 0)) := by
    rw [← exA_updW (upd t n (d1, d2)) m n 0 h2]; exact setCell_rowSame (ex_store HR0.out hL.out h2 d1 d2) _ _
  have rf3 := setCell_rowOther (ex_store_other HR3.out hL.out (g := w.heap.size) (by omega) (n * 2) (n * 2 + 1) (.int .i64 d1) (.int .u8 d2)) (b := w.heap.size) (62 + n) (.int .i64 0) (by omega)
  have rf4 := setCell_rowOther (ex_store_other HR4.out hL.out (g := w.heap.size) (by omega) (n * 2) (n * 2 + 1) (.int .i64 d1) (.int .u8 d2)) (b := w.heap.size) (62 + n) (.int .i64 0) (by omega)
  have HBF := hid ((((below_step HB8.out (by omega) hL.out).setCell (p := ⟨w.heap.size, n * 2, none⟩) (Nat.le_refl _) (.int .i64 d1)).setCell (p := ⟨w.heap.size, n * 2 + 1, none⟩) (Nat.le_refl _) (.int .u8 d2)).setCell (p := ⟨w.heap.size, 62 + n, none⟩) (Nat.le_refl _) (.int .i64 0))
  generalize ((w9.setCell ⟨w.heap.size, n * 2, none⟩ (.int .i64 d1)).setCell ⟨w.heap.size, n * 2 + 1, none⟩ (.int .u8 d2)).setCell ⟨w.heap.size, 62 + n, none⟩ (.int .i64 0) = wy at *
  replace rf3 : rowAt wy (w.heap.size + 1 + 1 + 1) = some (.cells (exA zeroT zeroW) 60 (0, 0)) := rf3
  replace rf4 : rowAt wy w1.heap.size = some (.cells #[.int .i64 n, .int .i64 c1, .bool true, .bool i, .bool o, .int .u8 c2] 27 (0, 0)) := rf4
  clear r9 k9 hL hb9 hb9' HQQ HR0 HR2 HR3 HR4
  have l0 := lt_of_some rf0
  have l3 := lt_of_some rf3
  have l4 := lt_of_some rf4
  have hsy : w.heap.size ≤ wy.heap.size := HBF.out.size
  have c4 := cells6 rf4
  go_upto_region 11 with fail
  go_region
  go_wp2_with fail
  exact bodyPost_ret (v := .tuple #[.agg (exA (upd t n (d1, d2)) (updW m n 0)), .slice (some ⟨wy.heap.size, 0, none⟩) 1 1, .int .i64 0]) (results_row_tmp2 Try.results31 _ _ (w.heap.size + 1 + 1 + 1) 60 (exA (upd t n (d1, d2)) (updW m n 0)) (0, 0) _ rfl (by show rowAt _ _ = _; rw [rowAt_drew, rowAt_old _ _ _ (by first | omega | (simp [putRow_size, drewN_heap, drew_heap] <;> omega)), rowAt_put _ _ _ _ (by first | omega | (simp [putRow_size, drewN_heap, drew_heap] <;> omega))]) Try.underlying60 rfl (by rw [exA_size]; exact sizeExch) (.slice (some ⟨wy.heap.size, 0, none⟩) 1 1) (.int .i64 0) rfl rfl) rfl ⟨_, rfl, (by rw [rowAt_drew, rowAt_new _ _ _ (by first | omega | (simp [putRow_size, drewN_heap, drew_heap] <;> omega))]), hsy, ((below_putRow HBF.out _ _ _ (by first | omega | (simp [putRow_size, drewN_heap, drew_heap] <;> omega))).alloc (by first | omega | (simp [putRow_size, drewN_heap, drew_heap] <;> omega)) _).drew⟩

set_option maxHeartbeats 2000000 in
set_option maxRecDepth 100000 in
theorem got_heard_c (t : Tb) (m : Wt) (p : Tb) (n : Nat) (h1 : 1 ≤ n) (h2 : n < 31) (l v : Int) (i o : Bool) (c1 c2 d1 d2 c : Int) (H1 : Hid (settle p n l v = ((c1, c2), 0))) (HX : Hid (exErr t m = 0)) (HM : Hid (m n = c)) (HD : Hid (toldC c1 c2 = (d1, d2))) (w : World) :
    Calls Try.prog 31 #[.agg (exA t m), .agg (tabA p), .bool false, .agg #[.int .i64 n, .int .i64 l, .bool false, .bool i, .bool o, .int .u8 v]] w fun e w' => ∃ g, e = .returned (.tuple #[.agg (exA (upd t n (d1, d2)) (updW m n 0)), .slice (some ⟨g, 0, none⟩) 1 1, .int .i64 0]) ∧ rowAt w' g = some (.cells #[.int .i64 n, .int .i64 c1, .bool true, .bool i, .bool o, .int .u8 c2] 27 (0, 0)) ∧ w.heap.size ≤ g ∧ Below w.heap.size w w' := by
  have HF := hid (show isF n = true from by unfold isF; simp; omega)
  have HT : Hid (∀ W, Calls Try.prog 46 #[.agg #[.int .i64 n, .int .i64 c1, .bool true, .bool i, .bool o, .int .u8 c2]] W fun e w' => e = .returned (.agg #[.int .i64 d1, .int .u8 d2]) ∧ Below W.heap.size W w') := by
    intro W; have := exTold n c1 c2 true i o W; rw [HD.out] at this; exact this
  go_enter Try.func31, Try.ntmps31
  go_wp2_with fail
  refine (answer_ok _ _ _ _ false i o _ _ H1 _).mono ?_
  rintro e w1 ⟨rfl, hb1⟩
  have HB1 := hid (below_step (((((Below.refl w.heap.size w).alloc (by first | omega | (simp [putRow_size, drewN_heap, drew_heap] <;> omega)) _).alloc (by first | omega | (simp [putRow_size, drewN_heap, drew_heap] <;> omega)) _).alloc (by first | omega | (simp [putRow_size, drewN_heap, drew_heap] <;> omega)) _).alloc (by first | omega | (simp [putRow_size, drewN_heap, drew_heap] <;> omega)) _) (by first | omega | (simp [putRow_size, drewN_heap, drew_heap] <;> omega)) hb1)
  have hs1 : w.heap.size ≤ w1.heap.size := HB1.out.size
  have r1_0 : rowAt w1 (w.heap.size) = some (.cells (exA t m) 60 (0, 0)) := rowNext' hb1 (by rw [rowAt_old _ _ _ (by first | omega | (simp [putRow_size, drewN_heap, drew_heap] <;> omega)), rowAt_old _ _ _ (by first | omega | (simp [putRow_size, drewN_heap, drew_heap] <;> omega)), rowAt_old _ _ _ (by first | omega | (simp [putRow_size, drewN_heap, drew_heap] <;> omega)), rowAt_new _ _ _ (by first | omega | (simp [putRow_size, drewN_heap, drew_heap] <;> omega))])
  have c1_0 := lt_of_some r1_0
  have r1_1 : rowAt w1 (w.heap.size + 1) = some (.cells (tabA p) 25 (0, 0)) := rowNext' hb1 (by rw [rowAt_old _ _ _ (by first | omega | (simp [putRow_size, drewN_heap, drew_heap] <;> omega)), rowAt_old _ _ _ (by first | omega | (simp [putRow_size, drewN_heap, drew_heap] <;> omega)), rowAt_new _ _ _ (by first | omega | (simp [putRow_size, drewN_heap, drew_heap] <;> omega))])
  have c1_1 := lt_of_some r1_1
  have r1_2 : rowAt w1 (w.heap.size + 1 + 1) = some (.cells #[.int .i64 n, .int .i64 l, .bool false, .bool i, .bool o, .int .u8 v] 27 (0, 0)) := rowNext' hb1 (by rw [rowAt_old _ _ _ (by first | omega | (simp [putRow_size, drewN_heap, drew_heap] <;> omega)), rowAt_new _ _ _ (by first | omega | (simp [putRow_size, drewN_heap, drew_heap] <;> omega))])
  have c1_2 := cells6 r1_2
  have r1_3 : rowAt w1 (w.heap.size + 1 + 1 + 1) = some (.cells (exA zeroT zeroW) 60 (0, 0)) := rowNext' hb1 (by rw [rowAt_new _ _ _ (by first | omega | (simp [putRow_size, drewN_heap, drew_heap] <;> omega))])
  have c1_3 := lt_of_some r1_3
  have hne1 : w1.heap.size ≠ w.heap.size + 1 + 1 + 1 := by omega
  have hne2 : w.heap.size + 1 + 1 + 1 ≠ w1.heap.size := by omega
  have hne3 : w.heap.size ≠ w.heap.size + 1 + 1 + 1 := by omega
  have hne4 : w1.heap.size ≠ w.heap.size := by omega
  go_wp2_with fail
  refine (exCheck_eq HX.out _).mono ?_
  rintro e w2 ⟨rfl, hb2⟩
  have HB2 := hid (below_step (HB1.out.alloc (by first | omega | (simp [putRow_size, drewN_heap, drew_heap] <;> omega)) _) (by first | omega | (simp [putRow_size, drewN_heap, drew_heap] <;> omega)) hb2)
  have hs2 : w.heap.size ≤ w2.heap.size := HB2.out.size
  have r2_0 : rowAt w2 (w.heap.size) = some (.cells (exA t m) 60 (0, 0)) := rowNext' hb2 (by rw [rowAt_old _ _ _ (by first | omega | (simp [putRow_size, drewN_heap, drew_heap] <;> omega))]; exact r1_0)
  have c2_0 := lt_of_some r2_0
  have r2_1 : rowAt w2 (w.heap.size + 1) = some (.cells (tabA p) 25 (0, 0)) := rowNext' hb2 (by rw [rowAt_old _ _ _ (by first | omega | (simp [putRow_size, drewN_heap, drew_heap] <;> omega))]; exact r1_1)
  have c2_1 := lt_of_some r2_1
  have r2_2 : rowAt w2 (w.heap.size + 1 + 1) = some (.cells #[.int .i64 n, .int .i64 l, .bool false, .bool i, .bool o, .int .u8 v] 27 (0, 0)) := rowNext' hb2 (by rw [rowAt_old _ _ _ (by first | omega | (simp [putRow_size, drewN_heap, drew_heap] <;> omega))]; exact r1_2)
  have c2_2 := cells6 r2_2
  have r2_3 : rowAt w2 (w.heap.size + 1 + 1 + 1) = some (.cells (exA zeroT zeroW) 60 (0, 0)) := rowNext' hb2 (by rw [rowAt_old _ _ _ (by first | omega | (simp [putRow_size, drewN_heap, drew_heap] <;> omega))]; exact r1_3)
  have c2_3 := lt_of_some r2_3
  have r2_4 : rowAt w2 (w1.heap.size) = some (.cells #[.int .i64 n, .int .i64 c1, .bool true, .bool i, .bool o, .int .u8 c2] 27 (0, 0)) := rowNext' hb2 (by rw [rowAt_new _ _ _ (by first | omega | (simp [putRow_size, drewN_heap, drew_heap] <;> omega))])
  have c2_4 := cells6 r2_4
  clear r1_0 c1_0 r1_1 c1_1 r1_2 c1_2 r1_3 c1_3 hb1 HB1 hs1
  go_wp2_with fail
  refine (exFunction_is HF.out _).mono ?_
  rintro e w3 ⟨rfl, hb3⟩
  have HB3 := hid (below_step HB2.out (by first | omega | (simp [putRow_size, drewN_heap, drew_heap] <;> omega)) hb3)
  have hs3 : w.heap.size ≤ w3.heap.size := HB3.out.size
  have r3_0 : rowAt w3 (w.heap.size) = some (.cells (exA t m) 60 (0, 0)) := rowNext' hb3 r2_0
  have c3_0 := lt_of_some r3_0
  have r3_1 : rowAt w3 (w.heap.size + 1) = some (.cells (tabA p) 25 (0, 0)) := rowNext' hb3 r2_1
  have c3_1 := lt_of_some r3_1
  have r3_2 : rowAt w3 (w.heap.size + 1 + 1) = some (.cells #[.int .i64 n, .int .i64 l, .bool false, .bool i, .bool o, .int .u8 v] 27 (0, 0)) := rowNext' hb3 r2_2
  have c3_2 := cells6 r3_2
  have r3_3 : rowAt w3 (w.heap.size + 1 + 1 + 1) = some (.cells (exA zeroT zeroW) 60 (0, 0)) := rowNext' hb3 r2_3
  have c3_3 := lt_of_some r3_3
  have r3_4 : rowAt w3 (w1.heap.size) = some (.cells #[.int .i64 n, .int .i64 c1, .bool true, .bool i, .bool o, .int .u8 c2] 27 (0, 0)) := rowNext' hb3 r2_4
  have c3_4 := cells6 r3_4
  clear r2_0 c2_0 r2_1 c2_1 r2_2 c2_2 r2_3 c2_3 r2_4 c2_4 hb2 HB2 hs2
  have k0 : w3.cell? ⟨w.heap.size, 62 + n, none⟩ = some (.int .i64 c) := by rw [cell_of_row w3 _ _ _ _ _ r3_0, exA_wait t m n h2, HM.out]
  have hn0 : (0 : Int) ≤ (n : Int) := by omega
  have hn31 : (n : Int) < 31 := by omega
  go_upto_region 8 with fail
  have q : ∀ x : Good w3, x.u.cell? ⟨w.heap.size + 1 + 1, 0, none⟩ = some (.int .i64 n) ∧ x.u.cell? ⟨w.heap.size, 62 + n, none⟩ = some (.int .i64 c) := by
    intro x; exact ⟨(cells6 (rowNext' x.b r3_2)).1, by rw [cell_of_row x.u _ _ _ _ _ (rowNext' x.b r3_0), exA_wait t m n h2, HM.out]⟩
  have HQQ := hid q
  clear q
  go_region_held3 (fun w' => w'.cell? ⟨w.heap.size + 1 + 1, 0, none⟩ = some (.int .i64 n) ∧ w'.cell? ⟨w.heap.size, 62 + n, none⟩ = some (.int .i64 c))
    (exact HQQ.out ⟨_, by first | exact Below.refl _ _ | exact (Below.refl _ _).drew | exact hb9' | exact hb9'.drew | exact hb9'.alloc hb9'.size _ | exact ((Below.refl _ _).alloc (Nat.le_refl _) _).drew⟩)
    (first | (go_at_call 45; (with_reducible refine (exKind false _).mono ?_); rintro e w9 ⟨rfl, hb9⟩; have hb9' := below9 (w3 := w3) hb9) | (go_at_call 63; (with_reducible refine (clientHears c _).mono ?_); rintro e w8 ⟨rfl, hb8⟩; have hb9' := hb9'.trans (hb8.mono hb9'.size)))
  have HB8 := hid (HB3.out.trans (hb9'.mono hs3))
  have r8_0 := rowNext' hb9' r3_0
  have r8_2 := rowNext' hb9' r3_2
  have r8_3 := rowNext' hb9' r3_3
  have r8_4 := rowNext' hb9' r3_4
  clear hb9' hb8 hb9 HQQ k0 r3_0 r3_1 r3_2 r3_3 r3_4 c3_0 c3_1 c3_2 c3_3 c3_4 hb3
  have l8 := lt_of_some r8_0
  have l84 := lt_of_some r8_4
  have hs8 : w.heap.size ≤ w8.heap.size := HB8.out.size
  go_upto_region 10 with fail
  have HR0 := hid r8_0
  have HR2 := hid r8_2
  have HR3 := hid r8_3
  have HR4 := hid r8_4
  have q : ∀ W : World, rowAt W (w.heap.size + 1 + 1) = some (.cells #[.int .i64 n, .int .i64 l, .bool false, .bool i, .bool o, .int .u8 v] 27 (0, 0)) → rowAt W w1.heap.size = some (.cells #[.int .i64 n, .int .i64 c1, .bool true, .bool i, .bool o, .int .u8 c2] 27 (0, 0)) → W.cell? ⟨w.heap.size + 1 + 1, 0, none⟩ = some (.int .i64 n) ∧ W.cell? ⟨w1.heap.size, 0, none⟩ = some (.int .i64 n) ∧ W.cell? ⟨w1.heap.size, 1, none⟩ = some (.int .i64 c1) ∧ W.cell? ⟨w1.heap.size, 2, none⟩ = some (.bool true) ∧ W.cell? ⟨w1.heap.size, 3, none⟩ = some (.bool i) ∧ W.cell? ⟨w1.heap.size, 4, none⟩ = some (.bool o) ∧ W.cell? ⟨w1.heap.size, 5, none⟩ = some (.int .u8 c2) := by
    intro W hW hV
    have a := cells6 hW
    have b := cells6 hV
    exact ⟨a.1, b.1, b.2.1, b.2.2.1, b.2.2.2.1, b.2.2.2.2.1, b.2.2.2.2.2.1⟩
  have HQQ := hid q
  clear q r8_0 r8_2 r8_3 r8_4
  have e1 : n * 2 ≠ 62 + n := by omega
  have e2 : n * 2 + 1 ≠ 62 + n := by omega
  have e3 : 62 + n ≠ n * 2 := by omega
  have e4 : 62 + n ≠ n * 2 + 1 := by omega
  go_region_held3 (fun w' => w'.cell? ⟨w.heap.size + 1 + 1, 0, none⟩ = some (.int .i64 n) ∧ w'.cell? ⟨w1.heap.size, 0, none⟩ = some (.int .i64 n) ∧ w'.cell? ⟨w1.heap.size, 1, none⟩ = some (.int .i64 c1) ∧ w'.cell? ⟨w1.heap.size, 2, none⟩ = some (.bool true) ∧ w'.cell? ⟨w1.heap.size, 3, none⟩ = some (.bool i) ∧ w'.cell? ⟨w1.heap.size, 4, none⟩ = some (.bool o) ∧ w'.cell? ⟨w1.heap.size, 5, none⟩ = some (.int .u8 c2))
    (exact HQQ.out _ (by repeat (first | exact HR2.out | exact rowNext' hb9' HR2.out | refine setCell_rowOther ?_ _ _ (by omega))) (by repeat (first | exact HR4.out | exact rowNext' hb9' HR4.out | refine setCell_rowOther ?_ _ _ (by omega))))
    (first | (go_at_call 46; (with_reducible refine (HT.out _).mono ?_); rintro e w9 ⟨rfl, hb9⟩; have hb9' := below9 (w3 := w8) hb9; have r9 := ex_cells HR0.out hb9' h2; have k9 : w9.cell? ⟨w.heap.size, 62 + n, none⟩ = some (.int .i64 (m n)) := (by rw [cell_of_row w9 _ _ _ _ _ (rowNext' hb9' HR0.out), exA_wait t m n h2]); have hL := hid hb9'))
  have rf0 : rowAt (((w9.setCell ⟨w.heap.size, n * 2, none⟩ (.int .i64 d1)).setCell ⟨w.heap.size, n * 2 + 1, none⟩ (.int .u8 d2)).setCell ⟨w.heap.size, 62 + n, none⟩ (.int .i64 0)) w.heap.size = some (.cells (exA (upd t n (d1, d2)) (updW m n 0)) 60 (0, 0)) := by
    rw [← exA_updW (upd t n (d1, d2)) m n 0 h2]; exact setCell_rowSame (ex_store HR0.out hL.out h2 d1 d2) _ _
  have rf3 := setCell_rowOther (ex_store_other HR3.out hL.out (g := w.heap.size) (by omega) (n * 2) (n * 2 + 1) (.int .i64 d1) (.int .u8 d2)) (b := w.heap.size) (62 + n) (.int .i64 0) (by omega)
  have rf4 := setCell_rowOther (ex_store_other HR4.out hL.out (g := w.heap.size) (by omega) (n * 2) (n * 2 + 1) (.int .i64 d1) (.int .u8 d2)) (b := w.heap.size) (62 + n) (.int .i64 0) (by omega)
  have HBF := hid ((((below_step HB8.out (by omega) hL.out).setCell (p := ⟨w.heap.size, n * 2, none⟩) (Nat.le_refl _) (.int .i64 d1)).setCell (p := ⟨w.heap.size, n * 2 + 1, none⟩) (Nat.le_refl _) (.int .u8 d2)).setCell (p := ⟨w.heap.size, 62 + n, none⟩) (Nat.le_refl _) (.int .i64 0))
  generalize ((w9.setCell ⟨w.heap.size, n * 2, none⟩ (.int .i64 d1)).setCell ⟨w.heap.size, n * 2 + 1, none⟩ (.int .u8 d2)).setCell ⟨w.heap.size, 62 + n, none⟩ (.int .i64 0) = wy at *
  replace rf3 : rowAt wy (w.heap.size + 1 + 1 + 1) = some (.cells (exA zeroT zeroW) 60 (0, 0)) := rf3
  replace rf4 : rowAt wy w1.heap.size = some (.cells #[.int .i64 n, .int .i64 c1, .bool true, .bool i, .bool o, .int .u8 c2] 27 (0, 0)) := rf4
  clear r9 k9 hL hb9 hb9' HQQ HR0 HR2 HR3 HR4
  have l0 := lt_of_some rf0
  have l3 := lt_of_some rf3
  have l4 := lt_of_some rf4
  have hsy : w.heap.size ≤ wy.heap.size := HBF.out.size
  have c4 := cells6 rf4
  go_upto_region 11 with fail
  go_region
  go_wp2_with fail
  exact bodyPost_ret (v := .tuple #[.agg (exA (upd t n (d1, d2)) (updW m n 0)), .slice (some ⟨wy.heap.size, 0, none⟩) 1 1, .int .i64 0]) (results_row_tmp2 Try.results31 _ _ (w.heap.size + 1 + 1 + 1) 60 (exA (upd t n (d1, d2)) (updW m n 0)) (0, 0) _ rfl (by show rowAt _ _ = _; rw [rowAt_drew, rowAt_old _ _ _ (by first | omega | (simp [putRow_size, drewN_heap, drew_heap] <;> omega)), rowAt_put _ _ _ _ (by first | omega | (simp [putRow_size, drewN_heap, drew_heap] <;> omega))]) Try.underlying60 rfl (by rw [exA_size]; exact sizeExch) (.slice (some ⟨wy.heap.size, 0, none⟩) 1 1) (.int .i64 0) rfl rfl) rfl ⟨_, rfl, (by rw [rowAt_drew, rowAt_new _ _ _ (by first | omega | (simp [putRow_size, drewN_heap, drew_heap] <;> omega))]), hsy, ((below_putRow HBF.out _ _ _ (by first | omega | (simp [putRow_size, drewN_heap, drew_heap] <;> omega))).alloc (by first | omega | (simp [putRow_size, drewN_heap, drew_heap] <;> omega)) _).drew⟩

end Go.Proofs.Ytjghmgpmaallfaa
