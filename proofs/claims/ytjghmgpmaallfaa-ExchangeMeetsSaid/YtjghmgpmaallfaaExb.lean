/-
  exchange.answered: an answer that is waited for.
-/
import Derived.Test.YtjghmgpmaallfaaExa
import Derived.Test.YtjghmgpmaallfaaDrg
namespace Go.Proofs.Ytjghmgpmaallfaa
open Go.RowKit
set_option linter.unusedVariables false
set_option linter.unusedSimpArgs false

/-- a cell of the table is another one, in an Exch. -/
theorem ex_store {wz w9 : World} {g : Nat} {t : Tb} {m : Wt} {ty : TypeId} (h : rowAt wz g = some (.cells (exA t m) ty (0, 0))) (hb : Below wz.heap.size wz w9) {n : Nat} (h2 : n < 31) (d1 d2 : Int) :
    rowAt ((w9.setCell ⟨g, n * 2, none⟩ (.int .i64 d1)).setCell ⟨g, n * 2 + 1, none⟩ (.int .u8 d2)) g = some (.cells (exA (upd t n (d1, d2)) m) ty (0, 0)) := by
  rw [← exA_upd t m n (d1, d2) h2]
  exact setCell_rowSame (setCell_rowSame (rowNext' hb h) _ _) _ _
theorem ex_store_other {wz w9 : World} {g j : Nat} {o : Obj} (h : rowAt wz j = some o) (hb : Below wz.heap.size wz w9) (hj : j ≠ g) (o1 o2 : Nat) (v1 v2 : Value) :
    rowAt ((w9.setCell ⟨g, o1, none⟩ v1).setCell ⟨g, o2, none⟩ v2) j = some o :=
  setCell_rowOther (setCell_rowOther (rowNext' hb h) _ _ hj) _ _ hj
theorem ex_cells {wz w9 : World} {g : Nat} {t : Tb} {m : Wt} {ty : TypeId} (h : rowAt wz g = some (.cells (exA t m) ty (0, 0))) (hb : Below wz.heap.size wz w9) {n : Nat} (h2 : n < 31) :
    w9.cell? ⟨g, n * 2, none⟩ = some (.int .i64 (t n).1) ∧ w9.cell? ⟨g, n * 2 + 1, none⟩ = some (.int .u8 (t n).2) ∧ (∀ o, w9.frozen? ⟨g, o, none⟩ = false) ∧ g < w9.heap.size := by
  have r := rowNext' hb h
  exact ⟨by rw [cell_of_row w9 _ _ _ _ _ r, exA_cell0 t m n h2], by rw [cell_of_row w9 _ _ _ _ _ r, exA_cell1 t m n h2], frozenRow r, lt_of_some r⟩
set_option maxHeartbeats 400000 in
theorem answered_ok (t : Tb) (m : Wt) (n : Nat) (l v c : Int) (a i o : Bool) (h1 : 1 ≤ n) (h2 : n < 31) (hm : m n = c) (hc0 : 1 ≤ c) (hc1 : c ≤ 65536) (w : World) :
    Calls Try.prog 43 #[.agg (exA t m), .agg #[.int .i64 n, .int .i64 l, .bool a, .bool i, .bool o, .int .u8 v]] w fun e w' => e = .returned (.tuple #[.agg (exA (upd t n (toldC l v)) (updW m n (c - 1))), .slice none 0 0, .int .i64 0]) ∧ Below w.heap.size w w' := by
  have HF := hid (show isF n = true from by unfold isF; simp; omega)
  have HM := hid hm
  obtain ⟨d1, d2, hd⟩ : ∃ d1 d2, toldC l v = (d1, d2) := ⟨_, _, rfl⟩
  have HT : Hid (∀ W, Calls Try.prog 46 #[.agg #[.int .i64 n, .int .i64 l, .bool a, .bool i, .bool o, .int .u8 v]] W fun e w' => e = .returned (.agg #[.int .i64 d1, .int .u8 d2]) ∧ Below W.heap.size W w') := by
    intro W; have := exTold n l v a i o W; rw [hd] at this; exact this
  rw [hd]
  clear hm hd
  have hcz : (c == 0) = false := by simp; omega
  go_enter Try.func43, Try.ntmps43
  go_wp2_with fail
  refine (exFunction_is HF.out _).mono ?_
  rintro e w1 ⟨rfl, hb1⟩
  have HB1 := hid (below_step ((((Below.refl w.heap.size w).alloc (by omega) _).alloc (by simp) _).alloc (by simp; omega) _) (by simp; omega) hb1)
  have r0 : rowAt w1 w.heap.size = some (.cells (exA t m) 60 (0, 0)) := rowNext' hb1 (by rw [rowAt_old _ _ _ (by simp; omega), rowAt_old _ _ _ (by simp), rowAt_new _ _ _ rfl])
  have r1 : rowAt w1 (w.heap.size + 1) = some (.cells #[.int .i64 n, .int .i64 l, .bool a, .bool i, .bool o, .int .u8 v] 27 (0, 0)) := rowNext' hb1 (by rw [rowAt_old _ _ _ (by simp), rowAt_new _ _ _ (by simp)])
  have r2 : rowAt w1 (w.heap.size + 1 + 1) = some (.cells (exA zeroT zeroW) 60 (0, 0)) := rowNext' hb1 (by rw [rowAt_new _ _ _ (by simp)])
  have c0 := lt_of_some r0
  have f0 := frozenRow r0
  have c1 := cells6 r1
  have c2 := lt_of_some r2
  have k0 : w1.cell? ⟨w.heap.size, 62 + n, none⟩ = some (.int .i64 c) := by rw [cell_of_row w1 _ _ _ _ _ r0, exA_wait t m n h2, HM.out]
  clear hb1
  have q0 : rowAt (w1.setCell ⟨w.heap.size, 62 + n, none⟩ (.int .i64 (c - 1))) w.heap.size = some (.cells (exA t (updW m n (c - 1))) 60 (0, 0)) := by rw [← exA_updW t m n (c - 1) h2]; exact setCell_rowSame r0 _ _
  have q1 := setCell_rowOther r1 (b := w.heap.size) (62 + n) (.int .i64 (c - 1)) (by omega)
  have q2 := setCell_rowOther r2 (b := w.heap.size) (62 + n) (.int .i64 (c - 1)) (by omega)
  have HQ0 := hid q0
  have HQ1 := hid q1
  have HQ2 := hid q2
  have HBS := hid (HB1.out.setCell (p := ⟨w.heap.size, 62 + n, none⟩) (Nat.le_refl _) (.int .i64 (c - 1)))
  clear q0 q1 q2
  go_upto_region 4 with (fail)
  have hsz : (w1.setCell ⟨w.heap.size, 62 + n, none⟩ (.int .i64 (c - 1))).heap.size = w1.heap.size := setCell_size _ _ _
  generalize w1.setCell ⟨w.heap.size, 62 + n, none⟩ (.int .i64 (c - 1)) = wz at *
  clear c1 k0 f0 r0 r1 r2 HB1
  have q : ∀ W : World, rowAt W (w.heap.size + 1) = some (.cells #[.int .i64 n, .int .i64 l, .bool a, .bool i, .bool o, .int .u8 v] 27 (0, 0)) → W.cell? ⟨w.heap.size + 1, 0, none⟩ = some (.int .i64 n) ∧ W.cell? ⟨w.heap.size + 1, 1, none⟩ = some (.int .i64 l) ∧ W.cell? ⟨w.heap.size + 1, 2, none⟩ = some (.bool a) ∧ W.cell? ⟨w.heap.size + 1, 3, none⟩ = some (.bool i) ∧ W.cell? ⟨w.heap.size + 1, 4, none⟩ = some (.bool o) ∧ W.cell? ⟨w.heap.size + 1, 5, none⟩ = some (.int .u8 v) := by
    intro W hW
    have := cells6 hW
    exact ⟨this.1, this.2.1, this.2.2.1, this.2.2.2.1, this.2.2.2.2.1, this.2.2.2.2.2.1⟩
  have HQQ := hid q
  clear q
  have hn0 : (0 : Int) ≤ (n : Int) := by omega
  have hn31 : (n : Int) < 31 := by omega
  go_region_held3 (fun w' => w'.cell? ⟨w.heap.size + 1, 0, none⟩ = some (.int .i64 n) ∧ w'.cell? ⟨w.heap.size + 1, 1, none⟩ = some (.int .i64 l) ∧ w'.cell? ⟨w.heap.size + 1, 2, none⟩ = some (.bool a) ∧ w'.cell? ⟨w.heap.size + 1, 3, none⟩ = some (.bool i) ∧ w'.cell? ⟨w.heap.size + 1, 4, none⟩ = some (.bool o) ∧ w'.cell? ⟨w.heap.size + 1, 5, none⟩ = some (.int .u8 v))
    (exact HQQ.out _ (by first | exact HQ1.out | exact rowNext' hb9' HQ1.out | exact setCell_rowOther (rowNext' hb9' HQ1.out) _ _ (by omega) | exact ex_store_other HQ1.out hb9' (by omega) _ _ _ _))
    (first | (go_at_call 46; (with_reducible refine (HT.out _).mono ?_); rintro e w9 ⟨rfl, hb9⟩; have hb9' := below9 (w3 := wz) hb9; have r9 := ex_cells HQ0.out hb9' h2; have hL := hid hb9'))
  have rf0 := ex_store HQ0.out hL.out h2 d1 d2
  have rf2 := ex_store_other HQ2.out hL.out (g := w.heap.size) (by omega) (n * 2) (n * 2 + 1) (.int .i64 d1) (.int .u8 d2)
  have HBF := hid ((below_step HBS.out (by omega) hL.out).setCell (p := ⟨w.heap.size, n * 2, none⟩) (Nat.le_refl _) (.int .i64 d1))
  have HBF2 := hid (HBF.out.setCell (p := ⟨w.heap.size, n * 2 + 1, none⟩) (Nat.le_refl _) (.int .u8 d2))
  generalize (w9.setCell ⟨w.heap.size, n * 2, none⟩ (.int .i64 d1)).setCell ⟨w.heap.size, n * 2 + 1, none⟩ (.int .u8 d2) = wy at *
  have l2 := lt_of_some rf2
  go_wp2_with fail
  exact bodyPost_ret (v := .tuple #[.agg (exA (upd t n (d1, d2)) (updW m n (c - 1))), .slice none 0 0, .int .i64 0]) (results_row_tmp2 Try.results43 _ _ (w.heap.size + 1 + 1) 60 (exA (upd t n (d1, d2)) (updW m n (c - 1))) (0, 0) _ rfl (rowAt_put _ _ _ _ l2) Try.underlying60 rfl (by rw [exA_size]; exact sizeExch) (.slice none 0 0) (.int .i64 0) rfl rfl) rfl
    ⟨rfl, below_putRow HBF2.out _ _ _ (by omega)⟩
end Go.Proofs.Ytjghmgpmaallfaa
