/-
  exchange.Begin.
-/
import Derived.Test.YtjghmgpmaallfaaExn
import Derived.Test.YtjghmgpmaallfaaExv
namespace Go.Proofs.Ytjghmgpmaallfaa
open Go.RowKit
set_option linter.unusedVariables false
set_option linter.unusedSimpArgs false

theorem asC (w : World) : (Instr.typeAssert (.iface 94 (.agg #[])) 89 93 true).run Try.prog w = .ok (.tuple #[.agg #[], .bool false]) w := by kernel_rfl
theorem asS (w : World) : (Instr.typeAssert (.iface 93 (.agg #[])) 89 93 true).run Try.prog w = .ok (.tuple #[.agg #[], .bool true]) w := by kernel_rfl
attribute [local go_sem ↓] asC asS
/-- each function but the first is waited for. -/
def onesTo (k : Nat) : Wt := fun i => if 1 ≤ i ∧ i < k then 1 else 0
theorem onesTo_one : onesTo 1 = zeroW := by funext i; unfold onesTo zeroW; rw [if_neg (by omega)]
theorem onesTo_succ (k : Nat) (hk : 1 ≤ k) : updW (onesTo k) k 1 = onesTo (k + 1) := by
  funext i
  unfold updW onesTo
  by_cases e : i = k
  · subst e; rw [if_pos rfl, if_pos (by omega)]
  · rw [if_neg e]
    by_cases h : 1 ≤ i ∧ i < k
    · rw [if_pos h, if_pos (by omega)]
    · rw [if_neg h, if_neg (by omega)]
set_option maxHeartbeats 2000000 in
set_option maxRecDepth 100000 in
theorem begin_no (p : Tb) (b : Bool) (HP : Hid (tabErr p = 1)) (w : World) :
    Calls Try.prog 35 #[.agg (tabA p), .bool b] w fun e w' => e = .returned (.tuple #[.agg (exA zeroT zeroW), .slice none 0 0, .int .i64 1]) ∧ Below w.heap.size w w' := by
  go_enter Try.func35, Try.ntmps35
  go_wp2_with fail
  refine (first_no p HP.out _).mono ?_
  rintro e w1 ⟨rfl, hb1⟩
  have HB1 := hid (below_step (((Below.refl w.heap.size w).alloc (by first | omega | (simp [putRow_size, drewN_heap, drew_heap] <;> omega)) _).alloc (by first | omega | (simp [putRow_size, drewN_heap, drew_heap] <;> omega)) _) (by first | omega | (simp [putRow_size, drewN_heap, drew_heap] <;> omega)) hb1)
  have hs1 : w.heap.size ≤ w1.heap.size := HB1.out.size
  have r1_0 : rowAt w1 (w.heap.size) = some (.cells (tabA p) 25 (0, 0)) := rowNext' hb1 (by rw [rowAt_old _ _ _ (by first | omega | (simp [putRow_size, drewN_heap, drew_heap] <;> omega)), rowAt_new _ _ _ (by first | omega | (simp [putRow_size, drewN_heap, drew_heap] <;> omega))])
  have c1_0 := lt_of_some r1_0
  have r1_1 : rowAt w1 (w.heap.size + 1) = some (.cells (exA zeroT zeroW) 60 (0, 0)) := rowNext' hb1 (by rw [rowAt_new _ _ _ (by first | omega | (simp [putRow_size, drewN_heap, drew_heap] <;> omega))])
  have c1_1 := lt_of_some r1_1
  go_wp2_with (refine wpList_build_known rfl 60 #[] rfl #[] (by simp [Act.eval]) (.agg (exA zeroT zeroW)) (buildExch _) ?_)
  exact bodyPost_ret (v := .tuple #[.agg (exA zeroT zeroW), .slice none 0 0, .int .i64 1]) (results_row_tmp2 Try.results35 _ _ (w.heap.size + 1) 60 (exA zeroT zeroW) (0, 0) _ rfl (by show rowAt _ _ = _; rw [rowAt_old _ _ _ (by first | omega | (simp [putRow_size, drewN_heap, drew_heap] <;> omega)), rowAt_put _ _ _ _ (by first | omega | (simp [putRow_size, drewN_heap, drew_heap] <;> omega))]) Try.underlying60 rfl (by rw [exA_size]; exact sizeExch) (.slice none 0 0) (.int .i64 1) rfl rfl) rfl ⟨rfl, ((below_putRow HB1.out _ _ _ (by first | omega | (simp [putRow_size, drewN_heap, drew_heap] <;> omega))).alloc (by first | omega | (simp [putRow_size, drewN_heap, drew_heap] <;> omega)) _)⟩

set_option maxHeartbeats 2000000 in
set_option maxRecDepth 100000 in
theorem begin_c (p : Tb) (HP : Hid (tabErr p = 0)) (w : World) :
    Calls Try.prog 35 #[.agg (tabA p), .bool false] w fun e w' => e = .returned (.tuple #[.agg (exA p zeroW), .slice none 0 0, .int .i64 0]) ∧ Below w.heap.size w w' := by
  go_enter Try.func35, Try.ntmps35
  go_wp2_with fail
  refine (first_ok p HP.out _).mono ?_
  rintro e w1 ⟨rfl, hb1⟩
  have HB1 := hid (below_step (((Below.refl w.heap.size w).alloc (by first | omega | (simp [putRow_size, drewN_heap, drew_heap] <;> omega)) _).alloc (by first | omega | (simp [putRow_size, drewN_heap, drew_heap] <;> omega)) _) (by first | omega | (simp [putRow_size, drewN_heap, drew_heap] <;> omega)) hb1)
  have hs1 : w.heap.size ≤ w1.heap.size := HB1.out.size
  have r1_0 : rowAt w1 (w.heap.size) = some (.cells (tabA p) 25 (0, 0)) := rowNext' hb1 (by rw [rowAt_old _ _ _ (by first | omega | (simp [putRow_size, drewN_heap, drew_heap] <;> omega)), rowAt_new _ _ _ (by first | omega | (simp [putRow_size, drewN_heap, drew_heap] <;> omega))])
  have c1_0 := lt_of_some r1_0
  have r1_1 : rowAt w1 (w.heap.size + 1) = some (.cells (exA zeroT zeroW) 60 (0, 0)) := rowNext' hb1 (by rw [rowAt_new _ _ _ (by first | omega | (simp [putRow_size, drewN_heap, drew_heap] <;> omega))])
  have c1_1 := lt_of_some r1_1
  go_wp2_with (refine wpList_build_known rfl 60 #[(0, .tmp 22)] rfl #[(0, .agg (tabA p))] (by simp [Act.eval]) (.agg (exA p zeroW)) (buildExT p _) ?_)
  refine (exKind false _).mono ?_
  rintro e w2 ⟨rfl, hb2⟩
  have HB2 := hid (below_step ((HB1.out.alloc (by first | omega | (simp [putRow_size, drewN_heap, drew_heap] <;> omega)) _).alloc (by first | omega | (simp [putRow_size, drewN_heap, drew_heap] <;> omega)) _) (by first | omega | (simp [putRow_size, drewN_heap, drew_heap] <;> omega)) hb2)
  have hs2 : w.heap.size ≤ w2.heap.size := HB2.out.size
  have r2_0 : rowAt w2 (w.heap.size) = some (.cells (tabA p) 25 (0, 0)) := rowNext' hb2 (by rw [rowAt_old _ _ _ (by first | omega | (simp [putRow_size, drewN_heap, drew_heap] <;> omega)), rowAt_old _ _ _ (by first | omega | (simp [putRow_size, drewN_heap, drew_heap] <;> omega))]; exact r1_0)
  have c2_0 := lt_of_some r2_0
  have r2_1 : rowAt w2 (w.heap.size + 1) = some (.cells (exA zeroT zeroW) 60 (0, 0)) := rowNext' hb2 (by rw [rowAt_old _ _ _ (by first | omega | (simp [putRow_size, drewN_heap, drew_heap] <;> omega)), rowAt_old _ _ _ (by first | omega | (simp [putRow_size, drewN_heap, drew_heap] <;> omega))]; exact r1_1)
  have c2_1 := lt_of_some r2_1
  have r2_2 : rowAt w2 (w1.heap.size) = some (.cells (tabA p) 39 (0, 0)) := rowNext' hb2 (by rw [rowAt_old _ _ _ (by first | omega | (simp [putRow_size, drewN_heap, drew_heap] <;> omega)), rowAt_new _ _ _ (by first | omega | (simp [putRow_size, drewN_heap, drew_heap] <;> omega))])
  have c2_2 := lt_of_some r2_2
  have r2_3 : rowAt w2 (w1.heap.size + 1) = some (.cells (exA p zeroW) 60 (0, 0)) := rowNext' hb2 (by rw [rowAt_new _ _ _ (by first | omega | (simp [putRow_size, drewN_heap, drew_heap] <;> omega))])
  have c2_3 := lt_of_some r2_3
  clear r1_0 c1_0 r1_1 c1_1 hb1 HB1 hs1
  go_wp2_with fail
  exact bodyPost_ret (v := .tuple #[.agg (exA p zeroW), .slice none 0 0, .int .i64 0]) (results_row_tmp2 Try.results35 _ _ (w.heap.size + 1) 60 (exA p zeroW) (0, 0) _ rfl (by show rowAt _ _ = _; rw [rowAt_put _ _ _ _ (by first | omega | (simp [putRow_size, drewN_heap, drew_heap] <;> omega))]) Try.underlying60 rfl (by rw [exA_size]; exact sizeExch) (.slice none 0 0) (.int .i64 0) rfl rfl) rfl ⟨rfl, (below_putRow HB2.out _ _ _ (by first | omega | (simp [putRow_size, drewN_heap, drew_heap] <;> omega)))⟩

theorem Tris.put {w : World} {g b : Nat} {t : Tb} {cs : Array Value} {ty : TypeId} (h : Tris w g t) (hb : b ≠ g) : Tris (putRow w b cs ty) g t := fun i j u hi hu => by
  have hc := h i j u hi hu
  have e : (putRow w b cs ty).heap[g]? = w.heap[g]? := putRow_other w b g cs ty (Ne.symm hb)
  simp only [World.cell?, e] at hc ⊢
  exact hc
set_option maxHeartbeats 2000000 in
set_option maxRecDepth 100000 in
theorem begin_s (p : Tb) (HP : Hid (tabErr p = 0)) (w : World) :
    Calls Try.prog 35 #[.agg (tabA p), .bool true] w fun e w' => ∃ g, e = .returned (.tuple #[.agg (exA p (onesTo 31)), .slice (some ⟨g, 0, none⟩) 30 31, .int .i64 0]) ∧ Tris w' g p ∧ w.heap.size ≤ g ∧ g < w'.heap.size ∧ Below w.heap.size w w' := by
  go_enter Try.func35, Try.ntmps35
  go_wp2_with fail
  refine (first_ok p HP.out _).mono ?_
  rintro e w1 ⟨rfl, hb1⟩
  have HB1 := hid (below_step (((Below.refl w.heap.size w).alloc (by first | omega | (simp [putRow_size, drewN_heap, drew_heap] <;> omega)) _).alloc (by first | omega | (simp [putRow_size, drewN_heap, drew_heap] <;> omega)) _) (by first | omega | (simp [putRow_size, drewN_heap, drew_heap] <;> omega)) hb1)
  have hs1 : w.heap.size ≤ w1.heap.size := HB1.out.size
  have r1_0 : rowAt w1 (w.heap.size) = some (.cells (tabA p) 25 (0, 0)) := rowNext' hb1 (by rw [rowAt_old _ _ _ (by first | omega | (simp [putRow_size, drewN_heap, drew_heap] <;> omega)), rowAt_new _ _ _ (by first | omega | (simp [putRow_size, drewN_heap, drew_heap] <;> omega))])
  have c1_0 := lt_of_some r1_0
  have r1_1 : rowAt w1 (w.heap.size + 1) = some (.cells (exA zeroT zeroW) 60 (0, 0)) := rowNext' hb1 (by rw [rowAt_new _ _ _ (by first | omega | (simp [putRow_size, drewN_heap, drew_heap] <;> omega))])
  have c1_1 := lt_of_some r1_1
  have hse1 : w.heap.size + 1 < w1.heap.size := by omega
  go_wp2_with (refine wpList_build_known rfl 60 #[(0, .tmp 22)] rfl #[(0, .agg (tabA p))] (by simp [Act.eval]) (.agg (exA p zeroW)) (buildExT p _) ?_)
  refine (exKind true _).mono ?_
  rintro e w2 ⟨rfl, hb2⟩
  have HB2 := hid (below_step ((HB1.out.alloc (by first | omega | (simp [putRow_size, drewN_heap, drew_heap] <;> omega)) _).alloc (by first | omega | (simp [putRow_size, drewN_heap, drew_heap] <;> omega)) _) (by first | omega | (simp [putRow_size, drewN_heap, drew_heap] <;> omega)) hb2)
  have hs2 : w.heap.size ≤ w2.heap.size := HB2.out.size
  have r2_0 : rowAt w2 (w.heap.size) = some (.cells (tabA p) 25 (0, 0)) := rowNext' hb2 (by rw [rowAt_old _ _ _ (by first | omega | (simp [putRow_size, drewN_heap, drew_heap] <;> omega)), rowAt_old _ _ _ (by first | omega | (simp [putRow_size, drewN_heap, drew_heap] <;> omega))]; exact r1_0)
  have c2_0 := lt_of_some r2_0
  have r2_1 : rowAt w2 (w.heap.size + 1) = some (.cells (exA zeroT zeroW) 60 (0, 0)) := rowNext' hb2 (by rw [rowAt_old _ _ _ (by first | omega | (simp [putRow_size, drewN_heap, drew_heap] <;> omega)), rowAt_old _ _ _ (by first | omega | (simp [putRow_size, drewN_heap, drew_heap] <;> omega))]; exact r1_1)
  have c2_1 := lt_of_some r2_1
  have r2_2 : rowAt w2 (w1.heap.size) = some (.cells (tabA p) 39 (0, 0)) := rowNext' hb2 (by rw [rowAt_old _ _ _ (by first | omega | (simp [putRow_size, drewN_heap, drew_heap] <;> omega)), rowAt_new _ _ _ (by first | omega | (simp [putRow_size, drewN_heap, drew_heap] <;> omega))])
  have c2_2 := lt_of_some r2_2
  have r2_3 : rowAt w2 (w1.heap.size + 1) = some (.cells (exA p zeroW) 60 (0, 0)) := rowNext' hb2 (by rw [rowAt_new _ _ _ (by first | omega | (simp [putRow_size, drewN_heap, drew_heap] <;> omega))])
  have c2_3 := lt_of_some r2_3
  clear r1_0 c1_0 r1_1 c1_1 hb1 HB1 hs1
  go_wp2_with fail
  have R4 := hid r2_1
  have R9 : Hid (rowAt w2 (w1.heap.size + 1) = some (.cells (exA p (onesTo 1)) 60 (0, 0))) := hid (by rw [onesTo_one]; exact r2_3)
  have R7 := hid r2_2
  clear r2_1 r2_3 r2_2 c2_2 c2_1 c2_3
  have hne : w1.heap.size + 1 ≠ w.heap.size + 1 := by omega
  have hne2 : w1.heap.size + 1 ≠ w1.heap.size := by omega
  go_loopw [10] (fun i' wr => ∃ k : Nat, 1 ≤ k ∧ k ≤ 31 ∧ i' = .int .i64 k ∧ rowAt wr (w.heap.size + 1) = some (.cells (exA zeroT zeroW) 60 (0, 0)) ∧ rowAt wr (w1.heap.size + 1) = some (.cells (exA p (onesTo k)) 60 (0, 0)) ∧ rowAt wr (w1.heap.size) = some (.cells (tabA p) 39 (0, 0)) ∧ Below w.heap.size w wr) (fun i' _ => 31 - (intOf i').toNat)
  case atStart => exact ⟨1, by omega, by omega, rfl, R4.out, R9.out, R7.out, HB2.out⟩
  case round =>
    obtain ⟨k, hk1, hk, rfl, r4, r9, r7, hbr⟩ := hrel
    have HBR := hid hbr
    have hsr := hbr.size
    have c4 := lt_of_some r4
    have c9 := lt_of_some r9
    have c7 := lt_of_some r7
    clear hbr R4 R9 R7 HB2
    by_cases hlt : k < 31
    · have k9 := cell_of_row _ _ (62 + k) _ _ _ r9
      rw [exA_wait _ _ k hlt] at k9
      have f9 := frozenRow r9
      have hn0 : (0 : Int) ≤ (k : Int) := by omega
      have hn31 : (k : Int) < 31 := by omega
      have q9 : rowAt (wr.setCell ⟨w1.heap.size + 1, 62 + k, none⟩ (.int .i64 1)) (w1.heap.size + 1) = some (.cells (exA p (onesTo (k + 1))) 60 (0, 0)) := by rw [← onesTo_succ k hk1, ← exA_updW p (onesTo k) k 1 hlt]; exact setCell_rowSame r9 _ _
      have q4 : rowAt (wr.setCell ⟨w1.heap.size + 1, 62 + k, none⟩ (.int .i64 1)) (w.heap.size + 1) = some (.cells (exA zeroT zeroW) 60 (0, 0)) := setCell_rowOther r4 (b := w1.heap.size + 1) (62 + k) (.int .i64 1) (Ne.symm hne)
      have q7 : rowAt (wr.setCell ⟨w1.heap.size + 1, 62 + k, none⟩ (.int .i64 1)) (w1.heap.size) = some (.cells (tabA p) 39 (0, 0)) := setCell_rowOther r7 (b := w1.heap.size + 1) (62 + k) (.int .i64 1) (Ne.symm hne2)
      have HQ4 := hid q4
      have HQ7 := hid q7
      have HQ9 := hid q9
      have HBS := hid (HBR.out.setCell (p := ⟨w1.heap.size + 1, 62 + k, none⟩) (show w.heap.size ≤ w1.heap.size + 1 by omega) (.int .i64 1))
      clear q9 q4 q7
      go_wp2_with fail
      go_roundw
      case rel => exact ⟨k + 1, by omega, by omega, by go_num, HQ4.out, HQ9.out, HQ7.out, HBS.out⟩
      case measure => simp [intOf]; omega
    · obtain rfl : k = 31 := by omega
      go_wp2_with fail
      refine (whole_ok p HP.out _).mono ?_
      rintro e w3 ⟨g, rfl, ht, hg1, hg2, hb3⟩
      have q4 := rowNext' hb3 r4
      have q9 := rowNext' hb3 r9
      have l4 := lt_of_some q4
      have HB3 := hid (below_step HBR.out hsr hb3)
      have HT := hid ht
      have l4' : w.heap.size + 1 < wr.heap.size := c4
      clear r4 r9 r7 c4 c9 c7 hb3 ht
      go_wp2_with fail
      exact bodyPost_ret (v := .tuple #[.agg (exA p (onesTo 31)), .slice (some ⟨g, 0, none⟩) 30 31, .int .i64 0]) (results_row_tmp2 Try.results35 _ _ (w.heap.size + 1) 60 (exA p (onesTo 31)) (0, 0) _ rfl (rowAt_put _ _ _ _ l4) Try.underlying60 rfl (by rw [exA_size]; exact sizeExch) (.slice (some ⟨g, 0, none⟩) 30 31) (.int .i64 0) rfl rfl) rfl
        ⟨g, rfl, Tris.put HT.out (by omega), by omega, by rw [putRow_size]; exact hg2, below_putRow HB3.out _ _ _ (by omega)⟩

end Go.Proofs.Ytjghmgpmaallfaa
