/-
  The walk of TableFirst.
-/
import Derived.Test.YtjghmgpmaallfaaDoorOrd0
import Derived.Test.YtjghmgpmaallfaaDoorMnp
import Derived.Deep.QuietTactic
import Derived.BigQuiet
import Derived.Deep.RegionWith
namespace Go.Proofs.YtjghmgpmaallfaaDoor
open Go.RowKit
set_option linter.unusedVariables false
set_option linter.unusedSimpArgs false

set_option maxHeartbeats 2000000 in
set_option maxRecDepth 100000 in
theorem first_low (t : Tb) (f : Int) (hf : f < 1) (key m1 : Int) (r1 : Nat) (hm : (key != 13) = false ∨ ((key != 13) = true ∧ (m1 != (r1 : Int)) = false)) (HM : Hid (meaning t key = m1)) (HR : Hid (meanFrom t key 30 = r1)) (w : World) (hstd : StdLies w) :
    Calls Tryd.prog 6 #[.agg (tabA t), .int .u8 key, .int .i64 f] w fun e w' => e = .returned (.bool true) ∧ Below w.heap.size w w' := by
  have hsz := hstd.size
  have HSTD := hid hstd
  clear hstd
  have d1 : decide (f < 1) = true := by simp; omega
  go_enter Tryd.func6, Tryd.ntmps6
  go_wp2_with fail
  refine (tableMeaning_eq HM.out _).mono ?_
  rintro e w1 ⟨rfl, hb1⟩
  have HB1 := hid (below_step ((Below.refl w.heap.size w).alloc (by first | omega | (simp [putRow_size, drewN_heap, drew_heap] <;> omega)) _) (by first | omega | (simp [putRow_size, drewN_heap, drew_heap] <;> omega)) hb1)
  have hs1 : w.heap.size ≤ w1.heap.size := HB1.out.size
  have r1_0 : rowAt w1 (w.heap.size) = some (.cells (tabA t) 25 (0, 0)) := rowNext' hb1 (by rw [rowAt_new _ _ _ (by first | omega | (simp [putRow_size, drewN_heap, drew_heap] <;> omega))])
  have c1_0 := lt_of_some r1_0
  go_wp2
  go_loop [8, 9] (fun r i => ∃ k : Nat, k ≤ 30 ∧ i = .int .i64 k ∧ r = .int .i64 (meanFrom t key (30 - k) : Nat)) (fun r i => (intOf i).toNat)
  case atStart => exact ⟨30, by omega, rfl, rfl⟩
  case round =>
    obtain ⟨k, hk, rfl, rfl⟩ := hrel
    by_cases hlt : 1 ≤ k
    · obtain ⟨c1, c2, hc⟩ : ∃ c1 c2, t k = (c1, c2) := ⟨_, _, rfl⟩
      have HC := hid hc
      have k0 : w1.cell? ⟨w.heap.size, k * 2, none⟩ = some (.int .i64 c1) := by rw [cell_of_row _ _ _ _ _ _ r1_0, tabA_cell0 t k (by omega), hc]
      have k1 : w1.cell? ⟨w.heap.size, k * 2 + 1, none⟩ = some (.int .u8 c2) := by rw [cell_of_row _ _ _ _ _ _ r1_0, tabA_cell1 t k (by omega), hc]
      have hstep : meanFrom t key (30 - (k - 1)) = if hit t key k then k else meanFrom t key (30 - k) := by
        rw [show 30 - (k - 1) = (30 - k) + 1 from by omega, meanFrom, show 30 - (30 - k) = k from by omega]
      have HS := hid hstep
      clear hc hstep
      by_cases g1 : c1 = 0
      · have hn : ¬ hit t key k := by unfold hit; rw [HC.out]; exact fun h => h.1 g1
        have HN := hid (HS.out.trans (if_neg hn))
        clear hn
        have b1 : (c1 != 0) = false := by simpa using g1
        generalize meanFrom t key (30 - k) = r0 at *
        go_wp2
        go_round
        case rel => exact ⟨k - 1, by omega, by go_num, by rw [HN.out]⟩
        case measure => simp [intOf]; omega
      · have b1 : (c1 != 0) = true := by simpa using g1
        by_cases g2 : c2 = key
        · have hn : hit t key k := by unfold hit; rw [HC.out]; exact ⟨g1, g2⟩
          have HN := hid (HS.out.trans (if_pos hn))
          have b2 : (c2 == key) = true := by simpa using g2
          clear hn g1 g2
          generalize meanFrom t key (30 - k) = r0 at *
          go_wp2
          go_round
          case rel => exact ⟨k - 1, by omega, by go_num, by rw [HN.out]⟩
          case measure => simp [intOf]; omega
        · have hn : ¬ hit t key k := by unfold hit; rw [HC.out]; exact fun h => g2 h.2
          have HN := hid (HS.out.trans (if_neg hn))
          have b2 : (c2 == key) = false := by simpa using g2
          clear hn g1 g2
          generalize meanFrom t key (30 - k) = r0 at *
          go_wp2
          go_round
          case rel => exact ⟨k - 1, by omega, by go_num, by rw [HN.out]⟩
          case measure => simp [intOf]; omega
    · obtain rfl : k = 0 := by omega
      have e30 : (meanFrom t key (30 - 0) : Nat) = r1 := HR.out
      rw [e30]
      rcases hm with hm | ⟨hm, hm2⟩
      · go_wp2_with fail
        refine (key_low t f hf _).mono ?_
        rintro e w2 ⟨rfl, hb2⟩
        have HB2 := hid (below_step HB1.out (by first | omega | (simp [putRow_size, drewN_heap, drew_heap] <;> omega)) hb2)
        have hs2 : w.heap.size ≤ w2.heap.size := HB2.out.size
        have r2_0 : rowAt w2 (w.heap.size) = some (.cells (tabA t) 25 (0, 0)) := rowNext' hb2 r1_0
        have c2_0 := lt_of_some r2_0
        clear r1_0 c1_0 hb1 HB1 hs1
        go_wp2_with fail
        refine (awake8 _ (HSTD.out.below HB2.out hsz)).mono ?_
        rintro e w3 ⟨rfl, hb3⟩
        have HB3 := hid (below_step HB2.out (by first | omega | (simp [putRow_size, drewN_heap, drew_heap] <;> omega)) hb3)
        have hs3 : w.heap.size ≤ w3.heap.size := HB3.out.size
        have r3_0 : rowAt w3 (w.heap.size) = some (.cells (tabA t) 25 (0, 0)) := rowNext' hb3 r2_0
        have c3_0 := lt_of_some r3_0
        clear r2_0 c2_0 hb2 HB2 hs2
        go_wp2_with fail
        go_ret
        exact ⟨rfl, HB3.out⟩
      · go_wp2_with fail
        refine (key_low t f hf _).mono ?_
        rintro e w2 ⟨rfl, hb2⟩
        have HB2 := hid (below_step HB1.out (by first | omega | (simp [putRow_size, drewN_heap, drew_heap] <;> omega)) hb2)
        have hs2 : w.heap.size ≤ w2.heap.size := HB2.out.size
        have r2_0 : rowAt w2 (w.heap.size) = some (.cells (tabA t) 25 (0, 0)) := rowNext' hb2 r1_0
        have c2_0 := lt_of_some r2_0
        clear r1_0 c1_0 hb1 HB1 hs1
        go_wp2_with fail
        refine (awake8 _ (HSTD.out.below HB2.out hsz)).mono ?_
        rintro e w3 ⟨rfl, hb3⟩
        have HB3 := hid (below_step HB2.out (by first | omega | (simp [putRow_size, drewN_heap, drew_heap] <;> omega)) hb3)
        have hs3 : w.heap.size ≤ w3.heap.size := HB3.out.size
        have r3_0 : rowAt w3 (w.heap.size) = some (.cells (tabA t) 25 (0, 0)) := rowNext' hb3 r2_0
        have c3_0 := lt_of_some r3_0
        clear r2_0 c2_0 hb2 HB2 hs2
        go_wp2_with fail
        go_ret
        exact ⟨rfl, HB3.out⟩

set_option maxHeartbeats 2000000 in
set_option maxRecDepth 100000 in
theorem first_high (t : Tb) (f : Int) (hf : 31 < f) (key m1 : Int) (r1 : Nat) (hm : (key != 13) = false ∨ ((key != 13) = true ∧ (m1 != (r1 : Int)) = false)) (HM : Hid (meaning t key = m1)) (HR : Hid (meanFrom t key 30 = r1)) (w : World) (hstd : StdLies w) :
    Calls Tryd.prog 6 #[.agg (tabA t), .int .u8 key, .int .i64 f] w fun e w' => e = .returned (.bool true) ∧ Below w.heap.size w w' := by
  have hsz := hstd.size
  have HSTD := hid hstd
  clear hstd
  have d1 : decide (f < 1) = false := by simp; omega
  have d2 : decide (31 < f) = true := by simp; omega
  go_enter Tryd.func6, Tryd.ntmps6
  go_wp2_with fail
  refine (tableMeaning_eq HM.out _).mono ?_
  rintro e w1 ⟨rfl, hb1⟩
  have HB1 := hid (below_step ((Below.refl w.heap.size w).alloc (by first | omega | (simp [putRow_size, drewN_heap, drew_heap] <;> omega)) _) (by first | omega | (simp [putRow_size, drewN_heap, drew_heap] <;> omega)) hb1)
  have hs1 : w.heap.size ≤ w1.heap.size := HB1.out.size
  have r1_0 : rowAt w1 (w.heap.size) = some (.cells (tabA t) 25 (0, 0)) := rowNext' hb1 (by rw [rowAt_new _ _ _ (by first | omega | (simp [putRow_size, drewN_heap, drew_heap] <;> omega))])
  have c1_0 := lt_of_some r1_0
  go_wp2
  go_loop [8, 9] (fun r i => ∃ k : Nat, k ≤ 30 ∧ i = .int .i64 k ∧ r = .int .i64 (meanFrom t key (30 - k) : Nat)) (fun r i => (intOf i).toNat)
  case atStart => exact ⟨30, by omega, rfl, rfl⟩
  case round =>
    obtain ⟨k, hk, rfl, rfl⟩ := hrel
    by_cases hlt : 1 ≤ k
    · obtain ⟨c1, c2, hc⟩ : ∃ c1 c2, t k = (c1, c2) := ⟨_, _, rfl⟩
      have HC := hid hc
      have k0 : w1.cell? ⟨w.heap.size, k * 2, none⟩ = some (.int .i64 c1) := by rw [cell_of_row _ _ _ _ _ _ r1_0, tabA_cell0 t k (by omega), hc]
      have k1 : w1.cell? ⟨w.heap.size, k * 2 + 1, none⟩ = some (.int .u8 c2) := by rw [cell_of_row _ _ _ _ _ _ r1_0, tabA_cell1 t k (by omega), hc]
      have hstep : meanFrom t key (30 - (k - 1)) = if hit t key k then k else meanFrom t key (30 - k) := by
        rw [show 30 - (k - 1) = (30 - k) + 1 from by omega, meanFrom, show 30 - (30 - k) = k from by omega]
      have HS := hid hstep
      clear hc hstep
      by_cases g1 : c1 = 0
      · have hn : ¬ hit t key k := by unfold hit; rw [HC.out]; exact fun h => h.1 g1
        have HN := hid (HS.out.trans (if_neg hn))
        clear hn
        have b1 : (c1 != 0) = false := by simpa using g1
        generalize meanFrom t key (30 - k) = r0 at *
        go_wp2
        go_round
        case rel => exact ⟨k - 1, by omega, by go_num, by rw [HN.out]⟩
        case measure => simp [intOf]; omega
      · have b1 : (c1 != 0) = true := by simpa using g1
        by_cases g2 : c2 = key
        · have hn : hit t key k := by unfold hit; rw [HC.out]; exact ⟨g1, g2⟩
          have HN := hid (HS.out.trans (if_pos hn))
          have b2 : (c2 == key) = true := by simpa using g2
          clear hn g1 g2
          generalize meanFrom t key (30 - k) = r0 at *
          go_wp2
          go_round
          case rel => exact ⟨k - 1, by omega, by go_num, by rw [HN.out]⟩
          case measure => simp [intOf]; omega
        · have hn : ¬ hit t key k := by unfold hit; rw [HC.out]; exact fun h => g2 h.2
          have HN := hid (HS.out.trans (if_neg hn))
          have b2 : (c2 == key) = false := by simpa using g2
          clear hn g1 g2
          generalize meanFrom t key (30 - k) = r0 at *
          go_wp2
          go_round
          case rel => exact ⟨k - 1, by omega, by go_num, by rw [HN.out]⟩
          case measure => simp [intOf]; omega
    · obtain rfl : k = 0 := by omega
      have e30 : (meanFrom t key (30 - 0) : Nat) = r1 := HR.out
      rw [e30]
      rcases hm with hm | ⟨hm, hm2⟩
      · go_wp2_with fail
        refine (key_high t f hf _).mono ?_
        rintro e w2 ⟨rfl, hb2⟩
        have HB2 := hid (below_step HB1.out (by first | omega | (simp [putRow_size, drewN_heap, drew_heap] <;> omega)) hb2)
        have hs2 : w.heap.size ≤ w2.heap.size := HB2.out.size
        have r2_0 : rowAt w2 (w.heap.size) = some (.cells (tabA t) 25 (0, 0)) := rowNext' hb2 r1_0
        have c2_0 := lt_of_some r2_0
        clear r1_0 c1_0 hb1 HB1 hs1
        go_wp2_with fail
        refine (awake8 _ (HSTD.out.below HB2.out hsz)).mono ?_
        rintro e w3 ⟨rfl, hb3⟩
        have HB3 := hid (below_step HB2.out (by first | omega | (simp [putRow_size, drewN_heap, drew_heap] <;> omega)) hb3)
        have hs3 : w.heap.size ≤ w3.heap.size := HB3.out.size
        have r3_0 : rowAt w3 (w.heap.size) = some (.cells (tabA t) 25 (0, 0)) := rowNext' hb3 r2_0
        have c3_0 := lt_of_some r3_0
        clear r2_0 c2_0 hb2 HB2 hs2
        go_wp2_with fail
        go_ret
        exact ⟨rfl, HB3.out⟩
      · go_wp2_with fail
        refine (key_high t f hf _).mono ?_
        rintro e w2 ⟨rfl, hb2⟩
        have HB2 := hid (below_step HB1.out (by first | omega | (simp [putRow_size, drewN_heap, drew_heap] <;> omega)) hb2)
        have hs2 : w.heap.size ≤ w2.heap.size := HB2.out.size
        have r2_0 : rowAt w2 (w.heap.size) = some (.cells (tabA t) 25 (0, 0)) := rowNext' hb2 r1_0
        have c2_0 := lt_of_some r2_0
        clear r1_0 c1_0 hb1 HB1 hs1
        go_wp2_with fail
        refine (awake8 _ (HSTD.out.below HB2.out hsz)).mono ?_
        rintro e w3 ⟨rfl, hb3⟩
        have HB3 := hid (below_step HB2.out (by first | omega | (simp [putRow_size, drewN_heap, drew_heap] <;> omega)) hb3)
        have hs3 : w.heap.size ≤ w3.heap.size := HB3.out.size
        have r3_0 : rowAt w3 (w.heap.size) = some (.cells (tabA t) 25 (0, 0)) := rowNext' hb3 r2_0
        have c3_0 := lt_of_some r3_0
        clear r2_0 c2_0 hb2 HB2 hs2
        go_wp2_with fail
        go_ret
        exact ⟨rfl, HB3.out⟩

set_option maxHeartbeats 2000000 in
set_option maxRecDepth 100000 in
theorem first_enter (t : Tb) (key m1 : Int) (r1 : Nat) (hm : (key != 13) = false ∨ ((key != 13) = true ∧ (m1 != (r1 : Int)) = false)) (HM : Hid (meaning t key = m1)) (HR : Hid (meanFrom t key 30 = r1)) (w : World) (hstd : StdLies w) :
    Calls Tryd.prog 6 #[.agg (tabA t), .int .u8 key, .int .i64 31] w fun e w' => e = .returned (.bool true) ∧ Below w.heap.size w w' := by
  have hsz := hstd.size
  have HSTD := hid hstd
  clear hstd
  go_enter Tryd.func6, Tryd.ntmps6
  go_wp2_with fail
  refine (tableMeaning_eq HM.out _).mono ?_
  rintro e w1 ⟨rfl, hb1⟩
  have HB1 := hid (below_step ((Below.refl w.heap.size w).alloc (by first | omega | (simp [putRow_size, drewN_heap, drew_heap] <;> omega)) _) (by first | omega | (simp [putRow_size, drewN_heap, drew_heap] <;> omega)) hb1)
  have hs1 : w.heap.size ≤ w1.heap.size := HB1.out.size
  have r1_0 : rowAt w1 (w.heap.size) = some (.cells (tabA t) 25 (0, 0)) := rowNext' hb1 (by rw [rowAt_new _ _ _ (by first | omega | (simp [putRow_size, drewN_heap, drew_heap] <;> omega))])
  have c1_0 := lt_of_some r1_0
  go_wp2
  go_loop [8, 9] (fun r i => ∃ k : Nat, k ≤ 30 ∧ i = .int .i64 k ∧ r = .int .i64 (meanFrom t key (30 - k) : Nat)) (fun r i => (intOf i).toNat)
  case atStart => exact ⟨30, by omega, rfl, rfl⟩
  case round =>
    obtain ⟨k, hk, rfl, rfl⟩ := hrel
    by_cases hlt : 1 ≤ k
    · obtain ⟨c1, c2, hc⟩ : ∃ c1 c2, t k = (c1, c2) := ⟨_, _, rfl⟩
      have HC := hid hc
      have k0 : w1.cell? ⟨w.heap.size, k * 2, none⟩ = some (.int .i64 c1) := by rw [cell_of_row _ _ _ _ _ _ r1_0, tabA_cell0 t k (by omega), hc]
      have k1 : w1.cell? ⟨w.heap.size, k * 2 + 1, none⟩ = some (.int .u8 c2) := by rw [cell_of_row _ _ _ _ _ _ r1_0, tabA_cell1 t k (by omega), hc]
      have hstep : meanFrom t key (30 - (k - 1)) = if hit t key k then k else meanFrom t key (30 - k) := by
        rw [show 30 - (k - 1) = (30 - k) + 1 from by omega, meanFrom, show 30 - (30 - k) = k from by omega]
      have HS := hid hstep
      clear hc hstep
      by_cases g1 : c1 = 0
      · have hn : ¬ hit t key k := by unfold hit; rw [HC.out]; exact fun h => h.1 g1
        have HN := hid (HS.out.trans (if_neg hn))
        clear hn
        have b1 : (c1 != 0) = false := by simpa using g1
        generalize meanFrom t key (30 - k) = r0 at *
        go_wp2
        go_round
        case rel => exact ⟨k - 1, by omega, by go_num, by rw [HN.out]⟩
        case measure => simp [intOf]; omega
      · have b1 : (c1 != 0) = true := by simpa using g1
        by_cases g2 : c2 = key
        · have hn : hit t key k := by unfold hit; rw [HC.out]; exact ⟨g1, g2⟩
          have HN := hid (HS.out.trans (if_pos hn))
          have b2 : (c2 == key) = true := by simpa using g2
          clear hn g1 g2
          generalize meanFrom t key (30 - k) = r0 at *
          go_wp2
          go_round
          case rel => exact ⟨k - 1, by omega, by go_num, by rw [HN.out]⟩
          case measure => simp [intOf]; omega
        · have hn : ¬ hit t key k := by unfold hit; rw [HC.out]; exact fun h => g2 h.2
          have HN := hid (HS.out.trans (if_neg hn))
          have b2 : (c2 == key) = false := by simpa using g2
          clear hn g1 g2
          generalize meanFrom t key (30 - k) = r0 at *
          go_wp2
          go_round
          case rel => exact ⟨k - 1, by omega, by go_num, by rw [HN.out]⟩
          case measure => simp [intOf]; omega
    · obtain rfl : k = 0 := by omega
      have e30 : (meanFrom t key (30 - 0) : Nat) = r1 := HR.out
      rw [e30]
      rcases hm with hm | ⟨hm, hm2⟩
      · go_wp2_with fail
        refine (key_enter t _).mono ?_
        rintro e w2 ⟨rfl, hb2⟩
        have HB2 := hid (below_step HB1.out (by first | omega | (simp [putRow_size, drewN_heap, drew_heap] <;> omega)) hb2)
        have hs2 : w.heap.size ≤ w2.heap.size := HB2.out.size
        have r2_0 : rowAt w2 (w.heap.size) = some (.cells (tabA t) 25 (0, 0)) := rowNext' hb2 r1_0
        have c2_0 := lt_of_some r2_0
        clear r1_0 c1_0 hb1 HB1 hs1
        go_wp2_with fail
        refine (awake8 _ (HSTD.out.below HB2.out hsz)).mono ?_
        rintro e w3 ⟨rfl, hb3⟩
        have HB3 := hid (below_step HB2.out (by first | omega | (simp [putRow_size, drewN_heap, drew_heap] <;> omega)) hb3)
        have hs3 : w.heap.size ≤ w3.heap.size := HB3.out.size
        have r3_0 : rowAt w3 (w.heap.size) = some (.cells (tabA t) 25 (0, 0)) := rowNext' hb3 r2_0
        have c3_0 := lt_of_some r3_0
        clear r2_0 c2_0 hb2 HB2 hs2
        go_wp2_with fail
        go_ret
        exact ⟨rfl, HB3.out⟩
      · go_wp2_with fail
        refine (key_enter t _).mono ?_
        rintro e w2 ⟨rfl, hb2⟩
        have HB2 := hid (below_step HB1.out (by first | omega | (simp [putRow_size, drewN_heap, drew_heap] <;> omega)) hb2)
        have hs2 : w.heap.size ≤ w2.heap.size := HB2.out.size
        have r2_0 : rowAt w2 (w.heap.size) = some (.cells (tabA t) 25 (0, 0)) := rowNext' hb2 r1_0
        have c2_0 := lt_of_some r2_0
        clear r1_0 c1_0 hb1 HB1 hs1
        go_wp2_with fail
        refine (awake8 _ (HSTD.out.below HB2.out hsz)).mono ?_
        rintro e w3 ⟨rfl, hb3⟩
        have HB3 := hid (below_step HB2.out (by first | omega | (simp [putRow_size, drewN_heap, drew_heap] <;> omega)) hb3)
        have hs3 : w.heap.size ≤ w3.heap.size := HB3.out.size
        have r3_0 : rowAt w3 (w.heap.size) = some (.cells (tabA t) 25 (0, 0)) := rowNext' hb3 r2_0
        have c3_0 := lt_of_some r3_0
        clear r2_0 c2_0 hb2 HB2 hs2
        go_wp2_with fail
        go_ret
        exact ⟨rfl, HB3.out⟩

set_option maxHeartbeats 2000000 in
set_option maxRecDepth 100000 in
theorem first_none (t : Tb) (n : Nat) (h1 : 1 ≤ n) (h2 : n < 31) (c2 : Int) (HC : Hid (t n = (0, c2))) (key m1 : Int) (r1 : Nat) (hm : (key != 13) = false ∨ ((key != 13) = true ∧ (m1 != (r1 : Int)) = false)) (HM : Hid (meaning t key = m1)) (HR : Hid (meanFrom t key 30 = r1)) (w : World) (hstd : StdLies w) :
    Calls Tryd.prog 6 #[.agg (tabA t), .int .u8 key, .int .i64 n] w fun e w' => e = .returned (.bool true) ∧ Below w.heap.size w w' := by
  have hsz := hstd.size
  have HSTD := hid hstd
  clear hstd
  have d1 : decide ((n : Int) < 1) = false := by simp; omega
  have d2 : decide (31 < (n : Int)) = false := by simp; omega
  have d5 : decide ((n : Int) < 31) = true := by simp; omega
  have d5' : decide (n < 31) = true := by simp; omega
  go_enter Tryd.func6, Tryd.ntmps6
  go_wp2_with fail
  refine (tableMeaning_eq HM.out _).mono ?_
  rintro e w1 ⟨rfl, hb1⟩
  have HB1 := hid (below_step ((Below.refl w.heap.size w).alloc (by first | omega | (simp [putRow_size, drewN_heap, drew_heap] <;> omega)) _) (by first | omega | (simp [putRow_size, drewN_heap, drew_heap] <;> omega)) hb1)
  have hs1 : w.heap.size ≤ w1.heap.size := HB1.out.size
  have r1_0 : rowAt w1 (w.heap.size) = some (.cells (tabA t) 25 (0, 0)) := rowNext' hb1 (by rw [rowAt_new _ _ _ (by first | omega | (simp [putRow_size, drewN_heap, drew_heap] <;> omega))])
  have c1_0 := lt_of_some r1_0
  go_wp2
  go_loop [8, 9] (fun r i => ∃ k : Nat, k ≤ 30 ∧ i = .int .i64 k ∧ r = .int .i64 (meanFrom t key (30 - k) : Nat)) (fun r i => (intOf i).toNat)
  case atStart => exact ⟨30, by omega, rfl, rfl⟩
  case round =>
    obtain ⟨k, hk, rfl, rfl⟩ := hrel
    by_cases hlt : 1 ≤ k
    · obtain ⟨c1, c2, hc⟩ : ∃ c1 c2, t k = (c1, c2) := ⟨_, _, rfl⟩
      have HC := hid hc
      have k0 : w1.cell? ⟨w.heap.size, k * 2, none⟩ = some (.int .i64 c1) := by rw [cell_of_row _ _ _ _ _ _ r1_0, tabA_cell0 t k (by omega), hc]
      have k1 : w1.cell? ⟨w.heap.size, k * 2 + 1, none⟩ = some (.int .u8 c2) := by rw [cell_of_row _ _ _ _ _ _ r1_0, tabA_cell1 t k (by omega), hc]
      have hstep : meanFrom t key (30 - (k - 1)) = if hit t key k then k else meanFrom t key (30 - k) := by
        rw [show 30 - (k - 1) = (30 - k) + 1 from by omega, meanFrom, show 30 - (30 - k) = k from by omega]
      have HS := hid hstep
      clear hc hstep
      by_cases g1 : c1 = 0
      · have hn : ¬ hit t key k := by unfold hit; rw [HC.out]; exact fun h => h.1 g1
        have HN := hid (HS.out.trans (if_neg hn))
        clear hn
        have b1 : (c1 != 0) = false := by simpa using g1
        generalize meanFrom t key (30 - k) = r0 at *
        go_wp2
        go_round
        case rel => exact ⟨k - 1, by omega, by go_num, by rw [HN.out]⟩
        case measure => simp [intOf]; omega
      · have b1 : (c1 != 0) = true := by simpa using g1
        by_cases g2 : c2 = key
        · have hn : hit t key k := by unfold hit; rw [HC.out]; exact ⟨g1, g2⟩
          have HN := hid (HS.out.trans (if_pos hn))
          have b2 : (c2 == key) = true := by simpa using g2
          clear hn g1 g2
          generalize meanFrom t key (30 - k) = r0 at *
          go_wp2
          go_round
          case rel => exact ⟨k - 1, by omega, by go_num, by rw [HN.out]⟩
          case measure => simp [intOf]; omega
        · have hn : ¬ hit t key k := by unfold hit; rw [HC.out]; exact fun h => g2 h.2
          have HN := hid (HS.out.trans (if_neg hn))
          have b2 : (c2 == key) = false := by simpa using g2
          clear hn g1 g2
          generalize meanFrom t key (30 - k) = r0 at *
          go_wp2
          go_round
          case rel => exact ⟨k - 1, by omega, by go_num, by rw [HN.out]⟩
          case measure => simp [intOf]; omega
    · obtain rfl : k = 0 := by omega
      have e30 : (meanFrom t key (30 - 0) : Nat) = r1 := HR.out
      rw [e30]
      rcases hm with hm | ⟨hm, hm2⟩
      · go_wp2_with fail
        refine (key_none t n h1 h2 c2 HC _).mono ?_
        rintro e w2 ⟨rfl, hb2⟩
        have HB2 := hid (below_step HB1.out (by first | omega | (simp [putRow_size, drewN_heap, drew_heap] <;> omega)) hb2)
        have hs2 : w.heap.size ≤ w2.heap.size := HB2.out.size
        have r2_0 : rowAt w2 (w.heap.size) = some (.cells (tabA t) 25 (0, 0)) := rowNext' hb2 r1_0
        have c2_0 := lt_of_some r2_0
        clear r1_0 c1_0 hb1 HB1 hs1
        have q0 : w2.cell? ⟨w.heap.size, n * 2, none⟩ = some (.int .i64 0) := by rw [cell_of_row _ _ _ _ _ _ r2_0, tabA_cell0 t n h2, HC.out]
        have q1 : w2.cell? ⟨w.heap.size, n * 2 + 1, none⟩ = some (.int .u8 c2) := by rw [cell_of_row _ _ _ _ _ _ r2_0, tabA_cell1 t n h2, HC.out]
        go_wp2_with fail
        refine (awake8 _ (HSTD.out.below HB2.out hsz)).mono ?_
        rintro e w3 ⟨rfl, hb3⟩
        have HB3 := hid (below_step HB2.out (by first | omega | (simp [putRow_size, drewN_heap, drew_heap] <;> omega)) hb3)
        have hs3 : w.heap.size ≤ w3.heap.size := HB3.out.size
        have r3_0 : rowAt w3 (w.heap.size) = some (.cells (tabA t) 25 (0, 0)) := rowNext' hb3 r2_0
        have c3_0 := lt_of_some r3_0
        clear r2_0 c2_0 hb2 HB2 hs2
        go_wp2_with fail
        go_ret
        exact ⟨rfl, HB3.out⟩
      · go_wp2_with fail
        refine (key_none t n h1 h2 c2 HC _).mono ?_
        rintro e w2 ⟨rfl, hb2⟩
        have HB2 := hid (below_step HB1.out (by first | omega | (simp [putRow_size, drewN_heap, drew_heap] <;> omega)) hb2)
        have hs2 : w.heap.size ≤ w2.heap.size := HB2.out.size
        have r2_0 : rowAt w2 (w.heap.size) = some (.cells (tabA t) 25 (0, 0)) := rowNext' hb2 r1_0
        have c2_0 := lt_of_some r2_0
        clear r1_0 c1_0 hb1 HB1 hs1
        have q0 : w2.cell? ⟨w.heap.size, n * 2, none⟩ = some (.int .i64 0) := by rw [cell_of_row _ _ _ _ _ _ r2_0, tabA_cell0 t n h2, HC.out]
        have q1 : w2.cell? ⟨w.heap.size, n * 2 + 1, none⟩ = some (.int .u8 c2) := by rw [cell_of_row _ _ _ _ _ _ r2_0, tabA_cell1 t n h2, HC.out]
        go_wp2_with fail
        refine (awake8 _ (HSTD.out.below HB2.out hsz)).mono ?_
        rintro e w3 ⟨rfl, hb3⟩
        have HB3 := hid (below_step HB2.out (by first | omega | (simp [putRow_size, drewN_heap, drew_heap] <;> omega)) hb3)
        have hs3 : w.heap.size ≤ w3.heap.size := HB3.out.size
        have r3_0 : rowAt w3 (w.heap.size) = some (.cells (tabA t) 25 (0, 0)) := rowNext' hb3 r2_0
        have c3_0 := lt_of_some r3_0
        clear r2_0 c2_0 hb2 HB2 hs2
        go_wp2_with fail
        go_ret
        exact ⟨rfl, HB3.out⟩

set_option maxHeartbeats 2000000 in
set_option maxRecDepth 100000 in
theorem first_other (t : Tb) (n : Nat) (h1 : 1 ≤ n) (h2 : n < 31) (c1 c2 m0 : Int) (hm0 : ¬ m0 = n) (hc : ¬ c1 = 0) (HC : Hid (t n = (c1, c2))) (HM0 : Hid (meaning t c2 = m0)) (key m1 : Int) (r1 : Nat) (hm : (key != 13) = false ∨ ((key != 13) = true ∧ (m1 != (r1 : Int)) = false)) (HM : Hid (meaning t key = m1)) (HR : Hid (meanFrom t key 30 = r1)) (w : World) (hstd : StdLies w) :
    Calls Tryd.prog 6 #[.agg (tabA t), .int .u8 key, .int .i64 n] w fun e w' => e = .returned (.bool true) ∧ Below w.heap.size w w' := by
  have hsz := hstd.size
  have HSTD := hid hstd
  clear hstd
  have d1 : decide ((n : Int) < 1) = false := by simp; omega
  have d2 : decide (31 < (n : Int)) = false := by simp; omega
  have d5 : decide ((n : Int) < 31) = true := by simp; omega
  have d5' : decide (n < 31) = true := by simp; omega
  have d6 : (c1 == 0) = false := by simpa using hc
  go_enter Tryd.func6, Tryd.ntmps6
  go_wp2_with fail
  refine (tableMeaning_eq HM.out _).mono ?_
  rintro e w1 ⟨rfl, hb1⟩
  have HB1 := hid (below_step ((Below.refl w.heap.size w).alloc (by first | omega | (simp [putRow_size, drewN_heap, drew_heap] <;> omega)) _) (by first | omega | (simp [putRow_size, drewN_heap, drew_heap] <;> omega)) hb1)
  have hs1 : w.heap.size ≤ w1.heap.size := HB1.out.size
  have r1_0 : rowAt w1 (w.heap.size) = some (.cells (tabA t) 25 (0, 0)) := rowNext' hb1 (by rw [rowAt_new _ _ _ (by first | omega | (simp [putRow_size, drewN_heap, drew_heap] <;> omega))])
  have c1_0 := lt_of_some r1_0
  go_wp2
  go_loop [8, 9] (fun r i => ∃ k : Nat, k ≤ 30 ∧ i = .int .i64 k ∧ r = .int .i64 (meanFrom t key (30 - k) : Nat)) (fun r i => (intOf i).toNat)
  case atStart => exact ⟨30, by omega, rfl, rfl⟩
  case round =>
    obtain ⟨k, hk, rfl, rfl⟩ := hrel
    by_cases hlt : 1 ≤ k
    · obtain ⟨c1, c2, hc⟩ : ∃ c1 c2, t k = (c1, c2) := ⟨_, _, rfl⟩
      have HC := hid hc
      have k0 : w1.cell? ⟨w.heap.size, k * 2, none⟩ = some (.int .i64 c1) := by rw [cell_of_row _ _ _ _ _ _ r1_0, tabA_cell0 t k (by omega), hc]
      have k1 : w1.cell? ⟨w.heap.size, k * 2 + 1, none⟩ = some (.int .u8 c2) := by rw [cell_of_row _ _ _ _ _ _ r1_0, tabA_cell1 t k (by omega), hc]
      have hstep : meanFrom t key (30 - (k - 1)) = if hit t key k then k else meanFrom t key (30 - k) := by
        rw [show 30 - (k - 1) = (30 - k) + 1 from by omega, meanFrom, show 30 - (30 - k) = k from by omega]
      have HS := hid hstep
      clear hc hstep
      by_cases g1 : c1 = 0
      · have hn : ¬ hit t key k := by unfold hit; rw [HC.out]; exact fun h => h.1 g1
        have HN := hid (HS.out.trans (if_neg hn))
        clear hn
        have b1 : (c1 != 0) = false := by simpa using g1
        generalize meanFrom t key (30 - k) = r0 at *
        go_wp2
        go_round
        case rel => exact ⟨k - 1, by omega, by go_num, by rw [HN.out]⟩
        case measure => simp [intOf]; omega
      · have b1 : (c1 != 0) = true := by simpa using g1
        by_cases g2 : c2 = key
        · have hn : hit t key k := by unfold hit; rw [HC.out]; exact ⟨g1, g2⟩
          have HN := hid (HS.out.trans (if_pos hn))
          have b2 : (c2 == key) = true := by simpa using g2
          clear hn g1 g2
          generalize meanFrom t key (30 - k) = r0 at *
          go_wp2
          go_round
          case rel => exact ⟨k - 1, by omega, by go_num, by rw [HN.out]⟩
          case measure => simp [intOf]; omega
        · have hn : ¬ hit t key k := by unfold hit; rw [HC.out]; exact fun h => g2 h.2
          have HN := hid (HS.out.trans (if_neg hn))
          have b2 : (c2 == key) = false := by simpa using g2
          clear hn g1 g2
          generalize meanFrom t key (30 - k) = r0 at *
          go_wp2
          go_round
          case rel => exact ⟨k - 1, by omega, by go_num, by rw [HN.out]⟩
          case measure => simp [intOf]; omega
    · obtain rfl : k = 0 := by omega
      have e30 : (meanFrom t key (30 - 0) : Nat) = r1 := HR.out
      rw [e30]
      rcases hm with hm | ⟨hm, hm2⟩
      · go_wp2_with fail
        refine (key_other t n h1 h2 c1 c2 m0 hm0 hc HC HM0 _).mono ?_
        rintro e w2 ⟨rfl, hb2⟩
        have HB2 := hid (below_step HB1.out (by first | omega | (simp [putRow_size, drewN_heap, drew_heap] <;> omega)) hb2)
        have hs2 : w.heap.size ≤ w2.heap.size := HB2.out.size
        have r2_0 : rowAt w2 (w.heap.size) = some (.cells (tabA t) 25 (0, 0)) := rowNext' hb2 r1_0
        have c2_0 := lt_of_some r2_0
        clear r1_0 c1_0 hb1 HB1 hs1
        have q0 : w2.cell? ⟨w.heap.size, n * 2, none⟩ = some (.int .i64 c1) := by rw [cell_of_row _ _ _ _ _ _ r2_0, tabA_cell0 t n h2, HC.out]
        have q1 : w2.cell? ⟨w.heap.size, n * 2 + 1, none⟩ = some (.int .u8 c2) := by rw [cell_of_row _ _ _ _ _ _ r2_0, tabA_cell1 t n h2, HC.out]
        go_wp2_with fail
        refine (awake8 _ (HSTD.out.below HB2.out hsz)).mono ?_
        rintro e w3 ⟨rfl, hb3⟩
        have HB3 := hid (below_step HB2.out (by first | omega | (simp [putRow_size, drewN_heap, drew_heap] <;> omega)) hb3)
        have hs3 : w.heap.size ≤ w3.heap.size := HB3.out.size
        have r3_0 : rowAt w3 (w.heap.size) = some (.cells (tabA t) 25 (0, 0)) := rowNext' hb3 r2_0
        have c3_0 := lt_of_some r3_0
        clear r2_0 c2_0 hb2 HB2 hs2
        go_wp2_with fail
        go_ret
        exact ⟨rfl, HB3.out⟩
      · go_wp2_with fail
        refine (key_other t n h1 h2 c1 c2 m0 hm0 hc HC HM0 _).mono ?_
        rintro e w2 ⟨rfl, hb2⟩
        have HB2 := hid (below_step HB1.out (by first | omega | (simp [putRow_size, drewN_heap, drew_heap] <;> omega)) hb2)
        have hs2 : w.heap.size ≤ w2.heap.size := HB2.out.size
        have r2_0 : rowAt w2 (w.heap.size) = some (.cells (tabA t) 25 (0, 0)) := rowNext' hb2 r1_0
        have c2_0 := lt_of_some r2_0
        clear r1_0 c1_0 hb1 HB1 hs1
        have q0 : w2.cell? ⟨w.heap.size, n * 2, none⟩ = some (.int .i64 c1) := by rw [cell_of_row _ _ _ _ _ _ r2_0, tabA_cell0 t n h2, HC.out]
        have q1 : w2.cell? ⟨w.heap.size, n * 2 + 1, none⟩ = some (.int .u8 c2) := by rw [cell_of_row _ _ _ _ _ _ r2_0, tabA_cell1 t n h2, HC.out]
        go_wp2_with fail
        refine (awake8 _ (HSTD.out.below HB2.out hsz)).mono ?_
        rintro e w3 ⟨rfl, hb3⟩
        have HB3 := hid (below_step HB2.out (by first | omega | (simp [putRow_size, drewN_heap, drew_heap] <;> omega)) hb3)
        have hs3 : w.heap.size ≤ w3.heap.size := HB3.out.size
        have r3_0 : rowAt w3 (w.heap.size) = some (.cells (tabA t) 25 (0, 0)) := rowNext' hb3 r2_0
        have c3_0 := lt_of_some r3_0
        clear r2_0 c2_0 hb2 HB2 hs2
        go_wp2_with fail
        go_ret
        exact ⟨rfl, HB3.out⟩

set_option maxHeartbeats 2000000 in
set_option maxRecDepth 100000 in
theorem first_ok (t : Tb) (n : Nat) (h1 : 1 ≤ n) (h2 : n < 31) (c1 c2 : Int) (hc : ¬ c1 = 0) (HC : Hid (t n = (c1, c2))) (HM0 : Hid (meaning t c2 = n)) (key m1 : Int) (r1 : Nat) (hm : (key != 13) = false ∨ ((key != 13) = true ∧ (m1 != (r1 : Int)) = false)) (HM : Hid (meaning t key = m1)) (HR : Hid (meanFrom t key 30 = r1)) (w : World) (hstd : StdLies w) :
    Calls Tryd.prog 6 #[.agg (tabA t), .int .u8 key, .int .i64 n] w fun e w' => e = .returned (.bool true) ∧ Below w.heap.size w w' := by
  have hsz := hstd.size
  have HSTD := hid hstd
  clear hstd
  have d1 : decide ((n : Int) < 1) = false := by simp; omega
  have d2 : decide (31 < (n : Int)) = false := by simp; omega
  have d5 : decide ((n : Int) < 31) = true := by simp; omega
  have d5' : decide (n < 31) = true := by simp; omega
  have d6 : (c1 == 0) = false := by simpa using hc
  go_enter Tryd.func6, Tryd.ntmps6
  go_wp2_with fail
  refine (tableMeaning_eq HM.out _).mono ?_
  rintro e w1 ⟨rfl, hb1⟩
  have HB1 := hid (below_step ((Below.refl w.heap.size w).alloc (by first | omega | (simp [putRow_size, drewN_heap, drew_heap] <;> omega)) _) (by first | omega | (simp [putRow_size, drewN_heap, drew_heap] <;> omega)) hb1)
  have hs1 : w.heap.size ≤ w1.heap.size := HB1.out.size
  have r1_0 : rowAt w1 (w.heap.size) = some (.cells (tabA t) 25 (0, 0)) := rowNext' hb1 (by rw [rowAt_new _ _ _ (by first | omega | (simp [putRow_size, drewN_heap, drew_heap] <;> omega))])
  have c1_0 := lt_of_some r1_0
  go_wp2
  go_loop [8, 9] (fun r i => ∃ k : Nat, k ≤ 30 ∧ i = .int .i64 k ∧ r = .int .i64 (meanFrom t key (30 - k) : Nat)) (fun r i => (intOf i).toNat)
  case atStart => exact ⟨30, by omega, rfl, rfl⟩
  case round =>
    obtain ⟨k, hk, rfl, rfl⟩ := hrel
    by_cases hlt : 1 ≤ k
    · obtain ⟨c1, c2, hc⟩ : ∃ c1 c2, t k = (c1, c2) := ⟨_, _, rfl⟩
      have HC := hid hc
      have k0 : w1.cell? ⟨w.heap.size, k * 2, none⟩ = some (.int .i64 c1) := by rw [cell_of_row _ _ _ _ _ _ r1_0, tabA_cell0 t k (by omega), hc]
      have k1 : w1.cell? ⟨w.heap.size, k * 2 + 1, none⟩ = some (.int .u8 c2) := by rw [cell_of_row _ _ _ _ _ _ r1_0, tabA_cell1 t k (by omega), hc]
      have hstep : meanFrom t key (30 - (k - 1)) = if hit t key k then k else meanFrom t key (30 - k) := by
        rw [show 30 - (k - 1) = (30 - k) + 1 from by omega, meanFrom, show 30 - (30 - k) = k from by omega]
      have HS := hid hstep
      clear hc hstep
      by_cases g1 : c1 = 0
      · have hn : ¬ hit t key k := by unfold hit; rw [HC.out]; exact fun h => h.1 g1
        have HN := hid (HS.out.trans (if_neg hn))
        clear hn
        have b1 : (c1 != 0) = false := by simpa using g1
        generalize meanFrom t key (30 - k) = r0 at *
        go_wp2
        go_round
        case rel => exact ⟨k - 1, by omega, by go_num, by rw [HN.out]⟩
        case measure => simp [intOf]; omega
      · have b1 : (c1 != 0) = true := by simpa using g1
        by_cases g2 : c2 = key
        · have hn : hit t key k := by unfold hit; rw [HC.out]; exact ⟨g1, g2⟩
          have HN := hid (HS.out.trans (if_pos hn))
          have b2 : (c2 == key) = true := by simpa using g2
          clear hn g1 g2
          generalize meanFrom t key (30 - k) = r0 at *
          go_wp2
          go_round
          case rel => exact ⟨k - 1, by omega, by go_num, by rw [HN.out]⟩
          case measure => simp [intOf]; omega
        · have hn : ¬ hit t key k := by unfold hit; rw [HC.out]; exact fun h => g2 h.2
          have HN := hid (HS.out.trans (if_neg hn))
          have b2 : (c2 == key) = false := by simpa using g2
          clear hn g1 g2
          generalize meanFrom t key (30 - k) = r0 at *
          go_wp2
          go_round
          case rel => exact ⟨k - 1, by omega, by go_num, by rw [HN.out]⟩
          case measure => simp [intOf]; omega
    · obtain rfl : k = 0 := by omega
      have e30 : (meanFrom t key (30 - 0) : Nat) = r1 := HR.out
      rw [e30]
      rcases hm with hm | ⟨hm, hm2⟩
      · go_wp2_with fail
        refine (key_ok t n h1 h2 c1 c2 hc HC HM0 _).mono ?_
        rintro e w2 ⟨rfl, hb2⟩
        have HB2 := hid (below_step HB1.out (by first | omega | (simp [putRow_size, drewN_heap, drew_heap] <;> omega)) hb2)
        have hs2 : w.heap.size ≤ w2.heap.size := HB2.out.size
        have r2_0 : rowAt w2 (w.heap.size) = some (.cells (tabA t) 25 (0, 0)) := rowNext' hb2 r1_0
        have c2_0 := lt_of_some r2_0
        clear r1_0 c1_0 hb1 HB1 hs1
        have q0 : w2.cell? ⟨w.heap.size, n * 2, none⟩ = some (.int .i64 c1) := by rw [cell_of_row _ _ _ _ _ _ r2_0, tabA_cell0 t n h2, HC.out]
        have q1 : w2.cell? ⟨w.heap.size, n * 2 + 1, none⟩ = some (.int .u8 c2) := by rw [cell_of_row _ _ _ _ _ _ r2_0, tabA_cell1 t n h2, HC.out]
        go_wp2_with fail
        refine (awake8 _ (HSTD.out.below HB2.out hsz)).mono ?_
        rintro e w3 ⟨rfl, hb3⟩
        have HB3 := hid (below_step HB2.out (by first | omega | (simp [putRow_size, drewN_heap, drew_heap] <;> omega)) hb3)
        have hs3 : w.heap.size ≤ w3.heap.size := HB3.out.size
        have r3_0 : rowAt w3 (w.heap.size) = some (.cells (tabA t) 25 (0, 0)) := rowNext' hb3 r2_0
        have c3_0 := lt_of_some r3_0
        clear r2_0 c2_0 hb2 HB2 hs2
        go_wp2_with fail
        go_ret
        exact ⟨rfl, HB3.out⟩
      · go_wp2_with fail
        refine (key_ok t n h1 h2 c1 c2 hc HC HM0 _).mono ?_
        rintro e w2 ⟨rfl, hb2⟩
        have HB2 := hid (below_step HB1.out (by first | omega | (simp [putRow_size, drewN_heap, drew_heap] <;> omega)) hb2)
        have hs2 : w.heap.size ≤ w2.heap.size := HB2.out.size
        have r2_0 : rowAt w2 (w.heap.size) = some (.cells (tabA t) 25 (0, 0)) := rowNext' hb2 r1_0
        have c2_0 := lt_of_some r2_0
        clear r1_0 c1_0 hb1 HB1 hs1
        have q0 : w2.cell? ⟨w.heap.size, n * 2, none⟩ = some (.int .i64 c1) := by rw [cell_of_row _ _ _ _ _ _ r2_0, tabA_cell0 t n h2, HC.out]
        have q1 : w2.cell? ⟨w.heap.size, n * 2 + 1, none⟩ = some (.int .u8 c2) := by rw [cell_of_row _ _ _ _ _ _ r2_0, tabA_cell1 t n h2, HC.out]
        go_wp2_with fail
        refine (awake8 _ (HSTD.out.below HB2.out hsz)).mono ?_
        rintro e w3 ⟨rfl, hb3⟩
        have HB3 := hid (below_step HB2.out (by first | omega | (simp [putRow_size, drewN_heap, drew_heap] <;> omega)) hb3)
        have hs3 : w.heap.size ≤ w3.heap.size := HB3.out.size
        have r3_0 : rowAt w3 (w.heap.size) = some (.cells (tabA t) 25 (0, 0)) := rowNext' hb3 r2_0
        have c3_0 := lt_of_some r3_0
        clear r2_0 c2_0 hb2 HB2 hs2
        go_wp2_with fail
        go_ret
        exact ⟨rfl, HB3.out⟩

end Go.Proofs.YtjghmgpmaallfaaDoor
