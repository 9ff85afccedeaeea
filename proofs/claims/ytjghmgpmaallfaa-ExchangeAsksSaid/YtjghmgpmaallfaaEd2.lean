/-
  The walk of ExchangeAsks: what is not asked.
-/
import Derived.Test.YtjghmgpmaallfaaEb2
import Derived.Deep.QuietTactic
import Derived.BigQuiet
namespace Go.Proofs.Ytjghmgpmaallfaa
open Go.RowKit
set_option linter.unusedVariables false
set_option linter.unusedSimpArgs false

set_option maxHeartbeats 2000000 in
set_option maxRecDepth 100000 in
theorem asks_bad (t : Tb) (m : Wt) (p : Tb) (b : Bool) (n : Nat) (h1 : 1 ≤ n) (h2 : n < 31) (l : Int) (a i o : Bool) (v : Int) (u : Int) (hu0 : 0 ≤ u) (hu1 : u ≤ 255) (c : Int) (HM : Hid (m n = c)) (hc0 : 0 ≤ c) (hc : c ≤ 3) (HX : Hid (exErr t m = 0)) (HP : Hid (tabErr p = 0)) (HBAD : Hid (∀ W, Calls Try.prog 34 #[.agg (exA t m), .agg #[.int .i64 n, .int .i64 l, .bool a, .bool i, .bool o, .int .u8 v]] W fun e w' => e = .returned (.tuple #[.agg (exA t m), .slice none 0 0, .int .i64 1]) ∧ Below W.heap.size W w')) (w : World) :
    Calls Try.prog 10 #[.agg (exA t m), .agg (tdA p b n l a i o v), .int .u8 u] w fun e w' => e = .returned (.bool true) ∧ Below w.heap.size w w' := by
  have d1 : decide ((n : Int) < 1) = false := by simp; omega
  have d2 : decide ((31 : Int) ≤ (n : Int)) = false := by simp; omega
  have hn0 : (0 : Int) ≤ (n : Int) := by omega
  have hn31 : (n : Int) < 31 := by omega
  go_enter Try.func10, Try.ntmps10
  go_wp2_with fail
  refine (exCheck_eq HX.out _).mono ?_
  rintro e w1 ⟨rfl, hb1⟩
  have HB1 := hid (below_step (((Below.refl w.heap.size w).alloc (by first | omega | (simp [putRow_size, drewN_heap, drew_heap] <;> omega)) _).alloc (by first | omega | (simp [putRow_size, drewN_heap, drew_heap] <;> omega)) _) (by first | omega | (simp [putRow_size, drewN_heap, drew_heap] <;> omega)) hb1)
  have hs1 : w.heap.size ≤ w1.heap.size := HB1.out.size
  have r1_0 : rowAt w1 (w.heap.size) = some (.cells (exA t m) 60 (0, 0)) := rowNext' hb1 (by rw [rowAt_old _ _ _ (by first | omega | (simp [putRow_size, drewN_heap, drew_heap] <;> omega)), rowAt_new _ _ _ (by first | omega | (simp [putRow_size, drewN_heap, drew_heap] <;> omega))])
  have c1_0 := lt_of_some r1_0
  have r1_1 : rowAt w1 (w.heap.size + 1) = some (.cells (tdA p b n l a i o v) 62 (0, 0)) := rowNext' hb1 (by rw [rowAt_new _ _ _ (by first | omega | (simp [putRow_size, drewN_heap, drew_heap] <;> omega))])
  have c1_1 := cellsTd r1_1
  go_wp2_with fail
  refine (agreeCheck_eq HP.out _).mono ?_
  rintro e w2 ⟨rfl, hb2⟩
  have HB2 := hid (below_step HB1.out (by first | omega | (simp [putRow_size, drewN_heap, drew_heap] <;> omega)) hb2)
  have hs2 : w.heap.size ≤ w2.heap.size := HB2.out.size
  have r2_0 : rowAt w2 (w.heap.size) = some (.cells (exA t m) 60 (0, 0)) := rowNext' hb2 r1_0
  have c2_0 := lt_of_some r2_0
  have r2_1 : rowAt w2 (w.heap.size + 1) = some (.cells (tdA p b n l a i o v) 62 (0, 0)) := rowNext' hb2 r1_1
  have c2_1 := cellsTd r2_1
  clear r1_0 c1_0 r1_1 c1_1 hb1 HB1 hs1
  have k0 := cell_of_row _ _ (62 + n) _ _ _ r2_0
  rw [exA_wait t m n h2, HM.out] at k0
  have hcd : decide (3 < c) = false := by simp; omega
  go_wp2_with fail
  obtain ⟨z, hz⟩ : ∃ z, u % 5 = z := ⟨_, rfl⟩
  have hz0 : 0 ≤ z := by omega
  have hz4 : z ≤ 4 := by omega
  rw [hz]
  clear hz
  have R0 : rowAt (w2.alloc (.cells (exA t m) 60)) w.heap.size = some (.cells (exA t m) 60 (0, 0)) := by rw [rowAt_old _ _ _ (by omega)]; exact r2_0
  have RT : rowAt (w2.alloc (.cells (exA t m) 60)) (w.heap.size + 1) = some (.cells (tdA p b n l a i o v) 62 (0, 0)) := by rw [rowAt_old _ _ _ (by omega)]; exact r2_1
  have RN : rowAt (w2.alloc (.cells (exA t m) 60)) w2.heap.size = some (.cells (exA t (updW m n (c + (0 : Nat)))) 60 (0, 0)) := by rw [rowAt_new _ _ _ rfl, updW_self HM.out]
  have HBA := hid (HB2.out.alloc hs2 (.cells (exA t m) 60))
  have hB : w.heap.size + 1 < w2.heap.size := c2_1.2.2.2.2.2.2.2.2
  have HX' := hid (fun (y : Int) (h0 : 0 ≤ y) (h1 : y ≤ 65536) => ex_updW HX.out h1 (n := n) (by assumption) h0)
  generalize w2.alloc (.cells (exA t m) 60) = wA at *
  clear r2_0 r2_1 c2_0 c2_1 k0 hb2 HB2
  go_loopw [9] (fun i' wr => ∃ k : Nat, k = 0 ∧ (k : Int) ≤ z ∧ i' = .int .i64 k ∧ rowAt wr w.heap.size = some (.cells (exA t m) 60 (0, 0)) ∧ rowAt wr (w.heap.size + 1) = some (.cells (tdA p b n l a i o v) 62 (0, 0)) ∧ rowAt wr w2.heap.size = some (.cells (exA t (updW m n (c + k))) 60 (0, 0)) ∧ Below w.heap.size w wr) (fun i' _ => z.toNat - (intOf i').toNat)
  case atStart => exact ⟨0, rfl, by omega, rfl, R0, RT, RN, HBA.out⟩
  case round =>
    clear R0 RT RN HBA
    obtain ⟨k, hk0, hk, rfl, r0, rt, rn, hbr⟩ := hrel
    have HBR := hid hbr
    have hsr := hbr.size
    have c0 := lt_of_some r0
    have ct := cellsTd rt
    have cn := lt_of_some rn
    clear hbr
    by_cases hlt : (k : Int) < z
    · have hkz : c + (k : Int) = c + (0 : Nat) := by omega
      rw [hkz, updW_self HM.out] at rn
      go_wp2_with fail
      refine (HBAD.out _).mono ?_
      rintro e w3 ⟨rfl, hb3⟩
      have r3_0 := rowNext' hb3 r0
      have r3_n := rowNext' hb3 rn
      have HB3 := hid (below_step HBR.out hsr hb3)
      have hs3 : w.heap.size ≤ w3.heap.size := HB3.out.size
      have c3_0 := lt_of_some r3_0
      have c3_n := lt_of_some r3_n
      clear r0 rt rn c0 ct cn hb3
      go_wp2_with fail
      refine (awake17 _).mono ?_
      rintro e w7 ⟨rfl, hb7⟩
      have HB7 := hid (below_step (HB3.out.alloc hs3 (.cells (exA t m) 60)) (by first | omega | (simp <;> omega)) hb7)
      go_wp2_with fail
      go_ret
      exact ⟨rfl, HB7.out⟩
    · obtain rfl : z = (k : Int) := by omega
      obtain ⟨N, hN⟩ : ∃ N : Nat, c + (k : Int) = N := ⟨(c + k).toNat, by omega⟩
      have hN7 : N ≤ 7 := by omega
      rw [hN] at rn
      clear HX'
      have HG1 := hid (fun (j : Nat) (hj : j < N) => asks_got1 (b := b) HX.out HP.out h1 h2 hN7 hj)
      have HG2 := hid (asks_got2 (b := b) (N := N) HX.out HP.out h1 h2)
      have k8 := cell_of_row _ _ (62 + n) _ _ _ rn
      rw [exA_wait _ _ n h2, updW_same] at k8
      go_wp2_with fail
      have R0 : rowAt (wr.alloc (.cells #[.int .i64 n, .int .i64 0, .bool true, .bool false, .bool false, .int .u8 0] 27)) (w.heap.size + 1) = some (.cells (tdA p b n l a i o v) 62 (0, 0)) := by rw [rowAt_old _ _ _ (by omega)]; exact rt
      have R1 : rowAt (wr.alloc (.cells #[.int .i64 n, .int .i64 0, .bool true, .bool false, .bool false, .int .u8 0] 27)) w2.heap.size = some (.cells (exA (tz t n 0) (updW m n ((N - 0 : Nat) : Int))) 60 (0, 0)) := by rw [rowAt_old _ _ _ (by omega)]; exact rn
      have R2 : rowAt (wr.alloc (.cells #[.int .i64 n, .int .i64 0, .bool true, .bool false, .bool false, .int .u8 0] 27)) wr.heap.size = some (.cells #[.int .i64 n, .int .i64 0, .bool true, .bool false, .bool false, .int .u8 0] 27 (0, 0)) := rowAt_new _ _ _ rfl
      have HBL := hid (HBR.out.alloc hsr (.cells #[.int .i64 n, .int .i64 0, .bool true, .bool false, .bool false, .int .u8 0] 27))
      have hne8 : wr.heap.size ≠ w2.heap.size := by omega
      generalize wr.alloc (.cells #[.int .i64 n, .int .i64 0, .bool true, .bool false, .bool false, .int .u8 0] 27) = wL at *
      clear r0 rt rn c0 ct cn k8
      go_loopw [15] (fun i' wq => ∃ j : Nat, j ≤ N + 2 ∧ i' = .int .i64 j ∧ rowAt wq (w.heap.size + 1) = some (.cells (tdA p b n l a i o v) 62 (0, 0)) ∧ rowAt wq w2.heap.size = some (.cells (exA (tz t n (min j N)) (updW m n ((N - min j N : Nat) : Int))) 60 (0, 0)) ∧ rowAt wq wr.heap.size = some (.cells #[.int .i64 n, .int .i64 0, .bool true, .bool false, .bool false, .int .u8 0] 27 (0, 0)) ∧ Below w.heap.size w wq) (fun i' _ => N + 2 - (intOf i').toNat)
      case atStart => exact ⟨0, by omega, rfl, R0, by rw [Nat.zero_min]; exact R1, R2, HBL.out⟩
      case round =>
        clear R0 R1 R2 HBL
        obtain ⟨j, hj, rfl, rt, rn, ra, hbq⟩ := hrel
        have HBQ := hid hbq
        have hsq := hbq.size
        have ct := cellsTd rt
        have cn := lt_of_some rn
        have ca := cells6 ra
        clear hbq
        by_cases hlt2 : j < N + 2
        · by_cases hjN : j < N
          · rw [Nat.min_eq_left (by omega)] at rn
            have hdj : decide ((j : Int) < (N : Int)) = true := by simp; omega
            go_wp2_with fail
            refine (got_quiet (HG1.out j hjN) false false _).mono ?_
            rintro e w6 ⟨rfl, hb6⟩
            have r6_t := rowNext' hb6 rt
            have r6_n := rowNext' hb6 rn
            have r6_a := rowNext' hb6 ra
            have l6t := lt_of_some r6_t
            have l6n := lt_of_some r6_n
            have l6a := lt_of_some r6_a
            have hne6 : w6.heap.size ≠ w2.heap.size := by omega
            have HB6 := hid (below_step HBQ.out hsq hb6)
            have hs6 : w.heap.size ≤ w6.heap.size := HB6.out.size
            clear ct cn ca rt rn ra hb6
            have hm1 : min (j + 1) N = j + 1 := by omega
            go_wp2_with fail
            go_roundw
            case rel => exact ⟨j + 1, by omega, by go_num, by rw [rowAt_old _ _ _ (by rw [putRow_size]; exact l6t), rowAt_putOther _ _ _ _ _ (by omega)]; exact r6_t, by rw [hm1, rowAt_old _ _ _ (by rw [putRow_size]; exact l6n), rowAt_put _ _ _ _ l6n], by rw [rowAt_old _ _ _ (by rw [putRow_size]; exact l6a), rowAt_putOther _ _ _ _ _ (by omega)]; exact r6_a, (below_putRow HB6.out _ _ _ (by omega)).alloc (by rw [putRow_size]; exact hs6) _⟩
            case measure => simp [intOf]; omega
          · have e0 : ((N - N : Nat) : Int) = 0 := by omega
            rw [Nat.min_eq_right (by omega), e0] at rn
            have hdj : decide ((j : Int) < (N : Int)) = false := by simp; omega
            go_wp2_with fail
            refine (got_quiet HG2.out false false _).mono ?_
            rintro e w6 ⟨rfl, hb6⟩
            have r6_t := rowNext' hb6 rt
            have r6_n := rowNext' hb6 rn
            have r6_a := rowNext' hb6 ra
            have l6t := lt_of_some r6_t
            have l6n := lt_of_some r6_n
            have l6a := lt_of_some r6_a
            have hne6 : w6.heap.size ≠ w2.heap.size := by omega
            have HB6 := hid (below_step HBQ.out hsq hb6)
            have hs6 : w.heap.size ≤ w6.heap.size := HB6.out.size
            clear ct cn ca rt rn ra hb6
            have hm1 : min (j + 1) N = N := by omega
            go_wp2_with fail
            go_roundw
            case rel => exact ⟨j + 1, by omega, by go_num, by rw [rowAt_old _ _ _ (by rw [putRow_size]; exact l6t), rowAt_putOther _ _ _ _ _ (by omega)]; exact r6_t, by rw [hm1, e0, rowAt_old _ _ _ (by rw [putRow_size]; exact l6n), rowAt_put _ _ _ _ l6n], by rw [rowAt_old _ _ _ (by rw [putRow_size]; exact l6a), rowAt_putOther _ _ _ _ _ (by omega)]; exact r6_a, (below_putRow HB6.out _ _ _ (by omega)).alloc (by rw [putRow_size]; exact hs6) _⟩
            case measure => simp [intOf]; omega
        · have e0 : ((N - N : Nat) : Int) = 0 := by omega
          rw [Nat.min_eq_right (by omega), e0] at rn
          have k9 := cell_of_row _ _ (62 + n) _ _ _ rn
          rw [exA_wait _ _ n h2, updW_same] at k9
          go_wp2_with fail
          refine (awake17 _).mono ?_
          rintro e w7 ⟨rfl, hb7⟩
          have HB7 := hid (below_step HBQ.out hsq hb7)
          go_wp2_with fail
          go_ret
          exact ⟨rfl, HB7.out⟩

end Go.Proofs.Ytjghmgpmaallfaa
