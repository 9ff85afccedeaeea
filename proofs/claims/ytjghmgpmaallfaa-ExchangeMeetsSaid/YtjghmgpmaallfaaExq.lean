/-
  exchange.Ask.
-/
import Derived.Test.YtjghmgpmaallfaaExj
import Derived.BigRegion
namespace Go.Proofs.Ytjghmgpmaallfaa
open Go.RowKit
set_option linter.unusedVariables false
set_option linter.unusedSimpArgs false

theorem slc_eq {f l : Int} {e0 : Int} (h : trErr f l = e0) (a i o : Bool) (v : Int) (w : World) :
    Calls Try.prog 40 #[.agg #[.int .i64 f, .int .i64 l, .bool a, .bool i, .bool o, .int .u8 v]] w fun e w' => e = .returned (.int .i64 e0) ∧ Below w.heap.size w w' := by
  subst h; exact slcCheck f l v a i o w
set_option maxHeartbeats 2000000 in
set_option maxRecDepth 100000 in
theorem ask_badx (t : Tb) (m : Wt) (f l v : Int) (a i o : Bool) (HX : Hid (exErr t m = 1)) (w : World) :
    Calls Try.prog 34 #[.agg (exA t m), .agg #[.int .i64 f, .int .i64 l, .bool a, .bool i, .bool o, .int .u8 v]] w fun e w' => e = .returned (.tuple #[.agg (exA t m), .slice none 0 0, .int .i64 1]) ∧ Below w.heap.size w w' := by
  go_enter Try.func34, Try.ntmps34
  go_wp2_with fail
  refine (exCheck_eq HX.out _).mono ?_
  rintro e w1 ⟨rfl, hb1⟩
  have HB1 := hid (below_step ((((Below.refl w.heap.size w).alloc (by first | omega | (simp [putRow_size, drewN_heap, drew_heap] <;> omega)) _).alloc (by first | omega | (simp [putRow_size, drewN_heap, drew_heap] <;> omega)) _).alloc (by first | omega | (simp [putRow_size, drewN_heap, drew_heap] <;> omega)) _) (by first | omega | (simp [putRow_size, drewN_heap, drew_heap] <;> omega)) hb1)
  have hs1 : w.heap.size ≤ w1.heap.size := HB1.out.size
  have r1_0 : rowAt w1 (w.heap.size) = some (.cells (exA t m) 60 (0, 0)) := rowNext' hb1 (by rw [rowAt_old _ _ _ (by first | omega | (simp [putRow_size, drewN_heap, drew_heap] <;> omega)), rowAt_old _ _ _ (by first | omega | (simp [putRow_size, drewN_heap, drew_heap] <;> omega)), rowAt_new _ _ _ (by first | omega | (simp [putRow_size, drewN_heap, drew_heap] <;> omega))])
  have c1_0 := lt_of_some r1_0
  have r1_1 : rowAt w1 (w.heap.size + 1) = some (.cells #[.int .i64 f, .int .i64 l, .bool a, .bool i, .bool o, .int .u8 v] 27 (0, 0)) := rowNext' hb1 (by rw [rowAt_old _ _ _ (by first | omega | (simp [putRow_size, drewN_heap, drew_heap] <;> omega)), rowAt_new _ _ _ (by first | omega | (simp [putRow_size, drewN_heap, drew_heap] <;> omega))])
  have c1_1 := cells6 r1_1
  have r1_2 : rowAt w1 (w.heap.size + 1 + 1) = some (.cells (exA zeroT zeroW) 60 (0, 0)) := rowNext' hb1 (by rw [rowAt_new _ _ _ (by first | omega | (simp [putRow_size, drewN_heap, drew_heap] <;> omega))])
  have c1_2 := lt_of_some r1_2
  go_wp2_with fail
  exact bodyPost_ret (v := .tuple #[.agg (exA t m), .slice none 0 0, .int .i64 1]) (results_row_tmp2 Try.results34 _ _ (w.heap.size + 1 + 1) 60 (exA t m) (0, 0) _ rfl (by show rowAt _ _ = _; rw [rowAt_put _ _ _ _ (by first | omega | (simp [putRow_size, drewN_heap, drew_heap] <;> omega))]) Try.underlying60 rfl (by rw [exA_size]; exact sizeExch) (.slice none 0 0) (.int .i64 1) rfl rfl) rfl ⟨rfl, (below_putRow HB1.out _ _ _ (by first | omega | (simp [putRow_size, drewN_heap, drew_heap] <;> omega)))⟩

set_option maxHeartbeats 2000000 in
set_option maxRecDepth 100000 in
theorem ask_badt (t : Tb) (m : Wt) (f l v : Int) (a i o : Bool) (HX : Hid (exErr t m = 0)) (HT : Hid (trErr f l = 1)) (w : World) :
    Calls Try.prog 34 #[.agg (exA t m), .agg #[.int .i64 f, .int .i64 l, .bool a, .bool i, .bool o, .int .u8 v]] w fun e w' => e = .returned (.tuple #[.agg (exA t m), .slice none 0 0, .int .i64 1]) ∧ Below w.heap.size w w' := by
  go_enter Try.func34, Try.ntmps34
  go_wp2_with fail
  refine (exCheck_eq HX.out _).mono ?_
  rintro e w1 ⟨rfl, hb1⟩
  have HB1 := hid (below_step ((((Below.refl w.heap.size w).alloc (by first | omega | (simp [putRow_size, drewN_heap, drew_heap] <;> omega)) _).alloc (by first | omega | (simp [putRow_size, drewN_heap, drew_heap] <;> omega)) _).alloc (by first | omega | (simp [putRow_size, drewN_heap, drew_heap] <;> omega)) _) (by first | omega | (simp [putRow_size, drewN_heap, drew_heap] <;> omega)) hb1)
  have hs1 : w.heap.size ≤ w1.heap.size := HB1.out.size
  have r1_0 : rowAt w1 (w.heap.size) = some (.cells (exA t m) 60 (0, 0)) := rowNext' hb1 (by rw [rowAt_old _ _ _ (by first | omega | (simp [putRow_size, drewN_heap, drew_heap] <;> omega)), rowAt_old _ _ _ (by first | omega | (simp [putRow_size, drewN_heap, drew_heap] <;> omega)), rowAt_new _ _ _ (by first | omega | (simp [putRow_size, drewN_heap, drew_heap] <;> omega))])
  have c1_0 := lt_of_some r1_0
  have r1_1 : rowAt w1 (w.heap.size + 1) = some (.cells #[.int .i64 f, .int .i64 l, .bool a, .bool i, .bool o, .int .u8 v] 27 (0, 0)) := rowNext' hb1 (by rw [rowAt_old _ _ _ (by first | omega | (simp [putRow_size, drewN_heap, drew_heap] <;> omega)), rowAt_new _ _ _ (by first | omega | (simp [putRow_size, drewN_heap, drew_heap] <;> omega))])
  have c1_1 := cells6 r1_1
  have r1_2 : rowAt w1 (w.heap.size + 1 + 1) = some (.cells (exA zeroT zeroW) 60 (0, 0)) := rowNext' hb1 (by rw [rowAt_new _ _ _ (by first | omega | (simp [putRow_size, drewN_heap, drew_heap] <;> omega))])
  have c1_2 := lt_of_some r1_2
  go_wp2_with fail
  refine (slc_eq HT.out a i o v _).mono ?_
  rintro e w2 ⟨rfl, hb2⟩
  have HB2 := hid (below_step HB1.out (by first | omega | (simp [putRow_size, drewN_heap, drew_heap] <;> omega)) hb2)
  have hs2 : w.heap.size ≤ w2.heap.size := HB2.out.size
  have r2_0 : rowAt w2 (w.heap.size) = some (.cells (exA t m) 60 (0, 0)) := rowNext' hb2 r1_0
  have c2_0 := lt_of_some r2_0
  have r2_1 : rowAt w2 (w.heap.size + 1) = some (.cells #[.int .i64 f, .int .i64 l, .bool a, .bool i, .bool o, .int .u8 v] 27 (0, 0)) := rowNext' hb2 r1_1
  have c2_1 := cells6 r2_1
  have r2_2 : rowAt w2 (w.heap.size + 1 + 1) = some (.cells (exA zeroT zeroW) 60 (0, 0)) := rowNext' hb2 r1_2
  have c2_2 := lt_of_some r2_2
  clear r1_0 c1_0 r1_1 c1_1 r1_2 c1_2 hb1 HB1 hs1
  go_wp2_with fail
  exact bodyPost_ret (v := .tuple #[.agg (exA t m), .slice none 0 0, .int .i64 1]) (results_row_tmp2 Try.results34 _ _ (w.heap.size + 1 + 1) 60 (exA t m) (0, 0) _ rfl (by show rowAt _ _ = _; rw [rowAt_put _ _ _ _ (by first | omega | (simp [putRow_size, drewN_heap, drew_heap] <;> omega))]) Try.underlying60 rfl (by rw [exA_size]; exact sizeExch) (.slice none 0 0) (.int .i64 1) rfl rfl) rfl ⟨rfl, (below_putRow HB2.out _ _ _ (by first | omega | (simp [putRow_size, drewN_heap, drew_heap] <;> omega)))⟩

set_option maxHeartbeats 2000000 in
set_option maxRecDepth 100000 in
theorem ask_badf (t : Tb) (m : Wt) (f l v : Int) (a i o : Bool) (HX : Hid (exErr t m = 0)) (HT : Hid (trErr f l = 0)) (HF : Hid (isF f = false)) (w : World) :
    Calls Try.prog 34 #[.agg (exA t m), .agg #[.int .i64 f, .int .i64 l, .bool a, .bool i, .bool o, .int .u8 v]] w fun e w' => e = .returned (.tuple #[.agg (exA t m), .slice none 0 0, .int .i64 1]) ∧ Below w.heap.size w w' := by
  go_enter Try.func34, Try.ntmps34
  go_wp2_with fail
  refine (exCheck_eq HX.out _).mono ?_
  rintro e w1 ⟨rfl, hb1⟩
  have HB1 := hid (below_step ((((Below.refl w.heap.size w).alloc (by first | omega | (simp [putRow_size, drewN_heap, drew_heap] <;> omega)) _).alloc (by first | omega | (simp [putRow_size, drewN_heap, drew_heap] <;> omega)) _).alloc (by first | omega | (simp [putRow_size, drewN_heap, drew_heap] <;> omega)) _) (by first | omega | (simp [putRow_size, drewN_heap, drew_heap] <;> omega)) hb1)
  have hs1 : w.heap.size ≤ w1.heap.size := HB1.out.size
  have r1_0 : rowAt w1 (w.heap.size) = some (.cells (exA t m) 60 (0, 0)) := rowNext' hb1 (by rw [rowAt_old _ _ _ (by first | omega | (simp [putRow_size, drewN_heap, drew_heap] <;> omega)), rowAt_old _ _ _ (by first | omega | (simp [putRow_size, drewN_heap, drew_heap] <;> omega)), rowAt_new _ _ _ (by first | omega | (simp [putRow_size, drewN_heap, drew_heap] <;> omega))])
  have c1_0 := lt_of_some r1_0
  have r1_1 : rowAt w1 (w.heap.size + 1) = some (.cells #[.int .i64 f, .int .i64 l, .bool a, .bool i, .bool o, .int .u8 v] 27 (0, 0)) := rowNext' hb1 (by rw [rowAt_old _ _ _ (by first | omega | (simp [putRow_size, drewN_heap, drew_heap] <;> omega)), rowAt_new _ _ _ (by first | omega | (simp [putRow_size, drewN_heap, drew_heap] <;> omega))])
  have c1_1 := cells6 r1_1
  have r1_2 : rowAt w1 (w.heap.size + 1 + 1) = some (.cells (exA zeroT zeroW) 60 (0, 0)) := rowNext' hb1 (by rw [rowAt_new _ _ _ (by first | omega | (simp [putRow_size, drewN_heap, drew_heap] <;> omega))])
  have c1_2 := lt_of_some r1_2
  go_wp2_with fail
  refine (slc_eq HT.out a i o v _).mono ?_
  rintro e w2 ⟨rfl, hb2⟩
  have HB2 := hid (below_step HB1.out (by first | omega | (simp [putRow_size, drewN_heap, drew_heap] <;> omega)) hb2)
  have hs2 : w.heap.size ≤ w2.heap.size := HB2.out.size
  have r2_0 : rowAt w2 (w.heap.size) = some (.cells (exA t m) 60 (0, 0)) := rowNext' hb2 r1_0
  have c2_0 := lt_of_some r2_0
  have r2_1 : rowAt w2 (w.heap.size + 1) = some (.cells #[.int .i64 f, .int .i64 l, .bool a, .bool i, .bool o, .int .u8 v] 27 (0, 0)) := rowNext' hb2 r1_1
  have c2_1 := cells6 r2_1
  have r2_2 : rowAt w2 (w.heap.size + 1 + 1) = some (.cells (exA zeroT zeroW) 60 (0, 0)) := rowNext' hb2 r1_2
  have c2_2 := lt_of_some r2_2
  clear r1_0 c1_0 r1_1 c1_1 r1_2 c1_2 hb1 HB1 hs1
  go_wp2_with fail
  refine (exFunction_is HF.out _).mono ?_
  rintro e w3 ⟨rfl, hb3⟩
  have HB3 := hid (below_step HB2.out (by first | omega | (simp [putRow_size, drewN_heap, drew_heap] <;> omega)) hb3)
  have hs3 : w.heap.size ≤ w3.heap.size := HB3.out.size
  have r3_0 : rowAt w3 (w.heap.size) = some (.cells (exA t m) 60 (0, 0)) := rowNext' hb3 r2_0
  have c3_0 := lt_of_some r3_0
  have r3_1 : rowAt w3 (w.heap.size + 1) = some (.cells #[.int .i64 f, .int .i64 l, .bool a, .bool i, .bool o, .int .u8 v] 27 (0, 0)) := rowNext' hb3 r2_1
  have c3_1 := cells6 r3_1
  have r3_2 : rowAt w3 (w.heap.size + 1 + 1) = some (.cells (exA zeroT zeroW) 60 (0, 0)) := rowNext' hb3 r2_2
  have c3_2 := lt_of_some r3_2
  clear r2_0 c2_0 r2_1 c2_1 r2_2 c2_2 hb2 HB2 hs2
  go_wp2_with fail
  exact bodyPost_ret (v := .tuple #[.agg (exA t m), .slice none 0 0, .int .i64 1]) (results_row_tmp2 Try.results34 _ _ (w.heap.size + 1 + 1) 60 (exA t m) (0, 0) _ rfl (by show rowAt _ _ = _; rw [rowAt_put _ _ _ _ (by first | omega | (simp [putRow_size, drewN_heap, drew_heap] <;> omega))]) Try.underlying60 rfl (by rw [exA_size]; exact sizeExch) (.slice none 0 0) (.int .i64 1) rfl rfl) rfl ⟨rfl, (below_putRow HB3.out _ _ _ (by first | omega | (simp [putRow_size, drewN_heap, drew_heap] <;> omega)))⟩

set_option maxHeartbeats 2000000 in
set_option maxRecDepth 100000 in
theorem ask_bada (t : Tb) (m : Wt) (f l v : Int) (i o : Bool) (HX : Hid (exErr t m = 0)) (HT : Hid (trErr f l = 0)) (HF : Hid (isF f = true)) (w : World) :
    Calls Try.prog 34 #[.agg (exA t m), .agg #[.int .i64 f, .int .i64 l, .bool true, .bool i, .bool o, .int .u8 v]] w fun e w' => e = .returned (.tuple #[.agg (exA t m), .slice none 0 0, .int .i64 1]) ∧ Below w.heap.size w w' := by
  go_enter Try.func34, Try.ntmps34
  go_wp2_with fail
  refine (exCheck_eq HX.out _).mono ?_
  rintro e w1 ⟨rfl, hb1⟩
  have HB1 := hid (below_step ((((Below.refl w.heap.size w).alloc (by first | omega | (simp [putRow_size, drewN_heap, drew_heap] <;> omega)) _).alloc (by first | omega | (simp [putRow_size, drewN_heap, drew_heap] <;> omega)) _).alloc (by first | omega | (simp [putRow_size, drewN_heap, drew_heap] <;> omega)) _) (by first | omega | (simp [putRow_size, drewN_heap, drew_heap] <;> omega)) hb1)
  have hs1 : w.heap.size ≤ w1.heap.size := HB1.out.size
  have r1_0 : rowAt w1 (w.heap.size) = some (.cells (exA t m) 60 (0, 0)) := rowNext' hb1 (by rw [rowAt_old _ _ _ (by first | omega | (simp [putRow_size, drewN_heap, drew_heap] <;> omega)), rowAt_old _ _ _ (by first | omega | (simp [putRow_size, drewN_heap, drew_heap] <;> omega)), rowAt_new _ _ _ (by first | omega | (simp [putRow_size, drewN_heap, drew_heap] <;> omega))])
  have c1_0 := lt_of_some r1_0
  have r1_1 : rowAt w1 (w.heap.size + 1) = some (.cells #[.int .i64 f, .int .i64 l, .bool true, .bool i, .bool o, .int .u8 v] 27 (0, 0)) := rowNext' hb1 (by rw [rowAt_old _ _ _ (by first | omega | (simp [putRow_size, drewN_heap, drew_heap] <;> omega)), rowAt_new _ _ _ (by first | omega | (simp [putRow_size, drewN_heap, drew_heap] <;> omega))])
  have c1_1 := cells6 r1_1
  have r1_2 : rowAt w1 (w.heap.size + 1 + 1) = some (.cells (exA zeroT zeroW) 60 (0, 0)) := rowNext' hb1 (by rw [rowAt_new _ _ _ (by first | omega | (simp [putRow_size, drewN_heap, drew_heap] <;> omega))])
  have c1_2 := lt_of_some r1_2
  go_wp2_with fail
  refine (slc_eq HT.out true i o v _).mono ?_
  rintro e w2 ⟨rfl, hb2⟩
  have HB2 := hid (below_step HB1.out (by first | omega | (simp [putRow_size, drewN_heap, drew_heap] <;> omega)) hb2)
  have hs2 : w.heap.size ≤ w2.heap.size := HB2.out.size
  have r2_0 : rowAt w2 (w.heap.size) = some (.cells (exA t m) 60 (0, 0)) := rowNext' hb2 r1_0
  have c2_0 := lt_of_some r2_0
  have r2_1 : rowAt w2 (w.heap.size + 1) = some (.cells #[.int .i64 f, .int .i64 l, .bool true, .bool i, .bool o, .int .u8 v] 27 (0, 0)) := rowNext' hb2 r1_1
  have c2_1 := cells6 r2_1
  have r2_2 : rowAt w2 (w.heap.size + 1 + 1) = some (.cells (exA zeroT zeroW) 60 (0, 0)) := rowNext' hb2 r1_2
  have c2_2 := lt_of_some r2_2
  clear r1_0 c1_0 r1_1 c1_1 r1_2 c1_2 hb1 HB1 hs1
  go_wp2_with fail
  refine (exFunction_is HF.out _).mono ?_
  rintro e w3 ⟨rfl, hb3⟩
  have HB3 := hid (below_step HB2.out (by first | omega | (simp [putRow_size, drewN_heap, drew_heap] <;> omega)) hb3)
  have hs3 : w.heap.size ≤ w3.heap.size := HB3.out.size
  have r3_0 : rowAt w3 (w.heap.size) = some (.cells (exA t m) 60 (0, 0)) := rowNext' hb3 r2_0
  have c3_0 := lt_of_some r3_0
  have r3_1 : rowAt w3 (w.heap.size + 1) = some (.cells #[.int .i64 f, .int .i64 l, .bool true, .bool i, .bool o, .int .u8 v] 27 (0, 0)) := rowNext' hb3 r2_1
  have c3_1 := cells6 r3_1
  have r3_2 : rowAt w3 (w.heap.size + 1 + 1) = some (.cells (exA zeroT zeroW) 60 (0, 0)) := rowNext' hb3 r2_2
  have c3_2 := lt_of_some r3_2
  clear r2_0 c2_0 r2_1 c2_1 r2_2 c2_2 hb2 HB2 hs2
  go_wp2_with fail
  exact bodyPost_ret (v := .tuple #[.agg (exA t m), .slice none 0 0, .int .i64 1]) (results_row_tmp2 Try.results34 _ _ (w.heap.size + 1 + 1) 60 (exA t m) (0, 0) _ rfl (by show rowAt _ _ = _; rw [rowAt_put _ _ _ _ (by first | omega | (simp [putRow_size, drewN_heap, drew_heap] <;> omega))]) Try.underlying60 rfl (by rw [exA_size]; exact sizeExch) (.slice none 0 0) (.int .i64 1) rfl rfl) rfl ⟨rfl, (below_putRow HB3.out _ _ _ (by first | omega | (simp [putRow_size, drewN_heap, drew_heap] <;> omega)))⟩

set_option maxHeartbeats 2000000 in
set_option maxRecDepth 100000 in
theorem ask_full (t : Tb) (m : Wt) (n : Nat) (h1 : 1 ≤ n) (h2 : n < 31) (l v : Int) (i o : Bool) (HX : Hid (exErr t m = 0)) (HT : Hid (trErr n l = 0)) (HM : Hid (m n = 65536)) (w : World) :
    Calls Try.prog 34 #[.agg (exA t m), .agg #[.int .i64 n, .int .i64 l, .bool false, .bool i, .bool o, .int .u8 v]] w fun e w' => e = .returned (.tuple #[.agg (exA t m), .slice none 0 0, .int .i64 6]) ∧ Below w.heap.size w w' := by
  have HF := hid (show isF n = true from by unfold isF; simp; omega)
  have hn0 : (0 : Int) ≤ (n : Int) := by omega
  have hn31 : (n : Int) < 31 := by omega
  go_enter Try.func34, Try.ntmps34
  go_wp2_with fail
  refine (exCheck_eq HX.out _).mono ?_
  rintro e w1 ⟨rfl, hb1⟩
  have HB1 := hid (below_step ((((Below.refl w.heap.size w).alloc (by first | omega | (simp [putRow_size, drewN_heap, drew_heap] <;> omega)) _).alloc (by first | omega | (simp [putRow_size, drewN_heap, drew_heap] <;> omega)) _).alloc (by first | omega | (simp [putRow_size, drewN_heap, drew_heap] <;> omega)) _) (by first | omega | (simp [putRow_size, drewN_heap, drew_heap] <;> omega)) hb1)
  have hs1 : w.heap.size ≤ w1.heap.size := HB1.out.size
  have r1_0 : rowAt w1 (w.heap.size) = some (.cells (exA t m) 60 (0, 0)) := rowNext' hb1 (by rw [rowAt_old _ _ _ (by first | omega | (simp [putRow_size, drewN_heap, drew_heap] <;> omega)), rowAt_old _ _ _ (by first | omega | (simp [putRow_size, drewN_heap, drew_heap] <;> omega)), rowAt_new _ _ _ (by first | omega | (simp [putRow_size, drewN_heap, drew_heap] <;> omega))])
  have c1_0 := lt_of_some r1_0
  have r1_1 : rowAt w1 (w.heap.size + 1) = some (.cells #[.int .i64 n, .int .i64 l, .bool false, .bool i, .bool o, .int .u8 v] 27 (0, 0)) := rowNext' hb1 (by rw [rowAt_old _ _ _ (by first | omega | (simp [putRow_size, drewN_heap, drew_heap] <;> omega)), rowAt_new _ _ _ (by first | omega | (simp [putRow_size, drewN_heap, drew_heap] <;> omega))])
  have c1_1 := cells6 r1_1
  have r1_2 : rowAt w1 (w.heap.size + 1 + 1) = some (.cells (exA zeroT zeroW) 60 (0, 0)) := rowNext' hb1 (by rw [rowAt_new _ _ _ (by first | omega | (simp [putRow_size, drewN_heap, drew_heap] <;> omega))])
  have c1_2 := lt_of_some r1_2
  go_wp2_with fail
  refine (slc_eq HT.out false i o v _).mono ?_
  rintro e w2 ⟨rfl, hb2⟩
  have HB2 := hid (below_step HB1.out (by first | omega | (simp [putRow_size, drewN_heap, drew_heap] <;> omega)) hb2)
  have hs2 : w.heap.size ≤ w2.heap.size := HB2.out.size
  have r2_0 : rowAt w2 (w.heap.size) = some (.cells (exA t m) 60 (0, 0)) := rowNext' hb2 r1_0
  have c2_0 := lt_of_some r2_0
  have r2_1 : rowAt w2 (w.heap.size + 1) = some (.cells #[.int .i64 n, .int .i64 l, .bool false, .bool i, .bool o, .int .u8 v] 27 (0, 0)) := rowNext' hb2 r1_1
  have c2_1 := cells6 r2_1
  have r2_2 : rowAt w2 (w.heap.size + 1 + 1) = some (.cells (exA zeroT zeroW) 60 (0, 0)) := rowNext' hb2 r1_2
  have c2_2 := lt_of_some r2_2
  clear r1_0 c1_0 r1_1 c1_1 r1_2 c1_2 hb1 HB1 hs1
  go_wp2_with fail
  refine (exFunction_is HF.out _).mono ?_
  rintro e w3 ⟨rfl, hb3⟩
  have HB3 := hid (below_step HB2.out (by first | omega | (simp [putRow_size, drewN_heap, drew_heap] <;> omega)) hb3)
  have hs3 : w.heap.size ≤ w3.heap.size := HB3.out.size
  have r3_0 : rowAt w3 (w.heap.size) = some (.cells (exA t m) 60 (0, 0)) := rowNext' hb3 r2_0
  have c3_0 := lt_of_some r3_0
  have r3_1 : rowAt w3 (w.heap.size + 1) = some (.cells #[.int .i64 n, .int .i64 l, .bool false, .bool i, .bool o, .int .u8 v] 27 (0, 0)) := rowNext' hb3 r2_1
  have c3_1 := cells6 r3_1
  have r3_2 : rowAt w3 (w.heap.size + 1 + 1) = some (.cells (exA zeroT zeroW) 60 (0, 0)) := rowNext' hb3 r2_2
  have c3_2 := lt_of_some r3_2
  clear r2_0 c2_0 r2_1 c2_1 r2_2 c2_2 hb2 HB2 hs2
  have k0 : w3.cell? ⟨w.heap.size, 62 + n, none⟩ = some (.int .i64 65536) := by rw [cell_of_row w3 _ _ _ _ _ r3_0, exA_wait t m n h2, HM.out]
  have f0 := frozenRow r3_0
  go_wp2_with fail
  exact bodyPost_ret (v := .tuple #[.agg (exA t m), .slice none 0 0, .int .i64 6]) (results_row_tmp2 Try.results34 _ _ (w.heap.size + 1 + 1) 60 (exA t m) (0, 0) _ rfl (rowAt_put _ _ _ _ (by first | omega | (simp [putRow_size, drewN_heap, drew_heap] <;> omega))) Try.underlying60 rfl (by rw [exA_size]; exact sizeExch) (.slice none 0 0) (.int .i64 6) rfl rfl) rfl ⟨rfl, below_putRow HB3.out _ _ _ (by first | omega | (simp [putRow_size, drewN_heap, drew_heap] <;> omega))⟩

set_option maxHeartbeats 2000000 in
set_option maxRecDepth 100000 in
theorem ask_ok (t : Tb) (m : Wt) (n : Nat) (h1 : 1 ≤ n) (h2 : n < 31) (l v : Int) (i o : Bool) (c : Int) (hc0 : 0 ≤ c) (hc1 : c < 65536) (HX : Hid (exErr t m = 0)) (HT : Hid (trErr n l = 0)) (HM : Hid (m n = c)) (w : World) :
    Calls Try.prog 34 #[.agg (exA t m), .agg #[.int .i64 n, .int .i64 l, .bool false, .bool i, .bool o, .int .u8 v]] w fun e w' => ∃ g, e = .returned (.tuple #[.agg (exA t (updW m n (c + 1))), .slice (some ⟨g, 0, none⟩) 1 1, .int .i64 0]) ∧ rowAt w' g = some (.cells #[.int .i64 n, .int .i64 l, .bool false, .bool i, .bool o, .int .u8 v] 27 (0, 0)) ∧ w.heap.size ≤ g ∧ Below w.heap.size w w' := by
  have HF := hid (show isF n = true from by unfold isF; simp; omega)
  have hn0 : (0 : Int) ≤ (n : Int) := by omega
  have hn31 : (n : Int) < 31 := by omega
  go_enter Try.func34, Try.ntmps34
  go_wp2_with fail
  refine (exCheck_eq HX.out _).mono ?_
  rintro e w1 ⟨rfl, hb1⟩
  have HB1 := hid (below_step ((((Below.refl w.heap.size w).alloc (by first | omega | (simp [putRow_size, drewN_heap, drew_heap] <;> omega)) _).alloc (by first | omega | (simp [putRow_size, drewN_heap, drew_heap] <;> omega)) _).alloc (by first | omega | (simp [putRow_size, drewN_heap, drew_heap] <;> omega)) _) (by first | omega | (simp [putRow_size, drewN_heap, drew_heap] <;> omega)) hb1)
  have hs1 : w.heap.size ≤ w1.heap.size := HB1.out.size
  have r1_0 : rowAt w1 (w.heap.size) = some (.cells (exA t m) 60 (0, 0)) := rowNext' hb1 (by rw [rowAt_old _ _ _ (by first | omega | (simp [putRow_size, drewN_heap, drew_heap] <;> omega)), rowAt_old _ _ _ (by first | omega | (simp [putRow_size, drewN_heap, drew_heap] <;> omega)), rowAt_new _ _ _ (by first | omega | (simp [putRow_size, drewN_heap, drew_heap] <;> omega))])
  have c1_0 := lt_of_some r1_0
  have r1_1 : rowAt w1 (w.heap.size + 1) = some (.cells #[.int .i64 n, .int .i64 l, .bool false, .bool i, .bool o, .int .u8 v] 27 (0, 0)) := rowNext' hb1 (by rw [rowAt_old _ _ _ (by first | omega | (simp [putRow_size, drewN_heap, drew_heap] <;> omega)), rowAt_new _ _ _ (by first | omega | (simp [putRow_size, drewN_heap, drew_heap] <;> omega))])
  have c1_1 := cells6 r1_1
  have r1_2 : rowAt w1 (w.heap.size + 1 + 1) = some (.cells (exA zeroT zeroW) 60 (0, 0)) := rowNext' hb1 (by rw [rowAt_new _ _ _ (by first | omega | (simp [putRow_size, drewN_heap, drew_heap] <;> omega))])
  have c1_2 := lt_of_some r1_2
  go_wp2_with fail
  refine (slc_eq HT.out false i o v _).mono ?_
  rintro e w2 ⟨rfl, hb2⟩
  have HB2 := hid (below_step HB1.out (by first | omega | (simp [putRow_size, drewN_heap, drew_heap] <;> omega)) hb2)
  have hs2 : w.heap.size ≤ w2.heap.size := HB2.out.size
  have r2_0 : rowAt w2 (w.heap.size) = some (.cells (exA t m) 60 (0, 0)) := rowNext' hb2 r1_0
  have c2_0 := lt_of_some r2_0
  have r2_1 : rowAt w2 (w.heap.size + 1) = some (.cells #[.int .i64 n, .int .i64 l, .bool false, .bool i, .bool o, .int .u8 v] 27 (0, 0)) := rowNext' hb2 r1_1
  have c2_1 := cells6 r2_1
  have r2_2 : rowAt w2 (w.heap.size + 1 + 1) = some (.cells (exA zeroT zeroW) 60 (0, 0)) := rowNext' hb2 r1_2
  have c2_2 := lt_of_some r2_2
  clear r1_0 c1_0 r1_1 c1_1 r1_2 c1_2 hb1 HB1 hs1
  go_wp2_with fail
  refine (exFunction_is HF.out _).mono ?_
  rintro e w3 ⟨rfl, hb3⟩
  have HB3 := hid (below_step HB2.out (by first | omega | (simp [putRow_size, drewN_heap, drew_heap] <;> omega)) hb3)
  have hs3 : w.heap.size ≤ w3.heap.size := HB3.out.size
  have r3_0 : rowAt w3 (w.heap.size) = some (.cells (exA t m) 60 (0, 0)) := rowNext' hb3 r2_0
  have c3_0 := lt_of_some r3_0
  have r3_1 : rowAt w3 (w.heap.size + 1) = some (.cells #[.int .i64 n, .int .i64 l, .bool false, .bool i, .bool o, .int .u8 v] 27 (0, 0)) := rowNext' hb3 r2_1
  have c3_1 := cells6 r3_1
  have r3_2 : rowAt w3 (w.heap.size + 1 + 1) = some (.cells (exA zeroT zeroW) 60 (0, 0)) := rowNext' hb3 r2_2
  have c3_2 := lt_of_some r3_2
  clear r2_0 c2_0 r2_1 c2_1 r2_2 c2_2 hb2 HB2 hs2
  have k0 : w3.cell? ⟨w.heap.size, 62 + n, none⟩ = some (.int .i64 c) := by rw [cell_of_row w3 _ _ _ _ _ r3_0, exA_wait t m n h2, HM.out]
  have f0 := frozenRow r3_0
  have hcz : (c == 65536) = false := by simp; omega
  have q0 : rowAt (w3.setCell ⟨w.heap.size, 62 + n, none⟩ (.int .i64 (c + 1))) w.heap.size = some (.cells (exA t (updW m n (c + 1))) 60 (0, 0)) := by rw [← exA_updW t m n (c + 1) h2]; exact setCell_rowSame r3_0 _ _
  have q1 := setCell_rowOther r3_1 (b := w.heap.size) (62 + n) (.int .i64 (c + 1)) (by omega)
  have q2 := setCell_rowOther r3_2 (b := w.heap.size) (62 + n) (.int .i64 (c + 1)) (by omega)
  have HQ0 := hid q0
  have HQ1 := hid q1
  have HQ2 := hid q2
  have HBS := hid (HB3.out.setCell (p := ⟨w.heap.size, 62 + n, none⟩) (Nat.le_refl _) (.int .i64 (c + 1)))
  clear q0 q1 q2
  go_upto_region 6 with (fail)
  generalize w3.setCell ⟨w.heap.size, 62 + n, none⟩ (.int .i64 (c + 1)) = wz at *
  clear k0 f0 r3_0 r3_1 r3_2 c3_0 c3_1 c3_2 hb3 HB3 hs3
  have q0 := HQ0.out
  have q1 : rowAt wz (w.heap.size + 1) = some (.cells #[.int .i64 n, .int .i64 l, .bool false, .bool i, .bool o, .int .u8 v] 27 (0, 0)) := HQ1.out
  have q2 : rowAt wz (w.heap.size + 1 + 1) = some (.cells (exA zeroT zeroW) 60 (0, 0)) := HQ2.out
  have l0 := lt_of_some q0
  have l2 := lt_of_some q2
  have l1 := cells6 q1
  have hsz : w.heap.size ≤ wz.heap.size := HBS.out.size
  go_region
  go_wp2_with fail
  exact bodyPost_ret (v := .tuple #[.agg (exA t (updW m n (c + 1))), .slice (some ⟨wz.heap.size, 0, none⟩) 1 1, .int .i64 0]) (results_row_tmp2 Try.results34 _ _ (w.heap.size + 1 + 1) 60 (exA t (updW m n (c + 1))) (0, 0) _ rfl (by show rowAt _ _ = _; rw [rowAt_drew, rowAt_old _ _ _ (by first | omega | (simp [putRow_size, drewN_heap, drew_heap] <;> omega)), rowAt_put _ _ _ _ (by first | omega | (simp [putRow_size, drewN_heap, drew_heap] <;> omega))]) Try.underlying60 rfl (by rw [exA_size]; exact sizeExch) (.slice (some ⟨wz.heap.size, 0, none⟩) 1 1) (.int .i64 0) rfl rfl) rfl ⟨_, rfl, (by rw [rowAt_drew, rowAt_new _ _ _ (by first | omega | (simp [putRow_size, drewN_heap, drew_heap] <;> omega))]), hsz, ((below_putRow HBS.out _ _ _ (by first | omega | (simp [putRow_size, drewN_heap, drew_heap] <;> omega))).alloc (by first | omega | (simp [putRow_size, drewN_heap, drew_heap] <;> omega)) _).drew⟩

end Go.Proofs.Ytjghmgpmaallfaa
