/-
  The walk of ExchangeHears.
-/
import Derived.Test.YtjghmgpmaallfaaExy
import Derived.Test.YtjghmgpmaallfaaExp
import Derived.Test.YtjghmgpmaallfaaRgn
import Derived.Deep.QuietTactic
import Derived.BigQuiet
namespace Go.Proofs.Ytjghmgpmaallfaa
open Go.RowKit
set_option linter.unusedVariables false
set_option linter.unusedSimpArgs false

set_option maxHeartbeats 2000000 in
set_option maxRecDepth 100000 in
theorem hears_badx0 (t : Tb) (m : Wt) (p : Tb) (b : Bool) (f l : Int) (a i o : Bool) (v : Int) (c1 c2 : Int) (HG : Hid (gotR t m p b f l v false = ((t, m), none, 1))) (H1 : Hid (settle p f l v = ((c1, c2), 0))) (HX : Hid (exErr t m = 1)) (w : World) :
    Calls Try.prog 11 #[.agg (exA t m), .agg (tdA p b f l a i o v)] w fun e w' => e = .returned (.bool true) ∧ Below w.heap.size w w' := by
  go_enter Try.func11, Try.ntmps11
  go_wp2_with fail
  refine (got_quiet HG.out i o _).mono ?_
  rintro e w1 ⟨rfl, hb1⟩
  have HB1 := hid (below_step ((((Below.refl w.heap.size w).alloc (by first | omega | (simp [putRow_size, drewN_heap, drew_heap] <;> omega)) _).alloc (by first | omega | (simp [putRow_size, drewN_heap, drew_heap] <;> omega)) _).alloc (by first | omega | (simp [putRow_size, drewN_heap, drew_heap] <;> omega)) _) (by first | omega | (simp [putRow_size, drewN_heap, drew_heap] <;> omega)) hb1)
  have hs1 : w.heap.size ≤ w1.heap.size := HB1.out.size
  have r1_0 : rowAt w1 (w.heap.size) = some (.cells (exA t m) 60 (0, 0)) := rowNext' hb1 (by rw [rowAt_old _ _ _ (by first | omega | (simp [putRow_size, drewN_heap, drew_heap] <;> omega)), rowAt_old _ _ _ (by first | omega | (simp [putRow_size, drewN_heap, drew_heap] <;> omega)), rowAt_new _ _ _ (by first | omega | (simp [putRow_size, drewN_heap, drew_heap] <;> omega))])
  have c1_0 := lt_of_some r1_0
  have r1_1 : rowAt w1 (w.heap.size + 1) = some (.cells (tdA p b f l a i o v) 62 (0, 0)) := rowNext' hb1 (by rw [rowAt_old _ _ _ (by first | omega | (simp [putRow_size, drewN_heap, drew_heap] <;> omega)), rowAt_new _ _ _ (by first | omega | (simp [putRow_size, drewN_heap, drew_heap] <;> omega))])
  have c1_1 := cellsTd r1_1
  have r1_2 : rowAt w1 (w.heap.size + 1 + 1) = some (.cells #[.int .i64 f, .int .i64 l, .bool false, .bool i, .bool o, .int .u8 v] 27 (0, 0)) := rowNext' hb1 (by rw [rowAt_new _ _ _ (by first | omega | (simp [putRow_size, drewN_heap, drew_heap] <;> omega))])
  have c1_2 := cells6 r1_2
  go_wp2_with fail
  refine (settle_eq H1.out false i o _).mono ?_
  rintro e w2 ⟨rfl, hb2⟩
  have HB2 := hid (below_step (HB1.out.alloc (by first | omega | (simp [putRow_size, drewN_heap, drew_heap] <;> omega)) _) (by first | omega | (simp [putRow_size, drewN_heap, drew_heap] <;> omega)) hb2)
  have hs2 : w.heap.size ≤ w2.heap.size := HB2.out.size
  have r2_0 : rowAt w2 (w.heap.size) = some (.cells (exA t m) 60 (0, 0)) := rowNext' hb2 (by rw [rowAt_old _ _ _ (by first | omega | (simp [putRow_size, drewN_heap, drew_heap] <;> omega))]; exact r1_0)
  have c2_0 := lt_of_some r2_0
  have r2_1 : rowAt w2 (w.heap.size + 1) = some (.cells (tdA p b f l a i o v) 62 (0, 0)) := rowNext' hb2 (by rw [rowAt_old _ _ _ (by first | omega | (simp [putRow_size, drewN_heap, drew_heap] <;> omega))]; exact r1_1)
  have c2_1 := cellsTd r2_1
  have r2_2 : rowAt w2 (w.heap.size + 1 + 1) = some (.cells #[.int .i64 f, .int .i64 l, .bool false, .bool i, .bool o, .int .u8 v] 27 (0, 0)) := rowNext' hb2 (by rw [rowAt_old _ _ _ (by first | omega | (simp [putRow_size, drewN_heap, drew_heap] <;> omega))]; exact r1_2)
  have c2_2 := cells6 r2_2
  have r2_3 : rowAt w2 (w1.heap.size) = some (.cells (exA t m) 60 (0, 0)) := rowNext' hb2 (by rw [rowAt_new _ _ _ (by first | omega | (simp [putRow_size, drewN_heap, drew_heap] <;> omega))])
  have c2_3 := lt_of_some r2_3
  clear r1_0 c1_0 r1_1 c1_1 r1_2 c1_2 hb1 HB1 hs1
  go_wp2_with fail
  refine (exCheck_eq HX.out _).mono ?_
  rintro e w3 ⟨rfl, hb3⟩
  have HB3 := hid (below_step (HB2.out.alloc (by first | omega | (simp [putRow_size, drewN_heap, drew_heap] <;> omega)) _) (by first | omega | (simp [putRow_size, drewN_heap, drew_heap] <;> omega)) hb3)
  have hs3 : w.heap.size ≤ w3.heap.size := HB3.out.size
  have r3_0 : rowAt w3 (w.heap.size) = some (.cells (exA t m) 60 (0, 0)) := rowNext' hb3 (by rw [rowAt_old _ _ _ (by first | omega | (simp [putRow_size, drewN_heap, drew_heap] <;> omega))]; exact r2_0)
  have c3_0 := lt_of_some r3_0
  have r3_1 : rowAt w3 (w.heap.size + 1) = some (.cells (tdA p b f l a i o v) 62 (0, 0)) := rowNext' hb3 (by rw [rowAt_old _ _ _ (by first | omega | (simp [putRow_size, drewN_heap, drew_heap] <;> omega))]; exact r2_1)
  have c3_1 := cellsTd r3_1
  have r3_2 : rowAt w3 (w.heap.size + 1 + 1) = some (.cells #[.int .i64 f, .int .i64 l, .bool false, .bool i, .bool o, .int .u8 v] 27 (0, 0)) := rowNext' hb3 (by rw [rowAt_old _ _ _ (by first | omega | (simp [putRow_size, drewN_heap, drew_heap] <;> omega))]; exact r2_2)
  have c3_2 := cells6 r3_2
  have r3_3 : rowAt w3 (w1.heap.size) = some (.cells (exA t m) 60 (0, 0)) := rowNext' hb3 (by rw [rowAt_old _ _ _ (by first | omega | (simp [putRow_size, drewN_heap, drew_heap] <;> omega))]; exact r2_3)
  have c3_3 := lt_of_some r3_3
  have r3_4 : rowAt w3 (w2.heap.size) = some (.cells #[.int .i64 c1, .int .u8 c2] 29 (0, 0)) := rowNext' hb3 (by rw [rowAt_new _ _ _ (by first | omega | (simp [putRow_size, drewN_heap, drew_heap] <;> omega))])
  have c3_4 := cells2 r3_4
  clear r2_0 c2_0 r2_1 c2_1 r2_2 c2_2 r2_3 c2_3 hb2 HB2 hs2
  go_wp2_with fail
  refine (awake17 _).mono ?_
  rintro e w4 ⟨rfl, hb4⟩
  have HB4 := hid (below_step HB3.out (by first | omega | (simp [putRow_size, drewN_heap, drew_heap] <;> omega)) hb4)
  have hs4 : w.heap.size ≤ w4.heap.size := HB4.out.size
  have r4_0 : rowAt w4 (w.heap.size) = some (.cells (exA t m) 60 (0, 0)) := rowNext' hb4 r3_0
  have c4_0 := lt_of_some r4_0
  have r4_1 : rowAt w4 (w.heap.size + 1) = some (.cells (tdA p b f l a i o v) 62 (0, 0)) := rowNext' hb4 r3_1
  have c4_1 := cellsTd r4_1
  have r4_2 : rowAt w4 (w.heap.size + 1 + 1) = some (.cells #[.int .i64 f, .int .i64 l, .bool false, .bool i, .bool o, .int .u8 v] 27 (0, 0)) := rowNext' hb4 r3_2
  have c4_2 := cells6 r4_2
  have r4_3 : rowAt w4 (w1.heap.size) = some (.cells (exA t m) 60 (0, 0)) := rowNext' hb4 r3_3
  have c4_3 := lt_of_some r4_3
  have r4_4 : rowAt w4 (w2.heap.size) = some (.cells #[.int .i64 c1, .int .u8 c2] 29 (0, 0)) := rowNext' hb4 r3_4
  have c4_4 := cells2 r4_4
  clear r3_0 c3_0 r3_1 c3_1 r3_2 c3_2 r3_3 c3_3 r3_4 c3_4 hb3 HB3 hs3
  go_wp2_with fail
  go_ret
  exact ⟨rfl, HB4.out⟩

set_option maxHeartbeats 2000000 in
set_option maxRecDepth 100000 in
theorem hears_badx1 (t : Tb) (m : Wt) (p : Tb) (b : Bool) (f l : Int) (a i o : Bool) (v : Int) (HG : Hid (gotR t m p b f l v false = ((t, m), none, 1))) (H1 : Hid (settle p f l v = ((0, 0), 1))) (HX : Hid (exErr t m = 1)) (w : World) :
    Calls Try.prog 11 #[.agg (exA t m), .agg (tdA p b f l a i o v)] w fun e w' => e = .returned (.bool true) ∧ Below w.heap.size w w' := by
  go_enter Try.func11, Try.ntmps11
  go_wp2_with fail
  refine (got_quiet HG.out i o _).mono ?_
  rintro e w1 ⟨rfl, hb1⟩
  have HB1 := hid (below_step ((((Below.refl w.heap.size w).alloc (by first | omega | (simp [putRow_size, drewN_heap, drew_heap] <;> omega)) _).alloc (by first | omega | (simp [putRow_size, drewN_heap, drew_heap] <;> omega)) _).alloc (by first | omega | (simp [putRow_size, drewN_heap, drew_heap] <;> omega)) _) (by first | omega | (simp [putRow_size, drewN_heap, drew_heap] <;> omega)) hb1)
  have hs1 : w.heap.size ≤ w1.heap.size := HB1.out.size
  have r1_0 : rowAt w1 (w.heap.size) = some (.cells (exA t m) 60 (0, 0)) := rowNext' hb1 (by rw [rowAt_old _ _ _ (by first | omega | (simp [putRow_size, drewN_heap, drew_heap] <;> omega)), rowAt_old _ _ _ (by first | omega | (simp [putRow_size, drewN_heap, drew_heap] <;> omega)), rowAt_new _ _ _ (by first | omega | (simp [putRow_size, drewN_heap, drew_heap] <;> omega))])
  have c1_0 := lt_of_some r1_0
  have r1_1 : rowAt w1 (w.heap.size + 1) = some (.cells (tdA p b f l a i o v) 62 (0, 0)) := rowNext' hb1 (by rw [rowAt_old _ _ _ (by first | omega | (simp [putRow_size, drewN_heap, drew_heap] <;> omega)), rowAt_new _ _ _ (by first | omega | (simp [putRow_size, drewN_heap, drew_heap] <;> omega))])
  have c1_1 := cellsTd r1_1
  have r1_2 : rowAt w1 (w.heap.size + 1 + 1) = some (.cells #[.int .i64 f, .int .i64 l, .bool false, .bool i, .bool o, .int .u8 v] 27 (0, 0)) := rowNext' hb1 (by rw [rowAt_new _ _ _ (by first | omega | (simp [putRow_size, drewN_heap, drew_heap] <;> omega))])
  have c1_2 := cells6 r1_2
  go_wp2_with fail
  refine (settle_eq H1.out false i o _).mono ?_
  rintro e w2 ⟨rfl, hb2⟩
  have HB2 := hid (below_step (HB1.out.alloc (by first | omega | (simp [putRow_size, drewN_heap, drew_heap] <;> omega)) _) (by first | omega | (simp [putRow_size, drewN_heap, drew_heap] <;> omega)) hb2)
  have hs2 : w.heap.size ≤ w2.heap.size := HB2.out.size
  have r2_0 : rowAt w2 (w.heap.size) = some (.cells (exA t m) 60 (0, 0)) := rowNext' hb2 (by rw [rowAt_old _ _ _ (by first | omega | (simp [putRow_size, drewN_heap, drew_heap] <;> omega))]; exact r1_0)
  have c2_0 := lt_of_some r2_0
  have r2_1 : rowAt w2 (w.heap.size + 1) = some (.cells (tdA p b f l a i o v) 62 (0, 0)) := rowNext' hb2 (by rw [rowAt_old _ _ _ (by first | omega | (simp [putRow_size, drewN_heap, drew_heap] <;> omega))]; exact r1_1)
  have c2_1 := cellsTd r2_1
  have r2_2 : rowAt w2 (w.heap.size + 1 + 1) = some (.cells #[.int .i64 f, .int .i64 l, .bool false, .bool i, .bool o, .int .u8 v] 27 (0, 0)) := rowNext' hb2 (by rw [rowAt_old _ _ _ (by first | omega | (simp [putRow_size, drewN_heap, drew_heap] <;> omega))]; exact r1_2)
  have c2_2 := cells6 r2_2
  have r2_3 : rowAt w2 (w1.heap.size) = some (.cells (exA t m) 60 (0, 0)) := rowNext' hb2 (by rw [rowAt_new _ _ _ (by first | omega | (simp [putRow_size, drewN_heap, drew_heap] <;> omega))])
  have c2_3 := lt_of_some r2_3
  clear r1_0 c1_0 r1_1 c1_1 r1_2 c1_2 hb1 HB1 hs1
  go_wp2_with fail
  refine (exCheck_eq HX.out _).mono ?_
  rintro e w3 ⟨rfl, hb3⟩
  have HB3 := hid (below_step (HB2.out.alloc (by first | omega | (simp [putRow_size, drewN_heap, drew_heap] <;> omega)) _) (by first | omega | (simp [putRow_size, drewN_heap, drew_heap] <;> omega)) hb3)
  have hs3 : w.heap.size ≤ w3.heap.size := HB3.out.size
  have r3_0 : rowAt w3 (w.heap.size) = some (.cells (exA t m) 60 (0, 0)) := rowNext' hb3 (by rw [rowAt_old _ _ _ (by first | omega | (simp [putRow_size, drewN_heap, drew_heap] <;> omega))]; exact r2_0)
  have c3_0 := lt_of_some r3_0
  have r3_1 : rowAt w3 (w.heap.size + 1) = some (.cells (tdA p b f l a i o v) 62 (0, 0)) := rowNext' hb3 (by rw [rowAt_old _ _ _ (by first | omega | (simp [putRow_size, drewN_heap, drew_heap] <;> omega))]; exact r2_1)
  have c3_1 := cellsTd r3_1
  have r3_2 : rowAt w3 (w.heap.size + 1 + 1) = some (.cells #[.int .i64 f, .int .i64 l, .bool false, .bool i, .bool o, .int .u8 v] 27 (0, 0)) := rowNext' hb3 (by rw [rowAt_old _ _ _ (by first | omega | (simp [putRow_size, drewN_heap, drew_heap] <;> omega))]; exact r2_2)
  have c3_2 := cells6 r3_2
  have r3_3 : rowAt w3 (w1.heap.size) = some (.cells (exA t m) 60 (0, 0)) := rowNext' hb3 (by rw [rowAt_old _ _ _ (by first | omega | (simp [putRow_size, drewN_heap, drew_heap] <;> omega))]; exact r2_3)
  have c3_3 := lt_of_some r3_3
  have r3_4 : rowAt w3 (w2.heap.size) = some (.cells #[.int .i64 0, .int .u8 0] 29 (0, 0)) := rowNext' hb3 (by rw [rowAt_new _ _ _ (by first | omega | (simp [putRow_size, drewN_heap, drew_heap] <;> omega))])
  have c3_4 := cells2 r3_4
  clear r2_0 c2_0 r2_1 c2_1 r2_2 c2_2 r2_3 c2_3 hb2 HB2 hs2
  go_wp2_with fail
  refine (awake17 _).mono ?_
  rintro e w4 ⟨rfl, hb4⟩
  have HB4 := hid (below_step HB3.out (by first | omega | (simp [putRow_size, drewN_heap, drew_heap] <;> omega)) hb4)
  have hs4 : w.heap.size ≤ w4.heap.size := HB4.out.size
  have r4_0 : rowAt w4 (w.heap.size) = some (.cells (exA t m) 60 (0, 0)) := rowNext' hb4 r3_0
  have c4_0 := lt_of_some r4_0
  have r4_1 : rowAt w4 (w.heap.size + 1) = some (.cells (tdA p b f l a i o v) 62 (0, 0)) := rowNext' hb4 r3_1
  have c4_1 := cellsTd r4_1
  have r4_2 : rowAt w4 (w.heap.size + 1 + 1) = some (.cells #[.int .i64 f, .int .i64 l, .bool false, .bool i, .bool o, .int .u8 v] 27 (0, 0)) := rowNext' hb4 r3_2
  have c4_2 := cells6 r4_2
  have r4_3 : rowAt w4 (w1.heap.size) = some (.cells (exA t m) 60 (0, 0)) := rowNext' hb4 r3_3
  have c4_3 := lt_of_some r4_3
  have r4_4 : rowAt w4 (w2.heap.size) = some (.cells #[.int .i64 0, .int .u8 0] 29 (0, 0)) := rowNext' hb4 r3_4
  have c4_4 := cells2 r4_4
  clear r3_0 c3_0 r3_1 c3_1 r3_2 c3_2 r3_3 c3_3 r3_4 c3_4 hb3 HB3 hs3
  go_wp2_with fail
  go_ret
  exact ⟨rfl, HB4.out⟩

set_option maxHeartbeats 2000000 in
set_option maxRecDepth 100000 in
theorem hears_bads (t : Tb) (m : Wt) (p : Tb) (b : Bool) (f l : Int) (a i o : Bool) (v : Int) (HG : Hid (gotR t m p b f l v false = ((t, m), none, 1))) (H1 : Hid (settle p f l v = ((0, 0), 1))) (HX : Hid (exErr t m = 0)) (w : World) :
    Calls Try.prog 11 #[.agg (exA t m), .agg (tdA p b f l a i o v)] w fun e w' => e = .returned (.bool true) ∧ Below w.heap.size w w' := by
  go_enter Try.func11, Try.ntmps11
  go_wp2_with fail
  refine (got_quiet HG.out i o _).mono ?_
  rintro e w1 ⟨rfl, hb1⟩
  have HB1 := hid (below_step ((((Below.refl w.heap.size w).alloc (by first | omega | (simp [putRow_size, drewN_heap, drew_heap] <;> omega)) _).alloc (by first | omega | (simp [putRow_size, drewN_heap, drew_heap] <;> omega)) _).alloc (by first | omega | (simp [putRow_size, drewN_heap, drew_heap] <;> omega)) _) (by first | omega | (simp [putRow_size, drewN_heap, drew_heap] <;> omega)) hb1)
  have hs1 : w.heap.size ≤ w1.heap.size := HB1.out.size
  have r1_0 : rowAt w1 (w.heap.size) = some (.cells (exA t m) 60 (0, 0)) := rowNext' hb1 (by rw [rowAt_old _ _ _ (by first | omega | (simp [putRow_size, drewN_heap, drew_heap] <;> omega)), rowAt_old _ _ _ (by first | omega | (simp [putRow_size, drewN_heap, drew_heap] <;> omega)), rowAt_new _ _ _ (by first | omega | (simp [putRow_size, drewN_heap, drew_heap] <;> omega))])
  have c1_0 := lt_of_some r1_0
  have r1_1 : rowAt w1 (w.heap.size + 1) = some (.cells (tdA p b f l a i o v) 62 (0, 0)) := rowNext' hb1 (by rw [rowAt_old _ _ _ (by first | omega | (simp [putRow_size, drewN_heap, drew_heap] <;> omega)), rowAt_new _ _ _ (by first | omega | (simp [putRow_size, drewN_heap, drew_heap] <;> omega))])
  have c1_1 := cellsTd r1_1
  have r1_2 : rowAt w1 (w.heap.size + 1 + 1) = some (.cells #[.int .i64 f, .int .i64 l, .bool false, .bool i, .bool o, .int .u8 v] 27 (0, 0)) := rowNext' hb1 (by rw [rowAt_new _ _ _ (by first | omega | (simp [putRow_size, drewN_heap, drew_heap] <;> omega))])
  have c1_2 := cells6 r1_2
  go_wp2_with fail
  refine (settle_eq H1.out false i o _).mono ?_
  rintro e w2 ⟨rfl, hb2⟩
  have HB2 := hid (below_step (HB1.out.alloc (by first | omega | (simp [putRow_size, drewN_heap, drew_heap] <;> omega)) _) (by first | omega | (simp [putRow_size, drewN_heap, drew_heap] <;> omega)) hb2)
  have hs2 : w.heap.size ≤ w2.heap.size := HB2.out.size
  have r2_0 : rowAt w2 (w.heap.size) = some (.cells (exA t m) 60 (0, 0)) := rowNext' hb2 (by rw [rowAt_old _ _ _ (by first | omega | (simp [putRow_size, drewN_heap, drew_heap] <;> omega))]; exact r1_0)
  have c2_0 := lt_of_some r2_0
  have r2_1 : rowAt w2 (w.heap.size + 1) = some (.cells (tdA p b f l a i o v) 62 (0, 0)) := rowNext' hb2 (by rw [rowAt_old _ _ _ (by first | omega | (simp [putRow_size, drewN_heap, drew_heap] <;> omega))]; exact r1_1)
  have c2_1 := cellsTd r2_1
  have r2_2 : rowAt w2 (w.heap.size + 1 + 1) = some (.cells #[.int .i64 f, .int .i64 l, .bool false, .bool i, .bool o, .int .u8 v] 27 (0, 0)) := rowNext' hb2 (by rw [rowAt_old _ _ _ (by first | omega | (simp [putRow_size, drewN_heap, drew_heap] <;> omega))]; exact r1_2)
  have c2_2 := cells6 r2_2
  have r2_3 : rowAt w2 (w1.heap.size) = some (.cells (exA t m) 60 (0, 0)) := rowNext' hb2 (by rw [rowAt_new _ _ _ (by first | omega | (simp [putRow_size, drewN_heap, drew_heap] <;> omega))])
  have c2_3 := lt_of_some r2_3
  clear r1_0 c1_0 r1_1 c1_1 r1_2 c1_2 hb1 HB1 hs1
  go_wp2_with fail
  refine (exCheck_eq HX.out _).mono ?_
  rintro e w3 ⟨rfl, hb3⟩
  have HB3 := hid (below_step (HB2.out.alloc (by first | omega | (simp [putRow_size, drewN_heap, drew_heap] <;> omega)) _) (by first | omega | (simp [putRow_size, drewN_heap, drew_heap] <;> omega)) hb3)
  have hs3 : w.heap.size ≤ w3.heap.size := HB3.out.size
  have r3_0 : rowAt w3 (w.heap.size) = some (.cells (exA t m) 60 (0, 0)) := rowNext' hb3 (by rw [rowAt_old _ _ _ (by first | omega | (simp [putRow_size, drewN_heap, drew_heap] <;> omega))]; exact r2_0)
  have c3_0 := lt_of_some r3_0
  have r3_1 : rowAt w3 (w.heap.size + 1) = some (.cells (tdA p b f l a i o v) 62 (0, 0)) := rowNext' hb3 (by rw [rowAt_old _ _ _ (by first | omega | (simp [putRow_size, drewN_heap, drew_heap] <;> omega))]; exact r2_1)
  have c3_1 := cellsTd r3_1
  have r3_2 : rowAt w3 (w.heap.size + 1 + 1) = some (.cells #[.int .i64 f, .int .i64 l, .bool false, .bool i, .bool o, .int .u8 v] 27 (0, 0)) := rowNext' hb3 (by rw [rowAt_old _ _ _ (by first | omega | (simp [putRow_size, drewN_heap, drew_heap] <;> omega))]; exact r2_2)
  have c3_2 := cells6 r3_2
  have r3_3 : rowAt w3 (w1.heap.size) = some (.cells (exA t m) 60 (0, 0)) := rowNext' hb3 (by rw [rowAt_old _ _ _ (by first | omega | (simp [putRow_size, drewN_heap, drew_heap] <;> omega))]; exact r2_3)
  have c3_3 := lt_of_some r3_3
  have r3_4 : rowAt w3 (w2.heap.size) = some (.cells #[.int .i64 0, .int .u8 0] 29 (0, 0)) := rowNext' hb3 (by rw [rowAt_new _ _ _ (by first | omega | (simp [putRow_size, drewN_heap, drew_heap] <;> omega))])
  have c3_4 := cells2 r3_4
  clear r2_0 c2_0 r2_1 c2_1 r2_2 c2_2 r2_3 c2_3 hb2 HB2 hs2
  go_wp2_with fail
  refine (awake17 _).mono ?_
  rintro e w4 ⟨rfl, hb4⟩
  have HB4 := hid (below_step HB3.out (by first | omega | (simp [putRow_size, drewN_heap, drew_heap] <;> omega)) hb4)
  have hs4 : w.heap.size ≤ w4.heap.size := HB4.out.size
  have r4_0 : rowAt w4 (w.heap.size) = some (.cells (exA t m) 60 (0, 0)) := rowNext' hb4 r3_0
  have c4_0 := lt_of_some r4_0
  have r4_1 : rowAt w4 (w.heap.size + 1) = some (.cells (tdA p b f l a i o v) 62 (0, 0)) := rowNext' hb4 r3_1
  have c4_1 := cellsTd r4_1
  have r4_2 : rowAt w4 (w.heap.size + 1 + 1) = some (.cells #[.int .i64 f, .int .i64 l, .bool false, .bool i, .bool o, .int .u8 v] 27 (0, 0)) := rowNext' hb4 r3_2
  have c4_2 := cells6 r4_2
  have r4_3 : rowAt w4 (w1.heap.size) = some (.cells (exA t m) 60 (0, 0)) := rowNext' hb4 r3_3
  have c4_3 := lt_of_some r4_3
  have r4_4 : rowAt w4 (w2.heap.size) = some (.cells #[.int .i64 0, .int .u8 0] 29 (0, 0)) := rowNext' hb4 r3_4
  have c4_4 := cells2 r4_4
  clear r3_0 c3_0 r3_1 c3_1 r3_2 c3_2 r3_3 c3_3 r3_4 c3_4 hb3 HB3 hs3
  go_wp2_with fail
  go_ret
  exact ⟨rfl, HB4.out⟩

set_option maxHeartbeats 2000000 in
set_option maxRecDepth 100000 in
theorem hears_low (t : Tb) (m : Wt) (p : Tb) (b : Bool) (f l : Int) (a i o : Bool) (v : Int) (hf : f < 1) (HG : Hid (gotR t m p b f l v false = ((t, m), some (0, 0), 0))) (H1 : Hid (settle p f l v = ((0, 0), 0))) (HX : Hid (exErr t m = 0)) (w : World) :
    Calls Try.prog 11 #[.agg (exA t m), .agg (tdA p b f l a i o v)] w fun e w' => e = .returned (.bool true) ∧ Below w.heap.size w w' := by
  go_enter Try.func11, Try.ntmps11
  go_wp2_with fail
  refine (got_says HG.out i o _).mono ?_
  rintro e w1 ⟨g, rfl, hr1, hg1, hb1⟩
  have HB1 := hid (below_step ((((Below.refl w.heap.size w).alloc (by first | omega | (simp [putRow_size, drewN_heap, drew_heap] <;> omega)) _).alloc (by first | omega | (simp [putRow_size, drewN_heap, drew_heap] <;> omega)) _).alloc (by first | omega | (simp [putRow_size, drewN_heap, drew_heap] <;> omega)) _) (by first | omega | (simp [putRow_size, drewN_heap, drew_heap] <;> omega)) hb1)
  have hs1 : w.heap.size ≤ w1.heap.size := HB1.out.size
  have r1_0 : rowAt w1 (w.heap.size) = some (.cells (exA t m) 60 (0, 0)) := rowNext' hb1 (by rw [rowAt_old _ _ _ (by first | omega | (simp [putRow_size, drewN_heap, drew_heap] <;> omega)), rowAt_old _ _ _ (by first | omega | (simp [putRow_size, drewN_heap, drew_heap] <;> omega)), rowAt_new _ _ _ (by first | omega | (simp [putRow_size, drewN_heap, drew_heap] <;> omega))])
  have c1_0 := lt_of_some r1_0
  have r1_1 : rowAt w1 (w.heap.size + 1) = some (.cells (tdA p b f l a i o v) 62 (0, 0)) := rowNext' hb1 (by rw [rowAt_old _ _ _ (by first | omega | (simp [putRow_size, drewN_heap, drew_heap] <;> omega)), rowAt_new _ _ _ (by first | omega | (simp [putRow_size, drewN_heap, drew_heap] <;> omega))])
  have c1_1 := cellsTd r1_1
  have r1_2 : rowAt w1 (w.heap.size + 1 + 1) = some (.cells #[.int .i64 f, .int .i64 l, .bool false, .bool i, .bool o, .int .u8 v] 27 (0, 0)) := rowNext' hb1 (by rw [rowAt_new _ _ _ (by first | omega | (simp [putRow_size, drewN_heap, drew_heap] <;> omega))])
  have c1_2 := cells6 r1_2
  have r1_3 : rowAt w1 (g) = some (.cells #[.int .i64 f, .int .i64 0, .bool true, .bool i, .bool o, .int .u8 0] 27 (0, 0)) := hr1
  have c1_3 := cells6 r1_3
  have hG1 : w.heap.size ≤ g := by first | omega | (simp [putRow_size, drewN_heap, drew_heap] at hg1; omega)
  clear hr1 hg1
  go_wp2_with fail
  refine (settle_eq H1.out false i o _).mono ?_
  rintro e w2 ⟨rfl, hb2⟩
  have HB2 := hid (below_step (HB1.out.alloc (by first | omega | (simp [putRow_size, drewN_heap, drew_heap] <;> omega)) _) (by first | omega | (simp [putRow_size, drewN_heap, drew_heap] <;> omega)) hb2)
  have hs2 : w.heap.size ≤ w2.heap.size := HB2.out.size
  have r2_0 : rowAt w2 (w.heap.size) = some (.cells (exA t m) 60 (0, 0)) := rowNext' hb2 (by rw [rowAt_old _ _ _ (by first | omega | (simp [putRow_size, drewN_heap, drew_heap] <;> omega))]; exact r1_0)
  have c2_0 := lt_of_some r2_0
  have r2_1 : rowAt w2 (w.heap.size + 1) = some (.cells (tdA p b f l a i o v) 62 (0, 0)) := rowNext' hb2 (by rw [rowAt_old _ _ _ (by first | omega | (simp [putRow_size, drewN_heap, drew_heap] <;> omega))]; exact r1_1)
  have c2_1 := cellsTd r2_1
  have r2_2 : rowAt w2 (w.heap.size + 1 + 1) = some (.cells #[.int .i64 f, .int .i64 l, .bool false, .bool i, .bool o, .int .u8 v] 27 (0, 0)) := rowNext' hb2 (by rw [rowAt_old _ _ _ (by first | omega | (simp [putRow_size, drewN_heap, drew_heap] <;> omega))]; exact r1_2)
  have c2_2 := cells6 r2_2
  have r2_3 : rowAt w2 (g) = some (.cells #[.int .i64 f, .int .i64 0, .bool true, .bool i, .bool o, .int .u8 0] 27 (0, 0)) := rowNext' hb2 (by rw [rowAt_old _ _ _ (by first | omega | (simp [putRow_size, drewN_heap, drew_heap] <;> omega))]; exact r1_3)
  have c2_3 := cells6 r2_3
  have r2_4 : rowAt w2 (w1.heap.size) = some (.cells (exA t m) 60 (0, 0)) := rowNext' hb2 (by rw [rowAt_new _ _ _ (by first | omega | (simp [putRow_size, drewN_heap, drew_heap] <;> omega))])
  have c2_4 := lt_of_some r2_4
  clear r1_0 c1_0 r1_1 c1_1 r1_2 c1_2 r1_3 c1_3 hb1 HB1 hs1
  go_wp2_with fail
  refine (exCheck_eq HX.out _).mono ?_
  rintro e w3 ⟨rfl, hb3⟩
  have HB3 := hid (below_step (HB2.out.alloc (by first | omega | (simp [putRow_size, drewN_heap, drew_heap] <;> omega)) _) (by first | omega | (simp [putRow_size, drewN_heap, drew_heap] <;> omega)) hb3)
  have hs3 : w.heap.size ≤ w3.heap.size := HB3.out.size
  have r3_0 : rowAt w3 (w.heap.size) = some (.cells (exA t m) 60 (0, 0)) := rowNext' hb3 (by rw [rowAt_old _ _ _ (by first | omega | (simp [putRow_size, drewN_heap, drew_heap] <;> omega))]; exact r2_0)
  have c3_0 := lt_of_some r3_0
  have r3_1 : rowAt w3 (w.heap.size + 1) = some (.cells (tdA p b f l a i o v) 62 (0, 0)) := rowNext' hb3 (by rw [rowAt_old _ _ _ (by first | omega | (simp [putRow_size, drewN_heap, drew_heap] <;> omega))]; exact r2_1)
  have c3_1 := cellsTd r3_1
  have r3_2 : rowAt w3 (w.heap.size + 1 + 1) = some (.cells #[.int .i64 f, .int .i64 l, .bool false, .bool i, .bool o, .int .u8 v] 27 (0, 0)) := rowNext' hb3 (by rw [rowAt_old _ _ _ (by first | omega | (simp [putRow_size, drewN_heap, drew_heap] <;> omega))]; exact r2_2)
  have c3_2 := cells6 r3_2
  have r3_3 : rowAt w3 (g) = some (.cells #[.int .i64 f, .int .i64 0, .bool true, .bool i, .bool o, .int .u8 0] 27 (0, 0)) := rowNext' hb3 (by rw [rowAt_old _ _ _ (by first | omega | (simp [putRow_size, drewN_heap, drew_heap] <;> omega))]; exact r2_3)
  have c3_3 := cells6 r3_3
  have r3_4 : rowAt w3 (w1.heap.size) = some (.cells (exA t m) 60 (0, 0)) := rowNext' hb3 (by rw [rowAt_old _ _ _ (by first | omega | (simp [putRow_size, drewN_heap, drew_heap] <;> omega))]; exact r2_4)
  have c3_4 := lt_of_some r3_4
  have r3_5 : rowAt w3 (w2.heap.size) = some (.cells #[.int .i64 0, .int .u8 0] 29 (0, 0)) := rowNext' hb3 (by rw [rowAt_new _ _ _ (by first | omega | (simp [putRow_size, drewN_heap, drew_heap] <;> omega))])
  have c3_5 := cells2 r3_5
  clear r2_0 c2_0 r2_1 c2_1 r2_2 c2_2 r2_3 c2_3 r2_4 c2_4 hb2 HB2 hs2
  go_wp2_with fail
  refine (awake17 _).mono ?_
  rintro e w4 ⟨rfl, hb4⟩
  have HB4 := hid (below_step HB3.out (by first | omega | (simp [putRow_size, drewN_heap, drew_heap] <;> omega)) hb4)
  have hs4 : w.heap.size ≤ w4.heap.size := HB4.out.size
  have r4_0 : rowAt w4 (w.heap.size) = some (.cells (exA t m) 60 (0, 0)) := rowNext' hb4 r3_0
  have c4_0 := lt_of_some r4_0
  have r4_1 : rowAt w4 (w.heap.size + 1) = some (.cells (tdA p b f l a i o v) 62 (0, 0)) := rowNext' hb4 r3_1
  have c4_1 := cellsTd r4_1
  have r4_2 : rowAt w4 (w.heap.size + 1 + 1) = some (.cells #[.int .i64 f, .int .i64 l, .bool false, .bool i, .bool o, .int .u8 v] 27 (0, 0)) := rowNext' hb4 r3_2
  have c4_2 := cells6 r4_2
  have r4_3 : rowAt w4 (g) = some (.cells #[.int .i64 f, .int .i64 0, .bool true, .bool i, .bool o, .int .u8 0] 27 (0, 0)) := rowNext' hb4 r3_3
  have c4_3 := cells6 r4_3
  have r4_4 : rowAt w4 (w1.heap.size) = some (.cells (exA t m) 60 (0, 0)) := rowNext' hb4 r3_4
  have c4_4 := lt_of_some r4_4
  have r4_5 : rowAt w4 (w2.heap.size) = some (.cells #[.int .i64 0, .int .u8 0] 29 (0, 0)) := rowNext' hb4 r3_5
  have c4_5 := cells2 r4_5
  clear r3_0 c3_0 r3_1 c3_1 r3_2 c3_2 r3_3 c3_3 r3_4 c3_4 r3_5 c3_5 hb3 HB3 hs3
  go_wp2_with fail
  go_ret
  exact ⟨rfl, HB4.out⟩

set_option maxHeartbeats 2000000 in
set_option maxRecDepth 100000 in
theorem hears_high (t : Tb) (m : Wt) (p : Tb) (b : Bool) (f l : Int) (a i o : Bool) (v : Int) (hf : 31 ≤ f) (HG : Hid (gotR t m p b f l v false = ((t, m), some (0, 0), 0))) (H1 : Hid (settle p f l v = ((0, 0), 0))) (HX : Hid (exErr t m = 0)) (w : World) :
    Calls Try.prog 11 #[.agg (exA t m), .agg (tdA p b f l a i o v)] w fun e w' => e = .returned (.bool true) ∧ Below w.heap.size w w' := by
  go_enter Try.func11, Try.ntmps11
  go_wp2_with fail
  refine (got_says HG.out i o _).mono ?_
  rintro e w1 ⟨g, rfl, hr1, hg1, hb1⟩
  have HB1 := hid (below_step ((((Below.refl w.heap.size w).alloc (by first | omega | (simp [putRow_size, drewN_heap, drew_heap] <;> omega)) _).alloc (by first | omega | (simp [putRow_size, drewN_heap, drew_heap] <;> omega)) _).alloc (by first | omega | (simp [putRow_size, drewN_heap, drew_heap] <;> omega)) _) (by first | omega | (simp [putRow_size, drewN_heap, drew_heap] <;> omega)) hb1)
  have hs1 : w.heap.size ≤ w1.heap.size := HB1.out.size
  have r1_0 : rowAt w1 (w.heap.size) = some (.cells (exA t m) 60 (0, 0)) := rowNext' hb1 (by rw [rowAt_old _ _ _ (by first | omega | (simp [putRow_size, drewN_heap, drew_heap] <;> omega)), rowAt_old _ _ _ (by first | omega | (simp [putRow_size, drewN_heap, drew_heap] <;> omega)), rowAt_new _ _ _ (by first | omega | (simp [putRow_size, drewN_heap, drew_heap] <;> omega))])
  have c1_0 := lt_of_some r1_0
  have r1_1 : rowAt w1 (w.heap.size + 1) = some (.cells (tdA p b f l a i o v) 62 (0, 0)) := rowNext' hb1 (by rw [rowAt_old _ _ _ (by first | omega | (simp [putRow_size, drewN_heap, drew_heap] <;> omega)), rowAt_new _ _ _ (by first | omega | (simp [putRow_size, drewN_heap, drew_heap] <;> omega))])
  have c1_1 := cellsTd r1_1
  have r1_2 : rowAt w1 (w.heap.size + 1 + 1) = some (.cells #[.int .i64 f, .int .i64 l, .bool false, .bool i, .bool o, .int .u8 v] 27 (0, 0)) := rowNext' hb1 (by rw [rowAt_new _ _ _ (by first | omega | (simp [putRow_size, drewN_heap, drew_heap] <;> omega))])
  have c1_2 := cells6 r1_2
  have r1_3 : rowAt w1 (g) = some (.cells #[.int .i64 f, .int .i64 0, .bool true, .bool i, .bool o, .int .u8 0] 27 (0, 0)) := hr1
  have c1_3 := cells6 r1_3
  have hG1 : w.heap.size ≤ g := by first | omega | (simp [putRow_size, drewN_heap, drew_heap] at hg1; omega)
  clear hr1 hg1
  go_wp2_with fail
  refine (settle_eq H1.out false i o _).mono ?_
  rintro e w2 ⟨rfl, hb2⟩
  have HB2 := hid (below_step (HB1.out.alloc (by first | omega | (simp [putRow_size, drewN_heap, drew_heap] <;> omega)) _) (by first | omega | (simp [putRow_size, drewN_heap, drew_heap] <;> omega)) hb2)
  have hs2 : w.heap.size ≤ w2.heap.size := HB2.out.size
  have r2_0 : rowAt w2 (w.heap.size) = some (.cells (exA t m) 60 (0, 0)) := rowNext' hb2 (by rw [rowAt_old _ _ _ (by first | omega | (simp [putRow_size, drewN_heap, drew_heap] <;> omega))]; exact r1_0)
  have c2_0 := lt_of_some r2_0
  have r2_1 : rowAt w2 (w.heap.size + 1) = some (.cells (tdA p b f l a i o v) 62 (0, 0)) := rowNext' hb2 (by rw [rowAt_old _ _ _ (by first | omega | (simp [putRow_size, drewN_heap, drew_heap] <;> omega))]; exact r1_1)
  have c2_1 := cellsTd r2_1
  have r2_2 : rowAt w2 (w.heap.size + 1 + 1) = some (.cells #[.int .i64 f, .int .i64 l, .bool false, .bool i, .bool o, .int .u8 v] 27 (0, 0)) := rowNext' hb2 (by rw [rowAt_old _ _ _ (by first | omega | (simp [putRow_size, drewN_heap, drew_heap] <;> omega))]; exact r1_2)
  have c2_2 := cells6 r2_2
  have r2_3 : rowAt w2 (g) = some (.cells #[.int .i64 f, .int .i64 0, .bool true, .bool i, .bool o, .int .u8 0] 27 (0, 0)) := rowNext' hb2 (by rw [rowAt_old _ _ _ (by first | omega | (simp [putRow_size, drewN_heap, drew_heap] <;> omega))]; exact r1_3)
  have c2_3 := cells6 r2_3
  have r2_4 : rowAt w2 (w1.heap.size) = some (.cells (exA t m) 60 (0, 0)) := rowNext' hb2 (by rw [rowAt_new _ _ _ (by first | omega | (simp [putRow_size, drewN_heap, drew_heap] <;> omega))])
  have c2_4 := lt_of_some r2_4
  clear r1_0 c1_0 r1_1 c1_1 r1_2 c1_2 r1_3 c1_3 hb1 HB1 hs1
  go_wp2_with fail
  refine (exCheck_eq HX.out _).mono ?_
  rintro e w3 ⟨rfl, hb3⟩
  have HB3 := hid (below_step (HB2.out.alloc (by first | omega | (simp [putRow_size, drewN_heap, drew_heap] <;> omega)) _) (by first | omega | (simp [putRow_size, drewN_heap, drew_heap] <;> omega)) hb3)
  have hs3 : w.heap.size ≤ w3.heap.size := HB3.out.size
  have r3_0 : rowAt w3 (w.heap.size) = some (.cells (exA t m) 60 (0, 0)) := rowNext' hb3 (by rw [rowAt_old _ _ _ (by first | omega | (simp [putRow_size, drewN_heap, drew_heap] <;> omega))]; exact r2_0)
  have c3_0 := lt_of_some r3_0
  have r3_1 : rowAt w3 (w.heap.size + 1) = some (.cells (tdA p b f l a i o v) 62 (0, 0)) := rowNext' hb3 (by rw [rowAt_old _ _ _ (by first | omega | (simp [putRow_size, drewN_heap, drew_heap] <;> omega))]; exact r2_1)
  have c3_1 := cellsTd r3_1
  have r3_2 : rowAt w3 (w.heap.size + 1 + 1) = some (.cells #[.int .i64 f, .int .i64 l, .bool false, .bool i, .bool o, .int .u8 v] 27 (0, 0)) := rowNext' hb3 (by rw [rowAt_old _ _ _ (by first | omega | (simp [putRow_size, drewN_heap, drew_heap] <;> omega))]; exact r2_2)
  have c3_2 := cells6 r3_2
  have r3_3 : rowAt w3 (g) = some (.cells #[.int .i64 f, .int .i64 0, .bool true, .bool i, .bool o, .int .u8 0] 27 (0, 0)) := rowNext' hb3 (by rw [rowAt_old _ _ _ (by first | omega | (simp [putRow_size, drewN_heap, drew_heap] <;> omega))]; exact r2_3)
  have c3_3 := cells6 r3_3
  have r3_4 : rowAt w3 (w1.heap.size) = some (.cells (exA t m) 60 (0, 0)) := rowNext' hb3 (by rw [rowAt_old _ _ _ (by first | omega | (simp [putRow_size, drewN_heap, drew_heap] <;> omega))]; exact r2_4)
  have c3_4 := lt_of_some r3_4
  have r3_5 : rowAt w3 (w2.heap.size) = some (.cells #[.int .i64 0, .int .u8 0] 29 (0, 0)) := rowNext' hb3 (by rw [rowAt_new _ _ _ (by first | omega | (simp [putRow_size, drewN_heap, drew_heap] <;> omega))])
  have c3_5 := cells2 r3_5
  clear r2_0 c2_0 r2_1 c2_1 r2_2 c2_2 r2_3 c2_3 r2_4 c2_4 hb2 HB2 hs2
  go_wp2_with fail
  refine (awake17 _).mono ?_
  rintro e w4 ⟨rfl, hb4⟩
  have HB4 := hid (below_step HB3.out (by first | omega | (simp [putRow_size, drewN_heap, drew_heap] <;> omega)) hb4)
  have hs4 : w.heap.size ≤ w4.heap.size := HB4.out.size
  have r4_0 : rowAt w4 (w.heap.size) = some (.cells (exA t m) 60 (0, 0)) := rowNext' hb4 r3_0
  have c4_0 := lt_of_some r4_0
  have r4_1 : rowAt w4 (w.heap.size + 1) = some (.cells (tdA p b f l a i o v) 62 (0, 0)) := rowNext' hb4 r3_1
  have c4_1 := cellsTd r4_1
  have r4_2 : rowAt w4 (w.heap.size + 1 + 1) = some (.cells #[.int .i64 f, .int .i64 l, .bool false, .bool i, .bool o, .int .u8 v] 27 (0, 0)) := rowNext' hb4 r3_2
  have c4_2 := cells6 r4_2
  have r4_3 : rowAt w4 (g) = some (.cells #[.int .i64 f, .int .i64 0, .bool true, .bool i, .bool o, .int .u8 0] 27 (0, 0)) := rowNext' hb4 r3_3
  have c4_3 := cells6 r4_3
  have r4_4 : rowAt w4 (w1.heap.size) = some (.cells (exA t m) 60 (0, 0)) := rowNext' hb4 r3_4
  have c4_4 := lt_of_some r4_4
  have r4_5 : rowAt w4 (w2.heap.size) = some (.cells #[.int .i64 0, .int .u8 0] 29 (0, 0)) := rowNext' hb4 r3_5
  have c4_5 := cells2 r4_5
  clear r3_0 c3_0 r3_1 c3_1 r3_2 c3_2 r3_3 c3_3 r3_4 c3_4 r3_5 c3_5 hb3 HB3 hs3
  go_wp2_with fail
  go_ret
  exact ⟨rfl, HB4.out⟩

set_option maxHeartbeats 2000000 in
set_option maxRecDepth 100000 in
theorem hears_deaf (t : Tb) (m : Wt) (p : Tb) (n : Nat) (h1 : 1 ≤ n) (h2 : n < 31) (l : Int) (a i o : Bool) (v : Int) (c1 c2 c : Int) (hc : 1 ≤ c) (HM : Hid (m n = c)) (HG : Hid (gotR t m p true n l v false = ((t, m), none, 5))) (H1 : Hid (settle p n l v = ((c1, c2), 0))) (HX : Hid (exErr t m = 0)) (w : World) :
    Calls Try.prog 11 #[.agg (exA t m), .agg (tdA p true n l a i o v)] w fun e w' => e = .returned (.bool true) ∧ Below w.heap.size w w' := by
  have d1 : decide ((n : Int) < 1) = false := by simp; omega
  have d2 : decide ((31 : Int) ≤ (n : Int)) = false := by simp; omega
  have hn0 : (0 : Int) ≤ (n : Int) := by omega
  have hn31 : (n : Int) < 31 := by omega
  go_enter Try.func11, Try.ntmps11
  go_wp2_with fail
  refine (got_quiet HG.out i o _).mono ?_
  rintro e w1 ⟨rfl, hb1⟩
  have HB1 := hid (below_step ((((Below.refl w.heap.size w).alloc (by first | omega | (simp [putRow_size, drewN_heap, drew_heap] <;> omega)) _).alloc (by first | omega | (simp [putRow_size, drewN_heap, drew_heap] <;> omega)) _).alloc (by first | omega | (simp [putRow_size, drewN_heap, drew_heap] <;> omega)) _) (by first | omega | (simp [putRow_size, drewN_heap, drew_heap] <;> omega)) hb1)
  have hs1 : w.heap.size ≤ w1.heap.size := HB1.out.size
  have r1_0 : rowAt w1 (w.heap.size) = some (.cells (exA t m) 60 (0, 0)) := rowNext' hb1 (by rw [rowAt_old _ _ _ (by first | omega | (simp [putRow_size, drewN_heap, drew_heap] <;> omega)), rowAt_old _ _ _ (by first | omega | (simp [putRow_size, drewN_heap, drew_heap] <;> omega)), rowAt_new _ _ _ (by first | omega | (simp [putRow_size, drewN_heap, drew_heap] <;> omega))])
  have c1_0 := lt_of_some r1_0
  have r1_1 : rowAt w1 (w.heap.size + 1) = some (.cells (tdA p true n l a i o v) 62 (0, 0)) := rowNext' hb1 (by rw [rowAt_old _ _ _ (by first | omega | (simp [putRow_size, drewN_heap, drew_heap] <;> omega)), rowAt_new _ _ _ (by first | omega | (simp [putRow_size, drewN_heap, drew_heap] <;> omega))])
  have c1_1 := cellsTd r1_1
  have r1_2 : rowAt w1 (w.heap.size + 1 + 1) = some (.cells #[.int .i64 n, .int .i64 l, .bool false, .bool i, .bool o, .int .u8 v] 27 (0, 0)) := rowNext' hb1 (by rw [rowAt_new _ _ _ (by first | omega | (simp [putRow_size, drewN_heap, drew_heap] <;> omega))])
  have c1_2 := cells6 r1_2
  go_wp2_with fail
  refine (settle_eq H1.out false i o _).mono ?_
  rintro e w2 ⟨rfl, hb2⟩
  have HB2 := hid (below_step (HB1.out.alloc (by first | omega | (simp [putRow_size, drewN_heap, drew_heap] <;> omega)) _) (by first | omega | (simp [putRow_size, drewN_heap, drew_heap] <;> omega)) hb2)
  have hs2 : w.heap.size ≤ w2.heap.size := HB2.out.size
  have r2_0 : rowAt w2 (w.heap.size) = some (.cells (exA t m) 60 (0, 0)) := rowNext' hb2 (by rw [rowAt_old _ _ _ (by first | omega | (simp [putRow_size, drewN_heap, drew_heap] <;> omega))]; exact r1_0)
  have c2_0 := lt_of_some r2_0
  have r2_1 : rowAt w2 (w.heap.size + 1) = some (.cells (tdA p true n l a i o v) 62 (0, 0)) := rowNext' hb2 (by rw [rowAt_old _ _ _ (by first | omega | (simp [putRow_size, drewN_heap, drew_heap] <;> omega))]; exact r1_1)
  have c2_1 := cellsTd r2_1
  have r2_2 : rowAt w2 (w.heap.size + 1 + 1) = some (.cells #[.int .i64 n, .int .i64 l, .bool false, .bool i, .bool o, .int .u8 v] 27 (0, 0)) := rowNext' hb2 (by rw [rowAt_old _ _ _ (by first | omega | (simp [putRow_size, drewN_heap, drew_heap] <;> omega))]; exact r1_2)
  have c2_2 := cells6 r2_2
  have r2_3 : rowAt w2 (w1.heap.size) = some (.cells (exA t m) 60 (0, 0)) := rowNext' hb2 (by rw [rowAt_new _ _ _ (by first | omega | (simp [putRow_size, drewN_heap, drew_heap] <;> omega))])
  have c2_3 := lt_of_some r2_3
  clear r1_0 c1_0 r1_1 c1_1 r1_2 c1_2 hb1 HB1 hs1
  go_wp2_with fail
  refine (exCheck_eq HX.out _).mono ?_
  rintro e w3 ⟨rfl, hb3⟩
  have HB3 := hid (below_step (HB2.out.alloc (by first | omega | (simp [putRow_size, drewN_heap, drew_heap] <;> omega)) _) (by first | omega | (simp [putRow_size, drewN_heap, drew_heap] <;> omega)) hb3)
  have hs3 : w.heap.size ≤ w3.heap.size := HB3.out.size
  have r3_0 : rowAt w3 (w.heap.size) = some (.cells (exA t m) 60 (0, 0)) := rowNext' hb3 (by rw [rowAt_old _ _ _ (by first | omega | (simp [putRow_size, drewN_heap, drew_heap] <;> omega))]; exact r2_0)
  have c3_0 := lt_of_some r3_0
  have r3_1 : rowAt w3 (w.heap.size + 1) = some (.cells (tdA p true n l a i o v) 62 (0, 0)) := rowNext' hb3 (by rw [rowAt_old _ _ _ (by first | omega | (simp [putRow_size, drewN_heap, drew_heap] <;> omega))]; exact r2_1)
  have c3_1 := cellsTd r3_1
  have r3_2 : rowAt w3 (w.heap.size + 1 + 1) = some (.cells #[.int .i64 n, .int .i64 l, .bool false, .bool i, .bool o, .int .u8 v] 27 (0, 0)) := rowNext' hb3 (by rw [rowAt_old _ _ _ (by first | omega | (simp [putRow_size, drewN_heap, drew_heap] <;> omega))]; exact r2_2)
  have c3_2 := cells6 r3_2
  have r3_3 : rowAt w3 (w1.heap.size) = some (.cells (exA t m) 60 (0, 0)) := rowNext' hb3 (by rw [rowAt_old _ _ _ (by first | omega | (simp [putRow_size, drewN_heap, drew_heap] <;> omega))]; exact r2_3)
  have c3_3 := lt_of_some r3_3
  have r3_4 : rowAt w3 (w2.heap.size) = some (.cells #[.int .i64 c1, .int .u8 c2] 29 (0, 0)) := rowNext' hb3 (by rw [rowAt_new _ _ _ (by first | omega | (simp [putRow_size, drewN_heap, drew_heap] <;> omega))])
  have c3_4 := cells2 r3_4
  clear r2_0 c2_0 r2_1 c2_1 r2_2 c2_2 r2_3 c2_3 hb2 HB2 hs2
  have k0 := cell_of_row _ _ (62 + n) _ _ _ r3_0
  rw [exA_wait t m n h2, HM.out] at k0
  have hcd : decide (0 < c) = true := by simp; omega
  go_wp2_with fail
  refine (awake17 _).mono ?_
  rintro e w4 ⟨rfl, hb4⟩
  have HB4 := hid (below_step HB3.out (by first | omega | (simp [putRow_size, drewN_heap, drew_heap] <;> omega)) hb4)
  have hs4 : w.heap.size ≤ w4.heap.size := HB4.out.size
  have r4_0 : rowAt w4 (w.heap.size) = some (.cells (exA t m) 60 (0, 0)) := rowNext' hb4 r3_0
  have c4_0 := lt_of_some r4_0
  have r4_1 : rowAt w4 (w.heap.size + 1) = some (.cells (tdA p true n l a i o v) 62 (0, 0)) := rowNext' hb4 r3_1
  have c4_1 := cellsTd r4_1
  have r4_2 : rowAt w4 (w.heap.size + 1 + 1) = some (.cells #[.int .i64 n, .int .i64 l, .bool false, .bool i, .bool o, .int .u8 v] 27 (0, 0)) := rowNext' hb4 r3_2
  have c4_2 := cells6 r4_2
  have r4_3 : rowAt w4 (w1.heap.size) = some (.cells (exA t m) 60 (0, 0)) := rowNext' hb4 r3_3
  have c4_3 := lt_of_some r4_3
  have r4_4 : rowAt w4 (w2.heap.size) = some (.cells #[.int .i64 c1, .int .u8 c2] 29 (0, 0)) := rowNext' hb4 r3_4
  have c4_4 := cells2 r4_4
  clear r3_0 c3_0 r3_1 c3_1 r3_2 c3_2 r3_3 c3_3 r3_4 c3_4 hb3 HB3 hs3
  go_wp2_with fail
  go_ret
  exact ⟨rfl, HB4.out⟩

end Go.Proofs.Ytjghmgpmaallfaa
