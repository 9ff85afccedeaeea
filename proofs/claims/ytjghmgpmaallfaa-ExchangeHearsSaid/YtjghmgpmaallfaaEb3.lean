/-
  The walk of ExchangeHears, where it is heard.
-/
import Derived.Test.YtjghmgpmaallfaaEa3
import Derived.Deep.QuietTactic
import Derived.BigQuiet
namespace Go.Proofs.Ytjghmgpmaallfaa
open Go.RowKit
set_option linter.unusedVariables false
set_option linter.unusedSimpArgs false

set_option maxHeartbeats 2000000 in
set_option maxRecDepth 100000 in
theorem hears_s (t : Tb) (m : Wt) (p : Tb) (n : Nat) (h1 : 1 ≤ n) (h2 : n < 31) (l : Int) (a i o : Bool) (v : Int) (c1 c2 : Int) (HM : Hid (m n = 0)) (HG : Hid (gotR t m p true n l v false = (((upd t n (c1, c2)), (updW m n 0)), some (c1, c2), 0))) (H1 : Hid (settle p n l v = ((c1, c2), 0))) (HX : Hid (exErr t m = 0)) (w : World) :
    Calls Try.prog 11 #[.agg (exA t m), .agg (tdA p true n l a i o v)] w fun e w' => e = .returned (.bool true) ∧ Below w.heap.size w w' := by
  have d1 : decide ((n : Int) < 1) = false := by simp; omega
  have d2 : decide ((31 : Int) ≤ (n : Int)) = false := by simp; omega
  have hn0 : (0 : Int) ≤ (n : Int) := by omega
  have hn31 : (n : Int) < 31 := by omega
  go_enter Try.func11, Try.ntmps11
  go_wp2_with fail
  refine (got_says HG.out i o _).mono ?_
  rintro e w1 ⟨g, rfl, hr1, hg1, hb1⟩
  have HB1 := hid (below_step ((((Below.refl w.heap.size w).alloc (by first | omega | (simp [putRow_size, drewN_heap, drew_heap] <;> omega)) _).alloc (by first | omega | (simp [putRow_size, drewN_heap, drew_heap] <;> omega)) _).alloc (by first | omega | (simp [putRow_size, drewN_heap, drew_heap] <;> omega)) _) (by first | omega | (simp [putRow_size, drewN_heap, drew_heap] <;> omega)) hb1)
  have hs1 : w.heap.size ≤ w1.heap.size := HB1.out.size
  have r1_0 : rowAt w1 (w.heap.size) = some (.cells (exA t m) 60 (0, 0)) := rowNext' hb1 (by rw [rowAt_old _ _ _ (by first | omega | (simp [putRow_size, drewN_heap, drew_heap] <;> omega)), rowAt_old _ _ _ (by first | omega | (simp [putRow_size, drewN_heap, drew_heap] <;> omega)), rowAt_new _ _ _ (by first | omega | (simp [putRow_size, drewN_heap, drew_heap] <;> omega))])
  have c1_0 := lt_of_some r1_0
  have r1_1 : rowAt w1 (w.heap.size + 1) = some (.cells (tdA p true n l a i o v) 62 (0, 0)) := rowNext' hb1 (by rw [rowAt_old _ _ _ (by first | omega | (simp [putRow_size, drewN_heap, drew_heap] <;> omega)), rowAt_new _ _ _ (by first | omega | (simp [putRow_size, drewN_heap, drew_heap] <;> omega))])
  have c1_1 := cellsTd r1_1
  have r1_2 : rowAt w1 (w.heap.size + 1 + 1) = some (.cells #[.int .i64 n, .int .i64 l, .bool false, .bool i, .bool o, .int .u8 v] 27 (0, 0)) := rowNext' hb1 (by rw [rowAt_new _ _ _ (by first | omega | (simp [putRow_size, drewN_heap, drew_heap] <;> omega))])
  have c1_2 := cells6 r1_2
  have r1_3 : rowAt w1 (g) = some (.cells #[.int .i64 n, .int .i64 c1, .bool true, .bool i, .bool o, .int .u8 c2] 27 (0, 0)) := hr1
  have c1_3 := cells6 r1_3
  have hG1 : w.heap.size ≤ g := by first | omega | (simp [putRow_size, drewN_heap, drew_heap] at hg1; omega)
  clear hr1 hg1
  go_wp2_with fail
  refine (settle_eq H1.out false i o _).mono ?_
  rintro e w2 ⟨rfl, hb2⟩
  have HB2 := hid (below_step (HB1.out.alloc (by first | omega | (simp [putRow_size, drewN_heap, drew_heap] <;> omega)) _) (by first | omega | (simp [putRow_size, drewN_heap, drew_heap] <;> omega)) hb2)
  have hs2 : w.heap.size ≤ w2.heap.size := HB2.out.size
  have r2_0 : rowAt w2 (w.heap.size) = some (.cells (exA t m) 60 (0, 0)) := rowNext' hb2 (by rw [rowAt_old _ _ _ (by first | omega | (simp [putRow_size, drewN_heap, drew_heap] <;> omega))]; exact r1_0)
  have c2_0 := lt_of_some r2_0
  have r2_1 : rowAt w2 (w.heap.size + 1) = some (.cells (tdA p true n l a i o v) 62 (0, 0)) := rowNext' hb2 (by rw [rowAt_old _ _ _ (by first | omega | (simp [putRow_size, drewN_heap, drew_heap] <;> omega))]; exact r1_1)
  have c2_1 := cellsTd r2_1
  have r2_2 : rowAt w2 (w.heap.size + 1 + 1) = some (.cells #[.int .i64 n, .int .i64 l, .bool false, .bool i, .bool o, .int .u8 v] 27 (0, 0)) := rowNext' hb2 (by rw [rowAt_old _ _ _ (by first | omega | (simp [putRow_size, drewN_heap, drew_heap] <;> omega))]; exact r1_2)
  have c2_2 := cells6 r2_2
  have r2_3 : rowAt w2 (g) = some (.cells #[.int .i64 n, .int .i64 c1, .bool true, .bool i, .bool o, .int .u8 c2] 27 (0, 0)) := rowNext' hb2 (by rw [rowAt_old _ _ _ (by first | omega | (simp [putRow_size, drewN_heap, drew_heap] <;> omega))]; exact r1_3)
  have c2_3 := cells6 r2_3
  have r2_4 : rowAt w2 (w1.heap.size) = some (.cells (exA (upd t n (c1, c2)) (updW m n 0)) 60 (0, 0)) := rowNext' hb2 (by rw [rowAt_new _ _ _ (by first | omega | (simp [putRow_size, drewN_heap, drew_heap] <;> omega))])
  have c2_4 := lt_of_some r2_4
  clear r1_0 c1_0 r1_1 c1_1 r1_2 c1_2 r1_3 c1_3 hb1 HB1 hs1
  go_wp2_with fail
  refine (exCheck_eq HX.out _).mono ?_
  rintro e w3 ⟨rfl, hb3⟩
  have HB3 := hid (below_step (HB2.out.alloc (by first | omega | (simp [putRow_size, drewN_heap, drew_heap] <;> omega)) _) (by first | omega | (simp [putRow_size, drewN_heap, drew_heap] <;> omega)) hb3)
  have hs3 : w.heap.size ≤ w3.heap.size := HB3.out.size
  have r3_0 : rowAt w3 (w.heap.size) = some (.cells (exA t m) 60 (0, 0)) := rowNext' hb3 (by rw [rowAt_old _ _ _ (by first | omega | (simp [putRow_size, drewN_heap, drew_heap] <;> omega))]; exact r2_0)
  have c3_0 := lt_of_some r3_0
  have r3_1 : rowAt w3 (w.heap.size + 1) = some (.cells (tdA p true n l a i o v) 62 (0, 0)) := rowNext' hb3 (by rw [rowAt_old _ _ _ (by first | omega | (simp [putRow_size, drewN_heap, drew_heap] <;> omega))]; exact r2_1)
  have c3_1 := cellsTd r3_1
  have r3_2 : rowAt w3 (w.heap.size + 1 + 1) = some (.cells #[.int .i64 n, .int .i64 l, .bool false, .bool i, .bool o, .int .u8 v] 27 (0, 0)) := rowNext' hb3 (by rw [rowAt_old _ _ _ (by first | omega | (simp [putRow_size, drewN_heap, drew_heap] <;> omega))]; exact r2_2)
  have c3_2 := cells6 r3_2
  have r3_3 : rowAt w3 (g) = some (.cells #[.int .i64 n, .int .i64 c1, .bool true, .bool i, .bool o, .int .u8 c2] 27 (0, 0)) := rowNext' hb3 (by rw [rowAt_old _ _ _ (by first | omega | (simp [putRow_size, drewN_heap, drew_heap] <;> omega))]; exact r2_3)
  have c3_3 := cells6 r3_3
  have r3_4 : rowAt w3 (w1.heap.size) = some (.cells (exA (upd t n (c1, c2)) (updW m n 0)) 60 (0, 0)) := rowNext' hb3 (by rw [rowAt_old _ _ _ (by first | omega | (simp [putRow_size, drewN_heap, drew_heap] <;> omega))]; exact r2_4)
  have c3_4 := lt_of_some r3_4
  have r3_5 : rowAt w3 (w2.heap.size) = some (.cells #[.int .i64 c1, .int .u8 c2] 29 (0, 0)) := rowNext' hb3 (by rw [rowAt_new _ _ _ (by first | omega | (simp [putRow_size, drewN_heap, drew_heap] <;> omega))])
  have c3_5 := cells2 r3_5
  clear r2_0 c2_0 r2_1 c2_1 r2_2 c2_2 r2_3 c2_3 r2_4 c2_4 hb2 HB2 hs2
  have k0 := cell_of_row _ _ (62 + n) _ _ _ r3_0
  rw [exA_wait t m n h2, HM.out] at k0
  go_wp2_with fail
  refine wp_region_goodw (by kernel_rfl) (by kernel_rfl) ?_
  intro W4 hW4
  have R4_0 : rowAt W4 (w.heap.size) = some (.cells (exA t m) 60 (0, 0)) := by rw [hW4]; exact r3_0
  have R4_1 : rowAt W4 (w.heap.size + 1) = some (.cells (tdA p true n l a i o v) 62 (0, 0)) := by rw [hW4]; exact r3_1
  have R4_2 : rowAt W4 (w.heap.size + 1 + 1) = some (.cells #[.int .i64 n, .int .i64 l, .bool false, .bool i, .bool o, .int .u8 v] 27 (0, 0)) := by rw [hW4]; exact r3_2
  have R4_3 : rowAt W4 (g) = some (.cells #[.int .i64 n, .int .i64 c1, .bool true, .bool i, .bool o, .int .u8 c2] 27 (0, 0)) := by rw [hW4]; exact r3_3
  have R4_4 : rowAt W4 (w1.heap.size) = some (.cells (exA (upd t n (c1, c2)) (updW m n 0)) 60 (0, 0)) := by rw [hW4]; exact r3_4
  have R4_5 : rowAt W4 (w2.heap.size) = some (.cells #[.int .i64 c1, .int .u8 c2] 29 (0, 0)) := by rw [hW4]; exact r3_5
  have BW4 : Below w.heap.size w W4 := by rw [hW4]; exact HB3.out
  clear hW4
  have g4_0 := goodRow R4_0
  have cg4_0 := fun x => lt_of_some (g4_0 x)
  have g4_1 := goodRow R4_1
  have cg4_1 := fun x => lt_of_some (g4_1 x)
  have g4_2 := goodRow R4_2
  have cg4_2 := fun x => cells6 (g4_2 x)
  have g4_3 := goodRow R4_3
  have cg4_3 := fun x => cells6 (g4_3 x)
  have g4_4 := goodRow R4_4
  have cg4_4 := fun x => lt_of_some (g4_4 x)
  have g4_5 := goodRow R4_5
  have cg4_5 := fun x => cells2 (g4_5 x)
  clear k0
  have q0 : ∀ x : Good W4, x.u.cell? ⟨w1.heap.size, n * 2, none⟩ = some (.int .i64 c1) := fun x => by rw [cell_of_row _ _ _ _ _ _ (g4_4 x), exA_cell0 _ _ n h2, upd_same]
  have q1 : ∀ x : Good W4, x.u.cell? ⟨w1.heap.size, n * 2 + 1, none⟩ = some (.int .u8 c2) := fun x => by rw [cell_of_row _ _ _ _ _ _ (g4_4 x), exA_cell1 _ _ n h2, upd_same]
  have q2 : ∀ x : Good W4, x.u.cell? ⟨w1.heap.size, 62 + n, none⟩ = some (.int .i64 0) := fun x => by rw [cell_of_row _ _ _ _ _ _ (g4_4 x), exA_wait _ _ n h2, updW_same]
  iterate 25 (go_big_quiet_step (fail))
  go_big_quiet_step ((go_at_call 32; exact Calls.good (awake17 _)))
  iterate 2 (go_big_quiet_step (fail))
  refine wpQuiet_nil ?_
  rintro w4 ⟨⟨_, hb4⟩, rfl⟩
  have HB4 := hid (BW4.trans (hb4.mono BW4.size))
  have hs4 : w.heap.size ≤ w4.heap.size := HB4.out.size
  have r4_0 : rowAt w4 (w.heap.size) = some (.cells (exA t m) 60 (0, 0)) := rowNext' hb4 R4_0
  have c4_0 := lt_of_some r4_0
  have r4_1 : rowAt w4 (w.heap.size + 1) = some (.cells (tdA p true n l a i o v) 62 (0, 0)) := rowNext' hb4 R4_1
  have c4_1 := lt_of_some r4_1
  have r4_2 : rowAt w4 (w.heap.size + 1 + 1) = some (.cells #[.int .i64 n, .int .i64 l, .bool false, .bool i, .bool o, .int .u8 v] 27 (0, 0)) := rowNext' hb4 R4_2
  have c4_2 := cells6 r4_2
  have r4_3 : rowAt w4 (g) = some (.cells #[.int .i64 n, .int .i64 c1, .bool true, .bool i, .bool o, .int .u8 c2] 27 (0, 0)) := rowNext' hb4 R4_3
  have c4_3 := cells6 r4_3
  have r4_4 : rowAt w4 (w1.heap.size) = some (.cells (exA (upd t n (c1, c2)) (updW m n 0)) 60 (0, 0)) := rowNext' hb4 R4_4
  have c4_4 := lt_of_some r4_4
  have r4_5 : rowAt w4 (w2.heap.size) = some (.cells #[.int .i64 c1, .int .u8 c2] 29 (0, 0)) := rowNext' hb4 R4_5
  have c4_5 := cells2 r4_5
  clear R4_0 g4_0 cg4_0 r3_0 c3_0 R4_1 g4_1 cg4_1 r3_1 c3_1 R4_2 g4_2 cg4_2 r3_2 c3_2 R4_3 g4_3 cg4_3 r3_3 c3_3 R4_4 g4_4 cg4_4 r3_4 c3_4 R4_5 g4_5 cg4_5 r3_5 c3_5 hb3 HB3 hs3
  clear q0 q1 q2
  go_wp2_with fail
  go_ret
  exact ⟨rfl, HB4.out⟩

set_option maxHeartbeats 2000000 in
set_option maxRecDepth 100000 in
theorem hears_c (t : Tb) (m : Wt) (p : Tb) (n : Nat) (h1 : 1 ≤ n) (h2 : n < 31) (l : Int) (a i o : Bool) (v : Int) (c1 c2 : Int) (HG : Hid (gotR t m p false n l v false = (((upd t n (c1, c2)), (updW m n 0)), some (c1, c2), 0))) (H1 : Hid (settle p n l v = ((c1, c2), 0))) (HX : Hid (exErr t m = 0)) (w : World) :
    Calls Try.prog 11 #[.agg (exA t m), .agg (tdA p false n l a i o v)] w fun e w' => e = .returned (.bool true) ∧ Below w.heap.size w w' := by
  have d1 : decide ((n : Int) < 1) = false := by simp; omega
  have d2 : decide ((31 : Int) ≤ (n : Int)) = false := by simp; omega
  have hn0 : (0 : Int) ≤ (n : Int) := by omega
  have hn31 : (n : Int) < 31 := by omega
  go_enter Try.func11, Try.ntmps11
  go_wp2_with fail
  refine (got_says HG.out i o _).mono ?_
  rintro e w1 ⟨g, rfl, hr1, hg1, hb1⟩
  have HB1 := hid (below_step ((((Below.refl w.heap.size w).alloc (by first | omega | (simp [putRow_size, drewN_heap, drew_heap] <;> omega)) _).alloc (by first | omega | (simp [putRow_size, drewN_heap, drew_heap] <;> omega)) _).alloc (by first | omega | (simp [putRow_size, drewN_heap, drew_heap] <;> omega)) _) (by first | omega | (simp [putRow_size, drewN_heap, drew_heap] <;> omega)) hb1)
  have hs1 : w.heap.size ≤ w1.heap.size := HB1.out.size
  have r1_0 : rowAt w1 (w.heap.size) = some (.cells (exA t m) 60 (0, 0)) := rowNext' hb1 (by rw [rowAt_old _ _ _ (by first | omega | (simp [putRow_size, drewN_heap, drew_heap] <;> omega)), rowAt_old _ _ _ (by first | omega | (simp [putRow_size, drewN_heap, drew_heap] <;> omega)), rowAt_new _ _ _ (by first | omega | (simp [putRow_size, drewN_heap, drew_heap] <;> omega))])
  have c1_0 := lt_of_some r1_0
  have r1_1 : rowAt w1 (w.heap.size + 1) = some (.cells (tdA p false n l a i o v) 62 (0, 0)) := rowNext' hb1 (by rw [rowAt_old _ _ _ (by first | omega | (simp [putRow_size, drewN_heap, drew_heap] <;> omega)), rowAt_new _ _ _ (by first | omega | (simp [putRow_size, drewN_heap, drew_heap] <;> omega))])
  have c1_1 := cellsTd r1_1
  have r1_2 : rowAt w1 (w.heap.size + 1 + 1) = some (.cells #[.int .i64 n, .int .i64 l, .bool false, .bool i, .bool o, .int .u8 v] 27 (0, 0)) := rowNext' hb1 (by rw [rowAt_new _ _ _ (by first | omega | (simp [putRow_size, drewN_heap, drew_heap] <;> omega))])
  have c1_2 := cells6 r1_2
  have r1_3 : rowAt w1 (g) = some (.cells #[.int .i64 n, .int .i64 c1, .bool true, .bool i, .bool o, .int .u8 c2] 27 (0, 0)) := hr1
  have c1_3 := cells6 r1_3
  have hG1 : w.heap.size ≤ g := by first | omega | (simp [putRow_size, drewN_heap, drew_heap] at hg1; omega)
  clear hr1 hg1
  go_wp2_with fail
  refine (settle_eq H1.out false i o _).mono ?_
  rintro e w2 ⟨rfl, hb2⟩
  have HB2 := hid (below_step (HB1.out.alloc (by first | omega | (simp [putRow_size, drewN_heap, drew_heap] <;> omega)) _) (by first | omega | (simp [putRow_size, drewN_heap, drew_heap] <;> omega)) hb2)
  have hs2 : w.heap.size ≤ w2.heap.size := HB2.out.size
  have r2_0 : rowAt w2 (w.heap.size) = some (.cells (exA t m) 60 (0, 0)) := rowNext' hb2 (by rw [rowAt_old _ _ _ (by first | omega | (simp [putRow_size, drewN_heap, drew_heap] <;> omega))]; exact r1_0)
  have c2_0 := lt_of_some r2_0
  have r2_1 : rowAt w2 (w.heap.size + 1) = some (.cells (tdA p false n l a i o v) 62 (0, 0)) := rowNext' hb2 (by rw [rowAt_old _ _ _ (by first | omega | (simp [putRow_size, drewN_heap, drew_heap] <;> omega))]; exact r1_1)
  have c2_1 := cellsTd r2_1
  have r2_2 : rowAt w2 (w.heap.size + 1 + 1) = some (.cells #[.int .i64 n, .int .i64 l, .bool false, .bool i, .bool o, .int .u8 v] 27 (0, 0)) := rowNext' hb2 (by rw [rowAt_old _ _ _ (by first | omega | (simp [putRow_size, drewN_heap, drew_heap] <;> omega))]; exact r1_2)
  have c2_2 := cells6 r2_2
  have r2_3 : rowAt w2 (g) = some (.cells #[.int .i64 n, .int .i64 c1, .bool true, .bool i, .bool o, .int .u8 c2] 27 (0, 0)) := rowNext' hb2 (by rw [rowAt_old _ _ _ (by first | omega | (simp [putRow_size, drewN_heap, drew_heap] <;> omega))]; exact r1_3)
  have c2_3 := cells6 r2_3
  have r2_4 : rowAt w2 (w1.heap.size) = some (.cells (exA (upd t n (c1, c2)) (updW m n 0)) 60 (0, 0)) := rowNext' hb2 (by rw [rowAt_new _ _ _ (by first | omega | (simp [putRow_size, drewN_heap, drew_heap] <;> omega))])
  have c2_4 := lt_of_some r2_4
  clear r1_0 c1_0 r1_1 c1_1 r1_2 c1_2 r1_3 c1_3 hb1 HB1 hs1
  go_wp2_with fail
  refine (exCheck_eq HX.out _).mono ?_
  rintro e w3 ⟨rfl, hb3⟩
  have HB3 := hid (below_step (HB2.out.alloc (by first | omega | (simp [putRow_size, drewN_heap, drew_heap] <;> omega)) _) (by first | omega | (simp [putRow_size, drewN_heap, drew_heap] <;> omega)) hb3)
  have hs3 : w.heap.size ≤ w3.heap.size := HB3.out.size
  have r3_0 : rowAt w3 (w.heap.size) = some (.cells (exA t m) 60 (0, 0)) := rowNext' hb3 (by rw [rowAt_old _ _ _ (by first | omega | (simp [putRow_size, drewN_heap, drew_heap] <;> omega))]; exact r2_0)
  have c3_0 := lt_of_some r3_0
  have r3_1 : rowAt w3 (w.heap.size + 1) = some (.cells (tdA p false n l a i o v) 62 (0, 0)) := rowNext' hb3 (by rw [rowAt_old _ _ _ (by first | omega | (simp [putRow_size, drewN_heap, drew_heap] <;> omega))]; exact r2_1)
  have c3_1 := cellsTd r3_1
  have r3_2 : rowAt w3 (w.heap.size + 1 + 1) = some (.cells #[.int .i64 n, .int .i64 l, .bool false, .bool i, .bool o, .int .u8 v] 27 (0, 0)) := rowNext' hb3 (by rw [rowAt_old _ _ _ (by first | omega | (simp [putRow_size, drewN_heap, drew_heap] <;> omega))]; exact r2_2)
  have c3_2 := cells6 r3_2
  have r3_3 : rowAt w3 (g) = some (.cells #[.int .i64 n, .int .i64 c1, .bool true, .bool i, .bool o, .int .u8 c2] 27 (0, 0)) := rowNext' hb3 (by rw [rowAt_old _ _ _ (by first | omega | (simp [putRow_size, drewN_heap, drew_heap] <;> omega))]; exact r2_3)
  have c3_3 := cells6 r3_3
  have r3_4 : rowAt w3 (w1.heap.size) = some (.cells (exA (upd t n (c1, c2)) (updW m n 0)) 60 (0, 0)) := rowNext' hb3 (by rw [rowAt_old _ _ _ (by first | omega | (simp [putRow_size, drewN_heap, drew_heap] <;> omega))]; exact r2_4)
  have c3_4 := lt_of_some r3_4
  have r3_5 : rowAt w3 (w2.heap.size) = some (.cells #[.int .i64 c1, .int .u8 c2] 29 (0, 0)) := rowNext' hb3 (by rw [rowAt_new _ _ _ (by first | omega | (simp [putRow_size, drewN_heap, drew_heap] <;> omega))])
  have c3_5 := cells2 r3_5
  clear r2_0 c2_0 r2_1 c2_1 r2_2 c2_2 r2_3 c2_3 r2_4 c2_4 hb2 HB2 hs2
  go_wp2_with fail
  refine wp_region_goodw (by kernel_rfl) (by kernel_rfl) ?_
  intro W4 hW4
  have R4_0 : rowAt W4 (w.heap.size) = some (.cells (exA t m) 60 (0, 0)) := by rw [hW4]; exact r3_0
  have R4_1 : rowAt W4 (w.heap.size + 1) = some (.cells (tdA p false n l a i o v) 62 (0, 0)) := by rw [hW4]; exact r3_1
  have R4_2 : rowAt W4 (w.heap.size + 1 + 1) = some (.cells #[.int .i64 n, .int .i64 l, .bool false, .bool i, .bool o, .int .u8 v] 27 (0, 0)) := by rw [hW4]; exact r3_2
  have R4_3 : rowAt W4 (g) = some (.cells #[.int .i64 n, .int .i64 c1, .bool true, .bool i, .bool o, .int .u8 c2] 27 (0, 0)) := by rw [hW4]; exact r3_3
  have R4_4 : rowAt W4 (w1.heap.size) = some (.cells (exA (upd t n (c1, c2)) (updW m n 0)) 60 (0, 0)) := by rw [hW4]; exact r3_4
  have R4_5 : rowAt W4 (w2.heap.size) = some (.cells #[.int .i64 c1, .int .u8 c2] 29 (0, 0)) := by rw [hW4]; exact r3_5
  have BW4 : Below w.heap.size w W4 := by rw [hW4]; exact HB3.out
  clear hW4
  have g4_0 := goodRow R4_0
  have cg4_0 := fun x => lt_of_some (g4_0 x)
  have g4_1 := goodRow R4_1
  have cg4_1 := fun x => lt_of_some (g4_1 x)
  have g4_2 := goodRow R4_2
  have cg4_2 := fun x => cells6 (g4_2 x)
  have g4_3 := goodRow R4_3
  have cg4_3 := fun x => cells6 (g4_3 x)
  have g4_4 := goodRow R4_4
  have cg4_4 := fun x => lt_of_some (g4_4 x)
  have g4_5 := goodRow R4_5
  have cg4_5 := fun x => cells2 (g4_5 x)
  have q0 : ∀ x : Good W4, x.u.cell? ⟨w1.heap.size, n * 2, none⟩ = some (.int .i64 c1) := fun x => by rw [cell_of_row _ _ _ _ _ _ (g4_4 x), exA_cell0 _ _ n h2, upd_same]
  have q1 : ∀ x : Good W4, x.u.cell? ⟨w1.heap.size, n * 2 + 1, none⟩ = some (.int .u8 c2) := fun x => by rw [cell_of_row _ _ _ _ _ _ (g4_4 x), exA_cell1 _ _ n h2, upd_same]
  have q2 : ∀ x : Good W4, x.u.cell? ⟨w1.heap.size, 62 + n, none⟩ = some (.int .i64 0) := fun x => by rw [cell_of_row _ _ _ _ _ _ (g4_4 x), exA_wait _ _ n h2, updW_same]
  iterate 25 (go_big_quiet_step (fail))
  go_big_quiet_step ((go_at_call 32; exact Calls.good (awake17 _)))
  iterate 2 (go_big_quiet_step (fail))
  refine wpQuiet_nil ?_
  rintro w4 ⟨⟨_, hb4⟩, rfl⟩
  have HB4 := hid (BW4.trans (hb4.mono BW4.size))
  have hs4 : w.heap.size ≤ w4.heap.size := HB4.out.size
  have r4_0 : rowAt w4 (w.heap.size) = some (.cells (exA t m) 60 (0, 0)) := rowNext' hb4 R4_0
  have c4_0 := lt_of_some r4_0
  have r4_1 : rowAt w4 (w.heap.size + 1) = some (.cells (tdA p false n l a i o v) 62 (0, 0)) := rowNext' hb4 R4_1
  have c4_1 := lt_of_some r4_1
  have r4_2 : rowAt w4 (w.heap.size + 1 + 1) = some (.cells #[.int .i64 n, .int .i64 l, .bool false, .bool i, .bool o, .int .u8 v] 27 (0, 0)) := rowNext' hb4 R4_2
  have c4_2 := cells6 r4_2
  have r4_3 : rowAt w4 (g) = some (.cells #[.int .i64 n, .int .i64 c1, .bool true, .bool i, .bool o, .int .u8 c2] 27 (0, 0)) := rowNext' hb4 R4_3
  have c4_3 := cells6 r4_3
  have r4_4 : rowAt w4 (w1.heap.size) = some (.cells (exA (upd t n (c1, c2)) (updW m n 0)) 60 (0, 0)) := rowNext' hb4 R4_4
  have c4_4 := lt_of_some r4_4
  have r4_5 : rowAt w4 (w2.heap.size) = some (.cells #[.int .i64 c1, .int .u8 c2] 29 (0, 0)) := rowNext' hb4 R4_5
  have c4_5 := cells2 r4_5
  clear R4_0 g4_0 cg4_0 r3_0 c3_0 R4_1 g4_1 cg4_1 r3_1 c3_1 R4_2 g4_2 cg4_2 r3_2 c3_2 R4_3 g4_3 cg4_3 r3_3 c3_3 R4_4 g4_4 cg4_4 r3_4 c3_4 R4_5 g4_5 cg4_5 r3_5 c3_5 hb3 HB3 hs3
  clear q0 q1 q2
  go_wp2_with fail
  go_ret
  exact ⟨rfl, HB4.out⟩

end Go.Proofs.Ytjghmgpmaallfaa
