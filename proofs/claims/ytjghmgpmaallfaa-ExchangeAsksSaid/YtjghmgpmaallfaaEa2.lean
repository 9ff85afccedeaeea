/-
  The walk of ExchangeAsks.
-/
import Derived.Test.YtjghmgpmaallfaaExs
import Derived.Test.YtjghmgpmaallfaaExp
import Derived.Deep.QuietTactic
import Derived.BigQuiet
namespace Go.Proofs.Ytjghmgpmaallfaa
open Go.RowKit
set_option linter.unusedVariables false
set_option linter.unusedSimpArgs false

theorem agreeCheck_eq {p : Tb} {e0 : Int} (h : tabErr p = e0) (w : World) :
    Calls Try.prog 21 #[.agg (tabA p)] w fun e w' => e = .returned (.int .i64 e0) ∧ Below w.heap.size w w' := by
  subst h; exact agreeCheck p w
set_option maxHeartbeats 2000000 in
set_option maxRecDepth 100000 in
theorem asks_badx (t : Tb) (m : Wt) (p : Tb) (b : Bool) (f l : Int) (a i o : Bool) (v : Int) (u : Int) (hu0 : 0 ≤ u) (hu1 : u ≤ 255) (HX : Hid (exErr t m = 1)) (w : World) :
    Calls Try.prog 10 #[.agg (exA t m), .agg (tdA p b f l a i o v), .int .u8 u] w fun e w' => e = .returned (.bool true) ∧ Below w.heap.size w w' := by
  go_enter Try.func10, Try.ntmps10
  go_wp2_with fail
  refine (exCheck_eq HX.out _).mono ?_
  rintro e w1 ⟨rfl, hb1⟩
  have HB1 := hid (below_step (((Below.refl w.heap.size w).alloc (by first | omega | (simp [putRow_size, drewN_heap, drew_heap] <;> omega)) _).alloc (by first | omega | (simp [putRow_size, drewN_heap, drew_heap] <;> omega)) _) (by first | omega | (simp [putRow_size, drewN_heap, drew_heap] <;> omega)) hb1)
  have hs1 : w.heap.size ≤ w1.heap.size := HB1.out.size
  have r1_0 : rowAt w1 (w.heap.size) = some (.cells (exA t m) 60 (0, 0)) := rowNext' hb1 (by rw [rowAt_old _ _ _ (by first | omega | (simp [putRow_size, drewN_heap, drew_heap] <;> omega)), rowAt_new _ _ _ (by first | omega | (simp [putRow_size, drewN_heap, drew_heap] <;> omega))])
  have c1_0 := lt_of_some r1_0
  have r1_1 : rowAt w1 (w.heap.size + 1) = some (.cells (tdA p b f l a i o v) 62 (0, 0)) := rowNext' hb1 (by rw [rowAt_new _ _ _ (by first | omega | (simp [putRow_size, drewN_heap, drew_heap] <;> omega))])
  have c1_1 := cellsTd r1_1
  go_wp2_with fail
  refine (awake17 _).mono ?_
  rintro e w2 ⟨rfl, hb2⟩
  have HB2 := hid (below_step HB1.out (by first | omega | (simp [putRow_size, drewN_heap, drew_heap] <;> omega)) hb2)
  have hs2 : w.heap.size ≤ w2.heap.size := HB2.out.size
  have r2_0 : rowAt w2 (w.heap.size) = some (.cells (exA t m) 60 (0, 0)) := rowNext' hb2 r1_0
  have c2_0 := lt_of_some r2_0
  have r2_1 : rowAt w2 (w.heap.size + 1) = some (.cells (tdA p b f l a i o v) 62 (0, 0)) := rowNext' hb2 r1_1
  have c2_1 := cellsTd r2_1
  clear r1_0 c1_0 r1_1 c1_1 hb1 HB1 hs1
  go_wp2_with fail
  go_ret
  exact ⟨rfl, HB2.out⟩

set_option maxHeartbeats 2000000 in
set_option maxRecDepth 100000 in
theorem asks_badp (t : Tb) (m : Wt) (p : Tb) (b : Bool) (f l : Int) (a i o : Bool) (v : Int) (u : Int) (hu0 : 0 ≤ u) (hu1 : u ≤ 255) (HX : Hid (exErr t m = 0)) (HP : Hid (tabErr p = 1)) (w : World) :
    Calls Try.prog 10 #[.agg (exA t m), .agg (tdA p b f l a i o v), .int .u8 u] w fun e w' => e = .returned (.bool true) ∧ Below w.heap.size w w' := by
  go_enter Try.func10, Try.ntmps10
  go_wp2_with fail
  refine (exCheck_eq HX.out _).mono ?_
  rintro e w1 ⟨rfl, hb1⟩
  have HB1 := hid (below_step (((Below.refl w.heap.size w).alloc (by first | omega | (simp [putRow_size, drewN_heap, drew_heap] <;> omega)) _).alloc (by first | omega | (simp [putRow_size, drewN_heap, drew_heap] <;> omega)) _) (by first | omega | (simp [putRow_size, drewN_heap, drew_heap] <;> omega)) hb1)
  have hs1 : w.heap.size ≤ w1.heap.size := HB1.out.size
  have r1_0 : rowAt w1 (w.heap.size) = some (.cells (exA t m) 60 (0, 0)) := rowNext' hb1 (by rw [rowAt_old _ _ _ (by first | omega | (simp [putRow_size, drewN_heap, drew_heap] <;> omega)), rowAt_new _ _ _ (by first | omega | (simp [putRow_size, drewN_heap, drew_heap] <;> omega))])
  have c1_0 := lt_of_some r1_0
  have r1_1 : rowAt w1 (w.heap.size + 1) = some (.cells (tdA p b f l a i o v) 62 (0, 0)) := rowNext' hb1 (by rw [rowAt_new _ _ _ (by first | omega | (simp [putRow_size, drewN_heap, drew_heap] <;> omega))])
  have c1_1 := cellsTd r1_1
  go_wp2_with fail
  refine (agreeCheck_eq HP.out _).mono ?_
  rintro e w2 ⟨rfl, hb2⟩
  have HB2 := hid (below_step HB1.out (by first | omega | (simp [putRow_size, drewN_heap, drew_heap] <;> omega)) hb2)
  have hs2 : w.heap.size ≤ w2.heap.size := HB2.out.size
  have r2_0 : rowAt w2 (w.heap.size) = some (.cells (exA t m) 60 (0, 0)) := rowNext' hb2 r1_0
  have c2_0 := lt_of_some r2_0
  have r2_1 : rowAt w2 (w.heap.size + 1) = some (.cells (tdA p b f l a i o v) 62 (0, 0)) := rowNext' hb2 r1_1
  have c2_1 := cellsTd r2_1
  clear r1_0 c1_0 r1_1 c1_1 hb1 HB1 hs1
  go_wp2_with fail
  refine (awake17 _).mono ?_
  rintro e w3 ⟨rfl, hb3⟩
  have HB3 := hid (below_step HB2.out (by first | omega | (simp [putRow_size, drewN_heap, drew_heap] <;> omega)) hb3)
  have hs3 : w.heap.size ≤ w3.heap.size := HB3.out.size
  have r3_0 : rowAt w3 (w.heap.size) = some (.cells (exA t m) 60 (0, 0)) := rowNext' hb3 r2_0
  have c3_0 := lt_of_some r3_0
  have r3_1 : rowAt w3 (w.heap.size + 1) = some (.cells (tdA p b f l a i o v) 62 (0, 0)) := rowNext' hb3 r2_1
  have c3_1 := cellsTd r3_1
  clear r2_0 c2_0 r2_1 c2_1 hb2 HB2 hs2
  go_wp2_with fail
  go_ret
  exact ⟨rfl, HB3.out⟩

set_option maxHeartbeats 2000000 in
set_option maxRecDepth 100000 in
theorem asks_low (t : Tb) (m : Wt) (p : Tb) (b : Bool) (f l : Int) (a i o : Bool) (v : Int) (u : Int) (hu0 : 0 ≤ u) (hu1 : u ≤ 255) (HX : Hid (exErr t m = 0)) (HP : Hid (tabErr p = 0)) (hf : f < 1) (w : World) :
    Calls Try.prog 10 #[.agg (exA t m), .agg (tdA p b f l a i o v), .int .u8 u] w fun e w' => e = .returned (.bool true) ∧ Below w.heap.size w w' := by
  go_enter Try.func10, Try.ntmps10
  go_wp2_with fail
  refine (exCheck_eq HX.out _).mono ?_
  rintro e w1 ⟨rfl, hb1⟩
  have HB1 := hid (below_step (((Below.refl w.heap.size w).alloc (by first | omega | (simp [putRow_size, drewN_heap, drew_heap] <;> omega)) _).alloc (by first | omega | (simp [putRow_size, drewN_heap, drew_heap] <;> omega)) _) (by first | omega | (simp [putRow_size, drewN_heap, drew_heap] <;> omega)) hb1)
  have hs1 : w.heap.size ≤ w1.heap.size := HB1.out.size
  have r1_0 : rowAt w1 (w.heap.size) = some (.cells (exA t m) 60 (0, 0)) := rowNext' hb1 (by rw [rowAt_old _ _ _ (by first | omega | (simp [putRow_size, drewN_heap, drew_heap] <;> omega)), rowAt_new _ _ _ (by first | omega | (simp [putRow_size, drewN_heap, drew_heap] <;> omega))])
  have c1_0 := lt_of_some r1_0
  have r1_1 : rowAt w1 (w.heap.size + 1) = some (.cells (tdA p b f l a i o v) 62 (0, 0)) := rowNext' hb1 (by rw [rowAt_new _ _ _ (by first | omega | (simp [putRow_size, drewN_heap, drew_heap] <;> omega))])
  have c1_1 := cellsTd r1_1
  go_wp2_with fail
  refine (agreeCheck_eq HP.out _).mono ?_
  rintro e w2 ⟨rfl, hb2⟩
  have HB2 := hid (below_step HB1.out (by first | omega | (simp [putRow_size, drewN_heap, drew_heap] <;> omega)) hb2)
  have hs2 : w.heap.size ≤ w2.heap.size := HB2.out.size
  have r2_0 : rowAt w2 (w.heap.size) = some (.cells (exA t m) 60 (0, 0)) := rowNext' hb2 r1_0
  have c2_0 := lt_of_some r2_0
  have r2_1 : rowAt w2 (w.heap.size + 1) = some (.cells (tdA p b f l a i o v) 62 (0, 0)) := rowNext' hb2 r1_1
  have c2_1 := cellsTd r2_1
  clear r1_0 c1_0 r1_1 c1_1 hb1 HB1 hs1
  go_wp2_with fail
  refine (awake17 _).mono ?_
  rintro e w3 ⟨rfl, hb3⟩
  have HB3 := hid (below_step HB2.out (by first | omega | (simp [putRow_size, drewN_heap, drew_heap] <;> omega)) hb3)
  have hs3 : w.heap.size ≤ w3.heap.size := HB3.out.size
  have r3_0 : rowAt w3 (w.heap.size) = some (.cells (exA t m) 60 (0, 0)) := rowNext' hb3 r2_0
  have c3_0 := lt_of_some r3_0
  have r3_1 : rowAt w3 (w.heap.size + 1) = some (.cells (tdA p b f l a i o v) 62 (0, 0)) := rowNext' hb3 r2_1
  have c3_1 := cellsTd r3_1
  clear r2_0 c2_0 r2_1 c2_1 hb2 HB2 hs2
  go_wp2_with fail
  go_ret
  exact ⟨rfl, HB3.out⟩

set_option maxHeartbeats 2000000 in
set_option maxRecDepth 100000 in
theorem asks_high (t : Tb) (m : Wt) (p : Tb) (b : Bool) (f l : Int) (a i o : Bool) (v : Int) (u : Int) (hu0 : 0 ≤ u) (hu1 : u ≤ 255) (HX : Hid (exErr t m = 0)) (HP : Hid (tabErr p = 0)) (hf : ¬ f < 1) (hg : 31 ≤ f) (w : World) :
    Calls Try.prog 10 #[.agg (exA t m), .agg (tdA p b f l a i o v), .int .u8 u] w fun e w' => e = .returned (.bool true) ∧ Below w.heap.size w w' := by
  go_enter Try.func10, Try.ntmps10
  go_wp2_with fail
  refine (exCheck_eq HX.out _).mono ?_
  rintro e w1 ⟨rfl, hb1⟩
  have HB1 := hid (below_step (((Below.refl w.heap.size w).alloc (by first | omega | (simp [putRow_size, drewN_heap, drew_heap] <;> omega)) _).alloc (by first | omega | (simp [putRow_size, drewN_heap, drew_heap] <;> omega)) _) (by first | omega | (simp [putRow_size, drewN_heap, drew_heap] <;> omega)) hb1)
  have hs1 : w.heap.size ≤ w1.heap.size := HB1.out.size
  have r1_0 : rowAt w1 (w.heap.size) = some (.cells (exA t m) 60 (0, 0)) := rowNext' hb1 (by rw [rowAt_old _ _ _ (by first | omega | (simp [putRow_size, drewN_heap, drew_heap] <;> omega)), rowAt_new _ _ _ (by first | omega | (simp [putRow_size, drewN_heap, drew_heap] <;> omega))])
  have c1_0 := lt_of_some r1_0
  have r1_1 : rowAt w1 (w.heap.size + 1) = some (.cells (tdA p b f l a i o v) 62 (0, 0)) := rowNext' hb1 (by rw [rowAt_new _ _ _ (by first | omega | (simp [putRow_size, drewN_heap, drew_heap] <;> omega))])
  have c1_1 := cellsTd r1_1
  go_wp2_with fail
  refine (agreeCheck_eq HP.out _).mono ?_
  rintro e w2 ⟨rfl, hb2⟩
  have HB2 := hid (below_step HB1.out (by first | omega | (simp [putRow_size, drewN_heap, drew_heap] <;> omega)) hb2)
  have hs2 : w.heap.size ≤ w2.heap.size := HB2.out.size
  have r2_0 : rowAt w2 (w.heap.size) = some (.cells (exA t m) 60 (0, 0)) := rowNext' hb2 r1_0
  have c2_0 := lt_of_some r2_0
  have r2_1 : rowAt w2 (w.heap.size + 1) = some (.cells (tdA p b f l a i o v) 62 (0, 0)) := rowNext' hb2 r1_1
  have c2_1 := cellsTd r2_1
  clear r1_0 c1_0 r1_1 c1_1 hb1 HB1 hs1
  go_wp2_with fail
  refine (awake17 _).mono ?_
  rintro e w3 ⟨rfl, hb3⟩
  have HB3 := hid (below_step HB2.out (by first | omega | (simp [putRow_size, drewN_heap, drew_heap] <;> omega)) hb3)
  have hs3 : w.heap.size ≤ w3.heap.size := HB3.out.size
  have r3_0 : rowAt w3 (w.heap.size) = some (.cells (exA t m) 60 (0, 0)) := rowNext' hb3 r2_0
  have c3_0 := lt_of_some r3_0
  have r3_1 : rowAt w3 (w.heap.size + 1) = some (.cells (tdA p b f l a i o v) 62 (0, 0)) := rowNext' hb3 r2_1
  have c3_1 := cellsTd r3_1
  clear r2_0 c2_0 r2_1 c2_1 hb2 HB2 hs2
  go_wp2_with fail
  go_ret
  exact ⟨rfl, HB3.out⟩

set_option maxHeartbeats 2000000 in
set_option maxRecDepth 100000 in
theorem asks_many (t : Tb) (m : Wt) (p : Tb) (b : Bool) (n : Nat) (h1 : 1 ≤ n) (h2 : n < 31) (l : Int) (a i o : Bool) (v : Int) (u : Int) (hu0 : 0 ≤ u) (hu1 : u ≤ 255) (c : Int) (HM : Hid (m n = c)) (hc : 3 < c) (HX : Hid (exErr t m = 0)) (HP : Hid (tabErr p = 0)) (w : World) :
    Calls Try.prog 10 #[.agg (exA t m), .agg (tdA p b n l a i o v), .int .u8 u] w fun e w' => e = .returned (.bool true) ∧ Below w.heap.size w w' := by
  have d1 : decide ((n : Int) < 1) = false := by simp; omega
  have d2 : decide ((31 : Int) ≤ (n : Int)) = false := by simp; omega
  have hn0 : (0 : Int) ≤ (n : Int) := by omega
  have hn31 : (n : Int) < 31 := by omega
  go_enter Try.func10, Try.ntmps10
  go_wp2_with fail
  refine (exCheck_eq HX.out _).mono ?_
  rintro e w1 ⟨rfl, hb1⟩
  have HB1 := hid (below_step (((Below.refl w.heap.size w).alloc (by first | omega | (simp [putRow_size, drewN_heap, drew_heap] <;> omega)) _).alloc (by first | omega | (simp [putRow_size, drewN_heap, drew_heap] <;> omega)) _) (by first | omega | (simp [putRow_size, drewN_heap, drew_heap] <;> omega)) hb1)
  have hs1 : w.heap.size ≤ w1.heap.size := HB1.out.size
  have r1_0 : rowAt w1 (w.heap.size) = some (.cells (exA t m) 60 (0, 0)) := rowNext' hb1 (by rw [rowAt_old _ _ _ (by first | omega | (simp [putRow_size, drewN_heap, drew_heap] <;> omega)), rowAt_new _ _ _ (by first | omega | (simp [putRow_size, drewN_heap, drew_heap] <;> omega))])
  have c1_0 := lt_of_some r1_0
  have r1_1 : rowAt w1 (w.heap.size + 1) = some (.cells (tdA p b n l a i o v) 62 (0, 0)) := rowNext' hb1 (by rw [rowAt_new _ _ _ (by first | omega | (simp [putRow_size, drewN_heap, drew_heap] <;> omega))])
  have c1_1 := cellsTd r1_1
  go_wp2_with fail
  refine (agreeCheck_eq HP.out _).mono ?_
  rintro e w2 ⟨rfl, hb2⟩
  have HB2 := hid (below_step HB1.out (by first | omega | (simp [putRow_size, drewN_heap, drew_heap] <;> omega)) hb2)
  have hs2 : w.heap.size ≤ w2.heap.size := HB2.out.size
  have r2_0 : rowAt w2 (w.heap.size) = some (.cells (exA t m) 60 (0, 0)) := rowNext' hb2 r1_0
  have c2_0 := lt_of_some r2_0
  have r2_1 : rowAt w2 (w.heap.size + 1) = some (.cells (tdA p b n l a i o v) 62 (0, 0)) := rowNext' hb2 r1_1
  have c2_1 := cellsTd r2_1
  clear r1_0 c1_0 r1_1 c1_1 hb1 HB1 hs1
  have k0 := cell_of_row _ _ (62 + n) _ _ _ r2_0
  rw [exA_wait t m n h2, HM.out] at k0
  go_wp2_with fail
  refine (awake17 _).mono ?_
  rintro e w3 ⟨rfl, hb3⟩
  have HB3 := hid (below_step HB2.out (by first | omega | (simp [putRow_size, drewN_heap, drew_heap] <;> omega)) hb3)
  have hs3 : w.heap.size ≤ w3.heap.size := HB3.out.size
  have r3_0 : rowAt w3 (w.heap.size) = some (.cells (exA t m) 60 (0, 0)) := rowNext' hb3 r2_0
  have c3_0 := lt_of_some r3_0
  have r3_1 : rowAt w3 (w.heap.size + 1) = some (.cells (tdA p b n l a i o v) 62 (0, 0)) := rowNext' hb3 r2_1
  have c3_1 := cellsTd r3_1
  clear r2_0 c2_0 r2_1 c2_1 hb2 HB2 hs2
  go_wp2_with fail
  go_ret
  exact ⟨rfl, HB3.out⟩

end Go.Proofs.Ytjghmgpmaallfaa
