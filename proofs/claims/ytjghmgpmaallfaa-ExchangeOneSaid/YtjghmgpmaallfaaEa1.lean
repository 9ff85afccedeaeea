/-
  The walk of ExchangeOne.
-/
import Derived.Test.YtjghmgpmaallfaaExv
import Derived.Test.YtjghmgpmaallfaaRgn
import Derived.Test.YtjghmgpmaallfaaDrg
import Derived.Deep.QuietTactic
import Derived.BigQuiet
namespace Go.Proofs.Ytjghmgpmaallfaa
open Go.RowKit
set_option linter.unusedVariables false
set_option linter.unusedSimpArgs false

set_option maxHeartbeats 2000000 in
set_option maxRecDepth 100000 in
theorem one_no1 (t : Tb) (m : Wt) (p : Tb) (b : Bool) (f l : Int) (a i o : Bool) (v : Int) (HG : Hid (gotR t m p b f l v a = ((t, m), none, 1))) (w : World) :
    Calls Try.prog 9 #[.agg (exA t m), .agg (tdA p b f l a i o v)] w fun e w' => e = .returned (.bool true) ∧ Below w.heap.size w w' := by
  go_enter Try.func9, Try.ntmps9
  go_wp2_with fail
  refine (got_quiet HG.out i o _).mono ?_
  rintro e w1 ⟨rfl, hb1⟩
  have HB1 := hid (below_step (((Below.refl w.heap.size w).alloc (by first | omega | (simp [putRow_size, drewN_heap, drew_heap] <;> omega)) _).alloc (by first | omega | (simp [putRow_size, drewN_heap, drew_heap] <;> omega)) _) (by first | omega | (simp [putRow_size, drewN_heap, drew_heap] <;> omega)) hb1)
  have hs1 : w.heap.size ≤ w1.heap.size := HB1.out.size
  have r1_0 : rowAt w1 (w.heap.size) = some (.cells (exA t m) 60 (0, 0)) := rowNext' hb1 (by rw [rowAt_old _ _ _ (by first | omega | (simp [putRow_size, drewN_heap, drew_heap] <;> omega)), rowAt_new _ _ _ (by first | omega | (simp [putRow_size, drewN_heap, drew_heap] <;> omega))])
  have c1_0 := lt_of_some r1_0
  have r1_1 : rowAt w1 (w.heap.size + 1) = some (.cells (tdA p b f l a i o v) 62 (0, 0)) := rowNext' hb1 (by rw [rowAt_new _ _ _ (by first | omega | (simp [putRow_size, drewN_heap, drew_heap] <;> omega))])
  have c1_1 := cellsTd r1_1
  go_wp2_with fail
  refine (awake17 _).mono ?_
  rintro e w2 ⟨rfl, hb2⟩
  have HB2 := hid (below_step (HB1.out.alloc (by first | omega | (simp [putRow_size, drewN_heap, drew_heap] <;> omega)) _) (by first | omega | (simp [putRow_size, drewN_heap, drew_heap] <;> omega)) hb2)
  have hs2 : w.heap.size ≤ w2.heap.size := HB2.out.size
  have r2_0 : rowAt w2 (w.heap.size) = some (.cells (exA t m) 60 (0, 0)) := rowNext' hb2 (by rw [rowAt_old _ _ _ (by first | omega | (simp [putRow_size, drewN_heap, drew_heap] <;> omega))]; exact r1_0)
  have c2_0 := lt_of_some r2_0
  have r2_1 : rowAt w2 (w.heap.size + 1) = some (.cells (tdA p b f l a i o v) 62 (0, 0)) := rowNext' hb2 (by rw [rowAt_old _ _ _ (by first | omega | (simp [putRow_size, drewN_heap, drew_heap] <;> omega))]; exact r1_1)
  have c2_1 := cellsTd r2_1
  have r2_2 : rowAt w2 (w1.heap.size) = some (.cells (exA t m) 60 (0, 0)) := rowNext' hb2 (by rw [rowAt_new _ _ _ (by first | omega | (simp [putRow_size, drewN_heap, drew_heap] <;> omega))])
  have c2_2 := lt_of_some r2_2
  clear r1_0 c1_0 r1_1 c1_1 hb1 HB1 hs1
  go_wp2_with fail
  go_ret
  exact ⟨rfl, HB2.out⟩

set_option maxHeartbeats 2000000 in
set_option maxRecDepth 100000 in
theorem one_no5 (t : Tb) (m : Wt) (p : Tb) (b : Bool) (f l : Int) (a i o : Bool) (v : Int) (HG : Hid (gotR t m p b f l v a = ((t, m), none, 5))) (w : World) :
    Calls Try.prog 9 #[.agg (exA t m), .agg (tdA p b f l a i o v)] w fun e w' => e = .returned (.bool true) ∧ Below w.heap.size w w' := by
  go_enter Try.func9, Try.ntmps9
  go_wp2_with fail
  refine (got_quiet HG.out i o _).mono ?_
  rintro e w1 ⟨rfl, hb1⟩
  have HB1 := hid (below_step (((Below.refl w.heap.size w).alloc (by first | omega | (simp [putRow_size, drewN_heap, drew_heap] <;> omega)) _).alloc (by first | omega | (simp [putRow_size, drewN_heap, drew_heap] <;> omega)) _) (by first | omega | (simp [putRow_size, drewN_heap, drew_heap] <;> omega)) hb1)
  have hs1 : w.heap.size ≤ w1.heap.size := HB1.out.size
  have r1_0 : rowAt w1 (w.heap.size) = some (.cells (exA t m) 60 (0, 0)) := rowNext' hb1 (by rw [rowAt_old _ _ _ (by first | omega | (simp [putRow_size, drewN_heap, drew_heap] <;> omega)), rowAt_new _ _ _ (by first | omega | (simp [putRow_size, drewN_heap, drew_heap] <;> omega))])
  have c1_0 := lt_of_some r1_0
  have r1_1 : rowAt w1 (w.heap.size + 1) = some (.cells (tdA p b f l a i o v) 62 (0, 0)) := rowNext' hb1 (by rw [rowAt_new _ _ _ (by first | omega | (simp [putRow_size, drewN_heap, drew_heap] <;> omega))])
  have c1_1 := cellsTd r1_1
  go_wp2_with fail
  refine (awake17 _).mono ?_
  rintro e w2 ⟨rfl, hb2⟩
  have HB2 := hid (below_step (HB1.out.alloc (by first | omega | (simp [putRow_size, drewN_heap, drew_heap] <;> omega)) _) (by first | omega | (simp [putRow_size, drewN_heap, drew_heap] <;> omega)) hb2)
  have hs2 : w.heap.size ≤ w2.heap.size := HB2.out.size
  have r2_0 : rowAt w2 (w.heap.size) = some (.cells (exA t m) 60 (0, 0)) := rowNext' hb2 (by rw [rowAt_old _ _ _ (by first | omega | (simp [putRow_size, drewN_heap, drew_heap] <;> omega))]; exact r1_0)
  have c2_0 := lt_of_some r2_0
  have r2_1 : rowAt w2 (w.heap.size + 1) = some (.cells (tdA p b f l a i o v) 62 (0, 0)) := rowNext' hb2 (by rw [rowAt_old _ _ _ (by first | omega | (simp [putRow_size, drewN_heap, drew_heap] <;> omega))]; exact r1_1)
  have c2_1 := cellsTd r2_1
  have r2_2 : rowAt w2 (w1.heap.size) = some (.cells (exA t m) 60 (0, 0)) := rowNext' hb2 (by rw [rowAt_new _ _ _ (by first | omega | (simp [putRow_size, drewN_heap, drew_heap] <;> omega))])
  have c2_2 := lt_of_some r2_2
  clear r1_0 c1_0 r1_1 c1_1 hb1 HB1 hs1
  go_wp2_with fail
  go_ret
  exact ⟨rfl, HB2.out⟩

set_option maxHeartbeats 2000000 in
set_option maxRecDepth 100000 in
theorem one_quiet (t : Tb) (m : Wt) (p : Tb) (b : Bool) (f l : Int) (i o : Bool) (v : Int) (t' : Tb) (m' : Wt) (HG : Hid (gotR t m p b f l v true = ((t', m'), none, 0))) (HO : Hid (∀ k : Nat, k < 31 → (k : Int) ≠ f → t' k = t k ∧ m' k = m k)) (HX : Hid (exErr t' m' = 0))  (w : World) :
    Calls Try.prog 9 #[.agg (exA t m), .agg (tdA p b f l true i o v)] w fun e w' => e = .returned (.bool true) ∧ Below w.heap.size w w' := by
  go_enter Try.func9, Try.ntmps9
  go_wp2_with fail
  refine (got_quiet HG.out i o _).mono ?_
  rintro e w1 ⟨rfl, hb1⟩
  have HB1 := hid (below_step (((Below.refl w.heap.size w).alloc (by first | omega | (simp [putRow_size, drewN_heap, drew_heap] <;> omega)) _).alloc (by first | omega | (simp [putRow_size, drewN_heap, drew_heap] <;> omega)) _) (by first | omega | (simp [putRow_size, drewN_heap, drew_heap] <;> omega)) hb1)
  have hs1 : w.heap.size ≤ w1.heap.size := HB1.out.size
  have r1_0 : rowAt w1 (w.heap.size) = some (.cells (exA t m) 60 (0, 0)) := rowNext' hb1 (by rw [rowAt_old _ _ _ (by first | omega | (simp [putRow_size, drewN_heap, drew_heap] <;> omega)), rowAt_new _ _ _ (by first | omega | (simp [putRow_size, drewN_heap, drew_heap] <;> omega))])
  have c1_0 := lt_of_some r1_0
  have r1_1 : rowAt w1 (w.heap.size + 1) = some (.cells (tdA p b f l true i o v) 62 (0, 0)) := rowNext' hb1 (by rw [rowAt_new _ _ _ (by first | omega | (simp [putRow_size, drewN_heap, drew_heap] <;> omega))])
  have c1_1 := cellsTd r1_1
  go_wp2_with fail
  have R0 : Hid (rowAt (w1.alloc (.cells (exA t' m') 60)) w.heap.size = some (.cells (exA t m) 60 (0, 0))) := hid (by rw [rowAt_old _ _ _ (by omega)]; exact r1_0)
  have RT : Hid (rowAt (w1.alloc (.cells (exA t' m') 60)) (w.heap.size + 1) = some (.cells (tdA p b f l true i o v) 62 (0, 0))) := hid (by rw [rowAt_old _ _ _ (by omega)]; exact r1_1)
  have RN : Hid (rowAt (w1.alloc (.cells (exA t' m') 60)) w1.heap.size = some (.cells (exA t' m') 60 (0, 0))) := hid (rowAt_new _ _ _ rfl)
  have HBA := hid (HB1.out.alloc hs1 (.cells (exA t' m') 60))
  generalize (w1.alloc (.cells (exA t' m') 60)) = wA at *
  have hsA : w.heap.size ≤ wA.heap.size := HBA.out.size
  go_loopw [8] (fun i wr => ∃ k : Nat, k ≤ 31 ∧ i = .int .i64 k ∧ Below wA.heap.size wA wr) (fun i _ => 31 - (intOf i).toNat)
  case atStart => exact ⟨0, by omega, rfl, Below.refl _ _⟩
  case round =>
    obtain ⟨k, hk, rfl, hbr⟩ := hrel
    have HBR := hid hbr
    have hsr := hbr.size
    clear hbr
    by_cases hlt : k < 31
    · have g1 := goodRow (rowNext' HBR.out R0.out)
      have gt := goodRow (rowNext' HBR.out RT.out)
      have gn := goodRow (rowNext' HBR.out RN.out)
      have ct := fun x => cellsTd (gt x)
      by_cases hkn : (k : Int) = f
      · have hbk : ((k : Int) != f) = false := by simp [hkn]
        clear hkn
        go_wp2_with fail
        refine wp_region_goodw (by kernel_rfl) (by kernel_rfl) ?_
        intro W6 hW6
        subst hW6
        iterate 27 (go_big_quiet_step (fail))
        refine wpQuiet_nil ?_
        rintro w6 ⟨⟨_, hb6⟩, rfl⟩
        clear ct
        go_wp2_with fail
        go_roundw
        case rel => exact ⟨k + 1, by omega, by go_num, HBR.out.trans (hb6.mono hsr)⟩
        case measure => simp [intOf]; omega
      · have hbk : ((k : Int) != f) = true := by simpa using hkn
        obtain ⟨x1, x2, hab⟩ : ∃ x1 x2, t k = (x1, x2) := ⟨_, _, rfl⟩
        obtain ⟨y, hy⟩ : ∃ y, m k = y := ⟨_, rfl⟩
        have HAB := hid hab
        have HY := hid hy
        have HO' := hid (HO.out k hlt hkn)
        clear hab hy hkn
        have q0 : ∀ x : Good wr, x.u.cell? ⟨w.heap.size, k * 2, none⟩ = some (.int .i64 x1) := fun x => by rw [cell_of_row _ _ _ _ _ _ (g1 x), exA_cell0 t m k hlt, HAB.out]
        have q1 : ∀ x : Good wr, x.u.cell? ⟨w.heap.size, k * 2 + 1, none⟩ = some (.int .u8 x2) := fun x => by rw [cell_of_row _ _ _ _ _ _ (g1 x), exA_cell1 t m k hlt, HAB.out]
        have q2 : ∀ x : Good wr, x.u.cell? ⟨w.heap.size, 62 + k, none⟩ = some (.int .i64 y) := fun x => by rw [cell_of_row _ _ _ _ _ _ (g1 x), exA_wait t m k hlt, HY.out]
        have p0 : ∀ x : Good wr, x.u.cell? ⟨w1.heap.size, k * 2, none⟩ = some (.int .i64 x1) := fun x => by rw [cell_of_row _ _ _ _ _ _ (gn x), exA_cell0 t' m' k hlt, HO'.out.1, HAB.out]
        have p1 : ∀ x : Good wr, x.u.cell? ⟨w1.heap.size, k * 2 + 1, none⟩ = some (.int .u8 x2) := fun x => by rw [cell_of_row _ _ _ _ _ _ (gn x), exA_cell1 t' m' k hlt, HO'.out.1, HAB.out]
        have p2 : ∀ x : Good wr, x.u.cell? ⟨w1.heap.size, 62 + k, none⟩ = some (.int .i64 y) := fun x => by rw [cell_of_row _ _ _ _ _ _ (gn x), exA_wait t' m' k hlt, HO'.out.2, HY.out]
        go_wp2_with fail
        refine wp_region_goodw (by kernel_rfl) (by kernel_rfl) ?_
        intro W6 hW6
        subst hW6
        iterate 27 (go_big_quiet_step (fail))
        refine wpQuiet_nil ?_
        rintro w6 ⟨⟨_, hb6⟩, rfl⟩
        clear q0 q1 q2 p0 p1 p2 ct
        go_wp2_with fail
        go_roundw
        case rel => exact ⟨k + 1, by omega, by go_num, HBR.out.trans (hb6.mono hsr)⟩
        case measure => simp [intOf]; omega
    · obtain rfl : k = 31 := by omega
      have HB5 := hid (below_step HBA.out (by omega) HBR.out)
      have hs5 : w.heap.size ≤ wr.heap.size := HB5.out.size
      have r2_0 := rowNext' HBR.out R0.out
      have r2_1 := rowNext' HBR.out RT.out
      have r2_n := rowNext' HBR.out RN.out
      have c2_0 := lt_of_some r2_0
      have c2_1 := cellsTd r2_1
      have c2_n := lt_of_some r2_n
      go_wp2_with fail
      refine (exCheck_eq HX.out _).mono ?_
      rintro e w6 ⟨rfl, hb6⟩
      have HB6 := hid (below_step HB5.out hs5 hb6)
      have hs6 : w.heap.size ≤ w6.heap.size := HB6.out.size
      have r6_1 := rowNext' hb6 r2_1
      have c6_1 := cellsTd r6_1
      clear r2_0 r2_1 r2_n c2_0 c2_1 c2_n
      go_wp2_with fail
      refine (awake17 _).mono ?_
      rintro e w7 ⟨rfl, hb7⟩
      have HB7 := hid (below_step HB6.out hs6 hb7)
      go_wp2_with fail
      go_ret
      exact ⟨rfl, HB7.out⟩

end Go.Proofs.Ytjghmgpmaallfaa
