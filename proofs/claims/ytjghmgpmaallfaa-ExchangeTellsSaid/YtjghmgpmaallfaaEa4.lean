/-
  The walk of ExchangeTells.
-/
import Derived.Test.YtjghmgpmaallfaaErr
import Derived.Test.YtjghmgpmaallfaaExs
import Derived.Deep.QuietTactic
import Derived.BigQuiet
namespace Go.Proofs.Ytjghmgpmaallfaa
open Go.RowKit
set_option linter.unusedVariables false
set_option linter.unusedSimpArgs false

set_option maxHeartbeats 2000000 in
set_option maxRecDepth 100000 in
theorem tells_px (t ta tg : Tb) (m ma mg : Wt) (p : Tb) (b : Bool) (f l : Int) (a i o : Bool) (v ea eg : Int) (KA KG KB : World → Value → Prop) (MKA : Hid (∀ (W W' : World) (L : Value), KA W L → Below W.heap.size W W' → KA W' L)) (SKA : Hid (∀ (W : World) (L L' : Value), KA W L → KA W L' → Calls Try.prog 29 #[L, L'] W fun e w' => e = .returned (.bool true) ∧ Below W.heap.size W w')) (MKG : Hid (∀ (W W' : World) (L : Value), KG W L → Below W.heap.size W W' → KG W' L)) (SKG : Hid (∀ (W : World) (L L' : Value), KG W L → KG W L' → Calls Try.prog 29 #[L, L'] W fun e w' => e = .returned (.bool true) ∧ Below W.heap.size W w')) (MKB : Hid (∀ (W W' : World) (L : Value), KB W L → Below W.heap.size W W' → KB W' L)) (SKB : Hid (∀ (W : World) (L L' : Value), KB W L → KB W L' → Calls Try.prog 29 #[L, L'] W fun e w' => e = .returned (.bool true) ∧ Below W.heap.size W w')) (HA : Hid (∀ W, Calls Try.prog 34 #[.agg (exA t m), .agg #[.int .i64 f, .int .i64 l, .bool a, .bool i, .bool o, .int .u8 v]] W fun e w' => ∃ L, e = .returned (.tuple #[.agg (exA ta ma), L, .int .i64 ea]) ∧ KA w' L ∧ Below W.heap.size W w')) (HA2 : Hid (∀ W, Calls Try.prog 37 #[.agg (exA t m), .agg #[.int .i64 f, .int .i64 l, .bool a, .bool i, .bool o, .int .u8 v]] W fun e w' => ∃ L, e = .returned (.tuple #[.agg (exA ta ma), L, .int .i64 ea]) ∧ KA w' L ∧ Below W.heap.size W w')) (HG : Hid (∀ W, Calls Try.prog 31 #[.agg (exA t m), .agg (tabA p), .bool b, .agg #[.int .i64 f, .int .i64 l, .bool a, .bool i, .bool o, .int .u8 v]] W fun e w' => ∃ L, e = .returned (.tuple #[.agg (exA tg mg), L, .int .i64 eg]) ∧ KG w' L ∧ Below W.heap.size W w')) (HG2 : Hid (∀ W, Calls Try.prog 38 #[.agg (exA t m), .agg (tabA p), .bool b, .agg #[.int .i64 f, .int .i64 l, .bool a, .bool i, .bool o, .int .u8 v]] W fun e w' => ∃ L, e = .returned (.tuple #[.agg (exA tg mg), L, .int .i64 eg]) ∧ KG w' L ∧ Below W.heap.size W w')) (mb : Wt) (HB : Hid (∀ W, Calls Try.prog 35 #[.agg (tabA p), .bool b] W fun e w' => ∃ L, e = .returned (.tuple #[.agg (exA p mb), L, .int .i64 0]) ∧ KB w' L ∧ Below W.heap.size W w')) (HB2 : Hid (∀ W, Calls Try.prog 39 #[.agg (tabA p), .bool b] W fun e w' => ∃ L, e = .returned (.tuple #[.agg (exA p mb), L]) ∧ KB w' L ∧ Below W.heap.size W w')) (HX : Hid (exErr t m = 0)) (HM : Hid (MayIs t m true)) (HPB : Hid (decide (tabOk p) = true)) (w : World) :
    Calls Try.prog 12 #[.agg (exA t m), .agg (tdA p b f l a i o v)] w fun e w' => e = .returned (.bool true) ∧ Below w.heap.size w w' := by
  go_enter Try.func12, Try.ntmps12
  go_wp2_with fail
  refine (HB.out _).mono ?_
  rintro e w1 ⟨LB, rfl, hk1, hb1⟩
  have HB1 := hid (below_step (((Below.refl w.heap.size w).alloc (by first | omega | (simp [putRow_size, drewN_heap, drew_heap] <;> omega)) _).alloc (by first | omega | (simp [putRow_size, drewN_heap, drew_heap] <;> omega)) _) (by first | omega | (simp [putRow_size, drewN_heap, drew_heap] <;> omega)) hb1)
  have hs1 : w.heap.size ≤ w1.heap.size := HB1.out.size
  have ZB_1 : Hid (KB w1 LB) := hid hk1
  clear hk1
  have r1_0 : rowAt w1 (w.heap.size) = some (.cells (exA t m) 60 (0, 0)) := rowNext' hb1 (by rw [rowAt_old _ _ _ (by first | omega | (simp [putRow_size, drewN_heap, drew_heap] <;> omega)), rowAt_new _ _ _ (by first | omega | (simp [putRow_size, drewN_heap, drew_heap] <;> omega))])
  have c1_0 := lt_of_some r1_0
  have r1_1 : rowAt w1 (w.heap.size + 1) = some (.cells (tdA p b f l a i o v) 62 (0, 0)) := rowNext' hb1 (by rw [rowAt_new _ _ _ (by first | omega | (simp [putRow_size, drewN_heap, drew_heap] <;> omega))])
  have c1_1 := cellsTd r1_1
  go_wp2_with fail
  refine (HA.out _).mono ?_
  rintro e w2 ⟨LA, rfl, hk2, hb2⟩
  have HB2 := hid (below_step (HB1.out.alloc (by first | omega | (simp [putRow_size, drewN_heap, drew_heap] <;> omega)) _) (by first | omega | (simp [putRow_size, drewN_heap, drew_heap] <;> omega)) hb2)
  have hs2 : w.heap.size ≤ w2.heap.size := HB2.out.size
  have ZB_2 : Hid (KB w2 LB) := hid (MKB.out _ _ _ ZB_1.out (((Below.refl _ _).alloc (by first | exact Nat.le_refl _ | (simp <;> omega)) _).trans (hb2.mono (by first | exact Nat.le_refl _ | (simp <;> omega)))))
  have ZA_2 : Hid (KA w2 LA) := hid hk2
  clear hk2
  clear ZB_1
  have r2_0 : rowAt w2 (w.heap.size) = some (.cells (exA t m) 60 (0, 0)) := rowNext' hb2 (by rw [rowAt_old _ _ _ (by first | omega | (simp [putRow_size, drewN_heap, drew_heap] <;> omega))]; exact r1_0)
  have c2_0 := lt_of_some r2_0
  have r2_1 : rowAt w2 (w.heap.size + 1) = some (.cells (tdA p b f l a i o v) 62 (0, 0)) := rowNext' hb2 (by rw [rowAt_old _ _ _ (by first | omega | (simp [putRow_size, drewN_heap, drew_heap] <;> omega))]; exact r1_1)
  have c2_1 := cellsTd r2_1
  have r2_2 : rowAt w2 (w1.heap.size) = some (.cells (exA p mb) 60 (0, 0)) := rowNext' hb2 (by rw [rowAt_new _ _ _ (by first | omega | (simp [putRow_size, drewN_heap, drew_heap] <;> omega))])
  have c2_2 := lt_of_some r2_2
  clear r1_0 c1_0 r1_1 c1_1 hb1 HB1 hs1
  go_wp2_with fail
  refine (HG.out _).mono ?_
  rintro e w3 ⟨LG, rfl, hk3, hb3⟩
  have HB3 := hid (below_step (HB2.out.alloc (by first | omega | (simp [putRow_size, drewN_heap, drew_heap] <;> omega)) _) (by first | omega | (simp [putRow_size, drewN_heap, drew_heap] <;> omega)) hb3)
  have hs3 : w.heap.size ≤ w3.heap.size := HB3.out.size
  have ZB_3 : Hid (KB w3 LB) := hid (MKB.out _ _ _ ZB_2.out (((Below.refl _ _).alloc (by first | exact Nat.le_refl _ | (simp <;> omega)) _).trans (hb3.mono (by first | exact Nat.le_refl _ | (simp <;> omega)))))
  have ZA_3 : Hid (KA w3 LA) := hid (MKA.out _ _ _ ZA_2.out (((Below.refl _ _).alloc (by first | exact Nat.le_refl _ | (simp <;> omega)) _).trans (hb3.mono (by first | exact Nat.le_refl _ | (simp <;> omega)))))
  have ZG_3 : Hid (KG w3 LG) := hid hk3
  clear hk3
  clear ZB_2 ZA_2
  have r3_0 : rowAt w3 (w.heap.size) = some (.cells (exA t m) 60 (0, 0)) := rowNext' hb3 (by rw [rowAt_old _ _ _ (by first | omega | (simp [putRow_size, drewN_heap, drew_heap] <;> omega))]; exact r2_0)
  have c3_0 := lt_of_some r3_0
  have r3_1 : rowAt w3 (w.heap.size + 1) = some (.cells (tdA p b f l a i o v) 62 (0, 0)) := rowNext' hb3 (by rw [rowAt_old _ _ _ (by first | omega | (simp [putRow_size, drewN_heap, drew_heap] <;> omega))]; exact r2_1)
  have c3_1 := cellsTd r3_1
  have r3_2 : rowAt w3 (w1.heap.size) = some (.cells (exA p mb) 60 (0, 0)) := rowNext' hb3 (by rw [rowAt_old _ _ _ (by first | omega | (simp [putRow_size, drewN_heap, drew_heap] <;> omega))]; exact r2_2)
  have c3_2 := lt_of_some r3_2
  have r3_3 : rowAt w3 (w2.heap.size) = some (.cells (exA ta ma) 60 (0, 0)) := rowNext' hb3 (by rw [rowAt_new _ _ _ (by first | omega | (simp [putRow_size, drewN_heap, drew_heap] <;> omega))])
  have c3_3 := lt_of_some r3_3
  clear r2_0 c2_0 r2_1 c2_1 r2_2 c2_2 hb2 HB2 hs2
  go_wp2_with fail
  refine wp_region_goodw (by kernel_rfl) (by kernel_rfl) ?_
  intro W4 hW4
  have R4_0 : rowAt W4 (w.heap.size) = some (.cells (exA t m) 60 (0, 0)) := by rw [hW4]; rw [rowAt_old _ _ _ (by first | omega | (simp [putRow_size, drewN_heap, drew_heap] <;> omega))]; exact r3_0
  have R4_1 : rowAt W4 (w.heap.size + 1) = some (.cells (tdA p b f l a i o v) 62 (0, 0)) := by rw [hW4]; rw [rowAt_old _ _ _ (by first | omega | (simp [putRow_size, drewN_heap, drew_heap] <;> omega))]; exact r3_1
  have R4_2 : rowAt W4 (w1.heap.size) = some (.cells (exA p mb) 60 (0, 0)) := by rw [hW4]; rw [rowAt_old _ _ _ (by first | omega | (simp [putRow_size, drewN_heap, drew_heap] <;> omega))]; exact r3_2
  have R4_3 : rowAt W4 (w2.heap.size) = some (.cells (exA ta ma) 60 (0, 0)) := by rw [hW4]; rw [rowAt_old _ _ _ (by first | omega | (simp [putRow_size, drewN_heap, drew_heap] <;> omega))]; exact r3_3
  have R4_4 : rowAt W4 (w3.heap.size) = some (.cells (exA tg mg) 60 (0, 0)) := by rw [hW4]; rw [rowAt_new _ _ _ (by first | omega | (simp [putRow_size, drewN_heap, drew_heap] <;> omega))]
  have BW4 : Below w.heap.size w W4 := by rw [hW4]; exact (HB3.out.alloc (by first | omega | (simp [putRow_size, drewN_heap, drew_heap] <;> omega)) _)
  have ZB_W : Hid (KB W4 LB) := hid (by rw [hW4]; exact MKB.out _ _ _ ZB_3.out ((Below.refl _ _).alloc (by first | exact Nat.le_refl _ | (simp <;> omega)) _))
  have ZA_W : Hid (KA W4 LA) := hid (by rw [hW4]; exact MKA.out _ _ _ ZA_3.out ((Below.refl _ _).alloc (by first | exact Nat.le_refl _ | (simp <;> omega)) _))
  have ZG_W : Hid (KG W4 LG) := hid (by rw [hW4]; exact MKG.out _ _ _ ZG_3.out ((Below.refl _ _).alloc (by first | exact Nat.le_refl _ | (simp <;> omega)) _))
  clear hW4
  have g4_0 := goodRow R4_0
  have cg4_0 := fun x => lt_of_some (g4_0 x)
  have g4_1 := goodRow R4_1
  have cg4_1 := fun x => lt_of_some (g4_1 x)
  have g4_2 := goodRow R4_2
  have cg4_2 := fun x => lt_of_some (g4_2 x)
  have g4_3 := goodRow R4_3
  have cg4_3 := fun x => lt_of_some (g4_3 x)
  have g4_4 := goodRow R4_4
  have cg4_4 := fun x => lt_of_some (g4_4 x)
  iterate 1 (go_big_quiet_step (fail))
  go_big_quiet_step ((go_at_call 33; exact Calls.good (exCheck_eq HX.out _)))
  iterate 2 (go_big_quiet_step (fail))
  go_big_quiet_step ((go_at_call 36; exact Calls.good (refMay17_is HM.out _)))
  iterate 1 (go_big_quiet_step (fail))
  refine wpQuiet_nil ?_
  rintro w4 ⟨⟨_, hb4⟩, rfl⟩
  have ZB_4 : Hid (KB w4 LB) := hid (MKB.out _ _ _ ZB_W.out hb4)
  have ZA_4 : Hid (KA w4 LA) := hid (MKA.out _ _ _ ZA_W.out hb4)
  have ZG_4 : Hid (KG w4 LG) := hid (MKG.out _ _ _ ZG_W.out hb4)
  clear ZB_3 ZB_W ZA_3 ZA_W ZG_3 ZG_W
  have HB4 := hid (BW4.trans (hb4.mono BW4.size))
  have hs4 : w.heap.size ≤ w4.heap.size := HB4.out.size
  have r4_0 : rowAt w4 (w.heap.size) = some (.cells (exA t m) 60 (0, 0)) := rowNext' hb4 R4_0
  have c4_0 := lt_of_some r4_0
  have r4_1 : rowAt w4 (w.heap.size + 1) = some (.cells (tdA p b f l a i o v) 62 (0, 0)) := rowNext' hb4 R4_1
  have c4_1 := cellsTd r4_1
  have r4_2 : rowAt w4 (w1.heap.size) = some (.cells (exA p mb) 60 (0, 0)) := rowNext' hb4 R4_2
  have c4_2 := lt_of_some r4_2
  have r4_3 : rowAt w4 (w2.heap.size) = some (.cells (exA ta ma) 60 (0, 0)) := rowNext' hb4 R4_3
  have c4_3 := lt_of_some r4_3
  have r4_4 : rowAt w4 (w3.heap.size) = some (.cells (exA tg mg) 60 (0, 0)) := rowNext' hb4 R4_4
  have c4_4 := lt_of_some r4_4
  clear R4_0 g4_0 cg4_0 r3_0 c3_0 R4_1 g4_1 cg4_1 r3_1 c3_1 R4_2 g4_2 cg4_2 r3_2 c3_2 R4_3 g4_3 cg4_3 r3_3 c3_3 R4_4 g4_4 cg4_4 hb3 HB3 hs3
  go_wp2_with fail
  refine (HA2.out _).mono ?_
  rintro e w5 ⟨LA2, rfl, hk5, hb5⟩
  have HB5 := hid (below_step HB4.out (by first | omega | (simp [putRow_size, drewN_heap, drew_heap] <;> omega)) hb5)
  have hs5 : w.heap.size ≤ w5.heap.size := HB5.out.size
  have ZB_5 : Hid (KB w5 LB) := hid (MKB.out _ _ _ ZB_4.out ((Below.refl _ _).trans (hb5.mono (by first | exact Nat.le_refl _ | (simp <;> omega)))))
  have ZA_5 : Hid (KA w5 LA) := hid (MKA.out _ _ _ ZA_4.out ((Below.refl _ _).trans (hb5.mono (by first | exact Nat.le_refl _ | (simp <;> omega)))))
  have ZG_5 : Hid (KG w5 LG) := hid (MKG.out _ _ _ ZG_4.out ((Below.refl _ _).trans (hb5.mono (by first | exact Nat.le_refl _ | (simp <;> omega)))))
  have ZAA_5 : Hid (KA w5 LA2) := hid hk5
  clear hk5
  clear ZB_4 ZA_4 ZG_4
  have r5_0 : rowAt w5 (w.heap.size) = some (.cells (exA t m) 60 (0, 0)) := rowNext' hb5 r4_0
  have c5_0 := lt_of_some r5_0
  have r5_1 : rowAt w5 (w.heap.size + 1) = some (.cells (tdA p b f l a i o v) 62 (0, 0)) := rowNext' hb5 r4_1
  have c5_1 := cellsTd r5_1
  have r5_2 : rowAt w5 (w1.heap.size) = some (.cells (exA p mb) 60 (0, 0)) := rowNext' hb5 r4_2
  have c5_2 := lt_of_some r5_2
  have r5_3 : rowAt w5 (w2.heap.size) = some (.cells (exA ta ma) 60 (0, 0)) := rowNext' hb5 r4_3
  have c5_3 := lt_of_some r5_3
  have r5_4 : rowAt w5 (w3.heap.size) = some (.cells (exA tg mg) 60 (0, 0)) := rowNext' hb5 r4_4
  have c5_4 := lt_of_some r5_4
  clear r4_0 c4_0 r4_1 c4_1 r4_2 c4_2 r4_3 c4_3 r4_4 c4_4 hb4 HB4 hs4
  go_wp2_with fail
  refine (HG2.out _).mono ?_
  rintro e w6 ⟨LG2, rfl, hk6, hb6⟩
  have HB6 := hid (below_step (HB5.out.alloc (by first | omega | (simp [putRow_size, drewN_heap, drew_heap] <;> omega)) _) (by first | omega | (simp [putRow_size, drewN_heap, drew_heap] <;> omega)) hb6)
  have hs6 : w.heap.size ≤ w6.heap.size := HB6.out.size
  have ZB_6 : Hid (KB w6 LB) := hid (MKB.out _ _ _ ZB_5.out (((Below.refl _ _).alloc (by first | exact Nat.le_refl _ | (simp <;> omega)) _).trans (hb6.mono (by first | exact Nat.le_refl _ | (simp <;> omega)))))
  have ZA_6 : Hid (KA w6 LA) := hid (MKA.out _ _ _ ZA_5.out (((Below.refl _ _).alloc (by first | exact Nat.le_refl _ | (simp <;> omega)) _).trans (hb6.mono (by first | exact Nat.le_refl _ | (simp <;> omega)))))
  have ZG_6 : Hid (KG w6 LG) := hid (MKG.out _ _ _ ZG_5.out (((Below.refl _ _).alloc (by first | exact Nat.le_refl _ | (simp <;> omega)) _).trans (hb6.mono (by first | exact Nat.le_refl _ | (simp <;> omega)))))
  have ZAA_6 : Hid (KA w6 LA2) := hid (MKA.out _ _ _ ZAA_5.out (((Below.refl _ _).alloc (by first | exact Nat.le_refl _ | (simp <;> omega)) _).trans (hb6.mono (by first | exact Nat.le_refl _ | (simp <;> omega)))))
  have ZGG_6 : Hid (KG w6 LG2) := hid hk6
  clear hk6
  clear ZB_5 ZA_5 ZG_5 ZAA_5
  have r6_0 : rowAt w6 (w.heap.size) = some (.cells (exA t m) 60 (0, 0)) := rowNext' hb6 (by rw [rowAt_old _ _ _ (by first | omega | (simp [putRow_size, drewN_heap, drew_heap] <;> omega))]; exact r5_0)
  have c6_0 := lt_of_some r6_0
  have r6_1 : rowAt w6 (w.heap.size + 1) = some (.cells (tdA p b f l a i o v) 62 (0, 0)) := rowNext' hb6 (by rw [rowAt_old _ _ _ (by first | omega | (simp [putRow_size, drewN_heap, drew_heap] <;> omega))]; exact r5_1)
  have c6_1 := cellsTd r6_1
  have r6_2 : rowAt w6 (w1.heap.size) = some (.cells (exA p mb) 60 (0, 0)) := rowNext' hb6 (by rw [rowAt_old _ _ _ (by first | omega | (simp [putRow_size, drewN_heap, drew_heap] <;> omega))]; exact r5_2)
  have c6_2 := lt_of_some r6_2
  have r6_3 : rowAt w6 (w2.heap.size) = some (.cells (exA ta ma) 60 (0, 0)) := rowNext' hb6 (by rw [rowAt_old _ _ _ (by first | omega | (simp [putRow_size, drewN_heap, drew_heap] <;> omega))]; exact r5_3)
  have c6_3 := lt_of_some r6_3
  have r6_4 : rowAt w6 (w3.heap.size) = some (.cells (exA tg mg) 60 (0, 0)) := rowNext' hb6 (by rw [rowAt_old _ _ _ (by first | omega | (simp [putRow_size, drewN_heap, drew_heap] <;> omega))]; exact r5_4)
  have c6_4 := lt_of_some r6_4
  have r6_5 : rowAt w6 (w5.heap.size) = some (.cells (exA ta ma) 60 (0, 0)) := rowNext' hb6 (by rw [rowAt_new _ _ _ (by first | omega | (simp [putRow_size, drewN_heap, drew_heap] <;> omega))])
  have c6_5 := lt_of_some r6_5
  clear r5_0 c5_0 r5_1 c5_1 r5_2 c5_2 r5_3 c5_3 r5_4 c5_4 hb5 HB5 hs5
  go_wp2_with fail
  refine (SKA.out _ _ _ (MKA.out _ _ _ ZA_6.out ((Below.refl _ _).alloc (by first | exact Nat.le_refl _ | (simp <;> omega)) _)) (MKA.out _ _ _ ZAA_6.out ((Below.refl _ _).alloc (by first | exact Nat.le_refl _ | (simp <;> omega)) _))).mono ?_
  rintro e w7 ⟨rfl, hb7⟩
  have HB7 := hid (below_step (HB6.out.alloc (by first | omega | (simp [putRow_size, drewN_heap, drew_heap] <;> omega)) _) (by first | omega | (simp [putRow_size, drewN_heap, drew_heap] <;> omega)) hb7)
  have hs7 : w.heap.size ≤ w7.heap.size := HB7.out.size
  have ZB_7 : Hid (KB w7 LB) := hid (MKB.out _ _ _ ZB_6.out (((Below.refl _ _).alloc (by first | exact Nat.le_refl _ | (simp <;> omega)) _).trans (hb7.mono (by first | exact Nat.le_refl _ | (simp <;> omega)))))
  have ZA_7 : Hid (KA w7 LA) := hid (MKA.out _ _ _ ZA_6.out (((Below.refl _ _).alloc (by first | exact Nat.le_refl _ | (simp <;> omega)) _).trans (hb7.mono (by first | exact Nat.le_refl _ | (simp <;> omega)))))
  have ZG_7 : Hid (KG w7 LG) := hid (MKG.out _ _ _ ZG_6.out (((Below.refl _ _).alloc (by first | exact Nat.le_refl _ | (simp <;> omega)) _).trans (hb7.mono (by first | exact Nat.le_refl _ | (simp <;> omega)))))
  have ZAA_7 : Hid (KA w7 LA2) := hid (MKA.out _ _ _ ZAA_6.out (((Below.refl _ _).alloc (by first | exact Nat.le_refl _ | (simp <;> omega)) _).trans (hb7.mono (by first | exact Nat.le_refl _ | (simp <;> omega)))))
  have ZGG_7 : Hid (KG w7 LG2) := hid (MKG.out _ _ _ ZGG_6.out (((Below.refl _ _).alloc (by first | exact Nat.le_refl _ | (simp <;> omega)) _).trans (hb7.mono (by first | exact Nat.le_refl _ | (simp <;> omega)))))
  clear ZB_6 ZA_6 ZG_6 ZAA_6 ZGG_6
  have r7_0 : rowAt w7 (w.heap.size) = some (.cells (exA t m) 60 (0, 0)) := rowNext' hb7 (by rw [rowAt_old _ _ _ (by first | omega | (simp [putRow_size, drewN_heap, drew_heap] <;> omega))]; exact r6_0)
  have c7_0 := lt_of_some r7_0
  have r7_1 : rowAt w7 (w.heap.size + 1) = some (.cells (tdA p b f l a i o v) 62 (0, 0)) := rowNext' hb7 (by rw [rowAt_old _ _ _ (by first | omega | (simp [putRow_size, drewN_heap, drew_heap] <;> omega))]; exact r6_1)
  have c7_1 := cellsTd r7_1
  have r7_2 : rowAt w7 (w1.heap.size) = some (.cells (exA p mb) 60 (0, 0)) := rowNext' hb7 (by rw [rowAt_old _ _ _ (by first | omega | (simp [putRow_size, drewN_heap, drew_heap] <;> omega))]; exact r6_2)
  have c7_2 := lt_of_some r7_2
  have r7_3 : rowAt w7 (w2.heap.size) = some (.cells (exA ta ma) 60 (0, 0)) := rowNext' hb7 (by rw [rowAt_old _ _ _ (by first | omega | (simp [putRow_size, drewN_heap, drew_heap] <;> omega))]; exact r6_3)
  have c7_3 := lt_of_some r7_3
  have r7_4 : rowAt w7 (w3.heap.size) = some (.cells (exA tg mg) 60 (0, 0)) := rowNext' hb7 (by rw [rowAt_old _ _ _ (by first | omega | (simp [putRow_size, drewN_heap, drew_heap] <;> omega))]; exact r6_4)
  have c7_4 := lt_of_some r7_4
  have r7_5 : rowAt w7 (w5.heap.size) = some (.cells (exA ta ma) 60 (0, 0)) := rowNext' hb7 (by rw [rowAt_old _ _ _ (by first | omega | (simp [putRow_size, drewN_heap, drew_heap] <;> omega))]; exact r6_5)
  have c7_5 := lt_of_some r7_5
  have r7_6 : rowAt w7 (w6.heap.size) = some (.cells (exA tg mg) 60 (0, 0)) := rowNext' hb7 (by rw [rowAt_new _ _ _ (by first | omega | (simp [putRow_size, drewN_heap, drew_heap] <;> omega))])
  have c7_6 := lt_of_some r7_6
  clear r6_0 c6_0 r6_1 c6_1 r6_2 c6_2 r6_3 c6_3 r6_4 c6_4 r6_5 c6_5 hb6 HB6 hs6
  go_wp2_with fail
  refine (SKG.out _ _ _ (MKG.out _ _ _ ZG_7.out (Below.refl _ _)) (MKG.out _ _ _ ZGG_7.out (Below.refl _ _))).mono ?_
  rintro e w8 ⟨rfl, hb8⟩
  have HB8 := hid (below_step HB7.out (by first | omega | (simp [putRow_size, drewN_heap, drew_heap] <;> omega)) hb8)
  have hs8 : w.heap.size ≤ w8.heap.size := HB8.out.size
  have ZB_8 : Hid (KB w8 LB) := hid (MKB.out _ _ _ ZB_7.out ((Below.refl _ _).trans (hb8.mono (by first | exact Nat.le_refl _ | (simp <;> omega)))))
  have ZA_8 : Hid (KA w8 LA) := hid (MKA.out _ _ _ ZA_7.out ((Below.refl _ _).trans (hb8.mono (by first | exact Nat.le_refl _ | (simp <;> omega)))))
  have ZG_8 : Hid (KG w8 LG) := hid (MKG.out _ _ _ ZG_7.out ((Below.refl _ _).trans (hb8.mono (by first | exact Nat.le_refl _ | (simp <;> omega)))))
  have ZAA_8 : Hid (KA w8 LA2) := hid (MKA.out _ _ _ ZAA_7.out ((Below.refl _ _).trans (hb8.mono (by first | exact Nat.le_refl _ | (simp <;> omega)))))
  have ZGG_8 : Hid (KG w8 LG2) := hid (MKG.out _ _ _ ZGG_7.out ((Below.refl _ _).trans (hb8.mono (by first | exact Nat.le_refl _ | (simp <;> omega)))))
  clear ZB_7 ZA_7 ZG_7 ZAA_7 ZGG_7
  have r8_0 : rowAt w8 (w.heap.size) = some (.cells (exA t m) 60 (0, 0)) := rowNext' hb8 r7_0
  have c8_0 := lt_of_some r8_0
  have r8_1 : rowAt w8 (w.heap.size + 1) = some (.cells (tdA p b f l a i o v) 62 (0, 0)) := rowNext' hb8 r7_1
  have c8_1 := cellsTd r8_1
  have r8_2 : rowAt w8 (w1.heap.size) = some (.cells (exA p mb) 60 (0, 0)) := rowNext' hb8 r7_2
  have c8_2 := lt_of_some r8_2
  have r8_3 : rowAt w8 (w2.heap.size) = some (.cells (exA ta ma) 60 (0, 0)) := rowNext' hb8 r7_3
  have c8_3 := lt_of_some r8_3
  have r8_4 : rowAt w8 (w3.heap.size) = some (.cells (exA tg mg) 60 (0, 0)) := rowNext' hb8 r7_4
  have c8_4 := lt_of_some r8_4
  have r8_5 : rowAt w8 (w5.heap.size) = some (.cells (exA ta ma) 60 (0, 0)) := rowNext' hb8 r7_5
  have c8_5 := lt_of_some r8_5
  have r8_6 : rowAt w8 (w6.heap.size) = some (.cells (exA tg mg) 60 (0, 0)) := rowNext' hb8 r7_6
  have c8_6 := lt_of_some r8_6
  clear r7_0 c7_0 r7_1 c7_1 r7_2 c7_2 r7_3 c7_3 r7_4 c7_4 r7_5 c7_5 r7_6 c7_6 hb7 HB7 hs7
  go_wp2_with fail
  refine (refMay9_eq HPB.out _).mono ?_
  rintro e w9 ⟨rfl, hb9⟩
  have HB9 := hid (below_step HB8.out (by first | omega | (simp [putRow_size, drewN_heap, drew_heap] <;> omega)) hb9)
  have hs9 : w.heap.size ≤ w9.heap.size := HB9.out.size
  have ZB_9 : Hid (KB w9 LB) := hid (MKB.out _ _ _ ZB_8.out ((Below.refl _ _).trans (hb9.mono (by first | exact Nat.le_refl _ | (simp <;> omega)))))
  have ZA_9 : Hid (KA w9 LA) := hid (MKA.out _ _ _ ZA_8.out ((Below.refl _ _).trans (hb9.mono (by first | exact Nat.le_refl _ | (simp <;> omega)))))
  have ZG_9 : Hid (KG w9 LG) := hid (MKG.out _ _ _ ZG_8.out ((Below.refl _ _).trans (hb9.mono (by first | exact Nat.le_refl _ | (simp <;> omega)))))
  have ZAA_9 : Hid (KA w9 LA2) := hid (MKA.out _ _ _ ZAA_8.out ((Below.refl _ _).trans (hb9.mono (by first | exact Nat.le_refl _ | (simp <;> omega)))))
  have ZGG_9 : Hid (KG w9 LG2) := hid (MKG.out _ _ _ ZGG_8.out ((Below.refl _ _).trans (hb9.mono (by first | exact Nat.le_refl _ | (simp <;> omega)))))
  clear ZB_8 ZA_8 ZG_8 ZAA_8 ZGG_8
  have r9_0 : rowAt w9 (w.heap.size) = some (.cells (exA t m) 60 (0, 0)) := rowNext' hb9 r8_0
  have c9_0 := lt_of_some r9_0
  have r9_1 : rowAt w9 (w.heap.size + 1) = some (.cells (tdA p b f l a i o v) 62 (0, 0)) := rowNext' hb9 r8_1
  have c9_1 := cellsTd r9_1
  have r9_2 : rowAt w9 (w1.heap.size) = some (.cells (exA p mb) 60 (0, 0)) := rowNext' hb9 r8_2
  have c9_2 := lt_of_some r9_2
  have r9_3 : rowAt w9 (w2.heap.size) = some (.cells (exA ta ma) 60 (0, 0)) := rowNext' hb9 r8_3
  have c9_3 := lt_of_some r9_3
  have r9_4 : rowAt w9 (w3.heap.size) = some (.cells (exA tg mg) 60 (0, 0)) := rowNext' hb9 r8_4
  have c9_4 := lt_of_some r9_4
  have r9_5 : rowAt w9 (w5.heap.size) = some (.cells (exA ta ma) 60 (0, 0)) := rowNext' hb9 r8_5
  have c9_5 := lt_of_some r9_5
  have r9_6 : rowAt w9 (w6.heap.size) = some (.cells (exA tg mg) 60 (0, 0)) := rowNext' hb9 r8_6
  have c9_6 := lt_of_some r9_6
  clear r8_0 c8_0 r8_1 c8_1 r8_2 c8_2 r8_3 c8_3 r8_4 c8_4 r8_5 c8_5 r8_6 c8_6 hb8 HB8 hs8
  go_wp2_with fail
  refine (HB2.out _).mono ?_
  rintro e w10 ⟨LB2, rfl, hk10, hb10⟩
  have HB10 := hid (below_step HB9.out (by first | omega | (simp [putRow_size, drewN_heap, drew_heap] <;> omega)) hb10)
  have hs10 : w.heap.size ≤ w10.heap.size := HB10.out.size
  have ZB_10 : Hid (KB w10 LB) := hid (MKB.out _ _ _ ZB_9.out ((Below.refl _ _).trans (hb10.mono (by first | exact Nat.le_refl _ | (simp <;> omega)))))
  have ZA_10 : Hid (KA w10 LA) := hid (MKA.out _ _ _ ZA_9.out ((Below.refl _ _).trans (hb10.mono (by first | exact Nat.le_refl _ | (simp <;> omega)))))
  have ZG_10 : Hid (KG w10 LG) := hid (MKG.out _ _ _ ZG_9.out ((Below.refl _ _).trans (hb10.mono (by first | exact Nat.le_refl _ | (simp <;> omega)))))
  have ZAA_10 : Hid (KA w10 LA2) := hid (MKA.out _ _ _ ZAA_9.out ((Below.refl _ _).trans (hb10.mono (by first | exact Nat.le_refl _ | (simp <;> omega)))))
  have ZGG_10 : Hid (KG w10 LG2) := hid (MKG.out _ _ _ ZGG_9.out ((Below.refl _ _).trans (hb10.mono (by first | exact Nat.le_refl _ | (simp <;> omega)))))
  have ZBB_10 : Hid (KB w10 LB2) := hid hk10
  clear hk10
  clear ZB_9 ZA_9 ZG_9 ZAA_9 ZGG_9
  have r10_0 : rowAt w10 (w.heap.size) = some (.cells (exA t m) 60 (0, 0)) := rowNext' hb10 r9_0
  have c10_0 := lt_of_some r10_0
  have r10_1 : rowAt w10 (w.heap.size + 1) = some (.cells (tdA p b f l a i o v) 62 (0, 0)) := rowNext' hb10 r9_1
  have c10_1 := cellsTd r10_1
  have r10_2 : rowAt w10 (w1.heap.size) = some (.cells (exA p mb) 60 (0, 0)) := rowNext' hb10 r9_2
  have c10_2 := lt_of_some r10_2
  have r10_3 : rowAt w10 (w2.heap.size) = some (.cells (exA ta ma) 60 (0, 0)) := rowNext' hb10 r9_3
  have c10_3 := lt_of_some r10_3
  have r10_4 : rowAt w10 (w3.heap.size) = some (.cells (exA tg mg) 60 (0, 0)) := rowNext' hb10 r9_4
  have c10_4 := lt_of_some r10_4
  have r10_5 : rowAt w10 (w5.heap.size) = some (.cells (exA ta ma) 60 (0, 0)) := rowNext' hb10 r9_5
  have c10_5 := lt_of_some r10_5
  have r10_6 : rowAt w10 (w6.heap.size) = some (.cells (exA tg mg) 60 (0, 0)) := rowNext' hb10 r9_6
  have c10_6 := lt_of_some r10_6
  clear r9_0 c9_0 r9_1 c9_1 r9_2 c9_2 r9_3 c9_3 r9_4 c9_4 r9_5 c9_5 r9_6 c9_6 hb9 HB9 hs9
  go_wp2_with fail
  refine (SKB.out _ _ _ (MKB.out _ _ _ ZB_10.out ((Below.refl _ _).alloc (by first | exact Nat.le_refl _ | (simp <;> omega)) _)) (MKB.out _ _ _ ZBB_10.out ((Below.refl _ _).alloc (by first | exact Nat.le_refl _ | (simp <;> omega)) _))).mono ?_
  rintro e w11 ⟨rfl, hb11⟩
  have HB11 := hid (below_step (HB10.out.alloc (by first | omega | (simp [putRow_size, drewN_heap, drew_heap] <;> omega)) _) (by first | omega | (simp [putRow_size, drewN_heap, drew_heap] <;> omega)) hb11)
  have hs11 : w.heap.size ≤ w11.heap.size := HB11.out.size
  have ZB_11 : Hid (KB w11 LB) := hid (MKB.out _ _ _ ZB_10.out (((Below.refl _ _).alloc (by first | exact Nat.le_refl _ | (simp <;> omega)) _).trans (hb11.mono (by first | exact Nat.le_refl _ | (simp <;> omega)))))
  have ZA_11 : Hid (KA w11 LA) := hid (MKA.out _ _ _ ZA_10.out (((Below.refl _ _).alloc (by first | exact Nat.le_refl _ | (simp <;> omega)) _).trans (hb11.mono (by first | exact Nat.le_refl _ | (simp <;> omega)))))
  have ZG_11 : Hid (KG w11 LG) := hid (MKG.out _ _ _ ZG_10.out (((Below.refl _ _).alloc (by first | exact Nat.le_refl _ | (simp <;> omega)) _).trans (hb11.mono (by first | exact Nat.le_refl _ | (simp <;> omega)))))
  have ZAA_11 : Hid (KA w11 LA2) := hid (MKA.out _ _ _ ZAA_10.out (((Below.refl _ _).alloc (by first | exact Nat.le_refl _ | (simp <;> omega)) _).trans (hb11.mono (by first | exact Nat.le_refl _ | (simp <;> omega)))))
  have ZGG_11 : Hid (KG w11 LG2) := hid (MKG.out _ _ _ ZGG_10.out (((Below.refl _ _).alloc (by first | exact Nat.le_refl _ | (simp <;> omega)) _).trans (hb11.mono (by first | exact Nat.le_refl _ | (simp <;> omega)))))
  have ZBB_11 : Hid (KB w11 LB2) := hid (MKB.out _ _ _ ZBB_10.out (((Below.refl _ _).alloc (by first | exact Nat.le_refl _ | (simp <;> omega)) _).trans (hb11.mono (by first | exact Nat.le_refl _ | (simp <;> omega)))))
  clear ZB_10 ZA_10 ZG_10 ZAA_10 ZGG_10 ZBB_10
  have r11_0 : rowAt w11 (w.heap.size) = some (.cells (exA t m) 60 (0, 0)) := rowNext' hb11 (by rw [rowAt_old _ _ _ (by first | omega | (simp [putRow_size, drewN_heap, drew_heap] <;> omega))]; exact r10_0)
  have c11_0 := lt_of_some r11_0
  have r11_1 : rowAt w11 (w.heap.size + 1) = some (.cells (tdA p b f l a i o v) 62 (0, 0)) := rowNext' hb11 (by rw [rowAt_old _ _ _ (by first | omega | (simp [putRow_size, drewN_heap, drew_heap] <;> omega))]; exact r10_1)
  have c11_1 := cellsTd r11_1
  have r11_2 : rowAt w11 (w1.heap.size) = some (.cells (exA p mb) 60 (0, 0)) := rowNext' hb11 (by rw [rowAt_old _ _ _ (by first | omega | (simp [putRow_size, drewN_heap, drew_heap] <;> omega))]; exact r10_2)
  have c11_2 := lt_of_some r11_2
  have r11_3 : rowAt w11 (w2.heap.size) = some (.cells (exA ta ma) 60 (0, 0)) := rowNext' hb11 (by rw [rowAt_old _ _ _ (by first | omega | (simp [putRow_size, drewN_heap, drew_heap] <;> omega))]; exact r10_3)
  have c11_3 := lt_of_some r11_3
  have r11_4 : rowAt w11 (w3.heap.size) = some (.cells (exA tg mg) 60 (0, 0)) := rowNext' hb11 (by rw [rowAt_old _ _ _ (by first | omega | (simp [putRow_size, drewN_heap, drew_heap] <;> omega))]; exact r10_4)
  have c11_4 := lt_of_some r11_4
  have r11_5 : rowAt w11 (w5.heap.size) = some (.cells (exA ta ma) 60 (0, 0)) := rowNext' hb11 (by rw [rowAt_old _ _ _ (by first | omega | (simp [putRow_size, drewN_heap, drew_heap] <;> omega))]; exact r10_5)
  have c11_5 := lt_of_some r11_5
  have r11_6 : rowAt w11 (w6.heap.size) = some (.cells (exA tg mg) 60 (0, 0)) := rowNext' hb11 (by rw [rowAt_old _ _ _ (by first | omega | (simp [putRow_size, drewN_heap, drew_heap] <;> omega))]; exact r10_6)
  have c11_6 := lt_of_some r11_6
  have r11_7 : rowAt w11 (w10.heap.size) = some (.cells (exA p mb) 60 (0, 0)) := rowNext' hb11 (by rw [rowAt_new _ _ _ (by first | omega | (simp [putRow_size, drewN_heap, drew_heap] <;> omega))])
  have c11_7 := lt_of_some r11_7
  clear r10_0 c10_0 r10_1 c10_1 r10_2 c10_2 r10_3 c10_3 r10_4 c10_4 r10_5 c10_5 r10_6 c10_6 hb10 HB10 hs10
  go_wp2_with fail
  refine (awake17 _).mono ?_
  rintro e w12 ⟨rfl, hb12⟩
  have HB12 := hid (below_step HB11.out (by first | omega | (simp [putRow_size, drewN_heap, drew_heap] <;> omega)) hb12)
  have hs12 : w.heap.size ≤ w12.heap.size := HB12.out.size
  have ZB_12 : Hid (KB w12 LB) := hid (MKB.out _ _ _ ZB_11.out ((Below.refl _ _).trans (hb12.mono (by first | exact Nat.le_refl _ | (simp <;> omega)))))
  have ZA_12 : Hid (KA w12 LA) := hid (MKA.out _ _ _ ZA_11.out ((Below.refl _ _).trans (hb12.mono (by first | exact Nat.le_refl _ | (simp <;> omega)))))
  have ZG_12 : Hid (KG w12 LG) := hid (MKG.out _ _ _ ZG_11.out ((Below.refl _ _).trans (hb12.mono (by first | exact Nat.le_refl _ | (simp <;> omega)))))
  have ZAA_12 : Hid (KA w12 LA2) := hid (MKA.out _ _ _ ZAA_11.out ((Below.refl _ _).trans (hb12.mono (by first | exact Nat.le_refl _ | (simp <;> omega)))))
  have ZGG_12 : Hid (KG w12 LG2) := hid (MKG.out _ _ _ ZGG_11.out ((Below.refl _ _).trans (hb12.mono (by first | exact Nat.le_refl _ | (simp <;> omega)))))
  have ZBB_12 : Hid (KB w12 LB2) := hid (MKB.out _ _ _ ZBB_11.out ((Below.refl _ _).trans (hb12.mono (by first | exact Nat.le_refl _ | (simp <;> omega)))))
  clear ZB_11 ZA_11 ZG_11 ZAA_11 ZGG_11 ZBB_11
  have r12_0 : rowAt w12 (w.heap.size) = some (.cells (exA t m) 60 (0, 0)) := rowNext' hb12 r11_0
  have c12_0 := lt_of_some r12_0
  have r12_1 : rowAt w12 (w.heap.size + 1) = some (.cells (tdA p b f l a i o v) 62 (0, 0)) := rowNext' hb12 r11_1
  have c12_1 := cellsTd r12_1
  have r12_2 : rowAt w12 (w1.heap.size) = some (.cells (exA p mb) 60 (0, 0)) := rowNext' hb12 r11_2
  have c12_2 := lt_of_some r12_2
  have r12_3 : rowAt w12 (w2.heap.size) = some (.cells (exA ta ma) 60 (0, 0)) := rowNext' hb12 r11_3
  have c12_3 := lt_of_some r12_3
  have r12_4 : rowAt w12 (w3.heap.size) = some (.cells (exA tg mg) 60 (0, 0)) := rowNext' hb12 r11_4
  have c12_4 := lt_of_some r12_4
  have r12_5 : rowAt w12 (w5.heap.size) = some (.cells (exA ta ma) 60 (0, 0)) := rowNext' hb12 r11_5
  have c12_5 := lt_of_some r12_5
  have r12_6 : rowAt w12 (w6.heap.size) = some (.cells (exA tg mg) 60 (0, 0)) := rowNext' hb12 r11_6
  have c12_6 := lt_of_some r12_6
  have r12_7 : rowAt w12 (w10.heap.size) = some (.cells (exA p mb) 60 (0, 0)) := rowNext' hb12 r11_7
  have c12_7 := lt_of_some r12_7
  clear r11_0 c11_0 r11_1 c11_1 r11_2 c11_2 r11_3 c11_3 r11_4 c11_4 r11_5 c11_5 r11_6 c11_6 r11_7 c11_7 hb11 HB11 hs11
  go_wp2_with fail
  go_ret
  exact ⟨rfl, HB12.out⟩

set_option maxHeartbeats 2000000 in
set_option maxRecDepth 100000 in
theorem tells_py (t ta tg : Tb) (m ma mg : Wt) (p : Tb) (b : Bool) (f l : Int) (a i o : Bool) (v ea eg : Int) (KA KG KB : World → Value → Prop) (MKA : Hid (∀ (W W' : World) (L : Value), KA W L → Below W.heap.size W W' → KA W' L)) (SKA : Hid (∀ (W : World) (L L' : Value), KA W L → KA W L' → Calls Try.prog 29 #[L, L'] W fun e w' => e = .returned (.bool true) ∧ Below W.heap.size W w')) (MKG : Hid (∀ (W W' : World) (L : Value), KG W L → Below W.heap.size W W' → KG W' L)) (SKG : Hid (∀ (W : World) (L L' : Value), KG W L → KG W L' → Calls Try.prog 29 #[L, L'] W fun e w' => e = .returned (.bool true) ∧ Below W.heap.size W w')) (MKB : Hid (∀ (W W' : World) (L : Value), KB W L → Below W.heap.size W W' → KB W' L)) (SKB : Hid (∀ (W : World) (L L' : Value), KB W L → KB W L' → Calls Try.prog 29 #[L, L'] W fun e w' => e = .returned (.bool true) ∧ Below W.heap.size W w')) (HA : Hid (∀ W, Calls Try.prog 34 #[.agg (exA t m), .agg #[.int .i64 f, .int .i64 l, .bool a, .bool i, .bool o, .int .u8 v]] W fun e w' => ∃ L, e = .returned (.tuple #[.agg (exA ta ma), L, .int .i64 ea]) ∧ KA w' L ∧ Below W.heap.size W w')) (HA2 : Hid (∀ W, Calls Try.prog 37 #[.agg (exA t m), .agg #[.int .i64 f, .int .i64 l, .bool a, .bool i, .bool o, .int .u8 v]] W fun e w' => ∃ L, e = .returned (.tuple #[.agg (exA ta ma), L, .int .i64 ea]) ∧ KA w' L ∧ Below W.heap.size W w')) (HG : Hid (∀ W, Calls Try.prog 31 #[.agg (exA t m), .agg (tabA p), .bool b, .agg #[.int .i64 f, .int .i64 l, .bool a, .bool i, .bool o, .int .u8 v]] W fun e w' => ∃ L, e = .returned (.tuple #[.agg (exA tg mg), L, .int .i64 eg]) ∧ KG w' L ∧ Below W.heap.size W w')) (HG2 : Hid (∀ W, Calls Try.prog 38 #[.agg (exA t m), .agg (tabA p), .bool b, .agg #[.int .i64 f, .int .i64 l, .bool a, .bool i, .bool o, .int .u8 v]] W fun e w' => ∃ L, e = .returned (.tuple #[.agg (exA tg mg), L, .int .i64 eg]) ∧ KG w' L ∧ Below W.heap.size W w')) (mb : Wt) (HB : Hid (∀ W, Calls Try.prog 35 #[.agg (tabA p), .bool b] W fun e w' => ∃ L, e = .returned (.tuple #[.agg (exA p mb), L, .int .i64 0]) ∧ KB w' L ∧ Below W.heap.size W w')) (HB2 : Hid (∀ W, Calls Try.prog 39 #[.agg (tabA p), .bool b] W fun e w' => ∃ L, e = .returned (.tuple #[.agg (exA p mb), L]) ∧ KB w' L ∧ Below W.heap.size W w')) (HX : Hid (exErr t m = 1)) (HM : Hid (MayIs t m false)) (HPB : Hid (decide (tabOk p) = true)) (w : World) :
    Calls Try.prog 12 #[.agg (exA t m), .agg (tdA p b f l a i o v)] w fun e w' => e = .returned (.bool true) ∧ Below w.heap.size w w' := by
  go_enter Try.func12, Try.ntmps12
  go_wp2_with fail
  refine (HB.out _).mono ?_
  rintro e w1 ⟨LB, rfl, hk1, hb1⟩
  have HB1 := hid (below_step (((Below.refl w.heap.size w).alloc (by first | omega | (simp [putRow_size, drewN_heap, drew_heap] <;> omega)) _).alloc (by first | omega | (simp [putRow_size, drewN_heap, drew_heap] <;> omega)) _) (by first | omega | (simp [putRow_size, drewN_heap, drew_heap] <;> omega)) hb1)
  have hs1 : w.heap.size ≤ w1.heap.size := HB1.out.size
  have ZB_1 : Hid (KB w1 LB) := hid hk1
  clear hk1
  have r1_0 : rowAt w1 (w.heap.size) = some (.cells (exA t m) 60 (0, 0)) := rowNext' hb1 (by rw [rowAt_old _ _ _ (by first | omega | (simp [putRow_size, drewN_heap, drew_heap] <;> omega)), rowAt_new _ _ _ (by first | omega | (simp [putRow_size, drewN_heap, drew_heap] <;> omega))])
  have c1_0 := lt_of_some r1_0
  have r1_1 : rowAt w1 (w.heap.size + 1) = some (.cells (tdA p b f l a i o v) 62 (0, 0)) := rowNext' hb1 (by rw [rowAt_new _ _ _ (by first | omega | (simp [putRow_size, drewN_heap, drew_heap] <;> omega))])
  have c1_1 := cellsTd r1_1
  go_wp2_with fail
  refine (HA.out _).mono ?_
  rintro e w2 ⟨LA, rfl, hk2, hb2⟩
  have HB2 := hid (below_step (HB1.out.alloc (by first | omega | (simp [putRow_size, drewN_heap, drew_heap] <;> omega)) _) (by first | omega | (simp [putRow_size, drewN_heap, drew_heap] <;> omega)) hb2)
  have hs2 : w.heap.size ≤ w2.heap.size := HB2.out.size
  have ZB_2 : Hid (KB w2 LB) := hid (MKB.out _ _ _ ZB_1.out (((Below.refl _ _).alloc (by first | exact Nat.le_refl _ | (simp <;> omega)) _).trans (hb2.mono (by first | exact Nat.le_refl _ | (simp <;> omega)))))
  have ZA_2 : Hid (KA w2 LA) := hid hk2
  clear hk2
  clear ZB_1
  have r2_0 : rowAt w2 (w.heap.size) = some (.cells (exA t m) 60 (0, 0)) := rowNext' hb2 (by rw [rowAt_old _ _ _ (by first | omega | (simp [putRow_size, drewN_heap, drew_heap] <;> omega))]; exact r1_0)
  have c2_0 := lt_of_some r2_0
  have r2_1 : rowAt w2 (w.heap.size + 1) = some (.cells (tdA p b f l a i o v) 62 (0, 0)) := rowNext' hb2 (by rw [rowAt_old _ _ _ (by first | omega | (simp [putRow_size, drewN_heap, drew_heap] <;> omega))]; exact r1_1)
  have c2_1 := cellsTd r2_1
  have r2_2 : rowAt w2 (w1.heap.size) = some (.cells (exA p mb) 60 (0, 0)) := rowNext' hb2 (by rw [rowAt_new _ _ _ (by first | omega | (simp [putRow_size, drewN_heap, drew_heap] <;> omega))])
  have c2_2 := lt_of_some r2_2
  clear r1_0 c1_0 r1_1 c1_1 hb1 HB1 hs1
  go_wp2_with fail
  refine (HG.out _).mono ?_
  rintro e w3 ⟨LG, rfl, hk3, hb3⟩
  have HB3 := hid (below_step (HB2.out.alloc (by first | omega | (simp [putRow_size, drewN_heap, drew_heap] <;> omega)) _) (by first | omega | (simp [putRow_size, drewN_heap, drew_heap] <;> omega)) hb3)
  have hs3 : w.heap.size ≤ w3.heap.size := HB3.out.size
  have ZB_3 : Hid (KB w3 LB) := hid (MKB.out _ _ _ ZB_2.out (((Below.refl _ _).alloc (by first | exact Nat.le_refl _ | (simp <;> omega)) _).trans (hb3.mono (by first | exact Nat.le_refl _ | (simp <;> omega)))))
  have ZA_3 : Hid (KA w3 LA) := hid (MKA.out _ _ _ ZA_2.out (((Below.refl _ _).alloc (by first | exact Nat.le_refl _ | (simp <;> omega)) _).trans (hb3.mono (by first | exact Nat.le_refl _ | (simp <;> omega)))))
  have ZG_3 : Hid (KG w3 LG) := hid hk3
  clear hk3
  clear ZB_2 ZA_2
  have r3_0 : rowAt w3 (w.heap.size) = some (.cells (exA t m) 60 (0, 0)) := rowNext' hb3 (by rw [rowAt_old _ _ _ (by first | omega | (simp [putRow_size, drewN_heap, drew_heap] <;> omega))]; exact r2_0)
  have c3_0 := lt_of_some r3_0
  have r3_1 : rowAt w3 (w.heap.size + 1) = some (.cells (tdA p b f l a i o v) 62 (0, 0)) := rowNext' hb3 (by rw [rowAt_old _ _ _ (by first | omega | (simp [putRow_size, drewN_heap, drew_heap] <;> omega))]; exact r2_1)
  have c3_1 := cellsTd r3_1
  have r3_2 : rowAt w3 (w1.heap.size) = some (.cells (exA p mb) 60 (0, 0)) := rowNext' hb3 (by rw [rowAt_old _ _ _ (by first | omega | (simp [putRow_size, drewN_heap, drew_heap] <;> omega))]; exact r2_2)
  have c3_2 := lt_of_some r3_2
  have r3_3 : rowAt w3 (w2.heap.size) = some (.cells (exA ta ma) 60 (0, 0)) := rowNext' hb3 (by rw [rowAt_new _ _ _ (by first | omega | (simp [putRow_size, drewN_heap, drew_heap] <;> omega))])
  have c3_3 := lt_of_some r3_3
  clear r2_0 c2_0 r2_1 c2_1 r2_2 c2_2 hb2 HB2 hs2
  go_wp2_with fail
  refine wp_region_goodw (by kernel_rfl) (by kernel_rfl) ?_
  intro W4 hW4
  have R4_0 : rowAt W4 (w.heap.size) = some (.cells (exA t m) 60 (0, 0)) := by rw [hW4]; rw [rowAt_old _ _ _ (by first | omega | (simp [putRow_size, drewN_heap, drew_heap] <;> omega))]; exact r3_0
  have R4_1 : rowAt W4 (w.heap.size + 1) = some (.cells (tdA p b f l a i o v) 62 (0, 0)) := by rw [hW4]; rw [rowAt_old _ _ _ (by first | omega | (simp [putRow_size, drewN_heap, drew_heap] <;> omega))]; exact r3_1
  have R4_2 : rowAt W4 (w1.heap.size) = some (.cells (exA p mb) 60 (0, 0)) := by rw [hW4]; rw [rowAt_old _ _ _ (by first | omega | (simp [putRow_size, drewN_heap, drew_heap] <;> omega))]; exact r3_2
  have R4_3 : rowAt W4 (w2.heap.size) = some (.cells (exA ta ma) 60 (0, 0)) := by rw [hW4]; rw [rowAt_old _ _ _ (by first | omega | (simp [putRow_size, drewN_heap, drew_heap] <;> omega))]; exact r3_3
  have R4_4 : rowAt W4 (w3.heap.size) = some (.cells (exA tg mg) 60 (0, 0)) := by rw [hW4]; rw [rowAt_new _ _ _ (by first | omega | (simp [putRow_size, drewN_heap, drew_heap] <;> omega))]
  have BW4 : Below w.heap.size w W4 := by rw [hW4]; exact (HB3.out.alloc (by first | omega | (simp [putRow_size, drewN_heap, drew_heap] <;> omega)) _)
  have ZB_W : Hid (KB W4 LB) := hid (by rw [hW4]; exact MKB.out _ _ _ ZB_3.out ((Below.refl _ _).alloc (by first | exact Nat.le_refl _ | (simp <;> omega)) _))
  have ZA_W : Hid (KA W4 LA) := hid (by rw [hW4]; exact MKA.out _ _ _ ZA_3.out ((Below.refl _ _).alloc (by first | exact Nat.le_refl _ | (simp <;> omega)) _))
  have ZG_W : Hid (KG W4 LG) := hid (by rw [hW4]; exact MKG.out _ _ _ ZG_3.out ((Below.refl _ _).alloc (by first | exact Nat.le_refl _ | (simp <;> omega)) _))
  clear hW4
  have g4_0 := goodRow R4_0
  have cg4_0 := fun x => lt_of_some (g4_0 x)
  have g4_1 := goodRow R4_1
  have cg4_1 := fun x => lt_of_some (g4_1 x)
  have g4_2 := goodRow R4_2
  have cg4_2 := fun x => lt_of_some (g4_2 x)
  have g4_3 := goodRow R4_3
  have cg4_3 := fun x => lt_of_some (g4_3 x)
  have g4_4 := goodRow R4_4
  have cg4_4 := fun x => lt_of_some (g4_4 x)
  iterate 1 (go_big_quiet_step (fail))
  go_big_quiet_step ((go_at_call 33; exact Calls.good (exCheck_eq HX.out _)))
  iterate 2 (go_big_quiet_step (fail))
  go_big_quiet_step ((go_at_call 36; exact Calls.good (refMay17_is HM.out _)))
  iterate 1 (go_big_quiet_step (fail))
  refine wpQuiet_nil ?_
  rintro w4 ⟨⟨_, hb4⟩, rfl⟩
  have ZB_4 : Hid (KB w4 LB) := hid (MKB.out _ _ _ ZB_W.out hb4)
  have ZA_4 : Hid (KA w4 LA) := hid (MKA.out _ _ _ ZA_W.out hb4)
  have ZG_4 : Hid (KG w4 LG) := hid (MKG.out _ _ _ ZG_W.out hb4)
  clear ZB_3 ZB_W ZA_3 ZA_W ZG_3 ZG_W
  have HB4 := hid (BW4.trans (hb4.mono BW4.size))
  have hs4 : w.heap.size ≤ w4.heap.size := HB4.out.size
  have r4_0 : rowAt w4 (w.heap.size) = some (.cells (exA t m) 60 (0, 0)) := rowNext' hb4 R4_0
  have c4_0 := lt_of_some r4_0
  have r4_1 : rowAt w4 (w.heap.size + 1) = some (.cells (tdA p b f l a i o v) 62 (0, 0)) := rowNext' hb4 R4_1
  have c4_1 := cellsTd r4_1
  have r4_2 : rowAt w4 (w1.heap.size) = some (.cells (exA p mb) 60 (0, 0)) := rowNext' hb4 R4_2
  have c4_2 := lt_of_some r4_2
  have r4_3 : rowAt w4 (w2.heap.size) = some (.cells (exA ta ma) 60 (0, 0)) := rowNext' hb4 R4_3
  have c4_3 := lt_of_some r4_3
  have r4_4 : rowAt w4 (w3.heap.size) = some (.cells (exA tg mg) 60 (0, 0)) := rowNext' hb4 R4_4
  have c4_4 := lt_of_some r4_4
  clear R4_0 g4_0 cg4_0 r3_0 c3_0 R4_1 g4_1 cg4_1 r3_1 c3_1 R4_2 g4_2 cg4_2 r3_2 c3_2 R4_3 g4_3 cg4_3 r3_3 c3_3 R4_4 g4_4 cg4_4 hb3 HB3 hs3
  go_wp2_with fail
  refine (HA2.out _).mono ?_
  rintro e w5 ⟨LA2, rfl, hk5, hb5⟩
  have HB5 := hid (below_step HB4.out (by first | omega | (simp [putRow_size, drewN_heap, drew_heap] <;> omega)) hb5)
  have hs5 : w.heap.size ≤ w5.heap.size := HB5.out.size
  have ZB_5 : Hid (KB w5 LB) := hid (MKB.out _ _ _ ZB_4.out ((Below.refl _ _).trans (hb5.mono (by first | exact Nat.le_refl _ | (simp <;> omega)))))
  have ZA_5 : Hid (KA w5 LA) := hid (MKA.out _ _ _ ZA_4.out ((Below.refl _ _).trans (hb5.mono (by first | exact Nat.le_refl _ | (simp <;> omega)))))
  have ZG_5 : Hid (KG w5 LG) := hid (MKG.out _ _ _ ZG_4.out ((Below.refl _ _).trans (hb5.mono (by first | exact Nat.le_refl _ | (simp <;> omega)))))
  have ZAA_5 : Hid (KA w5 LA2) := hid hk5
  clear hk5
  clear ZB_4 ZA_4 ZG_4
  have r5_0 : rowAt w5 (w.heap.size) = some (.cells (exA t m) 60 (0, 0)) := rowNext' hb5 r4_0
  have c5_0 := lt_of_some r5_0
  have r5_1 : rowAt w5 (w.heap.size + 1) = some (.cells (tdA p b f l a i o v) 62 (0, 0)) := rowNext' hb5 r4_1
  have c5_1 := cellsTd r5_1
  have r5_2 : rowAt w5 (w1.heap.size) = some (.cells (exA p mb) 60 (0, 0)) := rowNext' hb5 r4_2
  have c5_2 := lt_of_some r5_2
  have r5_3 : rowAt w5 (w2.heap.size) = some (.cells (exA ta ma) 60 (0, 0)) := rowNext' hb5 r4_3
  have c5_3 := lt_of_some r5_3
  have r5_4 : rowAt w5 (w3.heap.size) = some (.cells (exA tg mg) 60 (0, 0)) := rowNext' hb5 r4_4
  have c5_4 := lt_of_some r5_4
  clear r4_0 c4_0 r4_1 c4_1 r4_2 c4_2 r4_3 c4_3 r4_4 c4_4 hb4 HB4 hs4
  go_wp2_with fail
  refine (HG2.out _).mono ?_
  rintro e w6 ⟨LG2, rfl, hk6, hb6⟩
  have HB6 := hid (below_step (HB5.out.alloc (by first | omega | (simp [putRow_size, drewN_heap, drew_heap] <;> omega)) _) (by first | omega | (simp [putRow_size, drewN_heap, drew_heap] <;> omega)) hb6)
  have hs6 : w.heap.size ≤ w6.heap.size := HB6.out.size
  have ZB_6 : Hid (KB w6 LB) := hid (MKB.out _ _ _ ZB_5.out (((Below.refl _ _).alloc (by first | exact Nat.le_refl _ | (simp <;> omega)) _).trans (hb6.mono (by first | exact Nat.le_refl _ | (simp <;> omega)))))
  have ZA_6 : Hid (KA w6 LA) := hid (MKA.out _ _ _ ZA_5.out (((Below.refl _ _).alloc (by first | exact Nat.le_refl _ | (simp <;> omega)) _).trans (hb6.mono (by first | exact Nat.le_refl _ | (simp <;> omega)))))
  have ZG_6 : Hid (KG w6 LG) := hid (MKG.out _ _ _ ZG_5.out (((Below.refl _ _).alloc (by first | exact Nat.le_refl _ | (simp <;> omega)) _).trans (hb6.mono (by first | exact Nat.le_refl _ | (simp <;> omega)))))
  have ZAA_6 : Hid (KA w6 LA2) := hid (MKA.out _ _ _ ZAA_5.out (((Below.refl _ _).alloc (by first | exact Nat.le_refl _ | (simp <;> omega)) _).trans (hb6.mono (by first | exact Nat.le_refl _ | (simp <;> omega)))))
  have ZGG_6 : Hid (KG w6 LG2) := hid hk6
  clear hk6
  clear ZB_5 ZA_5 ZG_5 ZAA_5
  have r6_0 : rowAt w6 (w.heap.size) = some (.cells (exA t m) 60 (0, 0)) := rowNext' hb6 (by rw [rowAt_old _ _ _ (by first | omega | (simp [putRow_size, drewN_heap, drew_heap] <;> omega))]; exact r5_0)
  have c6_0 := lt_of_some r6_0
  have r6_1 : rowAt w6 (w.heap.size + 1) = some (.cells (tdA p b f l a i o v) 62 (0, 0)) := rowNext' hb6 (by rw [rowAt_old _ _ _ (by first | omega | (simp [putRow_size, drewN_heap, drew_heap] <;> omega))]; exact r5_1)
  have c6_1 := cellsTd r6_1
  have r6_2 : rowAt w6 (w1.heap.size) = some (.cells (exA p mb) 60 (0, 0)) := rowNext' hb6 (by rw [rowAt_old _ _ _ (by first | omega | (simp [putRow_size, drewN_heap, drew_heap] <;> omega))]; exact r5_2)
  have c6_2 := lt_of_some r6_2
  have r6_3 : rowAt w6 (w2.heap.size) = some (.cells (exA ta ma) 60 (0, 0)) := rowNext' hb6 (by rw [rowAt_old _ _ _ (by first | omega | (simp [putRow_size, drewN_heap, drew_heap] <;> omega))]; exact r5_3)
  have c6_3 := lt_of_some r6_3
  have r6_4 : rowAt w6 (w3.heap.size) = some (.cells (exA tg mg) 60 (0, 0)) := rowNext' hb6 (by rw [rowAt_old _ _ _ (by first | omega | (simp [putRow_size, drewN_heap, drew_heap] <;> omega))]; exact r5_4)
  have c6_4 := lt_of_some r6_4
  have r6_5 : rowAt w6 (w5.heap.size) = some (.cells (exA ta ma) 60 (0, 0)) := rowNext' hb6 (by rw [rowAt_new _ _ _ (by first | omega | (simp [putRow_size, drewN_heap, drew_heap] <;> omega))])
  have c6_5 := lt_of_some r6_5
  clear r5_0 c5_0 r5_1 c5_1 r5_2 c5_2 r5_3 c5_3 r5_4 c5_4 hb5 HB5 hs5
  go_wp2_with fail
  refine (SKA.out _ _ _ (MKA.out _ _ _ ZA_6.out ((Below.refl _ _).alloc (by first | exact Nat.le_refl _ | (simp <;> omega)) _)) (MKA.out _ _ _ ZAA_6.out ((Below.refl _ _).alloc (by first | exact Nat.le_refl _ | (simp <;> omega)) _))).mono ?_
  rintro e w7 ⟨rfl, hb7⟩
  have HB7 := hid (below_step (HB6.out.alloc (by first | omega | (simp [putRow_size, drewN_heap, drew_heap] <;> omega)) _) (by first | omega | (simp [putRow_size, drewN_heap, drew_heap] <;> omega)) hb7)
  have hs7 : w.heap.size ≤ w7.heap.size := HB7.out.size
  have ZB_7 : Hid (KB w7 LB) := hid (MKB.out _ _ _ ZB_6.out (((Below.refl _ _).alloc (by first | exact Nat.le_refl _ | (simp <;> omega)) _).trans (hb7.mono (by first | exact Nat.le_refl _ | (simp <;> omega)))))
  have ZA_7 : Hid (KA w7 LA) := hid (MKA.out _ _ _ ZA_6.out (((Below.refl _ _).alloc (by first | exact Nat.le_refl _ | (simp <;> omega)) _).trans (hb7.mono (by first | exact Nat.le_refl _ | (simp <;> omega)))))
  have ZG_7 : Hid (KG w7 LG) := hid (MKG.out _ _ _ ZG_6.out (((Below.refl _ _).alloc (by first | exact Nat.le_refl _ | (simp <;> omega)) _).trans (hb7.mono (by first | exact Nat.le_refl _ | (simp <;> omega)))))
  have ZAA_7 : Hid (KA w7 LA2) := hid (MKA.out _ _ _ ZAA_6.out (((Below.refl _ _).alloc (by first | exact Nat.le_refl _ | (simp <;> omega)) _).trans (hb7.mono (by first | exact Nat.le_refl _ | (simp <;> omega)))))
  have ZGG_7 : Hid (KG w7 LG2) := hid (MKG.out _ _ _ ZGG_6.out (((Below.refl _ _).alloc (by first | exact Nat.le_refl _ | (simp <;> omega)) _).trans (hb7.mono (by first | exact Nat.le_refl _ | (simp <;> omega)))))
  clear ZB_6 ZA_6 ZG_6 ZAA_6 ZGG_6
  have r7_0 : rowAt w7 (w.heap.size) = some (.cells (exA t m) 60 (0, 0)) := rowNext' hb7 (by rw [rowAt_old _ _ _ (by first | omega | (simp [putRow_size, drewN_heap, drew_heap] <;> omega))]; exact r6_0)
  have c7_0 := lt_of_some r7_0
  have r7_1 : rowAt w7 (w.heap.size + 1) = some (.cells (tdA p b f l a i o v) 62 (0, 0)) := rowNext' hb7 (by rw [rowAt_old _ _ _ (by first | omega | (simp [putRow_size, drewN_heap, drew_heap] <;> omega))]; exact r6_1)
  have c7_1 := cellsTd r7_1
  have r7_2 : rowAt w7 (w1.heap.size) = some (.cells (exA p mb) 60 (0, 0)) := rowNext' hb7 (by rw [rowAt_old _ _ _ (by first | omega | (simp [putRow_size, drewN_heap, drew_heap] <;> omega))]; exact r6_2)
  have c7_2 := lt_of_some r7_2
  have r7_3 : rowAt w7 (w2.heap.size) = some (.cells (exA ta ma) 60 (0, 0)) := rowNext' hb7 (by rw [rowAt_old _ _ _ (by first | omega | (simp [putRow_size, drewN_heap, drew_heap] <;> omega))]; exact r6_3)
  have c7_3 := lt_of_some r7_3
  have r7_4 : rowAt w7 (w3.heap.size) = some (.cells (exA tg mg) 60 (0, 0)) := rowNext' hb7 (by rw [rowAt_old _ _ _ (by first | omega | (simp [putRow_size, drewN_heap, drew_heap] <;> omega))]; exact r6_4)
  have c7_4 := lt_of_some r7_4
  have r7_5 : rowAt w7 (w5.heap.size) = some (.cells (exA ta ma) 60 (0, 0)) := rowNext' hb7 (by rw [rowAt_old _ _ _ (by first | omega | (simp [putRow_size, drewN_heap, drew_heap] <;> omega))]; exact r6_5)
  have c7_5 := lt_of_some r7_5
  have r7_6 : rowAt w7 (w6.heap.size) = some (.cells (exA tg mg) 60 (0, 0)) := rowNext' hb7 (by rw [rowAt_new _ _ _ (by first | omega | (simp [putRow_size, drewN_heap, drew_heap] <;> omega))])
  have c7_6 := lt_of_some r7_6
  clear r6_0 c6_0 r6_1 c6_1 r6_2 c6_2 r6_3 c6_3 r6_4 c6_4 r6_5 c6_5 hb6 HB6 hs6
  go_wp2_with fail
  refine (SKG.out _ _ _ (MKG.out _ _ _ ZG_7.out (Below.refl _ _)) (MKG.out _ _ _ ZGG_7.out (Below.refl _ _))).mono ?_
  rintro e w8 ⟨rfl, hb8⟩
  have HB8 := hid (below_step HB7.out (by first | omega | (simp [putRow_size, drewN_heap, drew_heap] <;> omega)) hb8)
  have hs8 : w.heap.size ≤ w8.heap.size := HB8.out.size
  have ZB_8 : Hid (KB w8 LB) := hid (MKB.out _ _ _ ZB_7.out ((Below.refl _ _).trans (hb8.mono (by first | exact Nat.le_refl _ | (simp <;> omega)))))
  have ZA_8 : Hid (KA w8 LA) := hid (MKA.out _ _ _ ZA_7.out ((Below.refl _ _).trans (hb8.mono (by first | exact Nat.le_refl _ | (simp <;> omega)))))
  have ZG_8 : Hid (KG w8 LG) := hid (MKG.out _ _ _ ZG_7.out ((Below.refl _ _).trans (hb8.mono (by first | exact Nat.le_refl _ | (simp <;> omega)))))
  have ZAA_8 : Hid (KA w8 LA2) := hid (MKA.out _ _ _ ZAA_7.out ((Below.refl _ _).trans (hb8.mono (by first | exact Nat.le_refl _ | (simp <;> omega)))))
  have ZGG_8 : Hid (KG w8 LG2) := hid (MKG.out _ _ _ ZGG_7.out ((Below.refl _ _).trans (hb8.mono (by first | exact Nat.le_refl _ | (simp <;> omega)))))
  clear ZB_7 ZA_7 ZG_7 ZAA_7 ZGG_7
  have r8_0 : rowAt w8 (w.heap.size) = some (.cells (exA t m) 60 (0, 0)) := rowNext' hb8 r7_0
  have c8_0 := lt_of_some r8_0
  have r8_1 : rowAt w8 (w.heap.size + 1) = some (.cells (tdA p b f l a i o v) 62 (0, 0)) := rowNext' hb8 r7_1
  have c8_1 := cellsTd r8_1
  have r8_2 : rowAt w8 (w1.heap.size) = some (.cells (exA p mb) 60 (0, 0)) := rowNext' hb8 r7_2
  have c8_2 := lt_of_some r8_2
  have r8_3 : rowAt w8 (w2.heap.size) = some (.cells (exA ta ma) 60 (0, 0)) := rowNext' hb8 r7_3
  have c8_3 := lt_of_some r8_3
  have r8_4 : rowAt w8 (w3.heap.size) = some (.cells (exA tg mg) 60 (0, 0)) := rowNext' hb8 r7_4
  have c8_4 := lt_of_some r8_4
  have r8_5 : rowAt w8 (w5.heap.size) = some (.cells (exA ta ma) 60 (0, 0)) := rowNext' hb8 r7_5
  have c8_5 := lt_of_some r8_5
  have r8_6 : rowAt w8 (w6.heap.size) = some (.cells (exA tg mg) 60 (0, 0)) := rowNext' hb8 r7_6
  have c8_6 := lt_of_some r8_6
  clear r7_0 c7_0 r7_1 c7_1 r7_2 c7_2 r7_3 c7_3 r7_4 c7_4 r7_5 c7_5 r7_6 c7_6 hb7 HB7 hs7
  go_wp2_with fail
  refine (refMay9_eq HPB.out _).mono ?_
  rintro e w9 ⟨rfl, hb9⟩
  have HB9 := hid (below_step HB8.out (by first | omega | (simp [putRow_size, drewN_heap, drew_heap] <;> omega)) hb9)
  have hs9 : w.heap.size ≤ w9.heap.size := HB9.out.size
  have ZB_9 : Hid (KB w9 LB) := hid (MKB.out _ _ _ ZB_8.out ((Below.refl _ _).trans (hb9.mono (by first | exact Nat.le_refl _ | (simp <;> omega)))))
  have ZA_9 : Hid (KA w9 LA) := hid (MKA.out _ _ _ ZA_8.out ((Below.refl _ _).trans (hb9.mono (by first | exact Nat.le_refl _ | (simp <;> omega)))))
  have ZG_9 : Hid (KG w9 LG) := hid (MKG.out _ _ _ ZG_8.out ((Below.refl _ _).trans (hb9.mono (by first | exact Nat.le_refl _ | (simp <;> omega)))))
  have ZAA_9 : Hid (KA w9 LA2) := hid (MKA.out _ _ _ ZAA_8.out ((Below.refl _ _).trans (hb9.mono (by first | exact Nat.le_refl _ | (simp <;> omega)))))
  have ZGG_9 : Hid (KG w9 LG2) := hid (MKG.out _ _ _ ZGG_8.out ((Below.refl _ _).trans (hb9.mono (by first | exact Nat.le_refl _ | (simp <;> omega)))))
  clear ZB_8 ZA_8 ZG_8 ZAA_8 ZGG_8
  have r9_0 : rowAt w9 (w.heap.size) = some (.cells (exA t m) 60 (0, 0)) := rowNext' hb9 r8_0
  have c9_0 := lt_of_some r9_0
  have r9_1 : rowAt w9 (w.heap.size + 1) = some (.cells (tdA p b f l a i o v) 62 (0, 0)) := rowNext' hb9 r8_1
  have c9_1 := cellsTd r9_1
  have r9_2 : rowAt w9 (w1.heap.size) = some (.cells (exA p mb) 60 (0, 0)) := rowNext' hb9 r8_2
  have c9_2 := lt_of_some r9_2
  have r9_3 : rowAt w9 (w2.heap.size) = some (.cells (exA ta ma) 60 (0, 0)) := rowNext' hb9 r8_3
  have c9_3 := lt_of_some r9_3
  have r9_4 : rowAt w9 (w3.heap.size) = some (.cells (exA tg mg) 60 (0, 0)) := rowNext' hb9 r8_4
  have c9_4 := lt_of_some r9_4
  have r9_5 : rowAt w9 (w5.heap.size) = some (.cells (exA ta ma) 60 (0, 0)) := rowNext' hb9 r8_5
  have c9_5 := lt_of_some r9_5
  have r9_6 : rowAt w9 (w6.heap.size) = some (.cells (exA tg mg) 60 (0, 0)) := rowNext' hb9 r8_6
  have c9_6 := lt_of_some r9_6
  clear r8_0 c8_0 r8_1 c8_1 r8_2 c8_2 r8_3 c8_3 r8_4 c8_4 r8_5 c8_5 r8_6 c8_6 hb8 HB8 hs8
  go_wp2_with fail
  refine (HB2.out _).mono ?_
  rintro e w10 ⟨LB2, rfl, hk10, hb10⟩
  have HB10 := hid (below_step HB9.out (by first | omega | (simp [putRow_size, drewN_heap, drew_heap] <;> omega)) hb10)
  have hs10 : w.heap.size ≤ w10.heap.size := HB10.out.size
  have ZB_10 : Hid (KB w10 LB) := hid (MKB.out _ _ _ ZB_9.out ((Below.refl _ _).trans (hb10.mono (by first | exact Nat.le_refl _ | (simp <;> omega)))))
  have ZA_10 : Hid (KA w10 LA) := hid (MKA.out _ _ _ ZA_9.out ((Below.refl _ _).trans (hb10.mono (by first | exact Nat.le_refl _ | (simp <;> omega)))))
  have ZG_10 : Hid (KG w10 LG) := hid (MKG.out _ _ _ ZG_9.out ((Below.refl _ _).trans (hb10.mono (by first | exact Nat.le_refl _ | (simp <;> omega)))))
  have ZAA_10 : Hid (KA w10 LA2) := hid (MKA.out _ _ _ ZAA_9.out ((Below.refl _ _).trans (hb10.mono (by first | exact Nat.le_refl _ | (simp <;> omega)))))
  have ZGG_10 : Hid (KG w10 LG2) := hid (MKG.out _ _ _ ZGG_9.out ((Below.refl _ _).trans (hb10.mono (by first | exact Nat.le_refl _ | (simp <;> omega)))))
  have ZBB_10 : Hid (KB w10 LB2) := hid hk10
  clear hk10
  clear ZB_9 ZA_9 ZG_9 ZAA_9 ZGG_9
  have r10_0 : rowAt w10 (w.heap.size) = some (.cells (exA t m) 60 (0, 0)) := rowNext' hb10 r9_0
  have c10_0 := lt_of_some r10_0
  have r10_1 : rowAt w10 (w.heap.size + 1) = some (.cells (tdA p b f l a i o v) 62 (0, 0)) := rowNext' hb10 r9_1
  have c10_1 := cellsTd r10_1
  have r10_2 : rowAt w10 (w1.heap.size) = some (.cells (exA p mb) 60 (0, 0)) := rowNext' hb10 r9_2
  have c10_2 := lt_of_some r10_2
  have r10_3 : rowAt w10 (w2.heap.size) = some (.cells (exA ta ma) 60 (0, 0)) := rowNext' hb10 r9_3
  have c10_3 := lt_of_some r10_3
  have r10_4 : rowAt w10 (w3.heap.size) = some (.cells (exA tg mg) 60 (0, 0)) := rowNext' hb10 r9_4
  have c10_4 := lt_of_some r10_4
  have r10_5 : rowAt w10 (w5.heap.size) = some (.cells (exA ta ma) 60 (0, 0)) := rowNext' hb10 r9_5
  have c10_5 := lt_of_some r10_5
  have r10_6 : rowAt w10 (w6.heap.size) = some (.cells (exA tg mg) 60 (0, 0)) := rowNext' hb10 r9_6
  have c10_6 := lt_of_some r10_6
  clear r9_0 c9_0 r9_1 c9_1 r9_2 c9_2 r9_3 c9_3 r9_4 c9_4 r9_5 c9_5 r9_6 c9_6 hb9 HB9 hs9
  go_wp2_with fail
  refine (SKB.out _ _ _ (MKB.out _ _ _ ZB_10.out ((Below.refl _ _).alloc (by first | exact Nat.le_refl _ | (simp <;> omega)) _)) (MKB.out _ _ _ ZBB_10.out ((Below.refl _ _).alloc (by first | exact Nat.le_refl _ | (simp <;> omega)) _))).mono ?_
  rintro e w11 ⟨rfl, hb11⟩
  have HB11 := hid (below_step (HB10.out.alloc (by first | omega | (simp [putRow_size, drewN_heap, drew_heap] <;> omega)) _) (by first | omega | (simp [putRow_size, drewN_heap, drew_heap] <;> omega)) hb11)
  have hs11 : w.heap.size ≤ w11.heap.size := HB11.out.size
  have ZB_11 : Hid (KB w11 LB) := hid (MKB.out _ _ _ ZB_10.out (((Below.refl _ _).alloc (by first | exact Nat.le_refl _ | (simp <;> omega)) _).trans (hb11.mono (by first | exact Nat.le_refl _ | (simp <;> omega)))))
  have ZA_11 : Hid (KA w11 LA) := hid (MKA.out _ _ _ ZA_10.out (((Below.refl _ _).alloc (by first | exact Nat.le_refl _ | (simp <;> omega)) _).trans (hb11.mono (by first | exact Nat.le_refl _ | (simp <;> omega)))))
  have ZG_11 : Hid (KG w11 LG) := hid (MKG.out _ _ _ ZG_10.out (((Below.refl _ _).alloc (by first | exact Nat.le_refl _ | (simp <;> omega)) _).trans (hb11.mono (by first | exact Nat.le_refl _ | (simp <;> omega)))))
  have ZAA_11 : Hid (KA w11 LA2) := hid (MKA.out _ _ _ ZAA_10.out (((Below.refl _ _).alloc (by first | exact Nat.le_refl _ | (simp <;> omega)) _).trans (hb11.mono (by first | exact Nat.le_refl _ | (simp <;> omega)))))
  have ZGG_11 : Hid (KG w11 LG2) := hid (MKG.out _ _ _ ZGG_10.out (((Below.refl _ _).alloc (by first | exact Nat.le_refl _ | (simp <;> omega)) _).trans (hb11.mono (by first | exact Nat.le_refl _ | (simp <;> omega)))))
  have ZBB_11 : Hid (KB w11 LB2) := hid (MKB.out _ _ _ ZBB_10.out (((Below.refl _ _).alloc (by first | exact Nat.le_refl _ | (simp <;> omega)) _).trans (hb11.mono (by first | exact Nat.le_refl _ | (simp <;> omega)))))
  clear ZB_10 ZA_10 ZG_10 ZAA_10 ZGG_10 ZBB_10
  have r11_0 : rowAt w11 (w.heap.size) = some (.cells (exA t m) 60 (0, 0)) := rowNext' hb11 (by rw [rowAt_old _ _ _ (by first | omega | (simp [putRow_size, drewN_heap, drew_heap] <;> omega))]; exact r10_0)
  have c11_0 := lt_of_some r11_0
  have r11_1 : rowAt w11 (w.heap.size + 1) = some (.cells (tdA p b f l a i o v) 62 (0, 0)) := rowNext' hb11 (by rw [rowAt_old _ _ _ (by first | omega | (simp [putRow_size, drewN_heap, drew_heap] <;> omega))]; exact r10_1)
  have c11_1 := cellsTd r11_1
  have r11_2 : rowAt w11 (w1.heap.size) = some (.cells (exA p mb) 60 (0, 0)) := rowNext' hb11 (by rw [rowAt_old _ _ _ (by first | omega | (simp [putRow_size, drewN_heap, drew_heap] <;> omega))]; exact r10_2)
  have c11_2 := lt_of_some r11_2
  have r11_3 : rowAt w11 (w2.heap.size) = some (.cells (exA ta ma) 60 (0, 0)) := rowNext' hb11 (by rw [rowAt_old _ _ _ (by first | omega | (simp [putRow_size, drewN_heap, drew_heap] <;> omega))]; exact r10_3)
  have c11_3 := lt_of_some r11_3
  have r11_4 : rowAt w11 (w3.heap.size) = some (.cells (exA tg mg) 60 (0, 0)) := rowNext' hb11 (by rw [rowAt_old _ _ _ (by first | omega | (simp [putRow_size, drewN_heap, drew_heap] <;> omega))]; exact r10_4)
  have c11_4 := lt_of_some r11_4
  have r11_5 : rowAt w11 (w5.heap.size) = some (.cells (exA ta ma) 60 (0, 0)) := rowNext' hb11 (by rw [rowAt_old _ _ _ (by first | omega | (simp [putRow_size, drewN_heap, drew_heap] <;> omega))]; exact r10_5)
  have c11_5 := lt_of_some r11_5
  have r11_6 : rowAt w11 (w6.heap.size) = some (.cells (exA tg mg) 60 (0, 0)) := rowNext' hb11 (by rw [rowAt_old _ _ _ (by first | omega | (simp [putRow_size, drewN_heap, drew_heap] <;> omega))]; exact r10_6)
  have c11_6 := lt_of_some r11_6
  have r11_7 : rowAt w11 (w10.heap.size) = some (.cells (exA p mb) 60 (0, 0)) := rowNext' hb11 (by rw [rowAt_new _ _ _ (by first | omega | (simp [putRow_size, drewN_heap, drew_heap] <;> omega))])
  have c11_7 := lt_of_some r11_7
  clear r10_0 c10_0 r10_1 c10_1 r10_2 c10_2 r10_3 c10_3 r10_4 c10_4 r10_5 c10_5 r10_6 c10_6 hb10 HB10 hs10
  go_wp2_with fail
  refine (awake17 _).mono ?_
  rintro e w12 ⟨rfl, hb12⟩
  have HB12 := hid (below_step HB11.out (by first | omega | (simp [putRow_size, drewN_heap, drew_heap] <;> omega)) hb12)
  have hs12 : w.heap.size ≤ w12.heap.size := HB12.out.size
  have ZB_12 : Hid (KB w12 LB) := hid (MKB.out _ _ _ ZB_11.out ((Below.refl _ _).trans (hb12.mono (by first | exact Nat.le_refl _ | (simp <;> omega)))))
  have ZA_12 : Hid (KA w12 LA) := hid (MKA.out _ _ _ ZA_11.out ((Below.refl _ _).trans (hb12.mono (by first | exact Nat.le_refl _ | (simp <;> omega)))))
  have ZG_12 : Hid (KG w12 LG) := hid (MKG.out _ _ _ ZG_11.out ((Below.refl _ _).trans (hb12.mono (by first | exact Nat.le_refl _ | (simp <;> omega)))))
  have ZAA_12 : Hid (KA w12 LA2) := hid (MKA.out _ _ _ ZAA_11.out ((Below.refl _ _).trans (hb12.mono (by first | exact Nat.le_refl _ | (simp <;> omega)))))
  have ZGG_12 : Hid (KG w12 LG2) := hid (MKG.out _ _ _ ZGG_11.out ((Below.refl _ _).trans (hb12.mono (by first | exact Nat.le_refl _ | (simp <;> omega)))))
  have ZBB_12 : Hid (KB w12 LB2) := hid (MKB.out _ _ _ ZBB_11.out ((Below.refl _ _).trans (hb12.mono (by first | exact Nat.le_refl _ | (simp <;> omega)))))
  clear ZB_11 ZA_11 ZG_11 ZAA_11 ZGG_11 ZBB_11
  have r12_0 : rowAt w12 (w.heap.size) = some (.cells (exA t m) 60 (0, 0)) := rowNext' hb12 r11_0
  have c12_0 := lt_of_some r12_0
  have r12_1 : rowAt w12 (w.heap.size + 1) = some (.cells (tdA p b f l a i o v) 62 (0, 0)) := rowNext' hb12 r11_1
  have c12_1 := cellsTd r12_1
  have r12_2 : rowAt w12 (w1.heap.size) = some (.cells (exA p mb) 60 (0, 0)) := rowNext' hb12 r11_2
  have c12_2 := lt_of_some r12_2
  have r12_3 : rowAt w12 (w2.heap.size) = some (.cells (exA ta ma) 60 (0, 0)) := rowNext' hb12 r11_3
  have c12_3 := lt_of_some r12_3
  have r12_4 : rowAt w12 (w3.heap.size) = some (.cells (exA tg mg) 60 (0, 0)) := rowNext' hb12 r11_4
  have c12_4 := lt_of_some r12_4
  have r12_5 : rowAt w12 (w5.heap.size) = some (.cells (exA ta ma) 60 (0, 0)) := rowNext' hb12 r11_5
  have c12_5 := lt_of_some r12_5
  have r12_6 : rowAt w12 (w6.heap.size) = some (.cells (exA tg mg) 60 (0, 0)) := rowNext' hb12 r11_6
  have c12_6 := lt_of_some r12_6
  have r12_7 : rowAt w12 (w10.heap.size) = some (.cells (exA p mb) 60 (0, 0)) := rowNext' hb12 r11_7
  have c12_7 := lt_of_some r12_7
  clear r11_0 c11_0 r11_1 c11_1 r11_2 c11_2 r11_3 c11_3 r11_4 c11_4 r11_5 c11_5 r11_6 c11_6 r11_7 c11_7 hb11 HB11 hs11
  go_wp2_with fail
  go_ret
  exact ⟨rfl, HB12.out⟩

set_option maxHeartbeats 2000000 in
set_option maxRecDepth 100000 in
theorem tells_nx (t ta tg : Tb) (m ma mg : Wt) (p : Tb) (b : Bool) (f l : Int) (a i o : Bool) (v ea eg : Int) (KA KG KB : World → Value → Prop) (MKA : Hid (∀ (W W' : World) (L : Value), KA W L → Below W.heap.size W W' → KA W' L)) (SKA : Hid (∀ (W : World) (L L' : Value), KA W L → KA W L' → Calls Try.prog 29 #[L, L'] W fun e w' => e = .returned (.bool true) ∧ Below W.heap.size W w')) (MKG : Hid (∀ (W W' : World) (L : Value), KG W L → Below W.heap.size W W' → KG W' L)) (SKG : Hid (∀ (W : World) (L L' : Value), KG W L → KG W L' → Calls Try.prog 29 #[L, L'] W fun e w' => e = .returned (.bool true) ∧ Below W.heap.size W w')) (MKB : Hid (∀ (W W' : World) (L : Value), KB W L → Below W.heap.size W W' → KB W' L)) (SKB : Hid (∀ (W : World) (L L' : Value), KB W L → KB W L' → Calls Try.prog 29 #[L, L'] W fun e w' => e = .returned (.bool true) ∧ Below W.heap.size W w')) (HA : Hid (∀ W, Calls Try.prog 34 #[.agg (exA t m), .agg #[.int .i64 f, .int .i64 l, .bool a, .bool i, .bool o, .int .u8 v]] W fun e w' => ∃ L, e = .returned (.tuple #[.agg (exA ta ma), L, .int .i64 ea]) ∧ KA w' L ∧ Below W.heap.size W w')) (HA2 : Hid (∀ W, Calls Try.prog 37 #[.agg (exA t m), .agg #[.int .i64 f, .int .i64 l, .bool a, .bool i, .bool o, .int .u8 v]] W fun e w' => ∃ L, e = .returned (.tuple #[.agg (exA ta ma), L, .int .i64 ea]) ∧ KA w' L ∧ Below W.heap.size W w')) (HG : Hid (∀ W, Calls Try.prog 31 #[.agg (exA t m), .agg (tabA p), .bool b, .agg #[.int .i64 f, .int .i64 l, .bool a, .bool i, .bool o, .int .u8 v]] W fun e w' => ∃ L, e = .returned (.tuple #[.agg (exA tg mg), L, .int .i64 eg]) ∧ KG w' L ∧ Below W.heap.size W w')) (HG2 : Hid (∀ W, Calls Try.prog 38 #[.agg (exA t m), .agg (tabA p), .bool b, .agg #[.int .i64 f, .int .i64 l, .bool a, .bool i, .bool o, .int .u8 v]] W fun e w' => ∃ L, e = .returned (.tuple #[.agg (exA tg mg), L, .int .i64 eg]) ∧ KG w' L ∧ Below W.heap.size W w')) (HB : Hid (tabErr p = 1)) (HX : Hid (exErr t m = 0)) (HM : Hid (MayIs t m true)) (HPB : Hid (decide (tabOk p) = false)) (w : World) :
    Calls Try.prog 12 #[.agg (exA t m), .agg (tdA p b f l a i o v)] w fun e w' => e = .returned (.bool true) ∧ Below w.heap.size w w' := by
  go_enter Try.func12, Try.ntmps12
  go_wp2_with fail
  refine (begin_no p b HB.out _).mono ?_
  rintro e w1 ⟨rfl, hb1⟩
  have HB1 := hid (below_step (((Below.refl w.heap.size w).alloc (by first | omega | (simp [putRow_size, drewN_heap, drew_heap] <;> omega)) _).alloc (by first | omega | (simp [putRow_size, drewN_heap, drew_heap] <;> omega)) _) (by first | omega | (simp [putRow_size, drewN_heap, drew_heap] <;> omega)) hb1)
  have hs1 : w.heap.size ≤ w1.heap.size := HB1.out.size
  have r1_0 : rowAt w1 (w.heap.size) = some (.cells (exA t m) 60 (0, 0)) := rowNext' hb1 (by rw [rowAt_old _ _ _ (by first | omega | (simp [putRow_size, drewN_heap, drew_heap] <;> omega)), rowAt_new _ _ _ (by first | omega | (simp [putRow_size, drewN_heap, drew_heap] <;> omega))])
  have c1_0 := lt_of_some r1_0
  have r1_1 : rowAt w1 (w.heap.size + 1) = some (.cells (tdA p b f l a i o v) 62 (0, 0)) := rowNext' hb1 (by rw [rowAt_new _ _ _ (by first | omega | (simp [putRow_size, drewN_heap, drew_heap] <;> omega))])
  have c1_1 := cellsTd r1_1
  go_wp2_with fail
  refine (HA.out _).mono ?_
  rintro e w2 ⟨LA, rfl, hk2, hb2⟩
  have HB2 := hid (below_step (HB1.out.alloc (by first | omega | (simp [putRow_size, drewN_heap, drew_heap] <;> omega)) _) (by first | omega | (simp [putRow_size, drewN_heap, drew_heap] <;> omega)) hb2)
  have hs2 : w.heap.size ≤ w2.heap.size := HB2.out.size
  have ZA_2 : Hid (KA w2 LA) := hid hk2
  clear hk2
  have r2_0 : rowAt w2 (w.heap.size) = some (.cells (exA t m) 60 (0, 0)) := rowNext' hb2 (by rw [rowAt_old _ _ _ (by first | omega | (simp [putRow_size, drewN_heap, drew_heap] <;> omega))]; exact r1_0)
  have c2_0 := lt_of_some r2_0
  have r2_1 : rowAt w2 (w.heap.size + 1) = some (.cells (tdA p b f l a i o v) 62 (0, 0)) := rowNext' hb2 (by rw [rowAt_old _ _ _ (by first | omega | (simp [putRow_size, drewN_heap, drew_heap] <;> omega))]; exact r1_1)
  have c2_1 := cellsTd r2_1
  have r2_2 : rowAt w2 (w1.heap.size) = some (.cells (exA zeroT zeroW) 60 (0, 0)) := rowNext' hb2 (by rw [rowAt_new _ _ _ (by first | omega | (simp [putRow_size, drewN_heap, drew_heap] <;> omega))])
  have c2_2 := lt_of_some r2_2
  clear r1_0 c1_0 r1_1 c1_1 hb1 HB1 hs1
  go_wp2_with fail
  refine (HG.out _).mono ?_
  rintro e w3 ⟨LG, rfl, hk3, hb3⟩
  have HB3 := hid (below_step (HB2.out.alloc (by first | omega | (simp [putRow_size, drewN_heap, drew_heap] <;> omega)) _) (by first | omega | (simp [putRow_size, drewN_heap, drew_heap] <;> omega)) hb3)
  have hs3 : w.heap.size ≤ w3.heap.size := HB3.out.size
  have ZA_3 : Hid (KA w3 LA) := hid (MKA.out _ _ _ ZA_2.out (((Below.refl _ _).alloc (by first | exact Nat.le_refl _ | (simp <;> omega)) _).trans (hb3.mono (by first | exact Nat.le_refl _ | (simp <;> omega)))))
  have ZG_3 : Hid (KG w3 LG) := hid hk3
  clear hk3
  clear ZA_2
  have r3_0 : rowAt w3 (w.heap.size) = some (.cells (exA t m) 60 (0, 0)) := rowNext' hb3 (by rw [rowAt_old _ _ _ (by first | omega | (simp [putRow_size, drewN_heap, drew_heap] <;> omega))]; exact r2_0)
  have c3_0 := lt_of_some r3_0
  have r3_1 : rowAt w3 (w.heap.size + 1) = some (.cells (tdA p b f l a i o v) 62 (0, 0)) := rowNext' hb3 (by rw [rowAt_old _ _ _ (by first | omega | (simp [putRow_size, drewN_heap, drew_heap] <;> omega))]; exact r2_1)
  have c3_1 := cellsTd r3_1
  have r3_2 : rowAt w3 (w1.heap.size) = some (.cells (exA zeroT zeroW) 60 (0, 0)) := rowNext' hb3 (by rw [rowAt_old _ _ _ (by first | omega | (simp [putRow_size, drewN_heap, drew_heap] <;> omega))]; exact r2_2)
  have c3_2 := lt_of_some r3_2
  have r3_3 : rowAt w3 (w2.heap.size) = some (.cells (exA ta ma) 60 (0, 0)) := rowNext' hb3 (by rw [rowAt_new _ _ _ (by first | omega | (simp [putRow_size, drewN_heap, drew_heap] <;> omega))])
  have c3_3 := lt_of_some r3_3
  clear r2_0 c2_0 r2_1 c2_1 r2_2 c2_2 hb2 HB2 hs2
  go_wp2_with fail
  refine wp_region_goodw (by kernel_rfl) (by kernel_rfl) ?_
  intro W4 hW4
  have R4_0 : rowAt W4 (w.heap.size) = some (.cells (exA t m) 60 (0, 0)) := by rw [hW4]; rw [rowAt_old _ _ _ (by first | omega | (simp [putRow_size, drewN_heap, drew_heap] <;> omega))]; exact r3_0
  have R4_1 : rowAt W4 (w.heap.size + 1) = some (.cells (tdA p b f l a i o v) 62 (0, 0)) := by rw [hW4]; rw [rowAt_old _ _ _ (by first | omega | (simp [putRow_size, drewN_heap, drew_heap] <;> omega))]; exact r3_1
  have R4_2 : rowAt W4 (w1.heap.size) = some (.cells (exA zeroT zeroW) 60 (0, 0)) := by rw [hW4]; rw [rowAt_old _ _ _ (by first | omega | (simp [putRow_size, drewN_heap, drew_heap] <;> omega))]; exact r3_2
  have R4_3 : rowAt W4 (w2.heap.size) = some (.cells (exA ta ma) 60 (0, 0)) := by rw [hW4]; rw [rowAt_old _ _ _ (by first | omega | (simp [putRow_size, drewN_heap, drew_heap] <;> omega))]; exact r3_3
  have R4_4 : rowAt W4 (w3.heap.size) = some (.cells (exA tg mg) 60 (0, 0)) := by rw [hW4]; rw [rowAt_new _ _ _ (by first | omega | (simp [putRow_size, drewN_heap, drew_heap] <;> omega))]
  have BW4 : Below w.heap.size w W4 := by rw [hW4]; exact (HB3.out.alloc (by first | omega | (simp [putRow_size, drewN_heap, drew_heap] <;> omega)) _)
  have ZA_W : Hid (KA W4 LA) := hid (by rw [hW4]; exact MKA.out _ _ _ ZA_3.out ((Below.refl _ _).alloc (by first | exact Nat.le_refl _ | (simp <;> omega)) _))
  have ZG_W : Hid (KG W4 LG) := hid (by rw [hW4]; exact MKG.out _ _ _ ZG_3.out ((Below.refl _ _).alloc (by first | exact Nat.le_refl _ | (simp <;> omega)) _))
  clear hW4
  have g4_0 := goodRow R4_0
  have cg4_0 := fun x => lt_of_some (g4_0 x)
  have g4_1 := goodRow R4_1
  have cg4_1 := fun x => lt_of_some (g4_1 x)
  have g4_2 := goodRow R4_2
  have cg4_2 := fun x => lt_of_some (g4_2 x)
  have g4_3 := goodRow R4_3
  have cg4_3 := fun x => lt_of_some (g4_3 x)
  have g4_4 := goodRow R4_4
  have cg4_4 := fun x => lt_of_some (g4_4 x)
  iterate 1 (go_big_quiet_step (fail))
  go_big_quiet_step ((go_at_call 33; exact Calls.good (exCheck_eq HX.out _)))
  iterate 2 (go_big_quiet_step (fail))
  go_big_quiet_step ((go_at_call 36; exact Calls.good (refMay17_is HM.out _)))
  iterate 1 (go_big_quiet_step (fail))
  refine wpQuiet_nil ?_
  rintro w4 ⟨⟨_, hb4⟩, rfl⟩
  have ZA_4 : Hid (KA w4 LA) := hid (MKA.out _ _ _ ZA_W.out hb4)
  have ZG_4 : Hid (KG w4 LG) := hid (MKG.out _ _ _ ZG_W.out hb4)
  clear ZA_3 ZA_W ZG_3 ZG_W
  have HB4 := hid (BW4.trans (hb4.mono BW4.size))
  have hs4 : w.heap.size ≤ w4.heap.size := HB4.out.size
  have r4_0 : rowAt w4 (w.heap.size) = some (.cells (exA t m) 60 (0, 0)) := rowNext' hb4 R4_0
  have c4_0 := lt_of_some r4_0
  have r4_1 : rowAt w4 (w.heap.size + 1) = some (.cells (tdA p b f l a i o v) 62 (0, 0)) := rowNext' hb4 R4_1
  have c4_1 := cellsTd r4_1
  have r4_2 : rowAt w4 (w1.heap.size) = some (.cells (exA zeroT zeroW) 60 (0, 0)) := rowNext' hb4 R4_2
  have c4_2 := lt_of_some r4_2
  have r4_3 : rowAt w4 (w2.heap.size) = some (.cells (exA ta ma) 60 (0, 0)) := rowNext' hb4 R4_3
  have c4_3 := lt_of_some r4_3
  have r4_4 : rowAt w4 (w3.heap.size) = some (.cells (exA tg mg) 60 (0, 0)) := rowNext' hb4 R4_4
  have c4_4 := lt_of_some r4_4
  clear R4_0 g4_0 cg4_0 r3_0 c3_0 R4_1 g4_1 cg4_1 r3_1 c3_1 R4_2 g4_2 cg4_2 r3_2 c3_2 R4_3 g4_3 cg4_3 r3_3 c3_3 R4_4 g4_4 cg4_4 hb3 HB3 hs3
  go_wp2_with fail
  refine (HA2.out _).mono ?_
  rintro e w5 ⟨LA2, rfl, hk5, hb5⟩
  have HB5 := hid (below_step HB4.out (by first | omega | (simp [putRow_size, drewN_heap, drew_heap] <;> omega)) hb5)
  have hs5 : w.heap.size ≤ w5.heap.size := HB5.out.size
  have ZA_5 : Hid (KA w5 LA) := hid (MKA.out _ _ _ ZA_4.out ((Below.refl _ _).trans (hb5.mono (by first | exact Nat.le_refl _ | (simp <;> omega)))))
  have ZG_5 : Hid (KG w5 LG) := hid (MKG.out _ _ _ ZG_4.out ((Below.refl _ _).trans (hb5.mono (by first | exact Nat.le_refl _ | (simp <;> omega)))))
  have ZAA_5 : Hid (KA w5 LA2) := hid hk5
  clear hk5
  clear ZA_4 ZG_4
  have r5_0 : rowAt w5 (w.heap.size) = some (.cells (exA t m) 60 (0, 0)) := rowNext' hb5 r4_0
  have c5_0 := lt_of_some r5_0
  have r5_1 : rowAt w5 (w.heap.size + 1) = some (.cells (tdA p b f l a i o v) 62 (0, 0)) := rowNext' hb5 r4_1
  have c5_1 := cellsTd r5_1
  have r5_2 : rowAt w5 (w1.heap.size) = some (.cells (exA zeroT zeroW) 60 (0, 0)) := rowNext' hb5 r4_2
  have c5_2 := lt_of_some r5_2
  have r5_3 : rowAt w5 (w2.heap.size) = some (.cells (exA ta ma) 60 (0, 0)) := rowNext' hb5 r4_3
  have c5_3 := lt_of_some r5_3
  have r5_4 : rowAt w5 (w3.heap.size) = some (.cells (exA tg mg) 60 (0, 0)) := rowNext' hb5 r4_4
  have c5_4 := lt_of_some r5_4
  clear r4_0 c4_0 r4_1 c4_1 r4_2 c4_2 r4_3 c4_3 r4_4 c4_4 hb4 HB4 hs4
  go_wp2_with fail
  refine (HG2.out _).mono ?_
  rintro e w6 ⟨LG2, rfl, hk6, hb6⟩
  have HB6 := hid (below_step (HB5.out.alloc (by first | omega | (simp [putRow_size, drewN_heap, drew_heap] <;> omega)) _) (by first | omega | (simp [putRow_size, drewN_heap, drew_heap] <;> omega)) hb6)
  have hs6 : w.heap.size ≤ w6.heap.size := HB6.out.size
  have ZA_6 : Hid (KA w6 LA) := hid (MKA.out _ _ _ ZA_5.out (((Below.refl _ _).alloc (by first | exact Nat.le_refl _ | (simp <;> omega)) _).trans (hb6.mono (by first | exact Nat.le_refl _ | (simp <;> omega)))))
  have ZG_6 : Hid (KG w6 LG) := hid (MKG.out _ _ _ ZG_5.out (((Below.refl _ _).alloc (by first | exact Nat.le_refl _ | (simp <;> omega)) _).trans (hb6.mono (by first | exact Nat.le_refl _ | (simp <;> omega)))))
  have ZAA_6 : Hid (KA w6 LA2) := hid (MKA.out _ _ _ ZAA_5.out (((Below.refl _ _).alloc (by first | exact Nat.le_refl _ | (simp <;> omega)) _).trans (hb6.mono (by first | exact Nat.le_refl _ | (simp <;> omega)))))
  have ZGG_6 : Hid (KG w6 LG2) := hid hk6
  clear hk6
  clear ZA_5 ZG_5 ZAA_5
  have r6_0 : rowAt w6 (w.heap.size) = some (.cells (exA t m) 60 (0, 0)) := rowNext' hb6 (by rw [rowAt_old _ _ _ (by first | omega | (simp [putRow_size, drewN_heap, drew_heap] <;> omega))]; exact r5_0)
  have c6_0 := lt_of_some r6_0
  have r6_1 : rowAt w6 (w.heap.size + 1) = some (.cells (tdA p b f l a i o v) 62 (0, 0)) := rowNext' hb6 (by rw [rowAt_old _ _ _ (by first | omega | (simp [putRow_size, drewN_heap, drew_heap] <;> omega))]; exact r5_1)
  have c6_1 := cellsTd r6_1
  have r6_2 : rowAt w6 (w1.heap.size) = some (.cells (exA zeroT zeroW) 60 (0, 0)) := rowNext' hb6 (by rw [rowAt_old _ _ _ (by first | omega | (simp [putRow_size, drewN_heap, drew_heap] <;> omega))]; exact r5_2)
  have c6_2 := lt_of_some r6_2
  have r6_3 : rowAt w6 (w2.heap.size) = some (.cells (exA ta ma) 60 (0, 0)) := rowNext' hb6 (by rw [rowAt_old _ _ _ (by first | omega | (simp [putRow_size, drewN_heap, drew_heap] <;> omega))]; exact r5_3)
  have c6_3 := lt_of_some r6_3
  have r6_4 : rowAt w6 (w3.heap.size) = some (.cells (exA tg mg) 60 (0, 0)) := rowNext' hb6 (by rw [rowAt_old _ _ _ (by first | omega | (simp [putRow_size, drewN_heap, drew_heap] <;> omega))]; exact r5_4)
  have c6_4 := lt_of_some r6_4
  have r6_5 : rowAt w6 (w5.heap.size) = some (.cells (exA ta ma) 60 (0, 0)) := rowNext' hb6 (by rw [rowAt_new _ _ _ (by first | omega | (simp [putRow_size, drewN_heap, drew_heap] <;> omega))])
  have c6_5 := lt_of_some r6_5
  clear r5_0 c5_0 r5_1 c5_1 r5_2 c5_2 r5_3 c5_3 r5_4 c5_4 hb5 HB5 hs5
  go_wp2_with fail
  refine (SKA.out _ _ _ (MKA.out _ _ _ ZA_6.out ((Below.refl _ _).alloc (by first | exact Nat.le_refl _ | (simp <;> omega)) _)) (MKA.out _ _ _ ZAA_6.out ((Below.refl _ _).alloc (by first | exact Nat.le_refl _ | (simp <;> omega)) _))).mono ?_
  rintro e w7 ⟨rfl, hb7⟩
  have HB7 := hid (below_step (HB6.out.alloc (by first | omega | (simp [putRow_size, drewN_heap, drew_heap] <;> omega)) _) (by first | omega | (simp [putRow_size, drewN_heap, drew_heap] <;> omega)) hb7)
  have hs7 : w.heap.size ≤ w7.heap.size := HB7.out.size
  have ZA_7 : Hid (KA w7 LA) := hid (MKA.out _ _ _ ZA_6.out (((Below.refl _ _).alloc (by first | exact Nat.le_refl _ | (simp <;> omega)) _).trans (hb7.mono (by first | exact Nat.le_refl _ | (simp <;> omega)))))
  have ZG_7 : Hid (KG w7 LG) := hid (MKG.out _ _ _ ZG_6.out (((Below.refl _ _).alloc (by first | exact Nat.le_refl _ | (simp <;> omega)) _).trans (hb7.mono (by first | exact Nat.le_refl _ | (simp <;> omega)))))
  have ZAA_7 : Hid (KA w7 LA2) := hid (MKA.out _ _ _ ZAA_6.out (((Below.refl _ _).alloc (by first | exact Nat.le_refl _ | (simp <;> omega)) _).trans (hb7.mono (by first | exact Nat.le_refl _ | (simp <;> omega)))))
  have ZGG_7 : Hid (KG w7 LG2) := hid (MKG.out _ _ _ ZGG_6.out (((Below.refl _ _).alloc (by first | exact Nat.le_refl _ | (simp <;> omega)) _).trans (hb7.mono (by first | exact Nat.le_refl _ | (simp <;> omega)))))
  clear ZA_6 ZG_6 ZAA_6 ZGG_6
  have r7_0 : rowAt w7 (w.heap.size) = some (.cells (exA t m) 60 (0, 0)) := rowNext' hb7 (by rw [rowAt_old _ _ _ (by first | omega | (simp [putRow_size, drewN_heap, drew_heap] <;> omega))]; exact r6_0)
  have c7_0 := lt_of_some r7_0
  have r7_1 : rowAt w7 (w.heap.size + 1) = some (.cells (tdA p b f l a i o v) 62 (0, 0)) := rowNext' hb7 (by rw [rowAt_old _ _ _ (by first | omega | (simp [putRow_size, drewN_heap, drew_heap] <;> omega))]; exact r6_1)
  have c7_1 := cellsTd r7_1
  have r7_2 : rowAt w7 (w1.heap.size) = some (.cells (exA zeroT zeroW) 60 (0, 0)) := rowNext' hb7 (by rw [rowAt_old _ _ _ (by first | omega | (simp [putRow_size, drewN_heap, drew_heap] <;> omega))]; exact r6_2)
  have c7_2 := lt_of_some r7_2
  have r7_3 : rowAt w7 (w2.heap.size) = some (.cells (exA ta ma) 60 (0, 0)) := rowNext' hb7 (by rw [rowAt_old _ _ _ (by first | omega | (simp [putRow_size, drewN_heap, drew_heap] <;> omega))]; exact r6_3)
  have c7_3 := lt_of_some r7_3
  have r7_4 : rowAt w7 (w3.heap.size) = some (.cells (exA tg mg) 60 (0, 0)) := rowNext' hb7 (by rw [rowAt_old _ _ _ (by first | omega | (simp [putRow_size, drewN_heap, drew_heap] <;> omega))]; exact r6_4)
  have c7_4 := lt_of_some r7_4
  have r7_5 : rowAt w7 (w5.heap.size) = some (.cells (exA ta ma) 60 (0, 0)) := rowNext' hb7 (by rw [rowAt_old _ _ _ (by first | omega | (simp [putRow_size, drewN_heap, drew_heap] <;> omega))]; exact r6_5)
  have c7_5 := lt_of_some r7_5
  have r7_6 : rowAt w7 (w6.heap.size) = some (.cells (exA tg mg) 60 (0, 0)) := rowNext' hb7 (by rw [rowAt_new _ _ _ (by first | omega | (simp [putRow_size, drewN_heap, drew_heap] <;> omega))])
  have c7_6 := lt_of_some r7_6
  clear r6_0 c6_0 r6_1 c6_1 r6_2 c6_2 r6_3 c6_3 r6_4 c6_4 r6_5 c6_5 hb6 HB6 hs6
  go_wp2_with fail
  refine (SKG.out _ _ _ (MKG.out _ _ _ ZG_7.out (Below.refl _ _)) (MKG.out _ _ _ ZGG_7.out (Below.refl _ _))).mono ?_
  rintro e w8 ⟨rfl, hb8⟩
  have HB8 := hid (below_step HB7.out (by first | omega | (simp [putRow_size, drewN_heap, drew_heap] <;> omega)) hb8)
  have hs8 : w.heap.size ≤ w8.heap.size := HB8.out.size
  have ZA_8 : Hid (KA w8 LA) := hid (MKA.out _ _ _ ZA_7.out ((Below.refl _ _).trans (hb8.mono (by first | exact Nat.le_refl _ | (simp <;> omega)))))
  have ZG_8 : Hid (KG w8 LG) := hid (MKG.out _ _ _ ZG_7.out ((Below.refl _ _).trans (hb8.mono (by first | exact Nat.le_refl _ | (simp <;> omega)))))
  have ZAA_8 : Hid (KA w8 LA2) := hid (MKA.out _ _ _ ZAA_7.out ((Below.refl _ _).trans (hb8.mono (by first | exact Nat.le_refl _ | (simp <;> omega)))))
  have ZGG_8 : Hid (KG w8 LG2) := hid (MKG.out _ _ _ ZGG_7.out ((Below.refl _ _).trans (hb8.mono (by first | exact Nat.le_refl _ | (simp <;> omega)))))
  clear ZA_7 ZG_7 ZAA_7 ZGG_7
  have r8_0 : rowAt w8 (w.heap.size) = some (.cells (exA t m) 60 (0, 0)) := rowNext' hb8 r7_0
  have c8_0 := lt_of_some r8_0
  have r8_1 : rowAt w8 (w.heap.size + 1) = some (.cells (tdA p b f l a i o v) 62 (0, 0)) := rowNext' hb8 r7_1
  have c8_1 := cellsTd r8_1
  have r8_2 : rowAt w8 (w1.heap.size) = some (.cells (exA zeroT zeroW) 60 (0, 0)) := rowNext' hb8 r7_2
  have c8_2 := lt_of_some r8_2
  have r8_3 : rowAt w8 (w2.heap.size) = some (.cells (exA ta ma) 60 (0, 0)) := rowNext' hb8 r7_3
  have c8_3 := lt_of_some r8_3
  have r8_4 : rowAt w8 (w3.heap.size) = some (.cells (exA tg mg) 60 (0, 0)) := rowNext' hb8 r7_4
  have c8_4 := lt_of_some r8_4
  have r8_5 : rowAt w8 (w5.heap.size) = some (.cells (exA ta ma) 60 (0, 0)) := rowNext' hb8 r7_5
  have c8_5 := lt_of_some r8_5
  have r8_6 : rowAt w8 (w6.heap.size) = some (.cells (exA tg mg) 60 (0, 0)) := rowNext' hb8 r7_6
  have c8_6 := lt_of_some r8_6
  clear r7_0 c7_0 r7_1 c7_1 r7_2 c7_2 r7_3 c7_3 r7_4 c7_4 r7_5 c7_5 r7_6 c7_6 hb7 HB7 hs7
  go_wp2_with fail
  refine (refMay9_eq HPB.out _).mono ?_
  rintro e w9 ⟨rfl, hb9⟩
  have HB9 := hid (below_step HB8.out (by first | omega | (simp [putRow_size, drewN_heap, drew_heap] <;> omega)) hb9)
  have hs9 : w.heap.size ≤ w9.heap.size := HB9.out.size
  have ZA_9 : Hid (KA w9 LA) := hid (MKA.out _ _ _ ZA_8.out ((Below.refl _ _).trans (hb9.mono (by first | exact Nat.le_refl _ | (simp <;> omega)))))
  have ZG_9 : Hid (KG w9 LG) := hid (MKG.out _ _ _ ZG_8.out ((Below.refl _ _).trans (hb9.mono (by first | exact Nat.le_refl _ | (simp <;> omega)))))
  have ZAA_9 : Hid (KA w9 LA2) := hid (MKA.out _ _ _ ZAA_8.out ((Below.refl _ _).trans (hb9.mono (by first | exact Nat.le_refl _ | (simp <;> omega)))))
  have ZGG_9 : Hid (KG w9 LG2) := hid (MKG.out _ _ _ ZGG_8.out ((Below.refl _ _).trans (hb9.mono (by first | exact Nat.le_refl _ | (simp <;> omega)))))
  clear ZA_8 ZG_8 ZAA_8 ZGG_8
  have r9_0 : rowAt w9 (w.heap.size) = some (.cells (exA t m) 60 (0, 0)) := rowNext' hb9 r8_0
  have c9_0 := lt_of_some r9_0
  have r9_1 : rowAt w9 (w.heap.size + 1) = some (.cells (tdA p b f l a i o v) 62 (0, 0)) := rowNext' hb9 r8_1
  have c9_1 := cellsTd r9_1
  have r9_2 : rowAt w9 (w1.heap.size) = some (.cells (exA zeroT zeroW) 60 (0, 0)) := rowNext' hb9 r8_2
  have c9_2 := lt_of_some r9_2
  have r9_3 : rowAt w9 (w2.heap.size) = some (.cells (exA ta ma) 60 (0, 0)) := rowNext' hb9 r8_3
  have c9_3 := lt_of_some r9_3
  have r9_4 : rowAt w9 (w3.heap.size) = some (.cells (exA tg mg) 60 (0, 0)) := rowNext' hb9 r8_4
  have c9_4 := lt_of_some r9_4
  have r9_5 : rowAt w9 (w5.heap.size) = some (.cells (exA ta ma) 60 (0, 0)) := rowNext' hb9 r8_5
  have c9_5 := lt_of_some r9_5
  have r9_6 : rowAt w9 (w6.heap.size) = some (.cells (exA tg mg) 60 (0, 0)) := rowNext' hb9 r8_6
  have c9_6 := lt_of_some r9_6
  clear r8_0 c8_0 r8_1 c8_1 r8_2 c8_2 r8_3 c8_3 r8_4 c8_4 r8_5 c8_5 r8_6 c8_6 hb8 HB8 hs8
  go_wp2_with (refine wpList_build_known rfl 60 #[] rfl #[] (by simp [Act.eval]) (.agg (exA zeroT zeroW)) (buildExch _) ?_)
  refine (awake17 _).mono ?_
  rintro e w10 ⟨rfl, hb10⟩
  have HB10 := hid (below_step HB9.out (by first | omega | (simp [putRow_size, drewN_heap, drew_heap] <;> omega)) hb10)
  have hs10 : w.heap.size ≤ w10.heap.size := HB10.out.size
  have ZA_10 : Hid (KA w10 LA) := hid (MKA.out _ _ _ ZA_9.out ((Below.refl _ _).trans (hb10.mono (by first | exact Nat.le_refl _ | (simp <;> omega)))))
  have ZG_10 : Hid (KG w10 LG) := hid (MKG.out _ _ _ ZG_9.out ((Below.refl _ _).trans (hb10.mono (by first | exact Nat.le_refl _ | (simp <;> omega)))))
  have ZAA_10 : Hid (KA w10 LA2) := hid (MKA.out _ _ _ ZAA_9.out ((Below.refl _ _).trans (hb10.mono (by first | exact Nat.le_refl _ | (simp <;> omega)))))
  have ZGG_10 : Hid (KG w10 LG2) := hid (MKG.out _ _ _ ZGG_9.out ((Below.refl _ _).trans (hb10.mono (by first | exact Nat.le_refl _ | (simp <;> omega)))))
  clear ZA_9 ZG_9 ZAA_9 ZGG_9
  have r10_0 : rowAt w10 (w.heap.size) = some (.cells (exA t m) 60 (0, 0)) := rowNext' hb10 r9_0
  have c10_0 := lt_of_some r10_0
  have r10_1 : rowAt w10 (w.heap.size + 1) = some (.cells (tdA p b f l a i o v) 62 (0, 0)) := rowNext' hb10 r9_1
  have c10_1 := cellsTd r10_1
  have r10_2 : rowAt w10 (w1.heap.size) = some (.cells (exA zeroT zeroW) 60 (0, 0)) := rowNext' hb10 r9_2
  have c10_2 := lt_of_some r10_2
  have r10_3 : rowAt w10 (w2.heap.size) = some (.cells (exA ta ma) 60 (0, 0)) := rowNext' hb10 r9_3
  have c10_3 := lt_of_some r10_3
  have r10_4 : rowAt w10 (w3.heap.size) = some (.cells (exA tg mg) 60 (0, 0)) := rowNext' hb10 r9_4
  have c10_4 := lt_of_some r10_4
  have r10_5 : rowAt w10 (w5.heap.size) = some (.cells (exA ta ma) 60 (0, 0)) := rowNext' hb10 r9_5
  have c10_5 := lt_of_some r10_5
  have r10_6 : rowAt w10 (w6.heap.size) = some (.cells (exA tg mg) 60 (0, 0)) := rowNext' hb10 r9_6
  have c10_6 := lt_of_some r10_6
  clear r9_0 c9_0 r9_1 c9_1 r9_2 c9_2 r9_3 c9_3 r9_4 c9_4 r9_5 c9_5 r9_6 c9_6 hb9 HB9 hs9
  go_wp2_with fail
  go_ret
  exact ⟨rfl, HB10.out⟩

set_option maxHeartbeats 2000000 in
set_option maxRecDepth 100000 in
theorem tells_ny (t ta tg : Tb) (m ma mg : Wt) (p : Tb) (b : Bool) (f l : Int) (a i o : Bool) (v ea eg : Int) (KA KG KB : World → Value → Prop) (MKA : Hid (∀ (W W' : World) (L : Value), KA W L → Below W.heap.size W W' → KA W' L)) (SKA : Hid (∀ (W : World) (L L' : Value), KA W L → KA W L' → Calls Try.prog 29 #[L, L'] W fun e w' => e = .returned (.bool true) ∧ Below W.heap.size W w')) (MKG : Hid (∀ (W W' : World) (L : Value), KG W L → Below W.heap.size W W' → KG W' L)) (SKG : Hid (∀ (W : World) (L L' : Value), KG W L → KG W L' → Calls Try.prog 29 #[L, L'] W fun e w' => e = .returned (.bool true) ∧ Below W.heap.size W w')) (MKB : Hid (∀ (W W' : World) (L : Value), KB W L → Below W.heap.size W W' → KB W' L)) (SKB : Hid (∀ (W : World) (L L' : Value), KB W L → KB W L' → Calls Try.prog 29 #[L, L'] W fun e w' => e = .returned (.bool true) ∧ Below W.heap.size W w')) (HA : Hid (∀ W, Calls Try.prog 34 #[.agg (exA t m), .agg #[.int .i64 f, .int .i64 l, .bool a, .bool i, .bool o, .int .u8 v]] W fun e w' => ∃ L, e = .returned (.tuple #[.agg (exA ta ma), L, .int .i64 ea]) ∧ KA w' L ∧ Below W.heap.size W w')) (HA2 : Hid (∀ W, Calls Try.prog 37 #[.agg (exA t m), .agg #[.int .i64 f, .int .i64 l, .bool a, .bool i, .bool o, .int .u8 v]] W fun e w' => ∃ L, e = .returned (.tuple #[.agg (exA ta ma), L, .int .i64 ea]) ∧ KA w' L ∧ Below W.heap.size W w')) (HG : Hid (∀ W, Calls Try.prog 31 #[.agg (exA t m), .agg (tabA p), .bool b, .agg #[.int .i64 f, .int .i64 l, .bool a, .bool i, .bool o, .int .u8 v]] W fun e w' => ∃ L, e = .returned (.tuple #[.agg (exA tg mg), L, .int .i64 eg]) ∧ KG w' L ∧ Below W.heap.size W w')) (HG2 : Hid (∀ W, Calls Try.prog 38 #[.agg (exA t m), .agg (tabA p), .bool b, .agg #[.int .i64 f, .int .i64 l, .bool a, .bool i, .bool o, .int .u8 v]] W fun e w' => ∃ L, e = .returned (.tuple #[.agg (exA tg mg), L, .int .i64 eg]) ∧ KG w' L ∧ Below W.heap.size W w')) (HB : Hid (tabErr p = 1)) (HX : Hid (exErr t m = 1)) (HM : Hid (MayIs t m false)) (HPB : Hid (decide (tabOk p) = false)) (w : World) :
    Calls Try.prog 12 #[.agg (exA t m), .agg (tdA p b f l a i o v)] w fun e w' => e = .returned (.bool true) ∧ Below w.heap.size w w' := by
  go_enter Try.func12, Try.ntmps12
  go_wp2_with fail
  refine (begin_no p b HB.out _).mono ?_
  rintro e w1 ⟨rfl, hb1⟩
  have HB1 := hid (below_step (((Below.refl w.heap.size w).alloc (by first | omega | (simp [putRow_size, drewN_heap, drew_heap] <;> omega)) _).alloc (by first | omega | (simp [putRow_size, drewN_heap, drew_heap] <;> omega)) _) (by first | omega | (simp [putRow_size, drewN_heap, drew_heap] <;> omega)) hb1)
  have hs1 : w.heap.size ≤ w1.heap.size := HB1.out.size
  have r1_0 : rowAt w1 (w.heap.size) = some (.cells (exA t m) 60 (0, 0)) := rowNext' hb1 (by rw [rowAt_old _ _ _ (by first | omega | (simp [putRow_size, drewN_heap, drew_heap] <;> omega)), rowAt_new _ _ _ (by first | omega | (simp [putRow_size, drewN_heap, drew_heap] <;> omega))])
  have c1_0 := lt_of_some r1_0
  have r1_1 : rowAt w1 (w.heap.size + 1) = some (.cells (tdA p b f l a i o v) 62 (0, 0)) := rowNext' hb1 (by rw [rowAt_new _ _ _ (by first | omega | (simp [putRow_size, drewN_heap, drew_heap] <;> omega))])
  have c1_1 := cellsTd r1_1
  go_wp2_with fail
  refine (HA.out _).mono ?_
  rintro e w2 ⟨LA, rfl, hk2, hb2⟩
  have HB2 := hid (below_step (HB1.out.alloc (by first | omega | (simp [putRow_size, drewN_heap, drew_heap] <;> omega)) _) (by first | omega | (simp [putRow_size, drewN_heap, drew_heap] <;> omega)) hb2)
  have hs2 : w.heap.size ≤ w2.heap.size := HB2.out.size
  have ZA_2 : Hid (KA w2 LA) := hid hk2
  clear hk2
  have r2_0 : rowAt w2 (w.heap.size) = some (.cells (exA t m) 60 (0, 0)) := rowNext' hb2 (by rw [rowAt_old _ _ _ (by first | omega | (simp [putRow_size, drewN_heap, drew_heap] <;> omega))]; exact r1_0)
  have c2_0 := lt_of_some r2_0
  have r2_1 : rowAt w2 (w.heap.size + 1) = some (.cells (tdA p b f l a i o v) 62 (0, 0)) := rowNext' hb2 (by rw [rowAt_old _ _ _ (by first | omega | (simp [putRow_size, drewN_heap, drew_heap] <;> omega))]; exact r1_1)
  have c2_1 := cellsTd r2_1
  have r2_2 : rowAt w2 (w1.heap.size) = some (.cells (exA zeroT zeroW) 60 (0, 0)) := rowNext' hb2 (by rw [rowAt_new _ _ _ (by first | omega | (simp [putRow_size, drewN_heap, drew_heap] <;> omega))])
  have c2_2 := lt_of_some r2_2
  clear r1_0 c1_0 r1_1 c1_1 hb1 HB1 hs1
  go_wp2_with fail
  refine (HG.out _).mono ?_
  rintro e w3 ⟨LG, rfl, hk3, hb3⟩
  have HB3 := hid (below_step (HB2.out.alloc (by first | omega | (simp [putRow_size, drewN_heap, drew_heap] <;> omega)) _) (by first | omega | (simp [putRow_size, drewN_heap, drew_heap] <;> omega)) hb3)
  have hs3 : w.heap.size ≤ w3.heap.size := HB3.out.size
  have ZA_3 : Hid (KA w3 LA) := hid (MKA.out _ _ _ ZA_2.out (((Below.refl _ _).alloc (by first | exact Nat.le_refl _ | (simp <;> omega)) _).trans (hb3.mono (by first | exact Nat.le_refl _ | (simp <;> omega)))))
  have ZG_3 : Hid (KG w3 LG) := hid hk3
  clear hk3
  clear ZA_2
  have r3_0 : rowAt w3 (w.heap.size) = some (.cells (exA t m) 60 (0, 0)) := rowNext' hb3 (by rw [rowAt_old _ _ _ (by first | omega | (simp [putRow_size, drewN_heap, drew_heap] <;> omega))]; exact r2_0)
  have c3_0 := lt_of_some r3_0
  have r3_1 : rowAt w3 (w.heap.size + 1) = some (.cells (tdA p b f l a i o v) 62 (0, 0)) := rowNext' hb3 (by rw [rowAt_old _ _ _ (by first | omega | (simp [putRow_size, drewN_heap, drew_heap] <;> omega))]; exact r2_1)
  have c3_1 := cellsTd r3_1
  have r3_2 : rowAt w3 (w1.heap.size) = some (.cells (exA zeroT zeroW) 60 (0, 0)) := rowNext' hb3 (by rw [rowAt_old _ _ _ (by first | omega | (simp [putRow_size, drewN_heap, drew_heap] <;> omega))]; exact r2_2)
  have c3_2 := lt_of_some r3_2
  have r3_3 : rowAt w3 (w2.heap.size) = some (.cells (exA ta ma) 60 (0, 0)) := rowNext' hb3 (by rw [rowAt_new _ _ _ (by first | omega | (simp [putRow_size, drewN_heap, drew_heap] <;> omega))])
  have c3_3 := lt_of_some r3_3
  clear r2_0 c2_0 r2_1 c2_1 r2_2 c2_2 hb2 HB2 hs2
  go_wp2_with fail
  refine wp_region_goodw (by kernel_rfl) (by kernel_rfl) ?_
  intro W4 hW4
  have R4_0 : rowAt W4 (w.heap.size) = some (.cells (exA t m) 60 (0, 0)) := by rw [hW4]; rw [rowAt_old _ _ _ (by first | omega | (simp [putRow_size, drewN_heap, drew_heap] <;> omega))]; exact r3_0
  have R4_1 : rowAt W4 (w.heap.size + 1) = some (.cells (tdA p b f l a i o v) 62 (0, 0)) := by rw [hW4]; rw [rowAt_old _ _ _ (by first | omega | (simp [putRow_size, drewN_heap, drew_heap] <;> omega))]; exact r3_1
  have R4_2 : rowAt W4 (w1.heap.size) = some (.cells (exA zeroT zeroW) 60 (0, 0)) := by rw [hW4]; rw [rowAt_old _ _ _ (by first | omega | (simp [putRow_size, drewN_heap, drew_heap] <;> omega))]; exact r3_2
  have R4_3 : rowAt W4 (w2.heap.size) = some (.cells (exA ta ma) 60 (0, 0)) := by rw [hW4]; rw [rowAt_old _ _ _ (by first | omega | (simp [putRow_size, drewN_heap, drew_heap] <;> omega))]; exact r3_3
  have R4_4 : rowAt W4 (w3.heap.size) = some (.cells (exA tg mg) 60 (0, 0)) := by rw [hW4]; rw [rowAt_new _ _ _ (by first | omega | (simp [putRow_size, drewN_heap, drew_heap] <;> omega))]
  have BW4 : Below w.heap.size w W4 := by rw [hW4]; exact (HB3.out.alloc (by first | omega | (simp [putRow_size, drewN_heap, drew_heap] <;> omega)) _)
  have ZA_W : Hid (KA W4 LA) := hid (by rw [hW4]; exact MKA.out _ _ _ ZA_3.out ((Below.refl _ _).alloc (by first | exact Nat.le_refl _ | (simp <;> omega)) _))
  have ZG_W : Hid (KG W4 LG) := hid (by rw [hW4]; exact MKG.out _ _ _ ZG_3.out ((Below.refl _ _).alloc (by first | exact Nat.le_refl _ | (simp <;> omega)) _))
  clear hW4
  have g4_0 := goodRow R4_0
  have cg4_0 := fun x => lt_of_some (g4_0 x)
  have g4_1 := goodRow R4_1
  have cg4_1 := fun x => lt_of_some (g4_1 x)
  have g4_2 := goodRow R4_2
  have cg4_2 := fun x => lt_of_some (g4_2 x)
  have g4_3 := goodRow R4_3
  have cg4_3 := fun x => lt_of_some (g4_3 x)
  have g4_4 := goodRow R4_4
  have cg4_4 := fun x => lt_of_some (g4_4 x)
  iterate 1 (go_big_quiet_step (fail))
  go_big_quiet_step ((go_at_call 33; exact Calls.good (exCheck_eq HX.out _)))
  iterate 2 (go_big_quiet_step (fail))
  go_big_quiet_step ((go_at_call 36; exact Calls.good (refMay17_is HM.out _)))
  iterate 1 (go_big_quiet_step (fail))
  refine wpQuiet_nil ?_
  rintro w4 ⟨⟨_, hb4⟩, rfl⟩
  have ZA_4 : Hid (KA w4 LA) := hid (MKA.out _ _ _ ZA_W.out hb4)
  have ZG_4 : Hid (KG w4 LG) := hid (MKG.out _ _ _ ZG_W.out hb4)
  clear ZA_3 ZA_W ZG_3 ZG_W
  have HB4 := hid (BW4.trans (hb4.mono BW4.size))
  have hs4 : w.heap.size ≤ w4.heap.size := HB4.out.size
  have r4_0 : rowAt w4 (w.heap.size) = some (.cells (exA t m) 60 (0, 0)) := rowNext' hb4 R4_0
  have c4_0 := lt_of_some r4_0
  have r4_1 : rowAt w4 (w.heap.size + 1) = some (.cells (tdA p b f l a i o v) 62 (0, 0)) := rowNext' hb4 R4_1
  have c4_1 := cellsTd r4_1
  have r4_2 : rowAt w4 (w1.heap.size) = some (.cells (exA zeroT zeroW) 60 (0, 0)) := rowNext' hb4 R4_2
  have c4_2 := lt_of_some r4_2
  have r4_3 : rowAt w4 (w2.heap.size) = some (.cells (exA ta ma) 60 (0, 0)) := rowNext' hb4 R4_3
  have c4_3 := lt_of_some r4_3
  have r4_4 : rowAt w4 (w3.heap.size) = some (.cells (exA tg mg) 60 (0, 0)) := rowNext' hb4 R4_4
  have c4_4 := lt_of_some r4_4
  clear R4_0 g4_0 cg4_0 r3_0 c3_0 R4_1 g4_1 cg4_1 r3_1 c3_1 R4_2 g4_2 cg4_2 r3_2 c3_2 R4_3 g4_3 cg4_3 r3_3 c3_3 R4_4 g4_4 cg4_4 hb3 HB3 hs3
  go_wp2_with fail
  refine (HA2.out _).mono ?_
  rintro e w5 ⟨LA2, rfl, hk5, hb5⟩
  have HB5 := hid (below_step HB4.out (by first | omega | (simp [putRow_size, drewN_heap, drew_heap] <;> omega)) hb5)
  have hs5 : w.heap.size ≤ w5.heap.size := HB5.out.size
  have ZA_5 : Hid (KA w5 LA) := hid (MKA.out _ _ _ ZA_4.out ((Below.refl _ _).trans (hb5.mono (by first | exact Nat.le_refl _ | (simp <;> omega)))))
  have ZG_5 : Hid (KG w5 LG) := hid (MKG.out _ _ _ ZG_4.out ((Below.refl _ _).trans (hb5.mono (by first | exact Nat.le_refl _ | (simp <;> omega)))))
  have ZAA_5 : Hid (KA w5 LA2) := hid hk5
  clear hk5
  clear ZA_4 ZG_4
  have r5_0 : rowAt w5 (w.heap.size) = some (.cells (exA t m) 60 (0, 0)) := rowNext' hb5 r4_0
  have c5_0 := lt_of_some r5_0
  have r5_1 : rowAt w5 (w.heap.size + 1) = some (.cells (tdA p b f l a i o v) 62 (0, 0)) := rowNext' hb5 r4_1
  have c5_1 := cellsTd r5_1
  have r5_2 : rowAt w5 (w1.heap.size) = some (.cells (exA zeroT zeroW) 60 (0, 0)) := rowNext' hb5 r4_2
  have c5_2 := lt_of_some r5_2
  have r5_3 : rowAt w5 (w2.heap.size) = some (.cells (exA ta ma) 60 (0, 0)) := rowNext' hb5 r4_3
  have c5_3 := lt_of_some r5_3
  have r5_4 : rowAt w5 (w3.heap.size) = some (.cells (exA tg mg) 60 (0, 0)) := rowNext' hb5 r4_4
  have c5_4 := lt_of_some r5_4
  clear r4_0 c4_0 r4_1 c4_1 r4_2 c4_2 r4_3 c4_3 r4_4 c4_4 hb4 HB4 hs4
  go_wp2_with fail
  refine (HG2.out _).mono ?_
  rintro e w6 ⟨LG2, rfl, hk6, hb6⟩
  have HB6 := hid (below_step (HB5.out.alloc (by first | omega | (simp [putRow_size, drewN_heap, drew_heap] <;> omega)) _) (by first | omega | (simp [putRow_size, drewN_heap, drew_heap] <;> omega)) hb6)
  have hs6 : w.heap.size ≤ w6.heap.size := HB6.out.size
  have ZA_6 : Hid (KA w6 LA) := hid (MKA.out _ _ _ ZA_5.out (((Below.refl _ _).alloc (by first | exact Nat.le_refl _ | (simp <;> omega)) _).trans (hb6.mono (by first | exact Nat.le_refl _ | (simp <;> omega)))))
  have ZG_6 : Hid (KG w6 LG) := hid (MKG.out _ _ _ ZG_5.out (((Below.refl _ _).alloc (by first | exact Nat.le_refl _ | (simp <;> omega)) _).trans (hb6.mono (by first | exact Nat.le_refl _ | (simp <;> omega)))))
  have ZAA_6 : Hid (KA w6 LA2) := hid (MKA.out _ _ _ ZAA_5.out (((Below.refl _ _).alloc (by first | exact Nat.le_refl _ | (simp <;> omega)) _).trans (hb6.mono (by first | exact Nat.le_refl _ | (simp <;> omega)))))
  have ZGG_6 : Hid (KG w6 LG2) := hid hk6
  clear hk6
  clear ZA_5 ZG_5 ZAA_5
  have r6_0 : rowAt w6 (w.heap.size) = some (.cells (exA t m) 60 (0, 0)) := rowNext' hb6 (by rw [rowAt_old _ _ _ (by first | omega | (simp [putRow_size, drewN_heap, drew_heap] <;> omega))]; exact r5_0)
  have c6_0 := lt_of_some r6_0
  have r6_1 : rowAt w6 (w.heap.size + 1) = some (.cells (tdA p b f l a i o v) 62 (0, 0)) := rowNext' hb6 (by rw [rowAt_old _ _ _ (by first | omega | (simp [putRow_size, drewN_heap, drew_heap] <;> omega))]; exact r5_1)
  have c6_1 := cellsTd r6_1
  have r6_2 : rowAt w6 (w1.heap.size) = some (.cells (exA zeroT zeroW) 60 (0, 0)) := rowNext' hb6 (by rw [rowAt_old _ _ _ (by first | omega | (simp [putRow_size, drewN_heap, drew_heap] <;> omega))]; exact r5_2)
  have c6_2 := lt_of_some r6_2
  have r6_3 : rowAt w6 (w2.heap.size) = some (.cells (exA ta ma) 60 (0, 0)) := rowNext' hb6 (by rw [rowAt_old _ _ _ (by first | omega | (simp [putRow_size, drewN_heap, drew_heap] <;> omega))]; exact r5_3)
  have c6_3 := lt_of_some r6_3
  have r6_4 : rowAt w6 (w3.heap.size) = some (.cells (exA tg mg) 60 (0, 0)) := rowNext' hb6 (by rw [rowAt_old _ _ _ (by first | omega | (simp [putRow_size, drewN_heap, drew_heap] <;> omega))]; exact r5_4)
  have c6_4 := lt_of_some r6_4
  have r6_5 : rowAt w6 (w5.heap.size) = some (.cells (exA ta ma) 60 (0, 0)) := rowNext' hb6 (by rw [rowAt_new _ _ _ (by first | omega | (simp [putRow_size, drewN_heap, drew_heap] <;> omega))])
  have c6_5 := lt_of_some r6_5
  clear r5_0 c5_0 r5_1 c5_1 r5_2 c5_2 r5_3 c5_3 r5_4 c5_4 hb5 HB5 hs5
  go_wp2_with fail
  refine (SKA.out _ _ _ (MKA.out _ _ _ ZA_6.out ((Below.refl _ _).alloc (by first | exact Nat.le_refl _ | (simp <;> omega)) _)) (MKA.out _ _ _ ZAA_6.out ((Below.refl _ _).alloc (by first | exact Nat.le_refl _ | (simp <;> omega)) _))).mono ?_
  rintro e w7 ⟨rfl, hb7⟩
  have HB7 := hid (below_step (HB6.out.alloc (by first | omega | (simp [putRow_size, drewN_heap, drew_heap] <;> omega)) _) (by first | omega | (simp [putRow_size, drewN_heap, drew_heap] <;> omega)) hb7)
  have hs7 : w.heap.size ≤ w7.heap.size := HB7.out.size
  have ZA_7 : Hid (KA w7 LA) := hid (MKA.out _ _ _ ZA_6.out (((Below.refl _ _).alloc (by first | exact Nat.le_refl _ | (simp <;> omega)) _).trans (hb7.mono (by first | exact Nat.le_refl _ | (simp <;> omega)))))
  have ZG_7 : Hid (KG w7 LG) := hid (MKG.out _ _ _ ZG_6.out (((Below.refl _ _).alloc (by first | exact Nat.le_refl _ | (simp <;> omega)) _).trans (hb7.mono (by first | exact Nat.le_refl _ | (simp <;> omega)))))
  have ZAA_7 : Hid (KA w7 LA2) := hid (MKA.out _ _ _ ZAA_6.out (((Below.refl _ _).alloc (by first | exact Nat.le_refl _ | (simp <;> omega)) _).trans (hb7.mono (by first | exact Nat.le_refl _ | (simp <;> omega)))))
  have ZGG_7 : Hid (KG w7 LG2) := hid (MKG.out _ _ _ ZGG_6.out (((Below.refl _ _).alloc (by first | exact Nat.le_refl _ | (simp <;> omega)) _).trans (hb7.mono (by first | exact Nat.le_refl _ | (simp <;> omega)))))
  clear ZA_6 ZG_6 ZAA_6 ZGG_6
  have r7_0 : rowAt w7 (w.heap.size) = some (.cells (exA t m) 60 (0, 0)) := rowNext' hb7 (by rw [rowAt_old _ _ _ (by first | omega | (simp [putRow_size, drewN_heap, drew_heap] <;> omega))]; exact r6_0)
  have c7_0 := lt_of_some r7_0
  have r7_1 : rowAt w7 (w.heap.size + 1) = some (.cells (tdA p b f l a i o v) 62 (0, 0)) := rowNext' hb7 (by rw [rowAt_old _ _ _ (by first | omega | (simp [putRow_size, drewN_heap, drew_heap] <;> omega))]; exact r6_1)
  have c7_1 := cellsTd r7_1
  have r7_2 : rowAt w7 (w1.heap.size) = some (.cells (exA zeroT zeroW) 60 (0, 0)) := rowNext' hb7 (by rw [rowAt_old _ _ _ (by first | omega | (simp [putRow_size, drewN_heap, drew_heap] <;> omega))]; exact r6_2)
  have c7_2 := lt_of_some r7_2
  have r7_3 : rowAt w7 (w2.heap.size) = some (.cells (exA ta ma) 60 (0, 0)) := rowNext' hb7 (by rw [rowAt_old _ _ _ (by first | omega | (simp [putRow_size, drewN_heap, drew_heap] <;> omega))]; exact r6_3)
  have c7_3 := lt_of_some r7_3
  have r7_4 : rowAt w7 (w3.heap.size) = some (.cells (exA tg mg) 60 (0, 0)) := rowNext' hb7 (by rw [rowAt_old _ _ _ (by first | omega | (simp [putRow_size, drewN_heap, drew_heap] <;> omega))]; exact r6_4)
  have c7_4 := lt_of_some r7_4
  have r7_5 : rowAt w7 (w5.heap.size) = some (.cells (exA ta ma) 60 (0, 0)) := rowNext' hb7 (by rw [rowAt_old _ _ _ (by first | omega | (simp [putRow_size, drewN_heap, drew_heap] <;> omega))]; exact r6_5)
  have c7_5 := lt_of_some r7_5
  have r7_6 : rowAt w7 (w6.heap.size) = some (.cells (exA tg mg) 60 (0, 0)) := rowNext' hb7 (by rw [rowAt_new _ _ _ (by first | omega | (simp [putRow_size, drewN_heap, drew_heap] <;> omega))])
  have c7_6 := lt_of_some r7_6
  clear r6_0 c6_0 r6_1 c6_1 r6_2 c6_2 r6_3 c6_3 r6_4 c6_4 r6_5 c6_5 hb6 HB6 hs6
  go_wp2_with fail
  refine (SKG.out _ _ _ (MKG.out _ _ _ ZG_7.out (Below.refl _ _)) (MKG.out _ _ _ ZGG_7.out (Below.refl _ _))).mono ?_
  rintro e w8 ⟨rfl, hb8⟩
  have HB8 := hid (below_step HB7.out (by first | omega | (simp [putRow_size, drewN_heap, drew_heap] <;> omega)) hb8)
  have hs8 : w.heap.size ≤ w8.heap.size := HB8.out.size
  have ZA_8 : Hid (KA w8 LA) := hid (MKA.out _ _ _ ZA_7.out ((Below.refl _ _).trans (hb8.mono (by first | exact Nat.le_refl _ | (simp <;> omega)))))
  have ZG_8 : Hid (KG w8 LG) := hid (MKG.out _ _ _ ZG_7.out ((Below.refl _ _).trans (hb8.mono (by first | exact Nat.le_refl _ | (simp <;> omega)))))
  have ZAA_8 : Hid (KA w8 LA2) := hid (MKA.out _ _ _ ZAA_7.out ((Below.refl _ _).trans (hb8.mono (by first | exact Nat.le_refl _ | (simp <;> omega)))))
  have ZGG_8 : Hid (KG w8 LG2) := hid (MKG.out _ _ _ ZGG_7.out ((Below.refl _ _).trans (hb8.mono (by first | exact Nat.le_refl _ | (simp <;> omega)))))
  clear ZA_7 ZG_7 ZAA_7 ZGG_7
  have r8_0 : rowAt w8 (w.heap.size) = some (.cells (exA t m) 60 (0, 0)) := rowNext' hb8 r7_0
  have c8_0 := lt_of_some r8_0
  have r8_1 : rowAt w8 (w.heap.size + 1) = some (.cells (tdA p b f l a i o v) 62 (0, 0)) := rowNext' hb8 r7_1
  have c8_1 := cellsTd r8_1
  have r8_2 : rowAt w8 (w1.heap.size) = some (.cells (exA zeroT zeroW) 60 (0, 0)) := rowNext' hb8 r7_2
  have c8_2 := lt_of_some r8_2
  have r8_3 : rowAt w8 (w2.heap.size) = some (.cells (exA ta ma) 60 (0, 0)) := rowNext' hb8 r7_3
  have c8_3 := lt_of_some r8_3
  have r8_4 : rowAt w8 (w3.heap.size) = some (.cells (exA tg mg) 60 (0, 0)) := rowNext' hb8 r7_4
  have c8_4 := lt_of_some r8_4
  have r8_5 : rowAt w8 (w5.heap.size) = some (.cells (exA ta ma) 60 (0, 0)) := rowNext' hb8 r7_5
  have c8_5 := lt_of_some r8_5
  have r8_6 : rowAt w8 (w6.heap.size) = some (.cells (exA tg mg) 60 (0, 0)) := rowNext' hb8 r7_6
  have c8_6 := lt_of_some r8_6
  clear r7_0 c7_0 r7_1 c7_1 r7_2 c7_2 r7_3 c7_3 r7_4 c7_4 r7_5 c7_5 r7_6 c7_6 hb7 HB7 hs7
  go_wp2_with fail
  refine (refMay9_eq HPB.out _).mono ?_
  rintro e w9 ⟨rfl, hb9⟩
  have HB9 := hid (below_step HB8.out (by first | omega | (simp [putRow_size, drewN_heap, drew_heap] <;> omega)) hb9)
  have hs9 : w.heap.size ≤ w9.heap.size := HB9.out.size
  have ZA_9 : Hid (KA w9 LA) := hid (MKA.out _ _ _ ZA_8.out ((Below.refl _ _).trans (hb9.mono (by first | exact Nat.le_refl _ | (simp <;> omega)))))
  have ZG_9 : Hid (KG w9 LG) := hid (MKG.out _ _ _ ZG_8.out ((Below.refl _ _).trans (hb9.mono (by first | exact Nat.le_refl _ | (simp <;> omega)))))
  have ZAA_9 : Hid (KA w9 LA2) := hid (MKA.out _ _ _ ZAA_8.out ((Below.refl _ _).trans (hb9.mono (by first | exact Nat.le_refl _ | (simp <;> omega)))))
  have ZGG_9 : Hid (KG w9 LG2) := hid (MKG.out _ _ _ ZGG_8.out ((Below.refl _ _).trans (hb9.mono (by first | exact Nat.le_refl _ | (simp <;> omega)))))
  clear ZA_8 ZG_8 ZAA_8 ZGG_8
  have r9_0 : rowAt w9 (w.heap.size) = some (.cells (exA t m) 60 (0, 0)) := rowNext' hb9 r8_0
  have c9_0 := lt_of_some r9_0
  have r9_1 : rowAt w9 (w.heap.size + 1) = some (.cells (tdA p b f l a i o v) 62 (0, 0)) := rowNext' hb9 r8_1
  have c9_1 := cellsTd r9_1
  have r9_2 : rowAt w9 (w1.heap.size) = some (.cells (exA zeroT zeroW) 60 (0, 0)) := rowNext' hb9 r8_2
  have c9_2 := lt_of_some r9_2
  have r9_3 : rowAt w9 (w2.heap.size) = some (.cells (exA ta ma) 60 (0, 0)) := rowNext' hb9 r8_3
  have c9_3 := lt_of_some r9_3
  have r9_4 : rowAt w9 (w3.heap.size) = some (.cells (exA tg mg) 60 (0, 0)) := rowNext' hb9 r8_4
  have c9_4 := lt_of_some r9_4
  have r9_5 : rowAt w9 (w5.heap.size) = some (.cells (exA ta ma) 60 (0, 0)) := rowNext' hb9 r8_5
  have c9_5 := lt_of_some r9_5
  have r9_6 : rowAt w9 (w6.heap.size) = some (.cells (exA tg mg) 60 (0, 0)) := rowNext' hb9 r8_6
  have c9_6 := lt_of_some r9_6
  clear r8_0 c8_0 r8_1 c8_1 r8_2 c8_2 r8_3 c8_3 r8_4 c8_4 r8_5 c8_5 r8_6 c8_6 hb8 HB8 hs8
  go_wp2_with (refine wpList_build_known rfl 60 #[] rfl #[] (by simp [Act.eval]) (.agg (exA zeroT zeroW)) (buildExch _) ?_)
  refine (awake17 _).mono ?_
  rintro e w10 ⟨rfl, hb10⟩
  have HB10 := hid (below_step HB9.out (by first | omega | (simp [putRow_size, drewN_heap, drew_heap] <;> omega)) hb10)
  have hs10 : w.heap.size ≤ w10.heap.size := HB10.out.size
  have ZA_10 : Hid (KA w10 LA) := hid (MKA.out _ _ _ ZA_9.out ((Below.refl _ _).trans (hb10.mono (by first | exact Nat.le_refl _ | (simp <;> omega)))))
  have ZG_10 : Hid (KG w10 LG) := hid (MKG.out _ _ _ ZG_9.out ((Below.refl _ _).trans (hb10.mono (by first | exact Nat.le_refl _ | (simp <;> omega)))))
  have ZAA_10 : Hid (KA w10 LA2) := hid (MKA.out _ _ _ ZAA_9.out ((Below.refl _ _).trans (hb10.mono (by first | exact Nat.le_refl _ | (simp <;> omega)))))
  have ZGG_10 : Hid (KG w10 LG2) := hid (MKG.out _ _ _ ZGG_9.out ((Below.refl _ _).trans (hb10.mono (by first | exact Nat.le_refl _ | (simp <;> omega)))))
  clear ZA_9 ZG_9 ZAA_9 ZGG_9
  have r10_0 : rowAt w10 (w.heap.size) = some (.cells (exA t m) 60 (0, 0)) := rowNext' hb10 r9_0
  have c10_0 := lt_of_some r10_0
  have r10_1 : rowAt w10 (w.heap.size + 1) = some (.cells (tdA p b f l a i o v) 62 (0, 0)) := rowNext' hb10 r9_1
  have c10_1 := cellsTd r10_1
  have r10_2 : rowAt w10 (w1.heap.size) = some (.cells (exA zeroT zeroW) 60 (0, 0)) := rowNext' hb10 r9_2
  have c10_2 := lt_of_some r10_2
  have r10_3 : rowAt w10 (w2.heap.size) = some (.cells (exA ta ma) 60 (0, 0)) := rowNext' hb10 r9_3
  have c10_3 := lt_of_some r10_3
  have r10_4 : rowAt w10 (w3.heap.size) = some (.cells (exA tg mg) 60 (0, 0)) := rowNext' hb10 r9_4
  have c10_4 := lt_of_some r10_4
  have r10_5 : rowAt w10 (w5.heap.size) = some (.cells (exA ta ma) 60 (0, 0)) := rowNext' hb10 r9_5
  have c10_5 := lt_of_some r10_5
  have r10_6 : rowAt w10 (w6.heap.size) = some (.cells (exA tg mg) 60 (0, 0)) := rowNext' hb10 r9_6
  have c10_6 := lt_of_some r10_6
  clear r9_0 c9_0 r9_1 c9_1 r9_2 c9_2 r9_3 c9_3 r9_4 c9_4 r9_5 c9_5 r9_6 c9_6 hb9 HB9 hs9
  go_wp2_with fail
  go_ret
  exact ⟨rfl, HB10.out⟩

end Go.Proofs.Ytjghmgpmaallfaa
