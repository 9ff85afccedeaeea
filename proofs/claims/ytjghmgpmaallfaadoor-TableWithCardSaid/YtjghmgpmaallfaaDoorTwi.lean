/-
  The walk of TableWith.
-/
import Derived.Test.YtjghmgpmaallfaaDoorOrd0
import Derived.Test.YtjghmgpmaallfaaDoorMnp
import Derived.Test.YtjghmgpmaallfaaDoorDrg
import Derived.Deep.QuietTactic
import Derived.BigQuiet
import Derived.Deep.RegionWith
namespace Go.Proofs.YtjghmgpmaallfaaDoor
open Go.RowKit
set_option linter.unusedVariables false
set_option linter.unusedSimpArgs false

set_option maxHeartbeats 2000000 in
set_option maxRecDepth 100000 in
theorem tw_no (t : Tb) (f c1 c2 key : Int) (H1 : Hid (withT t f c1 c2 = (t, 1))) (w : World) (hstd : StdLies w) :
    Calls Tryd.prog 5 #[.agg (tabA t), .agg #[.int .i64 f, .int .i64 c1, .int .u8 c2], .int .u8 key] w fun e w' => e = .returned (.bool true) ∧ Below w.heap.size w w' := by
  have hsz := hstd.size
  have HSTD := hid hstd
  clear hstd
  go_enter Tryd.func5, Tryd.ntmps5
  go_wp2_with fail
  refine (with_eq H1.out _).mono ?_
  rintro e w1 ⟨rfl, hb1⟩
  have HB1 := hid (below_step (((Below.refl w.heap.size w).alloc (by first | omega | (simp [putRow_size, drewN_heap, drew_heap] <;> omega)) _).alloc (by first | omega | (simp [putRow_size, drewN_heap, drew_heap] <;> omega)) _) (by first | omega | (simp [putRow_size, drewN_heap, drew_heap] <;> omega)) hb1)
  have hs1 : w.heap.size ≤ w1.heap.size := HB1.out.size
  have r1_0 : rowAt w1 (w.heap.size) = some (.cells (tabA t) 25 (0, 0)) := rowNext' hb1 (by rw [rowAt_old _ _ _ (by first | omega | (simp [putRow_size, drewN_heap, drew_heap] <;> omega)), rowAt_new _ _ _ (by first | omega | (simp [putRow_size, drewN_heap, drew_heap] <;> omega))])
  have c1_0 := lt_of_some r1_0
  have r1_1 : rowAt w1 (w.heap.size + 1) = some (.cells #[.int .i64 f, .int .i64 c1, .int .u8 c2] 27 (0, 0)) := rowNext' hb1 (by rw [rowAt_new _ _ _ (by first | omega | (simp [putRow_size, drewN_heap, drew_heap] <;> omega))])
  have c1_1 := cells3 r1_1
  go_wp2_with fail
  refine (awake8 _ (HSTD.out.below (HB1.out.alloc (by first | omega | (simp [putRow_size, drewN_heap, drew_heap] <;> omega)) _) hsz)).mono ?_
  rintro e w2 ⟨rfl, hb2⟩
  have HB2 := hid (below_step (HB1.out.alloc (by first | omega | (simp [putRow_size, drewN_heap, drew_heap] <;> omega)) _) (by first | omega | (simp [putRow_size, drewN_heap, drew_heap] <;> omega)) hb2)
  have hs2 : w.heap.size ≤ w2.heap.size := HB2.out.size
  have r2_0 : rowAt w2 (w.heap.size) = some (.cells (tabA t) 25 (0, 0)) := rowNext' hb2 (by rw [rowAt_old _ _ _ (by first | omega | (simp [putRow_size, drewN_heap, drew_heap] <;> omega))]; exact r1_0)
  have c2_0 := lt_of_some r2_0
  have r2_1 : rowAt w2 (w.heap.size + 1) = some (.cells #[.int .i64 f, .int .i64 c1, .int .u8 c2] 27 (0, 0)) := rowNext' hb2 (by rw [rowAt_old _ _ _ (by first | omega | (simp [putRow_size, drewN_heap, drew_heap] <;> omega))]; exact r1_1)
  have c2_1 := cells3 r2_1
  have r2_2 : rowAt w2 (w1.heap.size) = some (.cells (tabA t) 25 (0, 0)) := rowNext' hb2 (by rw [rowAt_new _ _ _ (by first | omega | (simp [putRow_size, drewN_heap, drew_heap] <;> omega))])
  have c2_2 := lt_of_some r2_2
  clear r1_0 c1_0 r1_1 c1_1 hb1 HB1 hs1
  go_wp2_with fail
  go_ret
  exact ⟨rfl, HB2.out⟩

/-- is the key the new cell's, or the old one's? -/
def touched (key c1 c2 o1 o2 : Int) : Bool := (key == c2 && c1 != 0) || (key == o2 && o1 != 0)
set_option maxHeartbeats 2000000 in
set_option maxRecDepth 100000 in
theorem tw_ok (t u v : Tb) (n : Nat) (h1 : 1 ≤ n) (h2 : n < 31) (key c1 c2 o1 o2 m1 m2 e2 : Int) (tb bb : Bool) (HW : Hid (withT u n o1 o2 = (v, e2))) (H1 : Hid (withT t n c1 c2 = (u, 0))) (HU : Hid (u n = (c1, c2))) (HT : Hid (t n = (o1, o2))) (HO : Hid (∀ k, k ≠ n → u k = t k)) (HM1 : Hid (meaning u key = m1)) (HM2 : Hid (meaning t key = m2)) (HTB : Hid (touched key c1 c2 o1 o2 = tb)) (HX : Hid (touched key c1 c2 o1 o2 = false → m1 = m2)) (HCu : Hid (tabErr u = 0)) (HCv : Hid (tabErr v = 0)) (HS : Hid (sameTb v t = bb)) (he2 : (e2 == 0) = bb) (w : World) (hstd : StdLies w) :
    Calls Tryd.prog 5 #[.agg (tabA t), .agg #[.int .i64 n, .int .i64 c1, .int .u8 c2], .int .u8 key] w fun e w' => e = .returned (.bool true) ∧ Below w.heap.size w w' := by
  have hsz := hstd.size
  have HSTD := hid hstd
  clear hstd
  have d1 : decide ((n : Int) < 1) = false := by simp; omega
  have d2 : decide (31 ≤ (n : Int)) = false := by simp; omega
  go_enter Tryd.func5, Tryd.ntmps5
  go_wp2_with fail
  refine (with_eq H1.out _).mono ?_
  rintro e w1 ⟨rfl, hb1⟩
  have HB1 := hid (below_step (((Below.refl w.heap.size w).alloc (by first | omega | (simp [putRow_size, drewN_heap, drew_heap] <;> omega)) _).alloc (by first | omega | (simp [putRow_size, drewN_heap, drew_heap] <;> omega)) _) (by first | omega | (simp [putRow_size, drewN_heap, drew_heap] <;> omega)) hb1)
  have hs1 : w.heap.size ≤ w1.heap.size := HB1.out.size
  have r1_0 : rowAt w1 (w.heap.size) = some (.cells (tabA t) 25 (0, 0)) := rowNext' hb1 (by rw [rowAt_old _ _ _ (by first | omega | (simp [putRow_size, drewN_heap, drew_heap] <;> omega)), rowAt_new _ _ _ (by first | omega | (simp [putRow_size, drewN_heap, drew_heap] <;> omega))])
  have c1_0 := lt_of_some r1_0
  have r1_1 : rowAt w1 (w.heap.size + 1) = some (.cells #[.int .i64 n, .int .i64 c1, .int .u8 c2] 27 (0, 0)) := rowNext' hb1 (by rw [rowAt_new _ _ _ (by first | omega | (simp [putRow_size, drewN_heap, drew_heap] <;> omega))])
  have c1_1 := cells3 r1_1
  go_wp2_with fail
  refine wp_region_goodw (by kernel_rfl) (by kernel_rfl) ?_
  intro W2 hW2
  have R2_0 : rowAt W2 (w.heap.size) = some (.cells (tabA t) 25 (0, 0)) := by rw [hW2]; rw [rowAt_old _ _ _ (by first | omega | (simp [putRow_size, drewN_heap, drew_heap] <;> omega))]; exact r1_0
  have R2_1 : rowAt W2 (w.heap.size + 1) = some (.cells #[.int .i64 n, .int .i64 c1, .int .u8 c2] 27 (0, 0)) := by rw [hW2]; rw [rowAt_old _ _ _ (by first | omega | (simp [putRow_size, drewN_heap, drew_heap] <;> omega))]; exact r1_1
  have R2_2 : rowAt W2 (w1.heap.size) = some (.cells (tabA u) 25 (0, 0)) := by rw [hW2]; rw [rowAt_new _ _ _ (by first | omega | (simp [putRow_size, drewN_heap, drew_heap] <;> omega))]
  have BW2 : Below w.heap.size w W2 := by rw [hW2]; exact (HB1.out.alloc (by first | omega | (simp [putRow_size, drewN_heap, drew_heap] <;> omega)) _)
  clear hW2
  have g2_0 := goodRow R2_0
  have cg2_0 := fun x => lt_of_some (g2_0 x)
  have g2_1 := goodRow R2_1
  have cg2_1 := fun x => cells3 (g2_1 x)
  have g2_2 := goodRow R2_2
  have cg2_2 := fun x => lt_of_some (g2_2 x)
  have q0 : ∀ x : Good W2, x.u.cell? ⟨w1.heap.size, n * 2, none⟩ = some (.int .i64 c1) := fun x => by rw [cell_of_row _ _ _ _ _ _ (g2_2 x), tabA_cell0 _ n h2, HU.out]
  have q1 : ∀ x : Good W2, x.u.cell? ⟨w1.heap.size, n * 2 + 1, none⟩ = some (.int .u8 c2) := fun x => by rw [cell_of_row _ _ _ _ _ _ (g2_2 x), tabA_cell1 _ n h2, HU.out]
  iterate 17 (go_big_quiet_step (fail))
  refine wpQuiet_nil ?_
  rintro w2 ⟨⟨_, hb2⟩, rfl⟩
  have HB2 := hid (BW2.trans (hb2.mono BW2.size))
  have hs2 : w.heap.size ≤ w2.heap.size := HB2.out.size
  have r2_0 : rowAt w2 (w.heap.size) = some (.cells (tabA t) 25 (0, 0)) := rowNext' hb2 R2_0
  have c2_0 := lt_of_some r2_0
  have r2_1 : rowAt w2 (w.heap.size + 1) = some (.cells #[.int .i64 n, .int .i64 c1, .int .u8 c2] 27 (0, 0)) := rowNext' hb2 R2_1
  have c2_1 := cells3 r2_1
  have r2_2 : rowAt w2 (w1.heap.size) = some (.cells (tabA u) 25 (0, 0)) := rowNext' hb2 R2_2
  have c2_2 := lt_of_some r2_2
  clear R2_0 g2_0 cg2_0 r1_0 c1_0 R2_1 g2_1 cg2_1 r1_1 c1_1 R2_2 g2_2 cg2_2 hb1 HB1 hs1
  go_wp2_with fail
  refine wp_region_goodw (by kernel_rfl) (by kernel_rfl) ?_
  intro W3 hW3
  have R3_0 : rowAt W3 (w.heap.size) = some (.cells (tabA t) 25 (0, 0)) := by rw [hW3]; exact r2_0
  have R3_1 : rowAt W3 (w.heap.size + 1) = some (.cells #[.int .i64 n, .int .i64 c1, .int .u8 c2] 27 (0, 0)) := by rw [hW3]; exact r2_1
  have R3_2 : rowAt W3 (w1.heap.size) = some (.cells (tabA u) 25 (0, 0)) := by rw [hW3]; exact r2_2
  have BW3 : Below w.heap.size w W3 := by rw [hW3]; exact HB2.out
  clear hW3
  have g3_0 := goodRow R3_0
  have cg3_0 := fun x => lt_of_some (g3_0 x)
  have g3_1 := goodRow R3_1
  have cg3_1 := fun x => cells3 (g3_1 x)
  have g3_2 := goodRow R3_2
  have cg3_2 := fun x => lt_of_some (g3_2 x)
  iterate 2 (go_big_quiet_step (fail))
  go_big_quiet_step ((go_at_call 13; exact Calls.good (tableMeaning_eq HM1.out _)))
  iterate 2 (go_big_quiet_step (fail))
  go_big_quiet_step ((go_at_call 13; exact Calls.good (tableMeaning_eq HM2.out _)))
  iterate 2 (go_big_quiet_step (fail))
  refine wpQuiet_nil ?_
  rintro w3 ⟨⟨_, hb3⟩, rfl⟩
  have HB3 := hid (BW3.trans (hb3.mono BW3.size))
  have hs3 : w.heap.size ≤ w3.heap.size := HB3.out.size
  have r3_0 : rowAt w3 (w.heap.size) = some (.cells (tabA t) 25 (0, 0)) := rowNext' hb3 R3_0
  have c3_0 := lt_of_some r3_0
  have r3_1 : rowAt w3 (w.heap.size + 1) = some (.cells #[.int .i64 n, .int .i64 c1, .int .u8 c2] 27 (0, 0)) := rowNext' hb3 R3_1
  have c3_1 := cells3 r3_1
  have r3_2 : rowAt w3 (w1.heap.size) = some (.cells (tabA u) 25 (0, 0)) := rowNext' hb3 R3_2
  have c3_2 := lt_of_some r3_2
  clear R3_0 g3_0 cg3_0 r2_0 c2_0 R3_1 g3_1 cg3_1 r2_1 c2_1 R3_2 g3_2 cg3_2 r2_2 c2_2 hb2 HB2 hs2
  clear q0 q1
  have p0 : w3.cell? ⟨w.heap.size, n * 2, none⟩ = some (.int .i64 o1) := by rw [cell_of_row _ _ _ _ _ _ r3_0, tabA_cell0 t n h2, HT.out]
  have p1 : w3.cell? ⟨w.heap.size, n * 2 + 1, none⟩ = some (.int .u8 o2) := by rw [cell_of_row _ _ _ _ _ _ r3_0, tabA_cell1 t n h2, HT.out]
  go_upto_region 7 with (fail)
  go_cut [10] from 55 to 82 (fun s wc => s = .bool tb ∧ w3 = wc)
  case first =>
    cases hq1 : (key == c2) <;> cases hq2 : (c1 != 0) <;> cases hq3 : (key == o2) <;> cases hq4 : (o1 != 0)
    all_goals
      go_wp2_with fail
      go_meet
      exact ⟨congrArg Value.bool (by rw [← HTB.out]; simp [touched, hq1, hq2, hq3, hq4]), rfl⟩
  case rest =>
    obtain ⟨rfl, rfl⟩ := hcut
    go_upto_region 8 with (fail)
    go_cut [11, 12] from 83 to 93 (fun p e wc => ∃ g, p = .pointer (some ⟨g, 0, none⟩) ∧ e = .int .i64 e2 ∧ rowAt wc g = some (.cells (tabA v) 25 (0, 0)) ∧ w3.heap.size ≤ g ∧ Below w3.heap.size w3 wc)
    case first =>
      obtain ⟨U, hU⟩ : ∃ U : List Value, tabA u = U.toArray := ⟨rows2 31 u, rfl⟩
      obtain ⟨V, hV⟩ : ∃ V : List Value, tabA v = V.toArray := ⟨rows2 31 v, rfl⟩
      have hu25 := Tryd.underlying25
      have hiU : (Tryd.prog.info? 25).map (·.size) = some U.length := by rw [sizeTable, len_of_tab hU]
      have hiV : (Tryd.prog.info? 25).map (·.size) = some V.length := by rw [sizeTable, len_of_tab hV]
      have HN := hid (len_of_tab hV)
      have hone : ∀ x ∈ V, x.oneCell' = true := one_of_tab hV
      have HC : ∀ W, Calls Tryd.prog 17 #[.agg U.toArray, .int .i64 n, .agg #[.int .i64 o1, .int .u8 o2]] W fun e w' => e = .returned (.tuple #[.agg V.toArray, .int .i64 e2]) ∧ Below W.heap.size W w' := by
        intro W; rw [← hU, ← hV]; exact with_eq HW.out W
      have HC := hid HC
      have q : ∀ x : Good w3, x.u.rangeAt w1.heap.size 0 U ∧ x.u.cell? ⟨(w.heap.size + 1), 0, none⟩ = some (.int .i64 n) ∧ x.u.cell? ⟨w.heap.size, n * 2, none⟩ = some (.int .i64 o1) ∧ x.u.cell? ⟨w.heap.size, n * 2 + 1, none⟩ = some (.int .u8 o2) :=
        fun x => ⟨range_of_row (rowNext' x.b r3_2) hU, by rw [cell_of_row _ _ _ _ _ _ (rowNext' x.b r3_1)]; rfl, (x.b.cell (p := ⟨w.heap.size, n * 2, none⟩) (lt_of_some r3_0)).trans p0, (x.b.cell (p := ⟨w.heap.size, n * 2 + 1, none⟩) (lt_of_some r3_0)).trans p1⟩
      have HQ := hid q
      have HV := hid hV
      have hn0 : (0 : Int) ≤ (n : Int) := by omega
      have hn31 : (n : Int) < 31 := by omega
      clear q p0 p1 hU hV c3_1
      go_region_held3 (fun w' => w'.rangeAt w1.heap.size 0 U ∧ w'.cell? ⟨(w.heap.size + 1), 0, none⟩ = some (.int .i64 n) ∧ w'.cell? ⟨w.heap.size, n * 2, none⟩ = some (.int .i64 o1) ∧ w'.cell? ⟨w.heap.size, n * 2 + 1, none⟩ = some (.int .u8 o2))
        (exact HQ.out ⟨_, by first | exact Below.refl _ _ | exact (Below.refl _ _).drew | exact hb9' | exact hb9'.alloc hb9'.size _ | exact ((Below.refl _ _).drew).alloc (Nat.le_refl _) _ | exact ((Below.refl _ _).alloc (Nat.le_refl _) _).drew | exact below_set hb9' (Nat.le_refl _) | exact below_set (hb9'.alloc hb9'.size _) hb9'.size⟩)
        (first | (go_at_call 17; (with_reducible refine (HC.out _).mono ?_); rintro e w9 ⟨rfl, hb9⟩; have hb9' := below9 (w3 := w3) hb9; (first | (have r9 := there_call HN hb9; have hL := hid (left_call HN HV hb9)) | (have r9 := there_new (w9 := w9) HN; have hL := hid (left_new HN HV hb9')))))
      all_goals go_wp2_with fail
      all_goals go_meet
      all_goals exact ⟨_, rfl, rfl, hL.out⟩
    case rest =>
      obtain ⟨g, rfl, rfl, rv, hg, hb4⟩ := hcut
      have rt := rowNext' hb4 r3_0
      have rc := rowNext' hb4 r3_1
      have ru := rowNext' hb4 r3_2
      have HB4 := hid (below_step HB3.out hs3 hb4)
      have hs4 : w.heap.size ≤ wc.heap.size := HB4.out.size
      clear r3_0 c3_0 r3_1 c3_1 r3_2 c3_2 hb3 HB3 hs3 p0 p1 hb4
      have RT := hid rt
      have RC := hid rc
      have RU := hid ru
      have RV := hid rv
      clear rt rc ru rv
      go_wp2_with fail
      go_loopw [13] (fun i wr => ∃ k : Nat, k ≤ 31 ∧ i = .int .i64 k ∧ Below wc.heap.size wc wr) (fun i _ => 31 - (intOf i).toNat)
      case atStart => exact ⟨0, by omega, rfl, Below.refl _ _⟩
      case round =>
        obtain ⟨k, hk, rfl, hbr⟩ := hrel
        have HBR := hid hbr
        have hsr := hbr.size
        clear hbr
        by_cases hlt : k < 31
        · obtain ⟨a, b, hab⟩ : ∃ a b, t k = (a, b) := ⟨_, _, rfl⟩
          have HAB := hid hab
          clear hab
          have g1 := goodRow (rowNext' HBR.out RT.out)
          have gc := goodRow (rowNext' HBR.out RC.out)
          have gu := goodRow (rowNext' HBR.out RU.out)
          have cc := fun x => cells3 (gc x)
          have q0 : ∀ x : Good wr, x.u.cell? ⟨w.heap.size, k * 2, none⟩ = some (.int .i64 a) := fun x => by rw [cell_of_row _ _ _ _ _ _ (g1 x), tabA_cell0 t k hlt, HAB.out]
          have q1 : ∀ x : Good wr, x.u.cell? ⟨w.heap.size, k * 2 + 1, none⟩ = some (.int .u8 b) := fun x => by rw [cell_of_row _ _ _ _ _ _ (g1 x), tabA_cell1 t k hlt, HAB.out]
          by_cases hkn : k = n
          · have hbk : ((k : Int) != (n : Int)) = false := by simp [hkn]
            clear hkn
            go_wp2_with fail
            refine wp_region_goodw (by kernel_rfl) (by kernel_rfl) ?_
            intro W6 hW6
            subst hW6
            iterate 13 (go_big_quiet_step (fail))
            refine wpQuiet_nil ?_
            rintro w6 ⟨⟨_, hb6⟩, rfl⟩
            clear q0 q1 cc
            go_wp2_with fail
            go_roundw
            case rel => exact ⟨k + 1, by omega, by go_num, HBR.out.trans (hb6.mono hsr)⟩
            case measure => simp [intOf]; omega
          · have hbk : ((k : Int) != (n : Int)) = true := by simp; omega
            have p0 : ∀ x : Good wr, x.u.cell? ⟨w1.heap.size, k * 2, none⟩ = some (.int .i64 a) := fun x => by rw [cell_of_row _ _ _ _ _ _ (gu x), tabA_cell0 u k hlt, HO.out k hkn, HAB.out]
            have p1 : ∀ x : Good wr, x.u.cell? ⟨w1.heap.size, k * 2 + 1, none⟩ = some (.int .u8 b) := fun x => by rw [cell_of_row _ _ _ _ _ _ (gu x), tabA_cell1 u k hlt, HO.out k hkn, HAB.out]
            clear hkn
            go_wp2_with fail
            refine wp_region_goodw (by kernel_rfl) (by kernel_rfl) ?_
            intro W6 hW6
            subst hW6
            iterate 13 (go_big_quiet_step (fail))
            refine wpQuiet_nil ?_
            rintro w6 ⟨⟨_, hb6⟩, rfl⟩
            clear q0 q1 p0 p1 cc
            go_wp2_with fail
            go_roundw
            case rel => exact ⟨k + 1, by omega, by go_num, HBR.out.trans (hb6.mono hsr)⟩
            case measure => simp [intOf]; omega
        · obtain rfl : k = 31 := by omega
          have r1 := rowNext' HBR.out RT.out
          have r2 := rowNext' HBR.out RU.out
          have r3 := rowNext' HBR.out RV.out
          have HB5 := hid (below_step HB4.out hs4 HBR.out)
          have hs5 : w.heap.size ≤ wr.heap.size := HB5.out.size
          cases hm : (m1 == m2)
          · have ht : tb = true := by
              cases htb : tb
              · have := HX.out (by rw [HTB.out, htb])
                simp [this] at hm
              · rfl
            subst ht
            go_wp2_with fail
            refine (tableCheck_eq HCu.out _).mono ?_
            rintro e w6 ⟨rfl, hb6⟩
            have r16 := rowNext' hb6 r1
            have r36 := rowNext' hb6 r3
            have HB6 := hid (below_step HB5.out hs5 hb6)
            have hs6 : w.heap.size ≤ w6.heap.size := HB6.out.size
            clear r1 r2 r3
            go_wp2_with fail
            refine (tableCheck_eq HCv.out _).mono ?_
            rintro e w7 ⟨rfl, hb7⟩
            have r17 := rowNext' hb7 r16
            have r37 := rowNext' hb7 r36
            have HB7 := hid (below_step HB6.out hs6 hb7)
            have hs7 : w.heap.size ≤ w7.heap.size := HB7.out.size
            clear r16 r36
            have hS := HS.out
            go_wp2_with fail
            refine (awake8 _ (HSTD.out.below HB7.out hsz)).mono ?_
            rintro e w8 ⟨rfl, hb8⟩
            have HB8 := hid (below_step HB7.out hs7 hb8)
            go_wp2_with fail
            go_ret
            exact ⟨rfl, HB8.out⟩
          · go_wp2_with fail
            refine (tableCheck_eq HCu.out _).mono ?_
            rintro e w6 ⟨rfl, hb6⟩
            have r16 := rowNext' hb6 r1
            have r36 := rowNext' hb6 r3
            have HB6 := hid (below_step HB5.out hs5 hb6)
            have hs6 : w.heap.size ≤ w6.heap.size := HB6.out.size
            clear r1 r2 r3
            go_wp2_with fail
            refine (tableCheck_eq HCv.out _).mono ?_
            rintro e w7 ⟨rfl, hb7⟩
            have r17 := rowNext' hb7 r16
            have r37 := rowNext' hb7 r36
            have HB7 := hid (below_step HB6.out hs6 hb7)
            have hs7 : w.heap.size ≤ w7.heap.size := HB7.out.size
            clear r16 r36
            have hS := HS.out
            go_wp2_with fail
            refine (awake8 _ (HSTD.out.below HB7.out hsz)).mono ?_
            rintro e w8 ⟨rfl, hb8⟩
            have HB8 := hid (below_step HB7.out hs7 hb8)
            go_wp2_with fail
            go_ret
            exact ⟨rfl, HB8.out⟩
end Go.Proofs.YtjghmgpmaallfaaDoor
