/-
  The walk of ExchangeOne, where an answer is said.
-/
import Derived.Test.YtjghmgpmaallfaaEa1
import Derived.Test.YtjghmgpmaallfaaExy
import Derived.Deep.QuietTactic
import Derived.BigQuiet
namespace Go.Proofs.Ytjghmgpmaallfaa
open Go.RowKit
set_option linter.unusedVariables false
set_option linter.unusedSimpArgs false

set_option maxHeartbeats 2000000 in
set_option maxRecDepth 100000 in
theorem one_says (t : Tb) (m : Wt) (p : Tb) (b : Bool) (f l : Int) (i o : Bool) (v : Int) (t' : Tb) (m' : Wt) (c1 c2 : Int) (HG : Hid (gotR t m p b f l v false = ((t', m'), some (c1, c2), 0))) (HS : Hid (settle p f c1 c2 = ((c1, c2), 0))) (HO : Hid (∀ k : Nat, k < 31 → (k : Int) ≠ f → t' k = t k ∧ m' k = m k)) (HX : Hid (exErr t' m' = 0))  (w : World) :
    Calls Try.prog 9 #[.agg (exA t m), .agg (tdA p b f l false i o v)] w fun e w' => e = .returned (.bool true) ∧ Below w.heap.size w w' := by
  go_enter Try.func9, Try.ntmps9
  go_wp2_with fail
  refine (got_says HG.out i o _).mono ?_
  rintro e w1 ⟨g, rfl, hr1, hg1, hb1⟩
  have HB1 := hid (below_step (((Below.refl w.heap.size w).alloc (by first | omega | (simp [putRow_size, drewN_heap, drew_heap] <;> omega)) _).alloc (by first | omega | (simp [putRow_size, drewN_heap, drew_heap] <;> omega)) _) (by first | omega | (simp [putRow_size, drewN_heap, drew_heap] <;> omega)) hb1)
  have hs1 : w.heap.size ≤ w1.heap.size := HB1.out.size
  have r1_0 : rowAt w1 (w.heap.size) = some (.cells (exA t m) 60 (0, 0)) := rowNext' hb1 (by rw [rowAt_old _ _ _ (by first | omega | (simp [putRow_size, drewN_heap, drew_heap] <;> omega)), rowAt_new _ _ _ (by first | omega | (simp [putRow_size, drewN_heap, drew_heap] <;> omega))])
  have c1_0 := lt_of_some r1_0
  have r1_1 : rowAt w1 (w.heap.size + 1) = some (.cells (tdA p b f l false i o v) 62 (0, 0)) := rowNext' hb1 (by rw [rowAt_new _ _ _ (by first | omega | (simp [putRow_size, drewN_heap, drew_heap] <;> omega))])
  have c1_1 := cellsTd r1_1
  have r1_2 : rowAt w1 (g) = some (.cells #[.int .i64 f, .int .i64 c1, .bool true, .bool i, .bool o, .int .u8 c2] 27 (0, 0)) := hr1
  have c1_2 := cells6 r1_2
  have hG1 : w.heap.size ≤ g := by first | omega | (simp [putRow_size, drewN_heap, drew_heap] at hg1; omega)
  clear hr1 hg1
  go_wp2_with fail
  have R0 : Hid (rowAt (w1.alloc (.cells (exA t' m') 60)) w.heap.size = some (.cells (exA t m) 60 (0, 0))) := hid (by rw [rowAt_old _ _ _ (by omega)]; exact r1_0)
  have RT : Hid (rowAt (w1.alloc (.cells (exA t' m') 60)) (w.heap.size + 1) = some (.cells (tdA p b f l false i o v) 62 (0, 0))) := hid (by rw [rowAt_old _ _ _ (by omega)]; exact r1_1)
  have RN : Hid (rowAt (w1.alloc (.cells (exA t' m') 60)) w1.heap.size = some (.cells (exA t' m') 60 (0, 0))) := hid (rowAt_new _ _ _ rfl)
  have HBA := hid (HB1.out.alloc hs1 (.cells (exA t' m') 60))
  have RG : Hid (rowAt (w1.alloc (.cells (exA t' m') 60)) g = some (.cells #[.int .i64 f, .int .i64 c1, .bool true, .bool i, .bool o, .int .u8 c2] 27 (0, 0))) := hid (by rw [rowAt_old _ _ _ (by omega)]; exact r1_2)
  generalize (w1.alloc (.cells (exA t' m') 60)) = wA at *
  have hsA : w.heap.size ≤ wA.heap.size := HBA.out.size
  go_loopw [8] (fun i wr => ∃ k : Nat, k ≤ 31 ∧ i = .int .i64 k ∧ Below wA.heap.size wA wr) (fun i _ => 31 - (intOf i).toNat)
  case atStart => exact ⟨0, by omega, rfl, Below.refl _ _⟩
  case round =>
    obtain ⟨k, hk, rfl, hbr⟩ := hrel
    have HBR := hid hbr
    have hsr := hbr.size
    clear hbr
    by_cases hlt : k < 31
    · have g1 := goodRow (rowNext' HBR.out R0.out)
      have gt := goodRow (rowNext' HBR.out RT.out)
      have gn := goodRow (rowNext' HBR.out RN.out)
      have ct := fun x => cellsTd (gt x)
      by_cases hkn : (k : Int) = f
      · have hbk : ((k : Int) != f) = false := by simp [hkn]
        clear hkn
        go_wp2_with fail
        refine wp_region_goodw (by kernel_rfl) (by kernel_rfl) ?_
        intro W6 hW6
        subst hW6
        iterate 27 (go_big_quiet_step (fail))
        refine wpQuiet_nil ?_
        rintro w6 ⟨⟨_, hb6⟩, rfl⟩
        clear ct
        go_wp2_with fail
        go_roundw
        case rel => exact ⟨k + 1, by omega, by go_num, HBR.out.trans (hb6.mono hsr)⟩
        case measure => simp [intOf]; omega
      · have hbk : ((k : Int) != f) = true := by simpa using hkn
        obtain ⟨x1, x2, hab⟩ : ∃ x1 x2, t k = (x1, x2) := ⟨_, _, rfl⟩
        obtain ⟨y, hy⟩ : ∃ y, m k = y := ⟨_, rfl⟩
        have HAB := hid hab
        have HY := hid hy
        have HO' := hid (HO.out k hlt hkn)
        clear hab hy hkn
        have q0 : ∀ x : Good wr, x.u.cell? ⟨w.heap.size, k * 2, none⟩ = some (.int .i64 x1) := fun x => by rw [cell_of_row _ _ _ _ _ _ (g1 x), exA_cell0 t m k hlt, HAB.out]
        have q1 : ∀ x : Good wr, x.u.cell? ⟨w.heap.size, k * 2 + 1, none⟩ = some (.int .u8 x2) := fun x => by rw [cell_of_row _ _ _ _ _ _ (g1 x), exA_cell1 t m k hlt, HAB.out]
        have q2 : ∀ x : Good wr, x.u.cell? ⟨w.heap.size, 62 + k, none⟩ = some (.int .i64 y) := fun x => by rw [cell_of_row _ _ _ _ _ _ (g1 x), exA_wait t m k hlt, HY.out]
        have p0 : ∀ x : Good wr, x.u.cell? ⟨w1.heap.size, k * 2, none⟩ = some (.int .i64 x1) := fun x => by rw [cell_of_row _ _ _ _ _ _ (gn x), exA_cell0 t' m' k hlt, HO'.out.1, HAB.out]
        have p1 : ∀ x : Good wr, x.u.cell? ⟨w1.heap.size, k * 2 + 1, none⟩ = some (.int .u8 x2) := fun x => by rw [cell_of_row _ _ _ _ _ _ (gn x), exA_cell1 t' m' k hlt, HO'.out.1, HAB.out]
        have p2 : ∀ x : Good wr, x.u.cell? ⟨w1.heap.size, 62 + k, none⟩ = some (.int .i64 y) := fun x => by rw [cell_of_row _ _ _ _ _ _ (gn x), exA_wait t' m' k hlt, HO'.out.2, HY.out]
        go_wp2_with fail
        refine wp_region_goodw (by kernel_rfl) (by kernel_rfl) ?_
        intro W6 hW6
        subst hW6
        iterate 27 (go_big_quiet_step (fail))
        refine wpQuiet_nil ?_
        rintro w6 ⟨⟨_, hb6⟩, rfl⟩
        clear q0 q1 q2 p0 p1 p2 ct
        go_wp2_with fail
        go_roundw
        case rel => exact ⟨k + 1, by omega, by go_num, HBR.out.trans (hb6.mono hsr)⟩
        case measure => simp [intOf]; omega
    · obtain rfl : k = 31 := by omega
      have HB5 := hid (below_step HBA.out (by omega) HBR.out)
      have hs5 : w.heap.size ≤ wr.heap.size := HB5.out.size
      have r2_0 := rowNext' HBR.out R0.out
      have r2_1 := rowNext' HBR.out RT.out
      have r2_n := rowNext' HBR.out RN.out
      have c2_0 := lt_of_some r2_0
      have c2_1 := cellsTd r2_1
      have c2_n := lt_of_some r2_n
      have r2_g := rowNext' HBR.out RG.out
      have c2_g := cells6 r2_g
      go_wp2_with fail
      refine (exCheck_eq HX.out _).mono ?_
      rintro e w6 ⟨rfl, hb6⟩
      have HB6 := hid (below_step HB5.out hs5 hb6)
      have hs6 : w.heap.size ≤ w6.heap.size := HB6.out.size
      have r6_1 : rowAt w6 (w.heap.size + 1) = some (.cells (tdA p b f l false i o v) 62 (0, 0)) := rowNext' hb6 r2_1
      have c6_1 := cellsTd r6_1
      have r6_g : rowAt w6 g = some (.cells #[.int .i64 f, .int .i64 c1, .bool true, .bool i, .bool o, .int .u8 c2] 27 (0, 0)) := rowNext' hb6 r2_g
      have c6_g := cells6 r6_g
      clear r2_0 r2_1 r2_n r2_g c2_0 c2_1 c2_n c2_g hb6
      go_upto_region 13 with (fail)
      go_cut [9, 10] from 88 to 96 (fun q e wc => ∃ gg, q = .pointer (some ⟨gg, 0, none⟩) ∧ e = .int .i64 0 ∧ rowAt wc gg = some (.cells #[.int .i64 c1, .int .u8 c2] 29 (0, 0)) ∧ w6.heap.size ≤ gg ∧ Below w6.heap.size w6 wc)
      case first =>
        obtain ⟨U, hU⟩ : ∃ U : List Value, tabA p = U.toArray := ⟨rows2 31 p, rfl⟩
        have hu25 := Try.underlying25
        have hiU : (Try.prog.info? 25).map (·.size) = some U.length := by rw [sizePrefs, len_of_tab hU]
        have HC : ∀ W, Calls Try.prog 15 #[.agg U.toArray, .agg #[.int .i64 f, .int .i64 c1, .bool true, .bool i, .bool o, .int .u8 c2]] W fun e w' => e = .returned (.tuple #[.agg #[.int .i64 c1, .int .u8 c2], .int .i64 0]) ∧ Below W.heap.size W w' := by
          intro W; rw [← hU]; exact settle_eq HS.out true i o W
        have HC := hid HC
        have q : ∀ x : Good w6, x.u.rangeAt (w.heap.size + 1) 0 U ∧ x.u.cell? ⟨g, 0, none⟩ = some (.int .i64 f) ∧ x.u.cell? ⟨g, 1, none⟩ = some (.int .i64 c1) ∧ x.u.cell? ⟨g, 2, none⟩ = some (.bool true) ∧ x.u.cell? ⟨g, 3, none⟩ = some (.bool i) ∧ x.u.cell? ⟨g, 4, none⟩ = some (.bool o) ∧ x.u.cell? ⟨g, 5, none⟩ = some (.int .u8 c2) := by
          intro x
          have y := cells6 (rowNext' x.b r6_g)
          exact ⟨range_td (rowNext' x.b r6_1) hU, y.1, y.2.1, y.2.2.1, y.2.2.2.1, y.2.2.2.2.1, y.2.2.2.2.2.1⟩
        have HQ := hid q
        clear q c6_1 c6_g hU c1_1 c1_2
        go_region_held3 (fun w' => w'.rangeAt (w.heap.size + 1) 0 U ∧ w'.cell? ⟨g, 0, none⟩ = some (.int .i64 f) ∧ w'.cell? ⟨g, 1, none⟩ = some (.int .i64 c1) ∧ w'.cell? ⟨g, 2, none⟩ = some (.bool true) ∧ w'.cell? ⟨g, 3, none⟩ = some (.bool i) ∧ w'.cell? ⟨g, 4, none⟩ = some (.bool o) ∧ w'.cell? ⟨g, 5, none⟩ = some (.int .u8 c2))
          (exact HQ.out ⟨_, by first | exact Below.refl _ _ | exact (Below.refl _ _).drew | exact hb9' | exact hb9'.alloc hb9'.size _ | exact ((Below.refl _ _).drew).alloc (Nat.le_refl _) _ | exact ((Below.refl _ _).alloc (Nat.le_refl _) _).drew | exact hb9'.setCell (Nat.le_refl _) _ | exact (hb9'.setCell (Nat.le_refl _) _).setCell (Nat.le_refl _) _⟩)
          (first | (go_at_call 15; (with_reducible refine (HC.out _).mono ?_); rintro e w9 ⟨rfl, hb9⟩; have hb9' := below9 (w3 := w6) hb9; (first | (have r9 := cells2 (row_ahead hb9); have hL := hid (left2_call (c1 := .int .i64 c1) (c2 := .int .u8 c2) hb9)) | (have hL := hid (left2_new (t := 29) (c1 := .int .i64 c1) (c2 := .int .u8 c2) hb9')))))
        all_goals go_wp2_with fail
        all_goals go_meet
        all_goals exact ⟨_, rfl, rfl, hL.out⟩
      case rest =>
        obtain ⟨gg, rfl, rfl, rv, hgg, hb7⟩ := hcut
        have HB7 := hid (below_step HB6.out hs6 hb7)
        have hs7 : w.heap.size ≤ wc.heap.size := HB7.out.size
        have r7_1 : rowAt wc (w.heap.size + 1) = some (.cells (tdA p b f l false i o v) 62 (0, 0)) := rowNext' hb7 r6_1
        have r7_g : rowAt wc g = some (.cells #[.int .i64 f, .int .i64 c1, .bool true, .bool i, .bool o, .int .u8 c2] 27 (0, 0)) := rowNext' hb7 r6_g
        clear hb7 r6_1 r6_g c6_1 c6_g
        go_upto_region 14 with (fail)
        refine wp_region_goodw (by kernel_rfl) (by kernel_rfl) ?_
        intro W8 hW8
        subst hW8
        have g1 := fun x => cellsTd (goodRow r7_1 x)
        have g2 := fun x => cells6 (goodRow r7_g x)
        have g3 := fun x => cells2 (goodRow rv x)
        iterate 32 (go_big_quiet_step (fail))
        go_big_quiet_step ((go_at_call 32; exact Calls.good (awake17 _)))
        iterate 2 (go_big_quiet_step (fail))
        refine wpQuiet_nil ?_
        rintro w8 ⟨⟨_, hb8⟩, rfl⟩
        have HB8 := hid (below_step HB7.out hs7 hb8)
        clear g1 g2 g3 hb8
        go_wp2_with fail
        go_ret
        exact ⟨rfl, HB8.out⟩

end Go.Proofs.Ytjghmgpmaallfaa
