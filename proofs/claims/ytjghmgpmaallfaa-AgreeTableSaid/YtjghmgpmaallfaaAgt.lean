/-
  The walk of AgreeTable.
-/
import Derived.Test.YtjghmgpmaallfaaWho
import Derived.Test.YtjghmgpmaallfaaAw9
import Derived.Test.YtjghmgpmaallfaaDrg
import Derived.Test.YtjghmgpmaallfaaEqt
namespace Go.Proofs.Ytjghmgpmaallfaa
open Go.RowKit
set_option linter.unusedVariables false
set_option linter.unusedSimpArgs false

/-- the table, as far as it is settled. -/
def setU (p q : Tb) (k : Nat) : Tb := fun i => if 1 ≤ i ∧ i ≤ k then (settle q i (p i).1 (p i).2).1 else p i
theorem setU_zero (p q : Tb) : setU p q 0 = p := by funext i; unfold setU; rw [if_neg (by omega)]
theorem setU_succ (p q : Tb) (k : Nat) : setU p q (k + 1) = upd (setU p q k) (k + 1) (settle q (k + 1 : Nat) (p (k + 1)).1 (p (k + 1)).2).1 := by
  funext i
  unfold setU upd
  by_cases e : i = k + 1
  · subst e; simp
  · have h : (1 ≤ i ∧ i ≤ k + 1) ↔ (1 ≤ i ∧ i ≤ k) := by omega
    simp [e, h]
/-- a triple lies here. -/
def TriAt (w : World) (g o : Nat) (f a1 a2 : Int) : Prop := w.cell? ⟨g, o, none⟩ = some (.int .i64 f) ∧ w.cell? ⟨g, o + 1, none⟩ = some (.int .i64 a1) ∧ w.cell? ⟨g, o + 2, none⟩ = some (.bool false) ∧ w.cell? ⟨g, o + 3, none⟩ = some (.bool false) ∧ w.cell? ⟨g, o + 4, none⟩ = some (.bool false) ∧ w.cell? ⟨g, o + 5, none⟩ = some (.int .u8 a2)
theorem keep_tri {w w' : World} {g o : Nat} {f a1 a2 : Int} (hb : Below w.heap.size w w') (h : TriAt w g o f a1 a2) : TriAt w' g o f a1 a2 := by
  obtain ⟨h0, h1, h2, h3, h4, h5⟩ := h
  have hg : g < w.heap.size := World.block_lt_of_cell? w _ h0
  exact ⟨(hb.cell (p := ⟨g, _, none⟩) hg).trans h0, (hb.cell (p := ⟨g, _, none⟩) hg).trans h1, (hb.cell (p := ⟨g, _, none⟩) hg).trans h2, (hb.cell (p := ⟨g, _, none⟩) hg).trans h3, (hb.cell (p := ⟨g, _, none⟩) hg).trans h4, (hb.cell (p := ⟨g, _, none⟩) hg).trans h5⟩
theorem tri_at {p : Tb} {w3 wr : World} {g : Nat} (hb : Below w3.heap.size w3 wr) (hg : g < w3.heap.size) (hc : ∀ i j u, i < 30 → (tri p (i + 1))[j]? = some u → w3.cell? ⟨g, i * 6 + j, none⟩ = some u) (k : Nat) (hk : k < 30) {a1 a2 : Int} (ha : p (k + 1) = (a1, a2)) :
    TriAt wr g (k * 6) ((k : Int) + 1) a1 a2 := by
  have hx : tri p (k + 1) = [.int .i64 ((k : Int) + 1), .int .i64 a1, .bool false, .bool false, .bool false, .int .u8 a2] := by rw [tri, ha]; rfl
  have h : ∀ j u, (tri p (k + 1))[j]? = some u → wr.cell? ⟨g, k * 6 + j, none⟩ = some u := fun j u hu => (hb.cell (p := ⟨g, k * 6 + j, none⟩) hg).trans (hc k j u hk hu)
  rw [hx] at h
  exact ⟨h 0 _ rfl, h 1 _ rfl, h 2 _ rfl, h 3 _ rfl, h 4 _ rfl, h 5 _ rfl⟩
/-- the cell that the region leaves, whichever came first. -/
theorem cell_new {w3 w9 : World} (hb : Below w3.heap.size w3 w9) (c1 c2 : Int) :
    rowAt (w9.alloc (.cells #[.int .i64 c1, .int .u8 c2] 29)) w9.heap.size = some (.cells #[.int .i64 c1, .int .u8 c2] 29 (0, 0)) ∧ w3.heap.size ≤ w9.heap.size ∧ Below w3.heap.size w3 (w9.alloc (.cells #[.int .i64 c1, .int .u8 c2] 29)) :=
  ⟨rowAt_new _ _ _ rfl, hb.size, hb.alloc hb.size _⟩
theorem cell_call {w3 w9 : World} (hb : Below (w3.alloc (.cells #[.int .i64 0, .int .u8 0] 29)).drew.heap.size (w3.alloc (.cells #[.int .i64 0, .int .u8 0] 29)).drew w9) (c1 c2 : Int) :
    rowAt ((w9.setCell ⟨w3.heap.size, 0, none⟩ (.int .i64 c1)).setCell ⟨w3.heap.size, 1, none⟩ (.int .u8 c2)) w3.heap.size = some (.cells #[.int .i64 c1, .int .u8 c2] 29 (0, 0)) ∧ w3.heap.size ≤ w3.heap.size ∧
      Below w3.heap.size w3 ((w9.setCell ⟨w3.heap.size, 0, none⟩ (.int .i64 c1)).setCell ⟨w3.heap.size, 1, none⟩ (.int .u8 c2)) := by
  have h0 := row_ahead hb
  have h1 := setCell_rowSame h0 0 (.int .i64 c1)
  have h2 := setCell_rowSame h1 1 (.int .u8 c2)
  refine ⟨h2, Nat.le_refl _, ?_⟩
  have hb' : Below w3.heap.size w3 w9 := (((Below.refl w3.heap.size w3).alloc (Nat.le_refl _) (.cells #[.int .i64 0, .int .u8 0] 29)).drew.trans (hb.mono (by simp)))
  exact (hb'.setCell (Nat.le_refl _) _).setCell (Nat.le_refl _) _
set_option maxHeartbeats 8000000 in
set_option maxRecDepth 100000 in
theorem agt_ok (p q : Tb) (hp : tabErr p = 0) (hq : tabErr q = 0) (HS : ∀ f : Nat, 1 ≤ f → f < 31 → settle p f (p f).1 (p f).2 = (p f, 0) ∧ ∃ d1 d2, settle q f (p f).1 (p f).2 = ((d1, d2), 0)) (HU : tabErr (setU p q 30) = 0) (w : World) :
    Calls Try.prog 7 #[.agg (tabA p), .agg (tabA q)] w fun e w' => e = .returned (.bool true) ∧ Below w.heap.size w w' := by
  have HP := hid hp
  have HQ := hid hq
  have HSS := hid HS
  have HUU := hid HU
  clear hp hq HS HU
  go_enter Try.func7, Try.ntmps7
  go_wp2_with (first
    | (go_at_call 20; (with_reducible refine (first_ok p HP.out _).mono ?_); rintro e w1 ⟨rfl, hb1⟩; have p1 := rowNext' hb1 (show rowAt _ w.heap.size = _ from by rw [rowAt_old _ _ _ (by simp), rowAt_new _ _ _ rfl]); have q1 := rowNext' hb1 (show rowAt _ (w.heap.size + 1) = _ from rowAt_new _ _ _ (by simp)); have lp1 := lt_of_some p1; have lq1 := lt_of_some q1; have ln1 : w1.heap.size < w1.heap.size + 1 := Nat.lt_succ_self _)
    | (go_at_call 21; (with_reducible refine (agreeCheck_eq' HQ.out _).mono ?_); rintro e w2 ⟨rfl, hb2⟩; have p2 := rowNext' hb2 (show rowAt _ w.heap.size = _ from by rw [rowAt_old _ _ _ lp1]; exact p1); have q2 := rowNext' hb2 (show rowAt _ (w.heap.size + 1) = _ from by rw [rowAt_old _ _ _ lq1]; exact q1); have t2 := rowNext' hb2 (show rowAt _ w1.heap.size = _ from rowAt_new _ _ _ rfl); have lt2 := lt_of_some t2)
    | (go_at_call 22; (with_reducible refine (whole_ok p HP.out _).mono ?_); rintro e w3 ⟨g, rfl, hcs, hg1, hg2, hb3⟩; have p3 := rowNext' hb3 p2; have q3 := rowNext' hb3 q2; have t3 := rowNext' hb3 t2; have lt3 := lt_of_some t3; have hcs' := hid hcs; clear hcs))
  have HCS := hcs'
  have P3 := hid p3
  have Q3 := hid q3
  have T3 := hid t3
  have HB3 : Hid (Below w.heap.size w w3) := hid (by
    have h1 : Below w.heap.size w w1 := ((((Below.refl _ _).alloc (Nat.le_refl _) _).alloc (by simp) _).trans (hb1.mono (by simp; omega)))
    have h2 : Below w.heap.size w w2 := (h1.alloc h1.size _).trans (hb2.mono (by have := h1.size; simp; omega))
    exact h2.trans (hb3.mono h2.size))
  have hg3 : g < w3.heap.size := hg2
  clear p1 q1 p2 q2 t2 p3 q3 t3 hb1 hb2 hb3 lp1 lq1 ln1 lt2 hg1 hg2 hcs'
  have hs3 := HB3.out.size
  go_loopw [10] (fun i wr => ∃ k : Nat, k ≤ 30 ∧ i = .int .i64 k ∧ rowAt wr w3.heap.size = some (.cells (tabA (setU p q k)) 39 (0, 0)) ∧ Below w3.heap.size w3 wr) (fun i _ => 30 - (intOf i).toNat)
  case atStart => exact ⟨0, by omega, rfl, by rw [setU_zero]; exact rowAt_new _ _ _ rfl, (Below.refl _ _).alloc (Nat.le_refl _) _⟩
  case round =>
    obtain ⟨k, hk, rfl, hr, hb⟩ := hrel
    have HR := hid hr
    have HB := hid hb
    have hlr := lt_of_some hr
    have PR := hid (rowNext' hb P3.out)
    have QR := hid (rowNext' hb Q3.out)
    have TR := hid (rowNext' hb T3.out)
    clear hr hb
    by_cases hlt : k < 30
    · obtain ⟨a1, a2, ha⟩ : ∃ a1 a2, p (k + 1) = (a1, a2) := ⟨_, _, rfl⟩
      obtain ⟨hs, d1, d2, hd⟩ := HSS.out (k + 1) (by omega) (by omega)
      rw [ha] at hs hd
      simp only at hs hd
      rw [Int.natCast_add] at hs hd
      have HSP : Hid (settle p ((k : Int) + 1) a1 a2 = ((a1, a2), 0)) := hid hs
      have HSQ : Hid (settle q ((k : Int) + 1) a1 a2 = ((d1, d2), 0)) := hid hd
      have HTRI : Hid (TriAt wr g (k * 6) ((k : Int) + 1) a1 a2) := hid (tri_at HB.out hg3 HCS.out k hlt ha)
      have HA := hid ha
      clear ha hs hd
      have hk0 : (0 : Int) ≤ (k : Int) := by omega
      have hk30 : (k : Int) < 30 := by omega
      go_wp2
      go_cut [11, 12] from 41 to 99 (fun v e wc => ∃ g', v = .pointer (some ⟨g', 0, none⟩) ∧ e = .int .i64 0 ∧ rowAt wc g' = some (.cells #[.int .i64 a1, .int .u8 a2] 29 (0, 0)) ∧ wr.heap.size ≤ g' ∧ Below wr.heap.size wr wc)
      case first =>
        obtain ⟨U, hU⟩ : ∃ U : List Value, tabA p = U.toArray := ⟨rows2 31 p, rfl⟩
        have hu25 := Try.underlying25
        have hiU : (Try.prog.info? 25).map (·.size) = some U.length := by rw [sizePrefs, len_of_tab hU]
        have HC : ∀ W, Calls Try.prog 15 #[.agg U.toArray, .agg #[.int .i64 ((k : Int) + 1), .int .i64 a1, .bool false, .bool false, .bool false, .int .u8 a2]] W fun e w' => e = .returned (.tuple #[.agg #[.int .i64 a1, .int .u8 a2], .int .i64 0]) ∧ Below W.heap.size W w' := by
          intro W; rw [← hU]; exact settle_eq HSP.out false false false W
        have HC := hid HC
        have q : ∀ x : Good wr, x.u.rangeAt (w.heap.size) 0 U ∧ x.u.cell? ⟨g, k * 6, none⟩ = some (.int .i64 ((k : Int) + 1)) ∧ x.u.cell? ⟨g, k * 6 + 1, none⟩ = some (.int .i64 a1) ∧ x.u.cell? ⟨g, k * 6 + 2, none⟩ = some (.bool false) ∧ x.u.cell? ⟨g, k * 6 + 3, none⟩ = some (.bool false) ∧ x.u.cell? ⟨g, k * 6 + 4, none⟩ = some (.bool false) ∧ x.u.cell? ⟨g, k * 6 + 5, none⟩ = some (.int .u8 a2) :=
          fun x => ⟨range_of_row (rowNext' x.b PR.out) hU, keep_tri x.b HTRI.out⟩
        have HQQ := hid q
        clear q hU
        go_region_held3 (fun w' => w'.rangeAt (w.heap.size) 0 U ∧ w'.cell? ⟨g, k * 6, none⟩ = some (.int .i64 ((k : Int) + 1)) ∧ w'.cell? ⟨g, k * 6 + 1, none⟩ = some (.int .i64 a1) ∧ w'.cell? ⟨g, k * 6 + 2, none⟩ = some (.bool false) ∧ w'.cell? ⟨g, k * 6 + 3, none⟩ = some (.bool false) ∧ w'.cell? ⟨g, k * 6 + 4, none⟩ = some (.bool false) ∧ w'.cell? ⟨g, k * 6 + 5, none⟩ = some (.int .u8 a2))
          (exact HQQ.out ⟨_, by first | exact Below.refl _ _ | exact (Below.refl _ _).drew | exact hb9' | exact hb9'.alloc hb9'.size _ | exact ((Below.refl _ _).drew).alloc (Nat.le_refl _) _ | exact ((Below.refl _ _).alloc (Nat.le_refl _) _).drew | exact (hb9'.setCell (Nat.le_refl _) _).setCell (Nat.le_refl _) _ | exact hb9'.setCell (Nat.le_refl _) _⟩)
          (first | (go_at_call 15; (with_reducible refine (HC.out _).mono ?_); rintro e w9 ⟨rfl, hb9⟩; have hb9' := below9 (w3 := wr) hb9; (first | (have r9 := cells2 (row_ahead hb9); have hL := hid (cell_call hb9 a1 a2)) | (have hL := hid (cell_new hb9' a1 a2)))))
        all_goals go_wp2_with fail
        all_goals go_meet
        all_goals exact ⟨_, rfl, rfl, hL.out⟩
      case rest =>
        obtain ⟨g1, rfl, rfl, rc1, hge1, hb4⟩ := hcut
        obtain ⟨wy, rfl⟩ : ∃ x, x = wc := ⟨_, rfl⟩
        have HB4 := hid hb4
        have RC1 := hid rc1
        have QR2 := hid (rowNext' hb4 QR.out)
        have TR2 := hid (rowNext' hb4 TR.out)
        have HTRI2 := hid (keep_tri hb4 HTRI.out)
        have HR2 := hid (rowNext' hb4 HR.out)
        clear rc1 hb4
        go_wp2_with fail
        go_cut [13, 14] from 41 to 99 (fun v e wc => ∃ g', v = .pointer (some ⟨g', 0, none⟩) ∧ e = .int .i64 0 ∧ rowAt wc g' = some (.cells #[.int .i64 d1, .int .u8 d2] 29 (0, 0)) ∧ wy.heap.size ≤ g' ∧ Below wy.heap.size wy wc)
        case first =>
          obtain ⟨U, hU⟩ : ∃ U : List Value, tabA q = U.toArray := ⟨rows2 31 q, rfl⟩
          have hu25 := Try.underlying25
          have hiU : (Try.prog.info? 25).map (·.size) = some U.length := by rw [sizePrefs, len_of_tab hU]
          have HC : ∀ W, Calls Try.prog 15 #[.agg U.toArray, .agg #[.int .i64 ((k : Int) + 1), .int .i64 a1, .bool false, .bool false, .bool false, .int .u8 a2]] W fun e w' => e = .returned (.tuple #[.agg #[.int .i64 d1, .int .u8 d2], .int .i64 0]) ∧ Below W.heap.size W w' := by
            intro W; rw [← hU]; exact settle_eq HSQ.out false false false W
          have HC := hid HC
          have q : ∀ x : Good wy, x.u.rangeAt (w.heap.size + 1) 0 U ∧ x.u.cell? ⟨g, k * 6, none⟩ = some (.int .i64 ((k : Int) + 1)) ∧ x.u.cell? ⟨g, k * 6 + 1, none⟩ = some (.int .i64 a1) ∧ x.u.cell? ⟨g, k * 6 + 2, none⟩ = some (.bool false) ∧ x.u.cell? ⟨g, k * 6 + 3, none⟩ = some (.bool false) ∧ x.u.cell? ⟨g, k * 6 + 4, none⟩ = some (.bool false) ∧ x.u.cell? ⟨g, k * 6 + 5, none⟩ = some (.int .u8 a2) :=
            fun x => ⟨range_of_row (rowNext' x.b QR2.out) hU, keep_tri x.b HTRI2.out⟩
          have HQQ := hid q
          clear q hU
          go_region_held3 (fun w' => w'.rangeAt (w.heap.size + 1) 0 U ∧ w'.cell? ⟨g, k * 6, none⟩ = some (.int .i64 ((k : Int) + 1)) ∧ w'.cell? ⟨g, k * 6 + 1, none⟩ = some (.int .i64 a1) ∧ w'.cell? ⟨g, k * 6 + 2, none⟩ = some (.bool false) ∧ w'.cell? ⟨g, k * 6 + 3, none⟩ = some (.bool false) ∧ w'.cell? ⟨g, k * 6 + 4, none⟩ = some (.bool false) ∧ w'.cell? ⟨g, k * 6 + 5, none⟩ = some (.int .u8 a2))
            (exact HQQ.out ⟨_, by first | exact Below.refl _ _ | exact (Below.refl _ _).drew | exact hb9' | exact hb9'.alloc hb9'.size _ | exact ((Below.refl _ _).drew).alloc (Nat.le_refl _) _ | exact ((Below.refl _ _).alloc (Nat.le_refl _) _).drew | exact (hb9'.setCell (Nat.le_refl _) _).setCell (Nat.le_refl _) _ | exact hb9'.setCell (Nat.le_refl _) _⟩)
            (first | (go_at_call 15; (with_reducible refine (HC.out _).mono ?_); rintro e w9 ⟨rfl, hb9⟩; have hb9' := below9 (w3 := wy) hb9; (first | (have r9 := cells2 (row_ahead hb9); have hL := hid (cell_call hb9 d1 d2)) | (have hL := hid (cell_new hb9' d1 d2)))))
          all_goals go_wp2_with fail
          all_goals go_meet
          all_goals exact ⟨_, rfl, rfl, hL.out⟩
        case rest =>
          obtain ⟨g2, rfl, rfl, rc2, hge2, hb5⟩ := hcut
          have HB5 := hid hb5
          have gc := goodRow (rowNext' hb5 RC1.out)
          have gt := goodRow (rowNext' hb5 TR2.out)
          have HTRI3 := hid (keep_tri hb5 HTRI2.out)
          have hr3 := rowNext' hb5 HR2.out
          have cc := fun x => cells2 (gc x)
          have u0 : ∀ x : Good wc, x.u.cell? ⟨g, k * 6, none⟩ = some (.int .i64 ((k : Int) + 1)) := fun x => (keep_tri x.b HTRI3.out).1
          have u2 : ∀ x : Good wc, x.u.cell? ⟨g, k * 6 + 2, none⟩ = some (.bool false) := fun x => (keep_tri x.b HTRI3.out).2.2.1
          have v0 : ∀ x : Good wc, x.u.cell? ⟨w1.heap.size, (k + 1) * 2, none⟩ = some (.int .i64 a1) := fun x => by rw [cell_of_row _ _ _ _ _ _ (gt x), tabA_cell0 p (k + 1) (by omega), HA.out]
          have v1 : ∀ x : Good wc, x.u.cell? ⟨w1.heap.size, (k + 1) * 2 + 1, none⟩ = some (.int .u8 a2) := fun x => by rw [cell_of_row _ _ _ _ _ _ (gt x), tabA_cell1 p (k + 1) (by omega), HA.out]
          have HR3 := hid hr3
          have RC2 := hid rc2
          clear gc gt hb5 hr3 rc2
          go_wp2_with fail
          refine wp_region_goodw (by kernel_rfl) (by kernel_rfl) ?_
          intro W6 hW6
          subst hW6
          iterate 31 (go_big_quiet_step (fail))
          refine wpQuiet_nil ?_
          rintro w6 ⟨⟨_, hb6⟩, rfl⟩
          have r2 := rowNext' hb6 RC2.out
          have r3 := rowNext' hb6 HR3.out
          have c2 := cells2 r2
          have l3 := lt_of_some r3
          have HB6 := hid hb6
          clear cc u0 u2 v0 v1 hb6
          go_wp2_with (refine wpList_store_mid rfl 29 (.tmp 99) (.tmp 98) rfl w3.heap.size ((k + 1) * 2) rfl 39 (tabA (setU p q k)) r3 _ rfl sizeCell (by rw [tabA_size]; simp; omega) rfl (tabA (upd (setU p q k) (k + 1) (d1, d2))) (lay_upd _ _ _ _ (by omega)) ?_)
          go_roundw
          case rel =>
            have e1 : upd (setU p q k) (k + 1) (d1, d2) = setU p q (k + 1) := by rw [setU_succ, HA.out, Int.natCast_add]; rw [show ((1 : Nat) : Int) = 1 from rfl, HSQ.out]
            have hc4 : wr.heap.size ≤ wy.heap.size := HB4.out.size
            have hc5 := HB5.out.size
            have hbr := HB.out.size
            refine ⟨k + 1, by omega, by go_num, by rw [← e1]; exact rowAt_put _ _ _ _ l3, below_putRow (((HB.out.trans (HB4.out.mono hbr)).trans (HB5.out.mono (by omega))).trans (HB6.out.mono (by omega))) _ _ _ (Nat.le_refl _)⟩
          case measure => simp [intOf]; omega
    · obtain rfl : k = 30 := by omega
      have hr := HR.out
      have HBW := hid (HB3.out.trans (HB.out.mono hs3))
      go_wp2_with (first
        | (go_at_call 19; (with_reducible refine (tableCheck_eq' HUU.out _).mono ?_); rintro e w4 ⟨rfl, hb4⟩; have HB4 := hid (HBW.out.trans (hb4.mono HBW.out.size)))
        | (go_at_call 16; (with_reducible refine (awake9 _).mono ?_); rintro e w5 ⟨rfl, hb5⟩))
      go_ret
      exact ⟨rfl, HB4.out.trans (hb5.mono HB4.out.size)⟩
end Go.Proofs.Ytjghmgpmaallfaa
