/-
  The walk of ExchangeWhole: its loop.
-/
import Derived.Test.YtjghmgpmaallfaaEa6
import Derived.Deep.QuietTactic
import Derived.BigQuiet
import Derived.Deep.CutRange
import Derived.Deep.RegionHeld3
import Derived.BigRegion
namespace Go.Proofs.Ytjghmgpmaallfaa
open Go.RowKit
set_option linter.unusedVariables false
set_option linter.unusedSimpArgs false

theorem wzero_lit : wtA zeroW = #[.int .i64 0, .int .i64 0, .int .i64 0, .int .i64 0, .int .i64 0, .int .i64 0, .int .i64 0, .int .i64 0, .int .i64 0, .int .i64 0, .int .i64 0, .int .i64 0, .int .i64 0, .int .i64 0, .int .i64 0, .int .i64 0, .int .i64 0, .int .i64 0, .int .i64 0, .int .i64 0, .int .i64 0, .int .i64 0, .int .i64 0, .int .i64 0, .int .i64 0, .int .i64 0, .int .i64 0, .int .i64 0, .int .i64 0, .int .i64 0, .int .i64 0] := by kernel_rfl
@[local go_sem ↓] theorem eqZeroW (w : World) : (Op.equalIn 10000 58 (.agg (wtA zeroW)) (.agg #[.int .i64 0, .int .i64 0, .int .i64 0, .int .i64 0, .int .i64 0, .int .i64 0, .int .i64 0, .int .i64 0, .int .i64 0, .int .i64 0, .int .i64 0, .int .i64 0, .int .i64 0, .int .i64 0, .int .i64 0, .int .i64 0, .int .i64 0, .int .i64 0, .int .i64 0, .int .i64 0, .int .i64 0, .int .i64 0, .int .i64 0, .int .i64 0, .int .i64 0, .int .i64 0, .int .i64 0, .int .i64 0, .int .i64 0, .int .i64 0, .int .i64 0])).run Try.prog w = .ok true w := by
  rw [← wzero_lit, eqWt, sameW_refl]
theorem leftX_call {w3 w9 : World} {Z cs : Array Value} {t : TypeId} (hb : Below (w3.alloc (.cells Z t)).drew.heap.size (w3.alloc (.cells Z t)).drew w9) :
    rowAt (putRow w9 w3.heap.size cs t) w3.heap.size = some (.cells cs t (0, 0)) ∧ w3.heap.size ≤ w3.heap.size ∧ Below w3.heap.size w3 (putRow w9 w3.heap.size cs t) :=
  ⟨rowAt_put _ _ _ _ (lt_of_some (row_ahead hb)), Nat.le_refl _, below_putRow (below9 hb) _ _ _ (Nat.le_refl _)⟩
theorem leftX_new {w3 w9 : World} {t : TypeId} {cs : Array Value} (hb : Below w3.heap.size w3 w9) :
    rowAt (w9.alloc (.cells cs t)) w9.heap.size = some (.cells cs t (0, 0)) ∧ w3.heap.size ≤ w9.heap.size ∧ Below w3.heap.size w3 (w9.alloc (.cells cs t)) :=
  ⟨rowAt_new _ _ _ rfl, hb.size, hb.alloc hb.size _⟩
theorem leftY_call {w3 w9 : World} {Z cs : Array Value} {t : TypeId} {g : Nat} {o : Obj} (hb : Below (w3.alloc (.cells Z t)).drew.heap.size (w3.alloc (.cells Z t)).drew w9) (hr : Hid (rowAt w9 g = some o)) (hg : Hid ((w3.alloc (.cells Z t)).drew.heap.size ≤ g)) :
    rowAt (putRow w9 w3.heap.size cs t) w3.heap.size = some (.cells cs t (0, 0)) ∧ rowAt (putRow w9 w3.heap.size cs t) g = some o ∧ w3.heap.size ≤ w3.heap.size ∧ w3.heap.size ≤ g ∧ Below w3.heap.size w3 (putRow w9 w3.heap.size cs t) := by
  have h : w3.heap.size < g := by have := hg.out; simp at this; omega
  exact ⟨rowAt_put _ _ _ _ (lt_of_some (row_ahead hb)), by rw [rowAt_putOther _ _ _ _ _ (by omega)]; exact hr.out, Nat.le_refl _, by omega, below_putRow (below9 hb) _ _ _ (Nat.le_refl _)⟩
theorem leftY_new {w3 w9 : World} {t : TypeId} {cs : Array Value} {g : Nat} {o : Obj} (hb : Below w3.heap.size w3 w9) (hr : Hid (rowAt w9 g = some o)) (hg : Hid (w3.heap.size ≤ g)) :
    rowAt (w9.alloc (.cells cs t)) w9.heap.size = some (.cells cs t (0, 0)) ∧ rowAt (w9.alloc (.cells cs t)) g = some o ∧ w3.heap.size ≤ w9.heap.size ∧ w3.heap.size ≤ g ∧ Below w3.heap.size w3 (w9.alloc (.cells cs t)) :=
  ⟨rowAt_new _ _ _ rfl, by rw [rowAt_old _ _ _ (lt_of_some hr.out)]; exact hr.out, hb.size, hg.out, hb.alloc hb.size _⟩
set_option maxHeartbeats 2000000 in
set_option maxRecDepth 100000 in
theorem wholeAll (p q : Tb) (HP : Hid (tabErr p = 0)) (HQ : Hid (tabErr q = 0)) (w : World) :
    Calls Try.prog 14 #[.agg (tabA p), .agg (tabA q)] w fun e w' => e = .returned (.bool true) ∧ Below w.heap.size w w' := by
  go_enter Try.func14, Try.ntmps14
  go_wp2_with fail
  refine (begin_s p HP.out _).mono ?_
  rintro e w1 ⟨g, rfl, ht1, hg1, hg1l, hb1⟩
  have hG : w.heap.size ≤ g := by first | omega | (simp [putRow_size, drewN_heap, drew_heap] at hg1; omega)
  have HT1 : Hid (Tris w1 g p) := hid ht1
  clear ht1 hg1
  have HB1 := hid (below_step (((Below.refl w.heap.size w).alloc (by first | omega | (simp [putRow_size, drewN_heap, drew_heap] <;> omega)) _).alloc (by first | omega | (simp [putRow_size, drewN_heap, drew_heap] <;> omega)) _) (by first | omega | (simp [putRow_size, drewN_heap, drew_heap] <;> omega)) hb1)
  have hs1 : w.heap.size ≤ w1.heap.size := HB1.out.size
  have r1_0 : rowAt w1 (w.heap.size) = some (.cells (tabA p) 25 (0, 0)) := rowNext' hb1 (by rw [rowAt_old _ _ _ (by first | omega | (simp [putRow_size, drewN_heap, drew_heap] <;> omega)), rowAt_new _ _ _ (by first | omega | (simp [putRow_size, drewN_heap, drew_heap] <;> omega))])
  have c1_0 := lt_of_some r1_0
  have r1_1 : rowAt w1 (w.heap.size + 1) = some (.cells (tabA q) 25 (0, 0)) := rowNext' hb1 (by rw [rowAt_new _ _ _ (by first | omega | (simp [putRow_size, drewN_heap, drew_heap] <;> omega))])
  have c1_1 := lt_of_some r1_1
  have hse1 : w.heap.size + 1 < w1.heap.size := by omega
  go_wp2_with fail
  refine (begin_c q HQ.out _).mono ?_
  rintro e w2 ⟨rfl, hb2⟩
  have HB2 := hid (below_step (HB1.out.alloc (by first | omega | (simp [putRow_size, drewN_heap, drew_heap] <;> omega)) _) (by first | omega | (simp [putRow_size, drewN_heap, drew_heap] <;> omega)) hb2)
  have hs2 : w.heap.size ≤ w2.heap.size := HB2.out.size
  have r2_0 : rowAt w2 (w.heap.size) = some (.cells (tabA p) 25 (0, 0)) := rowNext' hb2 (by rw [rowAt_old _ _ _ (by first | omega | (simp [putRow_size, drewN_heap, drew_heap] <;> omega))]; exact r1_0)
  have c2_0 := lt_of_some r2_0
  have r2_1 : rowAt w2 (w.heap.size + 1) = some (.cells (tabA q) 25 (0, 0)) := rowNext' hb2 (by rw [rowAt_old _ _ _ (by first | omega | (simp [putRow_size, drewN_heap, drew_heap] <;> omega))]; exact r1_1)
  have c2_1 := lt_of_some r2_1
  have r2_2 : rowAt w2 (w1.heap.size) = some (.cells (exA p (onesTo 31)) 60 (0, 0)) := rowNext' hb2 (by rw [rowAt_new _ _ _ (by first | omega | (simp [putRow_size, drewN_heap, drew_heap] <;> omega))])
  have c2_2 := lt_of_some r2_2
  clear r1_0 c1_0 r1_1 c1_1 hb1 HB1 hs1
  go_wp2_with fail
  have HGs : w.heap.size ≤ g := hG
  have RT : Hid (Tris (w2.alloc (.cells (exA q zeroW) 60)) g p) := hid (HT1.out.below (((Below.refl _ _).alloc (Nat.le_refl _) _).trans (hb2.mono (by simp))|>.alloc (by have := hb2.size; simp at this; omega) _))
  have R0 : Hid (rowAt (w2.alloc (.cells (exA q zeroW) 60)) (w.heap.size) = some (.cells (tabA p) 25 (0, 0)) ∧ rowAt (w2.alloc (.cells (exA q zeroW) 60)) (w.heap.size + 1) = some (.cells (tabA q) 25 (0, 0)) ∧ rowAt (w2.alloc (.cells (exA q zeroW) 60)) (w1.heap.size) = some (.cells (exA (upTo p q p (0)) (onesFrom (0))) 60 (0, 0)) ∧ rowAt (w2.alloc (.cells (exA q zeroW) 60)) (w2.heap.size) = some (.cells (exA (upTo p q q (0)) zeroW) 60 (0, 0))) := hid ⟨by rw [rowAt_old _ _ _ (by omega)]; exact r2_0, by rw [rowAt_old _ _ _ (by omega)]; exact r2_1, by rw [rowAt_old _ _ _ (by omega), upTo_zero, onesFrom_zero]; exact r2_2, by rw [rowAt_new _ _ _ rfl, upTo_zero]⟩
  have HBA := hid (HB2.out.alloc hs2 (.cells (exA q zeroW) 60))
  have hlt2 : w.heap.size < w1.heap.size ∧ w.heap.size + 1 < w1.heap.size ∧ w1.heap.size < w2.heap.size := ⟨by omega, by omega, by omega⟩
  obtain ⟨hne1, hne2, hne3⟩ := hlt2
  generalize (w2.alloc (.cells (exA q zeroW) 60)) = wA at *
  clear r2_0 r2_1 r2_2 c2_0 c2_1 c2_2 HT1 HB2 hb2
  go_loopw [11] (fun i' wr => ∃ k : Nat, k ≤ 30 ∧ i' = .int .i64 k ∧ (rowAt wr (w.heap.size) = some (.cells (tabA p) 25 (0, 0)) ∧ rowAt wr (w.heap.size + 1) = some (.cells (tabA q) 25 (0, 0)) ∧ rowAt wr (w1.heap.size) = some (.cells (exA (upTo p q p (k)) (onesFrom (k))) 60 (0, 0)) ∧ rowAt wr (w2.heap.size) = some (.cells (exA (upTo p q q (k)) zeroW) 60 (0, 0))) ∧ Tris wr g p ∧ Below w.heap.size w wr) (fun i' _ => 30 - (intOf i').toNat)
  case atStart => exact ⟨0, by omega, rfl, R0.out, RT.out, HBA.out⟩
  case round =>
    clear R0 RT HBA
    obtain ⟨k, hk, rfl, ⟨rp, rq, rs, rc⟩, rt, hbr⟩ := hrel
    have HBR := hid hbr
    have hsr := hbr.size
    clear hbr
    by_cases hlt : k < 30
    · obtain ⟨a1, a2, ha⟩ : ∃ a1 a2, p (k + 1) = (a1, a2) := ⟨_, _, rfl⟩
      obtain ⟨d1, d2, hd⟩ : ∃ d1 d2, dealt p q (k + 1) = (d1, d2) := ⟨_, _, rfl⟩
      have hx : tri p (k + 1) = [.int .i64 ((k : Int) + 1), .int .i64 a1, .bool false, .bool false, .bool false, .int .u8 a2] := by rw [tri, ha]; rfl
      have HX := hid hx
      obtain ⟨hs1', hg1'⟩ := round_c (tabErr_ok HP.out) (tabErr_ok HQ.out) hlt ha hd
      have hg2' := round_s (tabErr_ok HP.out) (tabErr_ok HQ.out) hlt hd
      have HS := hid hs1'
      have HG1 := hid hg1'
      have HG2 := hid hg2'
      have HD := hid hd
      clear hs1' hg1' hg2' ha hd hx
      have hk0 : (0 : Int) ≤ (k : Int) := by omega
      have hk30 : (k : Int) < 30 := by omega
      have HRT := hid rt
      have tri6 : ∀ W : World, Below wr.heap.size wr W → W.cell? ⟨g, k * 6, none⟩ = some (.int .i64 ((k : Int) + 1)) ∧ W.cell? ⟨g, k * 6 + 1, none⟩ = some (.int .i64 a1) ∧ W.cell? ⟨g, k * 6 + 2, none⟩ = some (.bool false) ∧ W.cell? ⟨g, k * 6 + 3, none⟩ = some (.bool false) ∧ W.cell? ⟨g, k * 6 + 4, none⟩ = some (.bool false) ∧ W.cell? ⟨g, k * 6 + 5, none⟩ = some (.int .u8 a2) := by
        intro W hW
        have y := HRT.out.below hW
        exact ⟨y k 0 _ hlt (by rw [HX.out]; rfl), y k 1 _ hlt (by rw [HX.out]; rfl), y k 2 _ hlt (by rw [HX.out]; rfl), y k 3 _ hlt (by rw [HX.out]; rfl), y k 4 _ hlt (by rw [HX.out]; rfl), y k 5 _ hlt (by rw [HX.out]; rfl)⟩
      have HTRI := hid tri6
      clear tri6 rt
      go_upto_region 10 with fail
      go_cut [12, 13] from 47 to 120 (fun x e wc => ∃ gg, x = .pointer (some ⟨gg, 0, none⟩) ∧ e = .int .i64 0 ∧ rowAt wc gg = some (.cells #[.int .i64 d1, .int .u8 d2] 29 (0, 0)) ∧ wr.heap.size ≤ gg ∧ Below wr.heap.size wr wc)
      case first =>
        obtain ⟨U, hU⟩ : ∃ U : List Value, tabA q = U.toArray := ⟨rows2 31 q, rfl⟩
        have hu25 := Try.underlying25
        have hiU : (Try.prog.info? 25).map (·.size) = some U.length := by rw [sizePrefs, len_of_tab hU]
        have HC : ∀ W, Calls Try.prog 15 #[.agg U.toArray, .agg #[.int .i64 ((k : Int) + 1), .int .i64 a1, .bool false, .bool false, .bool false, .int .u8 a2]] W fun e w' => e = .returned (.tuple #[.agg #[.int .i64 d1, .int .u8 d2], .int .i64 0]) ∧ Below W.heap.size W w' := by
          intro W; rw [← hU]; exact settle_eq HS.out false false false W
        have HC := hid HC
        have q0 : ∀ x : Good wr, x.u.rangeAt (w.heap.size + 1) 0 U ∧ x.u.cell? ⟨g, k * 6, none⟩ = some (.int .i64 ((k : Int) + 1)) ∧ x.u.cell? ⟨g, k * 6 + 1, none⟩ = some (.int .i64 a1) ∧ x.u.cell? ⟨g, k * 6 + 2, none⟩ = some (.bool false) ∧ x.u.cell? ⟨g, k * 6 + 3, none⟩ = some (.bool false) ∧ x.u.cell? ⟨g, k * 6 + 4, none⟩ = some (.bool false) ∧ x.u.cell? ⟨g, k * 6 + 5, none⟩ = some (.int .u8 a2) := fun x => ⟨range_of_row (rowNext' x.b rq) hU, HTRI.out _ x.b⟩
        have HQQ := hid q0
        clear q0 hU rp rq rs rc
        go_region_held3 (fun w' => w'.rangeAt (w.heap.size + 1) 0 U ∧ w'.cell? ⟨g, k * 6, none⟩ = some (.int .i64 ((k : Int) + 1)) ∧ w'.cell? ⟨g, k * 6 + 1, none⟩ = some (.int .i64 a1) ∧ w'.cell? ⟨g, k * 6 + 2, none⟩ = some (.bool false) ∧ w'.cell? ⟨g, k * 6 + 3, none⟩ = some (.bool false) ∧ w'.cell? ⟨g, k * 6 + 4, none⟩ = some (.bool false) ∧ w'.cell? ⟨g, k * 6 + 5, none⟩ = some (.int .u8 a2))
          (exact HQQ.out ⟨_, by first | exact Below.refl _ _ | exact (Below.refl _ _).drew | exact hb9' | exact hb9'.drew | exact hb9'.alloc hb9'.size _ | exact ((Below.refl _ _).drew).alloc (Nat.le_refl _) _ | exact ((Below.refl _ _).alloc (Nat.le_refl _) _).drew | exact hb9'.setCell (Nat.le_refl _) _ | exact (hb9'.setCell (Nat.le_refl _) _).setCell (Nat.le_refl _) _ | exact below_putRow hb9' _ _ _ (Nat.le_refl _) | exact below_putRow (hb9'.alloc hb9'.size _) _ _ _ hb9'.size⟩)
          (first | (go_at_call 15; (with_reducible refine (HC.out _).mono ?_); rintro e w9 ⟨rfl, hb9⟩; have hb9' := below9 (w3 := wr) hb9; (first | (have r9 := cells2 (row_ahead hb9); have hL := hid (left2_call (c1 := .int .i64 d1) (c2 := .int .u8 d2) hb9)) | (have hL := hid (left2_new (t := 29) (c1 := .int .i64 d1) (c2 := .int .u8 d2) hb9')))))
        all_goals go_wp2_with fail
        all_goals go_meet
        all_goals exact ⟨_, rfl, rfl, hL.out⟩
      case rest =>
        obtain ⟨wb, hwb⟩ : ∃ x, x = wc := ⟨_, rfl⟩
        subst hwb
        obtain ⟨gg, rfl, rfl, rv, hgg, hb3⟩ := hcut
        have r3p := rowNext' hb3 rp
        have r3q := rowNext' hb3 rq
        have r3s := rowNext' hb3 rs
        have r3c := rowNext' hb3 rc
        have HB3 := hid (below_step HBR.out hsr hb3)
        have hs3 : w.heap.size ≤ wb.heap.size := HB3.out.size
        have hgl := lt_of_some rv
        have HTRI3 := hid fun (W : World) (h : Below wb.heap.size wb W) => HTRI.out W (hb3.trans (h.mono hb3.size))
        have HRT3 := hid (HRT.out.below hb3)
        clear rp rq rs rc HTRI HRT hb3
        go_upto_region 11 with fail
        go_cut [14, 15, 16] from 47 to 120 (fun x y e wd => ∃ gx g2, x = .pointer (some ⟨gx, 0, none⟩) ∧ y = .slice (some ⟨g2, 0, none⟩) 1 1 ∧ e = .int .i64 0 ∧ rowAt wd gx = some (.cells (exA (upTo p q q (k + 1)) zeroW) 60 (0, 0)) ∧ rowAt wd g2 = some (.cells #[.int .i64 ((k : Int) + 1), .int .i64 d1, .bool true, .bool false, .bool false, .int .u8 d2] 27 (0, 0)) ∧ wb.heap.size ≤ gx ∧ wb.heap.size ≤ g2 ∧ Below wb.heap.size wb wd)
        case first =>
          obtain ⟨U, hU⟩ : ∃ U : List Value, tabA q = U.toArray := ⟨rows2 31 q, rfl⟩
          have hu25 := Try.underlying25
          have hiU : (Try.prog.info? 25).map (·.size) = some U.length := by rw [sizePrefs, len_of_tab hU]
          have HC : ∀ W, Calls Try.prog 31 #[.agg (exA (upTo p q q k) zeroW), .agg U.toArray, .bool false, .agg #[.int .i64 ((k : Int) + 1), .int .i64 a1, .bool false, .bool false, .bool false, .int .u8 a2]] W fun e w' => ∃ g2, e = .returned (.tuple #[.agg (exA (upTo p q q (k + 1)) zeroW), .slice (some ⟨g2, 0, none⟩) 1 1, .int .i64 0]) ∧ rowAt w' g2 = some (.cells #[.int .i64 ((k : Int) + 1), .int .i64 d1, .bool true, .bool false, .bool false, .int .u8 d2] 27 (0, 0)) ∧ W.heap.size ≤ g2 ∧ Below W.heap.size W w' := by
            intro W; rw [← hU]; exact got_says HG1.out false false W
          have HC := hid HC
          have q0 : ∀ x : Good wb, rowAt x.u (w2.heap.size) = some (.cells (exA (upTo p q q k) zeroW) 60 (0, 0)) ∧ x.u.rangeAt (w.heap.size + 1) 0 U ∧ x.u.cell? ⟨g, k * 6, none⟩ = some (.int .i64 ((k : Int) + 1)) ∧ x.u.cell? ⟨g, k * 6 + 1, none⟩ = some (.int .i64 a1) ∧ x.u.cell? ⟨g, k * 6 + 2, none⟩ = some (.bool false) ∧ x.u.cell? ⟨g, k * 6 + 3, none⟩ = some (.bool false) ∧ x.u.cell? ⟨g, k * 6 + 4, none⟩ = some (.bool false) ∧ x.u.cell? ⟨g, k * 6 + 5, none⟩ = some (.int .u8 a2) := fun x => ⟨rowNext' x.b r3c, range_of_row (rowNext' x.b r3q) hU, HTRI3.out _ x.b⟩
          have HQQ := hid q0
          clear q0 hU r3p r3q r3s r3c rv
          go_region_held3 (fun w' => rowAt w' (w2.heap.size) = some (.cells (exA (upTo p q q k) zeroW) 60 (0, 0)) ∧ w'.rangeAt (w.heap.size + 1) 0 U ∧ w'.cell? ⟨g, k * 6, none⟩ = some (.int .i64 ((k : Int) + 1)) ∧ w'.cell? ⟨g, k * 6 + 1, none⟩ = some (.int .i64 a1) ∧ w'.cell? ⟨g, k * 6 + 2, none⟩ = some (.bool false) ∧ w'.cell? ⟨g, k * 6 + 3, none⟩ = some (.bool false) ∧ w'.cell? ⟨g, k * 6 + 4, none⟩ = some (.bool false) ∧ w'.cell? ⟨g, k * 6 + 5, none⟩ = some (.int .u8 a2))
            (exact HQQ.out ⟨_, by first | exact Below.refl _ _ | exact (Below.refl _ _).drew | exact hb9' | exact hb9'.drew | exact hb9'.alloc hb9'.size _ | exact ((Below.refl _ _).drew).alloc (Nat.le_refl _) _ | exact ((Below.refl _ _).alloc (Nat.le_refl _) _).drew | exact hb9'.setCell (Nat.le_refl _) _ | exact (hb9'.setCell (Nat.le_refl _) _).setCell (Nat.le_refl _) _ | exact below_putRow hb9' _ _ _ (Nat.le_refl _) | exact below_putRow (hb9'.alloc hb9'.size _) _ _ _ hb9'.size⟩)
            (first | (go_at_call 31; (with_reducible refine (HC.out _).mono ?_); rintro e w9 ⟨g2, rfl, hr2, hg2, hb9⟩; have hb9' := below9 (w3 := wb) hb9; have HR2 := hid hr2; have HG22 := hid hg2; clear hr2 hg2; (first | (have r9 := row_ahead hb9; have hL := hid (leftY_call (cs := exA (upTo p q q (k + 1)) zeroW) hb9 HR2 HG22)) | (have hL := hid (leftY_new (t := 60) (cs := exA (upTo p q q (k + 1)) zeroW) hb9' HR2 HG22)))))
          all_goals go_wp2_with fail
          all_goals go_meet
          all_goals exact ⟨_, _, rfl, rfl, rfl, hL.out⟩
        case rest =>
          obtain ⟨wd, hwd⟩ : ∃ x, x = wc := ⟨_, rfl⟩
          subst hwd
          obtain ⟨gx, g2, rfl, rfl, rfl, rx, rg2, hgx, hgg2, hb4⟩ := hcut
          have r4p := rowNext' hb4 r3p
          have r4q := rowNext' hb4 r3q
          have r4s := rowNext' hb4 r3s
          have r4c := rowNext' hb4 r3c
          have r4v := rowNext' hb4 rv
          have HB4 := hid (below_step HB3.out hs3 hb4)
          have hs4 : w.heap.size ≤ wd.heap.size := HB4.out.size
          have HRT4 := hid (HRT3.out.below hb4)
          have lx := lt_of_some rx
          have lg2 := lt_of_some rg2
          have lsc := lt_of_some r3c
          have lss := lt_of_some r3s
          have hs34 : wb.heap.size ≤ wd.heap.size := hb4.size
          clear r3p r3q r3s r3c rv HTRI3 HRT3 hb4
          go_upto_region 14 with fail
          go_cut [17, 18, 19] from 47 to 120 (fun x y e we => ∃ gy, x = .pointer (some ⟨gy, 0, none⟩) ∧ y = .slice none 0 0 ∧ e = .int .i64 0 ∧ rowAt we gy = some (.cells (exA (upTo p q p (k + 1)) (onesFrom (k + 1))) 60 (0, 0)) ∧ wd.heap.size ≤ gy ∧ Below wd.heap.size wd we)
          case first =>
            obtain ⟨U, hU⟩ : ∃ U : List Value, tabA p = U.toArray := ⟨rows2 31 p, rfl⟩
            have hu25 := Try.underlying25
            have hiU : (Try.prog.info? 25).map (·.size) = some U.length := by rw [sizePrefs, len_of_tab hU]
            have HC : ∀ W, Calls Try.prog 31 #[.agg (exA (upTo p q p k) (onesFrom k)), .agg U.toArray, .bool true, .agg #[.int .i64 ((k : Int) + 1), .int .i64 d1, .bool true, .bool false, .bool false, .int .u8 d2]] W fun e w' => e = .returned (.tuple #[.agg (exA (upTo p q p (k + 1)) (onesFrom (k + 1))), .slice none 0 0, .int .i64 0]) ∧ Below W.heap.size W w' := by
              intro W; rw [← hU]; exact got_quiet HG2.out false false W
            have HC := hid HC
            have q0 : ∀ x : Good wd, rowAt x.u (w1.heap.size) = some (.cells (exA (upTo p q p k) (onesFrom k)) 60 (0, 0)) ∧ x.u.rangeAt (w.heap.size) 0 U ∧ x.u.cell? ⟨g2, 0, none⟩ = some (.int .i64 ((k : Int) + 1)) ∧ x.u.cell? ⟨g2, 1, none⟩ = some (.int .i64 d1) ∧ x.u.cell? ⟨g2, 2, none⟩ = some (.bool true) ∧ x.u.cell? ⟨g2, 3, none⟩ = some (.bool false) ∧ x.u.cell? ⟨g2, 4, none⟩ = some (.bool false) ∧ x.u.cell? ⟨g2, 5, none⟩ = some (.int .u8 d2) := by
              intro x
              have y := cells6 (rowNext' x.b rg2)
              exact ⟨rowNext' x.b r4s, range_of_row (rowNext' x.b r4p) hU, y.1, y.2.1, y.2.2.1, y.2.2.2.1, y.2.2.2.2.1, y.2.2.2.2.2.1⟩
            have HQQ := hid q0
            clear q0 hU r4p r4q r4s r4c r4v rx rg2
            go_region_held3 (fun w' => rowAt w' (w1.heap.size) = some (.cells (exA (upTo p q p k) (onesFrom k)) 60 (0, 0)) ∧ w'.rangeAt (w.heap.size) 0 U ∧ w'.cell? ⟨g2, 0, none⟩ = some (.int .i64 ((k : Int) + 1)) ∧ w'.cell? ⟨g2, 1, none⟩ = some (.int .i64 d1) ∧ w'.cell? ⟨g2, 2, none⟩ = some (.bool true) ∧ w'.cell? ⟨g2, 3, none⟩ = some (.bool false) ∧ w'.cell? ⟨g2, 4, none⟩ = some (.bool false) ∧ w'.cell? ⟨g2, 5, none⟩ = some (.int .u8 d2))
              (exact HQQ.out ⟨_, by first | exact Below.refl _ _ | exact (Below.refl _ _).drew | exact hb9' | exact hb9'.drew | exact hb9'.alloc hb9'.size _ | exact ((Below.refl _ _).drew).alloc (Nat.le_refl _) _ | exact ((Below.refl _ _).alloc (Nat.le_refl _) _).drew | exact hb9'.setCell (Nat.le_refl _) _ | exact (hb9'.setCell (Nat.le_refl _) _).setCell (Nat.le_refl _) _ | exact below_putRow hb9' _ _ _ (Nat.le_refl _) | exact below_putRow (hb9'.alloc hb9'.size _) _ _ _ hb9'.size⟩)
              (first | (go_at_call 31; (with_reducible refine (HC.out _).mono ?_); rintro e w9 ⟨rfl, hb9⟩; have hb9' := below9 (w3 := wd) hb9; (first | (have r9 := row_ahead hb9; have hL := hid (leftX_call (cs := exA (upTo p q p (k + 1)) (onesFrom (k + 1))) hb9)) | (have hL := hid (leftX_new (t := 60) (cs := exA (upTo p q p (k + 1)) (onesFrom (k + 1))) hb9')))))
            all_goals go_wp2_with fail
            all_goals go_meet
            all_goals exact ⟨_, rfl, rfl, rfl, hL.out⟩
          case rest =>
            obtain ⟨we, hwe⟩ : ∃ x, x = wc := ⟨_, rfl⟩
            subst hwe
            obtain ⟨gy, rfl, rfl, rfl, ry, hgy, hb5⟩ := hcut
            have r5p := rowNext' hb5 r4p
            have r5q := rowNext' hb5 r4q
            have r5s := rowNext' hb5 r4s
            have r5c := rowNext' hb5 r4c
            have r5v := rowNext' hb5 r4v
            have r5x := rowNext' hb5 rx
            have HB5 := hid (below_step HB4.out hs4 hb5)
            have hs5 : w.heap.size ≤ we.heap.size := HB5.out.size
            have HRT5 := hid (HRT4.out.below hb5)
            clear r4p r4q r4s r4c r4v rx rg2 HRT4 hb5
            go_upto_region 15 with fail
            have gv := fun x => cells2 (goodRow r5v x)
            have u0 : ∀ x : Good we, x.u.cell? ⟨gx, (k + 1) * 2, none⟩ = some (.int .i64 d1) := fun x => by rw [cell_of_row _ _ _ _ _ _ (goodRow r5x x), exA_cell0 _ _ (k + 1) (by omega), upTo_at _ _ _ (by omega) (Nat.le_refl _), HD.out]
            have u1 : ∀ x : Good we, x.u.cell? ⟨gx, (k + 1) * 2 + 1, none⟩ = some (.int .u8 d2) := fun x => by rw [cell_of_row _ _ _ _ _ _ (goodRow r5x x), exA_cell1 _ _ (k + 1) (by omega), upTo_at _ _ _ (by omega) (Nat.le_refl _), HD.out]
            have v0 : ∀ x : Good we, x.u.cell? ⟨gy, (k + 1) * 2, none⟩ = some (.int .i64 d1) := fun x => by rw [cell_of_row _ _ _ _ _ _ (goodRow ry x), exA_cell0 _ _ (k + 1) (by omega), upTo_at _ _ _ (by omega) (Nat.le_refl _), HD.out]
            have v1 : ∀ x : Good we, x.u.cell? ⟨gy, (k + 1) * 2 + 1, none⟩ = some (.int .u8 d2) := fun x => by rw [cell_of_row _ _ _ _ _ _ (goodRow ry x), exA_cell1 _ _ (k + 1) (by omega), upTo_at _ _ _ (by omega) (Nat.le_refl _), HD.out]
            refine wp_region_goodw (by kernel_rfl) (by kernel_rfl) ?_
            intro W6 hW6
            subst hW6
            iterate 25 (go_big_quiet_step (fail))
            refine wpQuiet_nil ?_
            rintro wf ⟨⟨_, hb6⟩, rfl⟩
            have r6p := rowNext' hb6 r5p
            have r6q := rowNext' hb6 r5q
            have r6s := rowNext' hb6 r5s
            have r6c := rowNext' hb6 r5c
            have r6x := rowNext' hb6 r5x
            have r6y := rowNext' hb6 ry
            have HB6 := hid (below_step HB5.out hs5 hb6)
            have hs6 : w.heap.size ≤ wf.heap.size := HB6.out.size
            have HRT6 := hid (HRT5.out.below hb6)
            clear r5p r5q r5s r5c r5v r5x ry gv u0 u1 v0 v1 HRT5 hb6
            have l6x := lt_of_some r6x
            have l6y := lt_of_some r6y
            have l6s := lt_of_some r6s
            have l6c := lt_of_some r6c
            have hney : gy ≠ w2.heap.size := by omega
            have hnex : gx ≠ w1.heap.size := by omega
            have hney2 : gy ≠ w1.heap.size := by omega
            have hnex2 : gx ≠ w2.heap.size := by omega
            have hnec : w1.heap.size ≠ w2.heap.size := by omega
            have hnec2 : w2.heap.size ≠ w1.heap.size := by omega
            go_upto_region 17 with fail
            go_region
            go_wp2_with fail
            go_roundw
            case rel => exact ⟨k + 1, by omega, by go_num, ⟨by rw [rowAt_drew, rowAt_putOther _ _ _ _ _ (by omega), rowAt_putOther _ _ _ _ _ (by omega)]; exact r6p, by rw [rowAt_drew, rowAt_putOther _ _ _ _ _ (by omega), rowAt_putOther _ _ _ _ _ (by omega)]; exact r6q, by rw [rowAt_drew, rowAt_put _ _ _ _ (by rw [putRow_size]; exact l6s)], by rw [rowAt_drew, rowAt_putOther _ _ _ _ _ (by omega), rowAt_put _ _ _ _ l6c]⟩, (Tris.put (Tris.put HRT6.out (by omega)) (by omega)).below (Below.refl _ _).drew, (below_putRow (below_putRow HB6.out _ _ _ (by omega)) _ _ _ (by omega)).drew⟩
            case measure => simp [intOf]; omega
    · obtain rfl : k = 30 := by omega
      have hE := dealt_end (tabErr_ok HP.out) (tabErr_ok HQ.out)
      clear rp rq rt
      have ls := lt_of_some rs
      have lc := lt_of_some rc
      go_wp2_with fail
      refine (awake17 _).mono ?_
      rintro e w7 ⟨rfl, hb7⟩
      have HB7 := hid (below_step HBR.out hsr hb7)
      go_wp2_with fail
      go_ret
      exact ⟨rfl, HB7.out⟩

end Go.Proofs.Ytjghmgpmaallfaa
