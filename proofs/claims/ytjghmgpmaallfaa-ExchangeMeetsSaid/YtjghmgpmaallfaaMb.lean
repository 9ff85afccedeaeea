/-
  agree.Whole and exchange.Begin, with the row that they make; how two ends begin.
-/
import Derived.Test.YtjghmgpmaallfaaMq
import Derived.Test.YtjghmgpmaallfaaEbg
namespace Go.Proofs.Ytjghmgpmaallfaa
open Go.RowKit
set_option linter.unusedVariables false
set_option linter.unusedSimpArgs false

attribute [local go_sem ↓] asC asS
set_option maxHeartbeats 4000000 in
set_option maxRecDepth 100000 in
/-- agree.Whole, and the row that it has made -/
theorem whole_own (t : Tb) (h : tabErr t = 0) (w : World) :
    Calls Try.prog 22 #[.agg (tabA t)] w fun e w' => ∃ g, e = .returned (.tuple #[.slice (some ⟨g, 0, none⟩) 30 31, .int .i64 0]) ∧
      (∃ cur, rowAt w' g = some (.cells cur 27 (0, 0)) ∧ cur.size = 31 * 6 ∧ cur.toList.take (30 * 6) = tris t 30) ∧ w.heap.size ≤ g ∧ g < w'.heap.size ∧ Below w.heap.size w w' := by
  have H := hid h
  clear h
  obtain ⟨Z, hZ, hmk⟩ := made46
  have HZ := hid hZ
  clear hZ
  go_enter Try.func22, Try.ntmps22
  go_wp2_with (first
    | (go_at_call 19; (with_reducible refine (tableCheck_eq' H.out _).mono ?_); rintro e w1 ⟨rfl, hb1⟩; have r0 := rowNext' hb1 (show rowAt _ w.heap.size = _ from rowAt_new _ _ _ rfl); have l0 := lt_of_some r0))
  clear hmk
  obtain ⟨W0, hW0⟩ : ∃ W0, W0 = w1.alloc (.cells Z 27) := ⟨_, rfl⟩
  have hown0 : W0.ownsRow w1.heap.size 27 6 (.slice (some ⟨w1.heap.size, 0, none⟩) 0 31) 0 [] := by
    rw [hW0]; exact World.ownsRow_made w1 Z 31 (Nat.le_refl _) (by unfold maxLen; omega) HZ.out
  have hbW : Below w1.heap.size w1 W0 := by rw [hW0]; exact (Below.refl _ _).alloc (Nat.le_refl _) _
  rw [← hW0]
  clear hW0
  have HO := hid hown0
  have HBW := hid hbW
  have HB1 := hid hb1
  have hs1 := hb1.size
  clear hown0 hbW r0 hb1
  obtain ⟨i0, hi, hz, hs, hy⟩ := info_parts info27
  have HI := hid (And.intro hi hs)
  clear hi hz hs hy
  go_loopw [5, 15] (fun v i wr => ∃ k : Nat, k ≤ 31 ∧ i = .int .i64 k ∧ v = .slice (some ⟨w1.heap.size, 0, none⟩) (k - 1) 31 ∧ wr.ownsRow w1.heap.size 27 6 (.slice (some ⟨w1.heap.size, 0, none⟩) (k - 1) 31) (k - 1) (tris t (k - 1)) ∧ Below w1.heap.size w1 wr) (fun v i _ => 31 - (intOf i).toNat)
  case atStart => exact ⟨0, by omega, rfl, rfl, HO.out, HBW.out⟩
  case round =>
    obtain ⟨k, hk, rfl, rfl, hown, hb⟩ := hrel
    have HN := hid hown
    have HB := hid hb
    have hsz := hb.size
    clear hown hb
    by_cases hlt : k < 31
    · obtain ⟨c1, c2, hc⟩ : ∃ c1 c2, t k = (c1, c2) := ⟨_, _, rfl⟩
      have hix := fun w => run_index_tab t 39 29 k hlt w Try.underlying39 _ Try.underlying29 sizeCell
      simp only [hc] at hix
      have HC := hid hc
      clear hc
      by_cases hpos : 0 < k
      · have hk30 : k - 1 + 1 ≤ 31 := by omega
        have hp0 : (0 : Int) < (k : Int) := by omega
        have HT : Hid (tris t (k - 1 + 1) = tris t (k - 1) ++ [.int .i64 k, .int .i64 c1, .bool false, .bool false, .bool false, .int .u8 c2]) := hid (by
          rw [tris_succ, show k - 1 + 1 = k by omega, tri, HC.out])
        go_wp2_with (first | (at_builtin; refine wpList_append_own_spare _ rfl (.tmp 21) (.tmp 28) 46 rfl w1.heap.size 27 i0 6 Try.underlying46 HI.out.1 HI.out.2 w1.heap.size (k - 1) 31 (tris t (k - 1)) rfl ((HN.out.alloc _).alloc _) ⟨wr.heap.size + 1, 0, none⟩ 1 1 [.int .i64 k, .int .i64 c1, .bool false, .bool false, .bool false, .int .u8 c2] rfl rfl (lit_cell _ _ _ _ (by simp)) (one_lit _ _ _) hk30 ?_; intro w2 hown2 hg2; have HN2 := hid hown2; have HG2 := hid hg2; clear hown2 hg2))
        go_roundw
        case rel => exact ⟨k + 1, by omega, by go_num, by rw [show k + 1 - 1 = k - 1 + 1 by omega], by rw [show k + 1 - 1 = k - 1 + 1 by omega, HT.out]; exact HN2.out,
          ((HB.out.alloc hsz _).alloc (by simp; omega) _).grown HG2.out (by simp; omega) (fun j hj => by injection hj with hj; omega)⟩
        case measure => simp [intOf]; omega
      · have hp0 : (k : Int) ≤ 0 := by omega
        go_wp2
        go_roundw
        case rel => exact ⟨k + 1, by omega, by go_num, by rw [show k + 1 - 1 = k - 1 by omega], by rw [show k + 1 - 1 = k - 1 by omega]; exact HN.out.alloc _, HB.out.alloc hsz _⟩
        case measure => simp [intOf]; omega
    · obtain rfl : k = 31 := by omega
      go_wp2
      go_ret2
      obtain ⟨hlen, h | ⟨g, cap, cur, hv, hb, hg, hn, hm, hs, ht⟩⟩ := HN.out
      · exact absurd h.1 (by simp)
      · simp at hv
        obtain ⟨rfl, rfl⟩ := hv
        exact ⟨w1.heap.size, rfl, ⟨cur, hg, hs, ht⟩, (by have := hs1; simp at this; omega), lt_of_some hg, ((((Below.refl w.heap.size w).alloc (Nat.le_refl _) _)).trans (HB1.out.mono (by simp))).trans (HB.out.mono (by simp at hs1; omega))⟩
set_option maxHeartbeats 2000000 in
set_option maxRecDepth 100000 in
theorem begin_q (p : Tb) (HP : Hid (tabErr p = 0)) (w : World) :
    Calls Try.prog 35 #[.agg (tabA p), .bool true] w fun e w' => ∃ g, e = .returned (.tuple #[.agg (exA p (onesTo 31)), .slice (some ⟨g, 0, none⟩) 30 31, .int .i64 0]) ∧ (∃ cur, rowAt w' g = some (.cells cur 27 (0, 0)) ∧ cur.size = 31 * 6 ∧ cur.toList.take (30 * 6) = tris p 30) ∧ w.heap.size ≤ g ∧ g < w'.heap.size ∧ Below w.heap.size w w' := by
  go_enter Try.func35, Try.ntmps35
  go_wp2_with fail
  refine (first_ok p HP.out _).mono ?_
  rintro e w1 ⟨rfl, hb1⟩
  have HB1 := hid (below_step (((Below.refl w.heap.size w).alloc (by first | omega | (simp [putRow_size, drewN_heap, drew_heap] <;> omega)) _).alloc (by first | omega | (simp [putRow_size, drewN_heap, drew_heap] <;> omega)) _) (by first | omega | (simp [putRow_size, drewN_heap, drew_heap] <;> omega)) hb1)
  have hs1 : w.heap.size ≤ w1.heap.size := HB1.out.size
  have r1_0 : rowAt w1 (w.heap.size) = some (.cells (tabA p) 25 (0, 0)) := rowNext' hb1 (by rw [rowAt_old _ _ _ (by first | omega | (simp [putRow_size, drewN_heap, drew_heap] <;> omega)), rowAt_new _ _ _ (by first | omega | (simp [putRow_size, drewN_heap, drew_heap] <;> omega))])
  have c1_0 := lt_of_some r1_0
  have r1_1 : rowAt w1 (w.heap.size + 1) = some (.cells (exA zeroT zeroW) 60 (0, 0)) := rowNext' hb1 (by rw [rowAt_new _ _ _ (by first | omega | (simp [putRow_size, drewN_heap, drew_heap] <;> omega))])
  have c1_1 := lt_of_some r1_1
  have hse1 : w.heap.size + 1 < w1.heap.size := by omega
  go_wp2_with (refine wpList_build_known rfl 60 #[(0, .tmp 22)] rfl #[(0, .agg (tabA p))] (by simp [Act.eval]) (.agg (exA p zeroW)) (buildExT p _) ?_)
  refine (exKind true _).mono ?_
  rintro e w2 ⟨rfl, hb2⟩
  have HB2 := hid (below_step ((HB1.out.alloc (by first | omega | (simp [putRow_size, drewN_heap, drew_heap] <;> omega)) _).alloc (by first | omega | (simp [putRow_size, drewN_heap, drew_heap] <;> omega)) _) (by first | omega | (simp [putRow_size, drewN_heap, drew_heap] <;> omega)) hb2)
  have hs2 : w.heap.size ≤ w2.heap.size := HB2.out.size
  have r2_0 : rowAt w2 (w.heap.size) = some (.cells (tabA p) 25 (0, 0)) := rowNext' hb2 (by rw [rowAt_old _ _ _ (by first | omega | (simp [putRow_size, drewN_heap, drew_heap] <;> omega)), rowAt_old _ _ _ (by first | omega | (simp [putRow_size, drewN_heap, drew_heap] <;> omega))]; exact r1_0)
  have c2_0 := lt_of_some r2_0
  have r2_1 : rowAt w2 (w.heap.size + 1) = some (.cells (exA zeroT zeroW) 60 (0, 0)) := rowNext' hb2 (by rw [rowAt_old _ _ _ (by first | omega | (simp [putRow_size, drewN_heap, drew_heap] <;> omega)), rowAt_old _ _ _ (by first | omega | (simp [putRow_size, drewN_heap, drew_heap] <;> omega))]; exact r1_1)
  have c2_1 := lt_of_some r2_1
  have r2_2 : rowAt w2 (w1.heap.size) = some (.cells (tabA p) 39 (0, 0)) := rowNext' hb2 (by rw [rowAt_old _ _ _ (by first | omega | (simp [putRow_size, drewN_heap, drew_heap] <;> omega)), rowAt_new _ _ _ (by first | omega | (simp [putRow_size, drewN_heap, drew_heap] <;> omega))])
  have c2_2 := lt_of_some r2_2
  have r2_3 : rowAt w2 (w1.heap.size + 1) = some (.cells (exA p zeroW) 60 (0, 0)) := rowNext' hb2 (by rw [rowAt_new _ _ _ (by first | omega | (simp [putRow_size, drewN_heap, drew_heap] <;> omega))])
  have c2_3 := lt_of_some r2_3
  clear r1_0 c1_0 r1_1 c1_1 hb1 HB1 hs1
  go_wp2_with fail
  have R4 := hid r2_1
  have R9 : Hid (rowAt w2 (w1.heap.size + 1) = some (.cells (exA p (onesTo 1)) 60 (0, 0))) := hid (by rw [onesTo_one]; exact r2_3)
  have R7 := hid r2_2
  clear r2_1 r2_3 r2_2 c2_2 c2_1 c2_3
  have hne : w1.heap.size + 1 ≠ w.heap.size + 1 := by omega
  have hne2 : w1.heap.size + 1 ≠ w1.heap.size := by omega
  go_loopw [10] (fun i' wr => ∃ k : Nat, 1 ≤ k ∧ k ≤ 31 ∧ i' = .int .i64 k ∧ rowAt wr (w.heap.size + 1) = some (.cells (exA zeroT zeroW) 60 (0, 0)) ∧ rowAt wr (w1.heap.size + 1) = some (.cells (exA p (onesTo k)) 60 (0, 0)) ∧ rowAt wr (w1.heap.size) = some (.cells (tabA p) 39 (0, 0)) ∧ Below w.heap.size w wr) (fun i' _ => 31 - (intOf i').toNat)
  case atStart => exact ⟨1, by omega, by omega, rfl, R4.out, R9.out, R7.out, HB2.out⟩
  case round =>
    obtain ⟨k, hk1, hk, rfl, r4, r9, r7, hbr⟩ := hrel
    have HBR := hid hbr
    have hsr := hbr.size
    have c4 := lt_of_some r4
    have c9 := lt_of_some r9
    have c7 := lt_of_some r7
    clear hbr R4 R9 R7 HB2
    by_cases hlt : k < 31
    · have k9 := cell_of_row _ _ (62 + k) _ _ _ r9
      rw [exA_wait _ _ k hlt] at k9
      have f9 := frozenRow r9
      have hn0 : (0 : Int) ≤ (k : Int) := by omega
      have hn31 : (k : Int) < 31 := by omega
      have q9 : rowAt (wr.setCell ⟨w1.heap.size + 1, 62 + k, none⟩ (.int .i64 1)) (w1.heap.size + 1) = some (.cells (exA p (onesTo (k + 1))) 60 (0, 0)) := by rw [← onesTo_succ k hk1, ← exA_updW p (onesTo k) k 1 hlt]; exact setCell_rowSame r9 _ _
      have q4 : rowAt (wr.setCell ⟨w1.heap.size + 1, 62 + k, none⟩ (.int .i64 1)) (w.heap.size + 1) = some (.cells (exA zeroT zeroW) 60 (0, 0)) := setCell_rowOther r4 (b := w1.heap.size + 1) (62 + k) (.int .i64 1) (Ne.symm hne)
      have q7 : rowAt (wr.setCell ⟨w1.heap.size + 1, 62 + k, none⟩ (.int .i64 1)) (w1.heap.size) = some (.cells (tabA p) 39 (0, 0)) := setCell_rowOther r7 (b := w1.heap.size + 1) (62 + k) (.int .i64 1) (Ne.symm hne2)
      have HQ4 := hid q4
      have HQ7 := hid q7
      have HQ9 := hid q9
      have HBS := hid (HBR.out.setCell (p := ⟨w1.heap.size + 1, 62 + k, none⟩) (show w.heap.size ≤ w1.heap.size + 1 by omega) (.int .i64 1))
      clear q9 q4 q7
      go_wp2_with fail
      go_roundw
      case rel => exact ⟨k + 1, by omega, by omega, by go_num, HQ4.out, HQ9.out, HQ7.out, HBS.out⟩
      case measure => simp [intOf]; omega
    · obtain rfl : k = 31 := by omega
      go_wp2_with fail
      refine (whole_own p HP.out _).mono ?_
      rintro e w3 ⟨g, rfl, ht, hg1, hg2, hb3⟩
      have q4 := rowNext' hb3 r4
      have q9 := rowNext' hb3 r9
      have l4 := lt_of_some q4
      have HB3 := hid (below_step HBR.out hsr hb3)
      have HT := hid ht
      have l4' : w.heap.size + 1 < wr.heap.size := c4
      clear r4 r9 r7 c4 c9 c7 hb3 ht
      go_wp2_with fail
      exact bodyPost_ret (v := .tuple #[.agg (exA p (onesTo 31)), .slice (some ⟨g, 0, none⟩) 30 31, .int .i64 0]) (results_row_tmp2 Try.results35 _ _ (w.heap.size + 1) 60 (exA p (onesTo 31)) (0, 0) _ rfl (rowAt_put _ _ _ _ l4) Try.underlying60 rfl (by rw [exA_size]; exact sizeExch) (.slice (some ⟨g, 0, none⟩) 30 31) (.int .i64 0) rfl rfl) rfl
        ⟨g, rfl, (by obtain ⟨cur, h1, h2, h3⟩ := HT.out; exact ⟨cur, by rw [rowAt_putOther _ _ _ _ _ (by omega)]; exact h1, h2, h3⟩), by omega, by rw [putRow_size]; exact hg2, below_putRow HB3.out _ _ _ (by omega)⟩

/-- what a server proposes when it begins. -/
def props (p : Tb) : List Msg := (List.range 30).map fun i => ⟨((i + 1 : Nat) : Int), (p (i + 1)).1, false, false, false, (p (i + 1)).2⟩
theorem props_cells (p : Tb) : msgsC (props p) = tris p 30 := by
  unfold msgsC props tris; rw [List.flatMap_map]; rfl
theorem props_length (p : Tb) : (props p).length = 30 := by simp [props]
theorem props_q {w : World} {g B : Nat} {p : Tb} {cur : Array Value} (hB : B ≤ g) (h1 : rowAt w g = some (.cells cur 27 (0, 0))) (h2 : cur.size = 31 * 6) (h3 : cur.toList.take (30 * 6) = tris p 30) : HasQ w B (.slice (some ⟨g, 0, none⟩) 30 31) (props p) :=
  .inr ⟨g, 0, 31, cur, by rw [props_length], hB, h1, by rw [props_length]; omega, by unfold maxLen; omega, by omega, by rw [List.drop_zero, props_length, props_cells]; exact h3⟩
theorem count_one : ∀ n : Nat, n < 31 → 1 ≤ n → (List.range 30).countP (fun i => ((i + 1 : Nat) : Int) == (n : Int)) = 1 := by decide
theorem props_nA (p : Tb) : nA (props p) = 0 := by
  unfold nA props; rw [List.countP_map]; exact List.countP_eq_zero.2 fun i _ => by simp
theorem nA_filter (q : List Msg) (n : Nat) (h : nA q = 0) : nA (ofF n q) = 0 := by
  unfold nA ofF at *
  rw [List.countP_eq_zero] at *
  exact fun x hx => h x (List.mem_filter.1 hx).1
theorem props_nP (p : Tb) {n : Nat} (h1 : 1 ≤ n) (h2 : n < 31) : nP (ofF n (props p)) = 1 := by
  have e := nPA (ofF n (props p))
  rw [nA_filter _ n (props_nA p)] at e
  have hl : (ofF n (props p)).length = 1 := by
    unfold ofF props
    rw [← List.countP_eq_length_filter, List.countP_map]
    exact count_one n h2 h1
  omega
/-- both ends begin. -/
theorem Meet.begin {p q : Tb} (hp : tabOk p) (hq : tabOk q) (hk8 : ∀ i, i < 31 → 0 ≤ (p i).2 ∧ (p i).2 ≤ 255) : Meet p q (onesTo 31) zeroW [] (props p) 30 30 := by
  refine ⟨?_, wts_zero, hp, hq, fun n h1 h2 => ?_, fun x hx => absurd hx (by simp), fun x hx => ?_, ?_, by rw [props_length]; simp⟩
  · intro f hf; unfold wtOk onesTo
    by_cases h : 1 ≤ f ∧ f < 31
    · rw [if_pos h]; omega
    · rw [if_neg h]; omega
  · have hP := props_nP p h1 h2
    have hA := nA_filter _ n (props_nA p)
    have hW : onesTo 31 n = 1 := by unfold onesTo; rw [if_pos ⟨h1, h2⟩]
    exact ⟨by rw [hP, hW]; rfl, AP_P hA, fun h => by omega, fun h => by omega, fun h => absurd h (by rw [hW]; decide), by unfold zeroW; omega, by unfold zeroW; omega⟩
  · unfold props at hx
    rw [List.mem_map] at hx
    obtain ⟨i, hi, rfl⟩ := hx
    rw [List.mem_range] at hi
    obtain ⟨k0, k1, _⟩ := hp (i + 1) (by omega)
    exact ⟨by show (1 : Int) ≤ ((i + 1 : Nat) : Int); omega, by show ((i + 1 : Nat) : Int) ≤ 30; omega, k0, by show (p (i + 1)).1 ≤ 3; omega, hk8 (i + 1) (by omega)⟩
  · have e := nPA (props p)
    rw [props_nA, props_length] at e
    have : nP ([] : List Msg) = 0 := rfl
    omega
theorem phi_begin (p : Tb) : phi [] + phi (props p) = 60 := by
  have e := nPA (props p)
  rw [props_nA, props_length] at e
  unfold phi
  rw [props_nA]
  have : nP ([] : List Msg) = 0 ∧ nA ([] : List Msg) = 0 := ⟨rfl, rfl⟩
  omega
end Go.Proofs.Ytjghmgpmaallfaa
