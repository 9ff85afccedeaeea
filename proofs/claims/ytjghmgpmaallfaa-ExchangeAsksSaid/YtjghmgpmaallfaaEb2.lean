/-
  The walk of ExchangeAsks: its loops.
-/
import Derived.Test.YtjghmgpmaallfaaEa2
import Derived.Deep.QuietTactic
import Derived.BigQuiet
import Derived.Deep.RegionWith
namespace Go.Proofs.Ytjghmgpmaallfaa
open Go.RowKit
set_option linter.unusedVariables false
set_option linter.unusedSimpArgs false

/-- the table behind s answers. -/
def tz (t : Tb) (n s : Nat) : Tb := if s = 0 then t else upd t n (0, 0)
theorem upd_upd (t : Tb) (n : Nat) (c d : Int × Int) : upd (upd t n c) n d = upd t n d := by funext i; unfold upd; split <;> rfl
theorem tz_succ (t : Tb) (n s : Nat) : upd (tz t n s) n (0, 0) = tz t n (s + 1) := by
  unfold tz; rw [if_neg (show ¬ s + 1 = 0 by omega)]
  split
  · rfl
  · exact upd_upd t n _ _
theorem tz_ok {t : Tb} (h : tabOk t) {n : Nat} (hn : 1 ≤ n) (s : Nat) : tabOk (tz t n s) := by
  unfold tz; split
  · exact h
  · exact tab_upd h hn ⟨by simp, by simp, by simp⟩
theorem updW_updW' (m : Wt) (k : Nat) (x y : Int) : updW (updW m k x) k y = updW m k y := by
  funext i; unfold updW; split <;> rfl
theorem asks_got1 {t : Tb} {m : Wt} {p : Tb} {b : Bool} {n N j : Nat} (hx : exErr t m = 0) (hp : tabErr p = 0) (h1 : 1 ≤ n) (h2 : n < 31) (hN : N ≤ 7) (hj : j < N) :
    gotR (tz t n j) (updW m n ((N - j : Nat) : Int)) p b n 0 0 true = ((tz t n (j + 1), updW m n ((N - (j + 1) : Nat) : Int)), none, 0) := by
  rcases exErr_or t m with ⟨_, hm, ht⟩ | ⟨k, _⟩
  · have hx' := ex_good (wts_updW hm h1 (show (0 : Int) ≤ ((N - j : Nat) : Int) by omega) (by omega)) (tz_ok ht h1 j)
    have hs : (settle p n 0 0).2 = 0 := by unfold settle; rw [if_pos ⟨tabErr_ok hp, by omega, by omega, by omega, by omega⟩]
    have hf : isF (n : Int) = true := by unfold isF; simp; omega
    unfold gotR
    rw [if_pos ⟨hx', hs⟩, if_pos rfl, if_pos ⟨hf, by rw [Int.toNat_natCast, updW_same]; omega⟩, Int.toNat_natCast, updW_same, updW_updW', show toldC 0 0 = (0, 0) from rfl, tz_succ, show (((N - j : Nat) : Int) - 1) = ((N - (j + 1) : Nat) : Int) from by omega]
  · rw [hx] at k; cases k
theorem asks_got2 {t : Tb} {m : Wt} {p : Tb} {b : Bool} {n N : Nat} (hx : exErr t m = 0) (hp : tabErr p = 0) (h1 : 1 ≤ n) (h2 : n < 31) :
    gotR (tz t n N) (updW m n 0) p b n 0 0 true = ((tz t n N, updW m n 0), none, 5) := by
  rcases exErr_or t m with ⟨_, hm, ht⟩ | ⟨k, _⟩
  · have hx' := ex_good (wts_updW (c := 0) hm h1 (by omega) (by omega)) (tz_ok ht h1 N)
    have hs : (settle p n 0 0).2 = 0 := by unfold settle; rw [if_pos ⟨tabErr_ok hp, by omega, by omega, by omega, by omega⟩]
    unfold gotR
    rw [if_pos ⟨hx', hs⟩, if_pos rfl, if_neg (by rw [Int.toNat_natCast, updW_same]; rintro ⟨_, h⟩; omega)]
  · rw [hx] at k; cases k
theorem updW_updW (m : Wt) (k : Nat) (x y : Int) : updW (updW m k x) k y = updW m k y := by
  funext i; unfold updW; split <;> rfl
theorem updW_self {m : Wt} {k : Nat} {c : Int} (h : m k = c) : updW m k (c + (0 : Nat)) = m := by
  funext i; unfold updW; split
  · rename_i e; rw [e, h]; simp
  · rfl
theorem ex_updW {t : Tb} {m : Wt} {n : Nat} {y : Int} (h : exErr t m = 0) (h1 : y ≤ 65536) (hn : 1 ≤ n) (h0 : 0 ≤ y) : exErr t (updW m n y) = 0 := by
  rcases exErr_or t m with ⟨_, a, b⟩ | ⟨k, _⟩
  · exact ex_good (wts_updW a hn h0 h1) b
  · rw [h] at k; cases k
theorem range_exT {w : World} {g : Nat} {t : Tb} {m : Wt} {ty : TypeId} {U : List Value} (h : rowAt w g = some (.cells (exA t m) ty (0, 0))) (hU : tabA t = U.toArray) : w.rangeAt g 0 U := by
  intro j x hx
  have hj : j < 62 := by
    have := len_of_tab hU
    rcases Nat.lt_or_ge j U.length with h | h
    · omega
    · rw [List.getElem?_eq_none h] at hx; cases hx
  rw [cell_of_row w g (0 + j) _ ty (0, 0) h, Nat.zero_add]
  unfold exA
  rw [Array.getElem?_append_left (by rw [tabA_size]; exact hj), hU]
  simpa using hx
set_option maxHeartbeats 2000000 in
set_option maxRecDepth 100000 in
theorem asks_ok (t : Tb) (m : Wt) (p : Tb) (b : Bool) (n : Nat) (h1 : 1 ≤ n) (h2 : n < 31) (l : Int) (i o : Bool) (v : Int) (u : Int) (hu0 : 0 ≤ u) (hu1 : u ≤ 255) (c : Int) (HM : Hid (m n = c)) (hc0 : 0 ≤ c) (hc : c ≤ 3) (HX : Hid (exErr t m = 0)) (HP : Hid (tabErr p = 0)) (HT : Hid (trErr n l = 0)) (w : World) :
    Calls Try.prog 10 #[.agg (exA t m), .agg (tdA p b n l false i o v), .int .u8 u] w fun e w' => e = .returned (.bool true) ∧ Below w.heap.size w w' := by
  have d1 : decide ((n : Int) < 1) = false := by simp; omega
  have d2 : decide ((31 : Int) ≤ (n : Int)) = false := by simp; omega
  have hn0 : (0 : Int) ≤ (n : Int) := by omega
  have hn31 : (n : Int) < 31 := by omega
  go_enter Try.func10, Try.ntmps10
  go_wp2_with fail
  refine (exCheck_eq HX.out _).mono ?_
  rintro e w1 ⟨rfl, hb1⟩
  have HB1 := hid (below_step (((Below.refl w.heap.size w).alloc (by first | omega | (simp [putRow_size, drewN_heap, drew_heap] <;> omega)) _).alloc (by first | omega | (simp [putRow_size, drewN_heap, drew_heap] <;> omega)) _) (by first | omega | (simp [putRow_size, drewN_heap, drew_heap] <;> omega)) hb1)
  have hs1 : w.heap.size ≤ w1.heap.size := HB1.out.size
  have r1_0 : rowAt w1 (w.heap.size) = some (.cells (exA t m) 60 (0, 0)) := rowNext' hb1 (by rw [rowAt_old _ _ _ (by first | omega | (simp [putRow_size, drewN_heap, drew_heap] <;> omega)), rowAt_new _ _ _ (by first | omega | (simp [putRow_size, drewN_heap, drew_heap] <;> omega))])
  have c1_0 := lt_of_some r1_0
  have r1_1 : rowAt w1 (w.heap.size + 1) = some (.cells (tdA p b n l false i o v) 62 (0, 0)) := rowNext' hb1 (by rw [rowAt_new _ _ _ (by first | omega | (simp [putRow_size, drewN_heap, drew_heap] <;> omega))])
  have c1_1 := cellsTd r1_1
  go_wp2_with fail
  refine (agreeCheck_eq HP.out _).mono ?_
  rintro e w2 ⟨rfl, hb2⟩
  have HB2 := hid (below_step HB1.out (by first | omega | (simp [putRow_size, drewN_heap, drew_heap] <;> omega)) hb2)
  have hs2 : w.heap.size ≤ w2.heap.size := HB2.out.size
  have r2_0 : rowAt w2 (w.heap.size) = some (.cells (exA t m) 60 (0, 0)) := rowNext' hb2 r1_0
  have c2_0 := lt_of_some r2_0
  have r2_1 : rowAt w2 (w.heap.size + 1) = some (.cells (tdA p b n l false i o v) 62 (0, 0)) := rowNext' hb2 r1_1
  have c2_1 := cellsTd r2_1
  clear r1_0 c1_0 r1_1 c1_1 hb1 HB1 hs1
  have k0 := cell_of_row _ _ (62 + n) _ _ _ r2_0
  rw [exA_wait t m n h2, HM.out] at k0
  have hcd : decide (3 < c) = false := by simp; omega
  go_wp2_with fail
  obtain ⟨z, hz⟩ : ∃ z, u % 5 = z := ⟨_, rfl⟩
  have hz0 : 0 ≤ z := by omega
  have hz4 : z ≤ 4 := by omega
  rw [hz]
  clear hz
  have R0 : rowAt (w2.alloc (.cells (exA t m) 60)) w.heap.size = some (.cells (exA t m) 60 (0, 0)) := by rw [rowAt_old _ _ _ (by omega)]; exact r2_0
  have RT : rowAt (w2.alloc (.cells (exA t m) 60)) (w.heap.size + 1) = some (.cells (tdA p b n l false i o v) 62 (0, 0)) := by rw [rowAt_old _ _ _ (by omega)]; exact r2_1
  have RN : rowAt (w2.alloc (.cells (exA t m) 60)) w2.heap.size = some (.cells (exA t (updW m n (c + (0 : Nat)))) 60 (0, 0)) := by rw [rowAt_new _ _ _ rfl, updW_self HM.out]
  have HBA := hid (HB2.out.alloc hs2 (.cells (exA t m) 60))
  have hB : w.heap.size + 1 < w2.heap.size := c2_1.2.2.2.2.2.2.2.2
  have HX' := hid (fun (y : Int) (h0 : 0 ≤ y) (h1 : y ≤ 65536) => ex_updW HX.out h1 (n := n) (by assumption) h0)
  generalize w2.alloc (.cells (exA t m) 60) = wA at *
  clear r2_0 r2_1 c2_0 c2_1 k0 hb2 HB2
  have HASK : Hid (∀ k : Nat, (k : Int) < z → ∀ W, Calls Try.prog 34 #[.agg (exA t (updW m n (c + k))), .agg #[.int .i64 n, .int .i64 l, .bool false, .bool i, .bool o, .int .u8 v]] W fun e w' => ∃ g, e = .returned (.tuple #[.agg (exA t (updW m n (c + k + 1))), .slice (some ⟨g, 0, none⟩) 1 1, .int .i64 0]) ∧ rowAt w' g = some (.cells #[.int .i64 n, .int .i64 l, .bool false, .bool i, .bool o, .int .u8 v] 27 (0, 0)) ∧ W.heap.size ≤ g ∧ Below W.heap.size W w') := by
    intro k hk W
    have := ask_ok t (updW m n (c + k)) n h1 h2 l v i o (c + k) (by omega) (by omega) (hid (HX'.out _ (by omega) (by omega))) HT (hid (updW_same _ _ _)) W
    rw [updW_updW] at this
    exact this
  go_loopw [9] (fun i' wr => ∃ k : Nat, (k : Int) ≤ z ∧ i' = .int .i64 k ∧ rowAt wr w.heap.size = some (.cells (exA t m) 60 (0, 0)) ∧ rowAt wr (w.heap.size + 1) = some (.cells (tdA p b n l false i o v) 62 (0, 0)) ∧ rowAt wr w2.heap.size = some (.cells (exA t (updW m n (c + k))) 60 (0, 0)) ∧ Below w.heap.size w wr) (fun i' _ => z.toNat - (intOf i').toNat)
  case atStart => exact ⟨0, by omega, rfl, R0, RT, RN, HBA.out⟩
  case round =>
    clear R0 RT RN HBA
    obtain ⟨k, hk, rfl, r0, rt, rn, hbr⟩ := hrel
    have HBR := hid hbr
    have hsr := hbr.size
    have c0 := lt_of_some r0
    have ct := cellsTd rt
    have cn := lt_of_some rn
    clear hbr
    by_cases hlt : (k : Int) < z
    · go_wp2_with fail
      refine (HASK.out k hlt _).mono ?_
      rintro e w3 ⟨g, rfl, hrg, hg, hb3⟩
      have r3_0 := rowNext' hb3 r0
      have r3_t := rowNext' hb3 rt
      have r3_n := rowNext' hb3 rn
      have HB3 := hid (below_step HBR.out hsr hb3)
      have hs3 : w.heap.size ≤ w3.heap.size := HB3.out.size
      have c3_0 := lt_of_some r3_0
      have c3_n := lt_of_some r3_n
      have c3_g := lt_of_some hrg
      clear r0 rt rn c0 ct cn hb3
      go_upto_region 11 with fail
      have q0 : rowAt (w3.alloc (.cells (exA t (updW m n (c + k + 1))) 60)) w.heap.size = some (.cells (exA t m) 60 (0, 0)) := by rw [rowAt_old _ _ _ (by omega)]; exact r3_0
      have qt : rowAt (w3.alloc (.cells (exA t (updW m n (c + k + 1))) 60)) (w.heap.size + 1) = some (.cells (tdA p b n l false i o v) 62 (0, 0)) := by rw [rowAt_old _ _ _ (by omega)]; exact r3_t
      have qn : rowAt (w3.alloc (.cells (exA t (updW m n (c + k + 1))) 60)) w2.heap.size = some (.cells (exA t (updW m n (c + k))) 60 (0, 0)) := by rw [rowAt_old _ _ _ (by omega)]; exact r3_n
      have qg : rowAt (w3.alloc (.cells (exA t (updW m n (c + k + 1))) 60)) g = some (.cells #[.int .i64 n, .int .i64 l, .bool false, .bool i, .bool o, .int .u8 v] 27 (0, 0)) := by rw [rowAt_old _ _ _ (by omega)]; exact hrg
      have qx : rowAt (w3.alloc (.cells (exA t (updW m n (c + k + 1))) 60)) w3.heap.size = some (.cells (exA t (updW m n (c + k + 1))) 60 (0, 0)) := rowAt_new _ _ _ rfl
      have HB4 := hid (HB3.out.alloc hs3 (.cells (exA t (updW m n (c + k + 1))) 60))
      have hs4 : w3.heap.size < (w3.alloc (.cells (exA t (updW m n (c + k + 1))) 60)).heap.size := by simp
      generalize w3.alloc (.cells (exA t (updW m n (c + k + 1))) 60) = w4 at *
      go_cut [108] from 54 to 109 (fun q wc => q = .bool false ∧ Below w4.heap.size w4 wc)
      case first =>
        obtain ⟨U, hU⟩ : ∃ U : List Value, tabA t = U.toArray := ⟨rows2 31 t, rfl⟩
        have hu39 := Try.underlying39
        have hiU : (Try.prog.info? 39).map (·.size) = some U.length := by rw [sizeTable, len_of_tab hU]
        have HE : ∀ W, (Op.equalIn 10000 39 (.agg U.toArray) (.agg U.toArray)).run Try.prog W = .ok true W := by intro W; rw [← hU, eqTab, sameTb_refl]
        have q : ∀ x : Good w4, x.u.rangeAt w3.heap.size 0 U ∧ x.u.rangeAt w.heap.size 0 U ∧ x.u.cell? ⟨w.heap.size + 1, 63, none⟩ = some (.int .i64 n) ∧ x.u.cell? ⟨w.heap.size + 1, 64, none⟩ = some (.int .i64 l) ∧ x.u.cell? ⟨w.heap.size + 1, 65, none⟩ = some (.bool false) ∧ x.u.cell? ⟨w.heap.size + 1, 66, none⟩ = some (.bool i) ∧ x.u.cell? ⟨w.heap.size + 1, 67, none⟩ = some (.bool o) ∧ x.u.cell? ⟨w.heap.size + 1, 68, none⟩ = some (.int .u8 v) ∧ x.u.cell? ⟨w3.heap.size, 62 + n, none⟩ = some (.int .i64 (c + k + 1)) ∧ x.u.cell? ⟨w2.heap.size, 62 + n, none⟩ = some (.int .i64 (c + k)) := by
          intro x
          have y := cellsTd (rowNext' x.b qt)
          exact ⟨range_exT (rowNext' x.b qx) hU, range_exT (rowNext' x.b q0) hU, y.2.1, y.2.2.1, y.2.2.2.1, y.2.2.2.2.1, y.2.2.2.2.2.1, y.2.2.2.2.2.2.1, by rw [cell_of_row x.u _ _ _ _ _ (rowNext' x.b qx), exA_wait _ _ n h2, updW_same], by rw [cell_of_row x.u _ _ _ _ _ (rowNext' x.b qn), exA_wait _ _ n h2, updW_same]⟩
        have HQ := hid q
        have HG4 := hid qg
        clear q hU qg q0 qt qn qx r3_0 r3_t r3_n
        refine wp_region_held_drew (S := fun w' => w'.rangeAt w3.heap.size 0 U ∧ w'.rangeAt w.heap.size 0 U ∧ w'.cell? ⟨w.heap.size + 1, 63, none⟩ = some (.int .i64 n) ∧ w'.cell? ⟨w.heap.size + 1, 64, none⟩ = some (.int .i64 l) ∧ w'.cell? ⟨w.heap.size + 1, 65, none⟩ = some (.bool false) ∧ w'.cell? ⟨w.heap.size + 1, 66, none⟩ = some (.bool i) ∧ w'.cell? ⟨w.heap.size + 1, 67, none⟩ = some (.bool o) ∧ w'.cell? ⟨w.heap.size + 1, 68, none⟩ = some (.int .u8 v) ∧ w'.cell? ⟨w3.heap.size, 62 + n, none⟩ = some (.int .i64 (c + k + 1)) ∧ w'.cell? ⟨w2.heap.size, 62 + n, none⟩ = some (.int .i64 (c + k))) (by kernel_rfl) (HQ.out ⟨_, (Below.refl _ _).drew⟩) (fun hHeld => ?_)
        refine wpAnyH_take (i := 0) (oi := _) (v := ?_) rfl (by kernel_rfl) (by kernel_rfl) (by kernel_rfl) (fun _ _ _ h => h) (Or.inl ⟨by kernel_rfl, ?_⟩) (by assumption) ?_
        rotate_left 1
        focus (intro w' hSw; (try dsimp only at hSw); go_simp; try with_reducible rfl)
        try simp only [Act.put, List.setIfInBounds_toArray, List.set_cons_zero, List.set_cons_succ, List.getElem_toArray, List.getElem_cons_zero, List.getElem_cons_succ]
        refine' wpAnyH_take (i := 1) (oi := _) (v := _) rfl (by kernel_rfl) (by kernel_rfl) (by kernel_rfl) (fun _ _ _ h => h) (yieldsIf_load_mid (cs := U) (by rfl) _ _ rfl _ _ rfl _ (by intro w' hSw; (try dsimp only at hSw); go_split_ands; assumption) (by assumption) (by rfl) (by assumption)) (by assumption) ?_
        try simp only [Act.put, List.setIfInBounds_toArray, List.set_cons_zero, List.set_cons_succ, List.getElem_toArray, List.getElem_cons_zero, List.getElem_cons_succ]
        refine wpAnyH_take (i := 2) (oi := _) (v := ?_) rfl (by kernel_rfl) (by kernel_rfl) (by kernel_rfl) (fun _ _ _ h => h) (Or.inl ⟨by kernel_rfl, ?_⟩) (by assumption) ?_
        rotate_left 1
        focus (intro w' hSw; (try dsimp only at hSw); go_simp; try with_reducible rfl)
        try simp only [Act.put, List.setIfInBounds_toArray, List.set_cons_zero, List.set_cons_succ, List.getElem_toArray, List.getElem_cons_zero, List.getElem_cons_succ]
        refine' wpAnyH_take (i := 3) (oi := _) (v := _) rfl (by kernel_rfl) (by kernel_rfl) (by kernel_rfl) (fun _ _ _ h => h) (yieldsIf_load_mid (cs := U) (by rfl) _ _ rfl _ _ rfl _ (by intro w' hSw; (try dsimp only at hSw); go_split_ands; assumption) (by assumption) (by rfl) (by assumption)) (by assumption) ?_
        try simp only [Act.put, List.setIfInBounds_toArray, List.set_cons_zero, List.set_cons_succ, List.getElem_toArray, List.getElem_cons_zero, List.getElem_cons_succ]
        refine wpAnyH_take (i := 4) (oi := _) (v := ?_) rfl (by kernel_rfl) (by kernel_rfl) (by kernel_rfl) (fun _ _ _ h => h) (Or.inl ⟨by kernel_rfl, ?_⟩) (by assumption) ?_
        rotate_left 1
        focus (intro w' hSw; (try dsimp only at hSw); go_simp; try with_reducible rfl)
        try simp only [Act.put, List.setIfInBounds_toArray, List.set_cons_zero, List.set_cons_succ, List.getElem_toArray, List.getElem_cons_zero, List.getElem_cons_succ]
        refine wpAnyH_take (i := 5) (oi := _) (v := ?_) rfl (by kernel_rfl) (by kernel_rfl) (by kernel_rfl) (fun _ _ _ h => h) (Or.inl ⟨by kernel_rfl, ?_⟩) (by assumption) ?_
        rotate_left 1
        focus (intro w' hSw; (try dsimp only at hSw); go_simp; try with_reducible rfl)
        try simp only [Act.put, List.setIfInBounds_toArray, List.set_cons_zero, List.set_cons_succ, List.getElem_toArray, List.getElem_cons_zero, List.getElem_cons_succ]
        refine wpAnyH_take (i := 6) (oi := _) (v := ?_) rfl (by kernel_rfl) (by kernel_rfl) (by kernel_rfl) (fun _ _ _ h => h) (Or.inl ⟨by kernel_rfl, ?_⟩) (by assumption) ?_
        rotate_left 1
        focus (intro w' hSw; (try dsimp only at hSw); go_simp; try with_reducible rfl)
        try simp only [Act.put, List.setIfInBounds_toArray, List.set_cons_zero, List.set_cons_succ, List.getElem_toArray, List.getElem_cons_zero, List.getElem_cons_succ]
        refine wpAnyH_take (i := 7) (oi := _) (v := ?_) rfl (by kernel_rfl) (by kernel_rfl) (by kernel_rfl) (fun _ _ _ h => h) (Or.inl ⟨by kernel_rfl, ?_⟩) (by assumption) ?_
        rotate_left 1
        focus (intro w' hSw; (try dsimp only at hSw); go_simp; try with_reducible rfl)
        try simp only [Act.put, List.setIfInBounds_toArray, List.set_cons_zero, List.set_cons_succ, List.getElem_toArray, List.getElem_cons_zero, List.getElem_cons_succ]
        refine wpAnyH_take (i := 8) (oi := _) (v := ?_) rfl (by kernel_rfl) (by kernel_rfl) (by kernel_rfl) (fun _ _ _ h => h) (Or.inl ⟨by kernel_rfl, ?_⟩) (by assumption) ?_
        rotate_left 1
        focus (intro w' hSw; (try dsimp only at hSw); go_simp; try with_reducible rfl)
        try simp only [Act.put, List.setIfInBounds_toArray, List.set_cons_zero, List.set_cons_succ, List.getElem_toArray, List.getElem_cons_zero, List.getElem_cons_succ]
        refine wpAnyH_ready (rs := [9]) (by kernel_rfl) (by simp) ?_
        refine AllReadyH.cons (o := _) rfl (fun K hK => ?_) AllReadyH.nil
        rw [if_pos (by kernel_rfl)]
        go_simp
        refine hK.out _ _ (HQ.out ⟨_, ((Below.refl _ _).alloc (Nat.le_refl _) _).drew⟩) (fun hHeld => ?_)
        clear hK K
        refine wpAnyH_ready (rs := [10]) (by kernel_rfl) (by simp) ?_
        refine AllReadyH.cons (o := _) rfl (fun K hK => ?_) AllReadyH.nil
        rw [if_pos (by kernel_rfl)]
        go_simp
        go_at_call 29
        refine (refSame1 _ _ _ _ n l false i o v _ (by rw [rowAt_drew, rowAt_old _ _ _ (lt_of_some HG4.out)]; exact HG4.out) (by rw [rowAt_drew]; exact rowAt_new _ _ _ rfl)).mono ?_
        rintro e w9 ⟨rfl, hb9⟩
        have hb9' := below9 (w3 := w4) hb9
        have hL := hid hb9'
        go_wp2_with fail
        refine hK.out _ _ (HQ.out ⟨_, by first | exact hb9' | exact hb9'.drew⟩) (fun hHeld => ?_)
        clear hK K
        refine wpAnyH_take (i := 11) (oi := _) (v := ?_) rfl (by kernel_rfl) (by kernel_rfl) (by kernel_rfl) (fun _ _ _ h => h) (Or.inl ⟨by kernel_rfl, ?_⟩) (by assumption) ?_
        rotate_left 1
        focus (intro w' hSw; (try dsimp only at hSw); go_simp; try with_reducible rfl)
        try simp only [Act.put, List.setIfInBounds_toArray, List.set_cons_zero, List.set_cons_succ, List.getElem_toArray, List.getElem_cons_zero, List.getElem_cons_succ]
        refine wpAnyH_take (i := 12) (oi := _) (v := ?_) rfl (by kernel_rfl) (by kernel_rfl) (by kernel_rfl) (fun _ _ _ h => h) (Or.inl ⟨by kernel_rfl, ?_⟩) (by assumption) ?_
        rotate_left 1
        focus (intro w' hSw; (try dsimp only at hSw); go_simp; try with_reducible rfl)
        try simp only [Act.put, List.setIfInBounds_toArray, List.set_cons_zero, List.set_cons_succ, List.getElem_toArray, List.getElem_cons_zero, List.getElem_cons_succ]
        refine wpAnyH_take (i := 13) (oi := _) (v := ?_) rfl (by kernel_rfl) (by kernel_rfl) (by kernel_rfl) (fun _ _ _ h => h) (Or.inl ⟨by kernel_rfl, ?_⟩) (by assumption) ?_
        rotate_left 1
        focus (intro w' hSw; (try dsimp only at hSw); go_simp; try with_reducible rfl)
        try simp only [Act.put, List.setIfInBounds_toArray, List.set_cons_zero, List.set_cons_succ, List.getElem_toArray, List.getElem_cons_zero, List.getElem_cons_succ]
        refine wpAnyH_take (i := 14) (oi := _) (v := ?_) rfl (by kernel_rfl) (by kernel_rfl) (by kernel_rfl) (fun _ _ _ h => h) (Or.inl ⟨by kernel_rfl, ?_⟩) (by assumption) ?_
        rotate_left 1
        focus (intro w' hSw; (try dsimp only at hSw); go_simp; try with_reducible rfl)
        try simp only [Act.put, List.setIfInBounds_toArray, List.set_cons_zero, List.set_cons_succ, List.getElem_toArray, List.getElem_cons_zero, List.getElem_cons_succ]
        refine wpAnyH_take (i := 15) (oi := _) (v := ?_) rfl (by kernel_rfl) (by kernel_rfl) (by kernel_rfl) (fun _ _ _ h => h) (Or.inl ⟨by kernel_rfl, ?_⟩) (by assumption) ?_
        rotate_left 1
        focus (intro w' hSw; (try dsimp only at hSw); go_simp; try with_reducible rfl)
        try simp only [Act.put, List.setIfInBounds_toArray, List.set_cons_zero, List.set_cons_succ, List.getElem_toArray, List.getElem_cons_zero, List.getElem_cons_succ]
        refine wpAnyH_take (i := 16) (oi := _) (v := ?_) rfl (by kernel_rfl) (by kernel_rfl) (by kernel_rfl) (fun _ _ _ h => h) (Or.inl ⟨by kernel_rfl, ?_⟩) (by assumption) ?_
        rotate_left 1
        focus (intro w' hSw; (try dsimp only at hSw); go_simp; try with_reducible rfl)
        try simp only [Act.put, List.setIfInBounds_toArray, List.set_cons_zero, List.set_cons_succ, List.getElem_toArray, List.getElem_cons_zero, List.getElem_cons_succ]
        refine wpAnyH_take (i := 17) (oi := _) (v := ?_) rfl (by kernel_rfl) (by kernel_rfl) (by kernel_rfl) (fun _ _ _ h => h) (Or.inl ⟨by kernel_rfl, ?_⟩) (by assumption) ?_
        rotate_left 1
        focus (intro w' hSw; (try dsimp only at hSw); go_simp; try with_reducible rfl)
        try simp only [Act.put, List.setIfInBounds_toArray, List.set_cons_zero, List.set_cons_succ, List.getElem_toArray, List.getElem_cons_zero, List.getElem_cons_succ]
        refine wpAnyH_take (i := 18) (oi := _) (v := ?_) rfl (by kernel_rfl) (by kernel_rfl) (by kernel_rfl) (fun _ _ _ h => h) (Or.inl ⟨by kernel_rfl, ?_⟩) (by assumption) ?_
        rotate_left 1
        focus (intro w' hSw; (try dsimp only at hSw); go_simp; try with_reducible rfl)
        try simp only [Act.put, List.setIfInBounds_toArray, List.set_cons_zero, List.set_cons_succ, List.getElem_toArray, List.getElem_cons_zero, List.getElem_cons_succ]
        refine wpAnyH_take (i := 19) (oi := _) (v := ?_) rfl (by kernel_rfl) (by kernel_rfl) (by kernel_rfl) (fun _ _ _ h => h) (Or.inl ⟨by kernel_rfl, ?_⟩) (by assumption) ?_
        rotate_left 1
        focus (intro w' hSw; (try dsimp only at hSw); go_simp; try with_reducible rfl)
        try simp only [Act.put, List.setIfInBounds_toArray, List.set_cons_zero, List.set_cons_succ, List.getElem_toArray, List.getElem_cons_zero, List.getElem_cons_succ]
        refine wpAnyH_take (i := 20) (oi := _) (v := ?_) rfl (by kernel_rfl) (by kernel_rfl) (by kernel_rfl) (fun _ _ _ h => h) (Or.inl ⟨by kernel_rfl, ?_⟩) (by assumption) ?_
        rotate_left 1
        focus (intro w' hSw; (try dsimp only at hSw); go_simp; try with_reducible rfl)
        try simp only [Act.put, List.setIfInBounds_toArray, List.set_cons_zero, List.set_cons_succ, List.getElem_toArray, List.getElem_cons_zero, List.getElem_cons_succ]
        refine wpAnyH_take (i := 21) (oi := _) (v := ?_) rfl (by kernel_rfl) (by kernel_rfl) (by kernel_rfl) (fun _ _ _ h => h) (Or.inl ⟨by kernel_rfl, ?_⟩) (by assumption) ?_
        rotate_left 1
        focus (intro w' hSw; (try dsimp only at hSw); go_simp; try with_reducible rfl)
        try simp only [Act.put, List.setIfInBounds_toArray, List.set_cons_zero, List.set_cons_succ, List.getElem_toArray, List.getElem_cons_zero, List.getElem_cons_succ]
        refine wpAnyH_take (i := 22) (oi := _) (v := ?_) rfl (by kernel_rfl) (by kernel_rfl) (by kernel_rfl) (fun _ _ _ h => h) (Or.inl ⟨by kernel_rfl, ?_⟩) (by assumption) ?_
        rotate_left 1
        focus (intro w' hSw; (try dsimp only at hSw); go_simp; try with_reducible rfl)
        try simp only [Act.put, List.setIfInBounds_toArray, List.set_cons_zero, List.set_cons_succ, List.getElem_toArray, List.getElem_cons_zero, List.getElem_cons_succ]
        refine wpAnyH_take (i := 23) (oi := _) (v := ?_) rfl (by kernel_rfl) (by kernel_rfl) (by kernel_rfl) (fun _ _ _ h => h) (Or.inl ⟨by kernel_rfl, ?_⟩) (by assumption) ?_
        rotate_left 1
        focus (intro w' hSw; (try dsimp only at hSw); go_simp; try with_reducible rfl)
        try simp only [Act.put, List.setIfInBounds_toArray, List.set_cons_zero, List.set_cons_succ, List.getElem_toArray, List.getElem_cons_zero, List.getElem_cons_succ]
        refine wpAnyH_take (i := 24) (oi := _) (v := ?_) rfl (by kernel_rfl) (by kernel_rfl) (by kernel_rfl) (fun _ _ _ h => h) (Or.inl ⟨by kernel_rfl, ?_⟩) (by assumption) ?_
        rotate_left 1
        focus (intro w' hSw; (try dsimp only at hSw); go_simp; try with_reducible rfl)
        try simp only [Act.put, List.setIfInBounds_toArray, List.set_cons_zero, List.set_cons_succ, List.getElem_toArray, List.getElem_cons_zero, List.getElem_cons_succ]
        refine wpAnyH_take (i := 25) (oi := _) (v := ?_) rfl (by kernel_rfl) (by kernel_rfl) (by kernel_rfl) (fun _ _ _ h => h) (Or.inl ⟨by kernel_rfl, ?_⟩) (by assumption) ?_
        rotate_left 1
        focus (intro w' hSw; (try dsimp only at hSw); go_simp; try with_reducible rfl)
        try simp only [Act.put, List.setIfInBounds_toArray, List.set_cons_zero, List.set_cons_succ, List.getElem_toArray, List.getElem_cons_zero, List.getElem_cons_succ]
        refine wpAnyH_take (i := 26) (oi := _) (v := ?_) rfl (by kernel_rfl) (by kernel_rfl) (by kernel_rfl) (fun _ _ _ h => h) (Or.inl ⟨by kernel_rfl, ?_⟩) (by assumption) ?_
        rotate_left 1
        focus (intro w' hSw; (try dsimp only at hSw); go_simp; try with_reducible rfl)
        try simp only [Act.put, List.setIfInBounds_toArray, List.set_cons_zero, List.set_cons_succ, List.getElem_toArray, List.getElem_cons_zero, List.getElem_cons_succ]
        refine wpAnyH_take (i := 27) (oi := _) (v := ?_) rfl (by kernel_rfl) (by kernel_rfl) (by kernel_rfl) (fun _ _ _ h => h) (Or.inl ⟨by kernel_rfl, ?_⟩) (by assumption) ?_
        rotate_left 1
        focus (intro w' hSw; (try dsimp only at hSw); go_simp; try with_reducible rfl)
        try simp only [Act.put, List.setIfInBounds_toArray, List.set_cons_zero, List.set_cons_succ, List.getElem_toArray, List.getElem_cons_zero, List.getElem_cons_succ]
        refine wpAnyH_take (i := 28) (oi := _) (v := ?_) rfl (by kernel_rfl) (by kernel_rfl) (by kernel_rfl) (fun _ _ _ h => h) (Or.inl ⟨by kernel_rfl, ?_⟩) (by assumption) ?_
        rotate_left 1
        focus (intro w' hSw; (try dsimp only at hSw); go_simp; try with_reducible rfl)
        try simp only [Act.put, List.setIfInBounds_toArray, List.set_cons_zero, List.set_cons_succ, List.getElem_toArray, List.getElem_cons_zero, List.getElem_cons_succ]
        refine wpAnyH_done (by kernel_rfl) ?_ _
        go_wp2_with fail
        go_meet
        exact ⟨congrArg Value.bool (by rw [show IntKind.i64.wrap (c + k + 1) = c + k + 1 from by rw [IntKind.wrap_i64]; omega]; simp), hL.out⟩
      case rest =>
        obtain ⟨rfl, hb5⟩ := hcut
        have r5_0 := rowNext' hb5 q0
        have r5_t := rowNext' hb5 qt
        have r5_n := rowNext' hb5 qn
        have r5_x := rowNext' hb5 qx
        have HB5 := hid (below_step HB4.out (by omega) hb5)
        have hs5 : w.heap.size ≤ wc.heap.size := HB5.out.size
        have l5n := lt_of_some r5_n
        have l5x := lt_of_some r5_x
        have hnx : w3.heap.size ≠ w2.heap.size := by omega
        clear q0 qt qn qx qg r3_0 r3_t r3_n hb5 hrg
        go_wp2_with fail
        go_roundw
        case rel => exact ⟨k + 1, by omega, by go_num, by rw [rowAt_putOther _ _ _ _ _ (by omega)]; exact r5_0, by rw [rowAt_putOther _ _ _ _ _ (by omega)]; exact r5_t, by rw [rowAt_put _ _ _ _ l5n, show c + ((k + 1 : Nat) : Int) = c + k + 1 from by omega], below_putRow HB5.out _ _ _ (by omega)⟩
        case measure => simp [intOf]; omega
    · obtain rfl : z = (k : Int) := by omega
      obtain ⟨N, hN⟩ : ∃ N : Nat, c + (k : Int) = N := ⟨(c + k).toNat, by omega⟩
      have hN7 : N ≤ 7 := by omega
      rw [hN] at rn
      clear HASK HX'
      have HG1 := hid (fun (j : Nat) (hj : j < N) => asks_got1 (b := b) HX.out HP.out h1 h2 hN7 hj)
      have HG2 := hid (asks_got2 (b := b) (N := N) HX.out HP.out h1 h2)
      have k8 := cell_of_row _ _ (62 + n) _ _ _ rn
      rw [exA_wait _ _ n h2, updW_same] at k8
      go_wp2_with fail
      have R0 : rowAt (wr.alloc (.cells #[.int .i64 n, .int .i64 0, .bool true, .bool false, .bool false, .int .u8 0] 27)) (w.heap.size + 1) = some (.cells (tdA p b n l false i o v) 62 (0, 0)) := by rw [rowAt_old _ _ _ (by omega)]; exact rt
      have R1 : rowAt (wr.alloc (.cells #[.int .i64 n, .int .i64 0, .bool true, .bool false, .bool false, .int .u8 0] 27)) w2.heap.size = some (.cells (exA (tz t n 0) (updW m n ((N - 0 : Nat) : Int))) 60 (0, 0)) := by rw [rowAt_old _ _ _ (by omega)]; exact rn
      have R2 : rowAt (wr.alloc (.cells #[.int .i64 n, .int .i64 0, .bool true, .bool false, .bool false, .int .u8 0] 27)) wr.heap.size = some (.cells #[.int .i64 n, .int .i64 0, .bool true, .bool false, .bool false, .int .u8 0] 27 (0, 0)) := rowAt_new _ _ _ rfl
      have HBL := hid (HBR.out.alloc hsr (.cells #[.int .i64 n, .int .i64 0, .bool true, .bool false, .bool false, .int .u8 0] 27))
      have hne8 : wr.heap.size ≠ w2.heap.size := by omega
      generalize wr.alloc (.cells #[.int .i64 n, .int .i64 0, .bool true, .bool false, .bool false, .int .u8 0] 27) = wL at *
      clear r0 rt rn c0 ct cn k8
      go_loopw [15] (fun i' wq => ∃ j : Nat, j ≤ N + 2 ∧ i' = .int .i64 j ∧ rowAt wq (w.heap.size + 1) = some (.cells (tdA p b n l false i o v) 62 (0, 0)) ∧ rowAt wq w2.heap.size = some (.cells (exA (tz t n (min j N)) (updW m n ((N - min j N : Nat) : Int))) 60 (0, 0)) ∧ rowAt wq wr.heap.size = some (.cells #[.int .i64 n, .int .i64 0, .bool true, .bool false, .bool false, .int .u8 0] 27 (0, 0)) ∧ Below w.heap.size w wq) (fun i' _ => N + 2 - (intOf i').toNat)
      case atStart => exact ⟨0, by omega, rfl, R0, by rw [Nat.zero_min]; exact R1, R2, HBL.out⟩
      case round =>
        clear R0 R1 R2 HBL
        obtain ⟨j, hj, rfl, rt, rn, ra, hbq⟩ := hrel
        have HBQ := hid hbq
        have hsq := hbq.size
        have ct := cellsTd rt
        have cn := lt_of_some rn
        have ca := cells6 ra
        clear hbq
        by_cases hlt2 : j < N + 2
        · by_cases hjN : j < N
          · rw [Nat.min_eq_left (by omega)] at rn
            have hdj : decide ((j : Int) < (N : Int)) = true := by simp; omega
            go_wp2_with fail
            refine (got_quiet (HG1.out j hjN) false false _).mono ?_
            rintro e w6 ⟨rfl, hb6⟩
            have r6_t := rowNext' hb6 rt
            have r6_n := rowNext' hb6 rn
            have r6_a := rowNext' hb6 ra
            have l6t := lt_of_some r6_t
            have l6n := lt_of_some r6_n
            have l6a := lt_of_some r6_a
            have hne6 : w6.heap.size ≠ w2.heap.size := by omega
            have HB6 := hid (below_step HBQ.out hsq hb6)
            have hs6 : w.heap.size ≤ w6.heap.size := HB6.out.size
            clear ct cn ca rt rn ra hb6
            have hm1 : min (j + 1) N = j + 1 := by omega
            go_wp2_with fail
            go_roundw
            case rel => exact ⟨j + 1, by omega, by go_num, by rw [rowAt_old _ _ _ (by rw [putRow_size]; exact l6t), rowAt_putOther _ _ _ _ _ (by omega)]; exact r6_t, by rw [hm1, rowAt_old _ _ _ (by rw [putRow_size]; exact l6n), rowAt_put _ _ _ _ l6n], by rw [rowAt_old _ _ _ (by rw [putRow_size]; exact l6a), rowAt_putOther _ _ _ _ _ (by omega)]; exact r6_a, (below_putRow HB6.out _ _ _ (by omega)).alloc (by rw [putRow_size]; exact hs6) _⟩
            case measure => simp [intOf]; omega
          · have e0 : ((N - N : Nat) : Int) = 0 := by omega
            rw [Nat.min_eq_right (by omega), e0] at rn
            have hdj : decide ((j : Int) < (N : Int)) = false := by simp; omega
            go_wp2_with fail
            refine (got_quiet HG2.out false false _).mono ?_
            rintro e w6 ⟨rfl, hb6⟩
            have r6_t := rowNext' hb6 rt
            have r6_n := rowNext' hb6 rn
            have r6_a := rowNext' hb6 ra
            have l6t := lt_of_some r6_t
            have l6n := lt_of_some r6_n
            have l6a := lt_of_some r6_a
            have hne6 : w6.heap.size ≠ w2.heap.size := by omega
            have HB6 := hid (below_step HBQ.out hsq hb6)
            have hs6 : w.heap.size ≤ w6.heap.size := HB6.out.size
            clear ct cn ca rt rn ra hb6
            have hm1 : min (j + 1) N = N := by omega
            go_wp2_with fail
            go_roundw
            case rel => exact ⟨j + 1, by omega, by go_num, by rw [rowAt_old _ _ _ (by rw [putRow_size]; exact l6t), rowAt_putOther _ _ _ _ _ (by omega)]; exact r6_t, by rw [hm1, e0, rowAt_old _ _ _ (by rw [putRow_size]; exact l6n), rowAt_put _ _ _ _ l6n], by rw [rowAt_old _ _ _ (by rw [putRow_size]; exact l6a), rowAt_putOther _ _ _ _ _ (by omega)]; exact r6_a, (below_putRow HB6.out _ _ _ (by omega)).alloc (by rw [putRow_size]; exact hs6) _⟩
            case measure => simp [intOf]; omega
        · have e0 : ((N - N : Nat) : Int) = 0 := by omega
          rw [Nat.min_eq_right (by omega), e0] at rn
          have k9 := cell_of_row _ _ (62 + n) _ _ _ rn
          rw [exA_wait _ _ n h2, updW_same] at k9
          go_wp2_with fail
          refine (awake17 _).mono ?_
          rintro e w7 ⟨rfl, hb7⟩
          have HB7 := hid (below_step HBQ.out hsq hb7)
          go_wp2_with fail
          go_ret
          exact ⟨rfl, HB7.out⟩

end Go.Proofs.Ytjghmgpmaallfaa
