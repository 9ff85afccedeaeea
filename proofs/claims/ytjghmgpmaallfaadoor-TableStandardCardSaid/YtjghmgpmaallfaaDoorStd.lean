/-
  table.Standard: the standard table, where the package's list of keys is as its text lays it.
-/
import Derived.Test.YtjghmgpmaallfaaDoorSim
namespace Go.Proofs.YtjghmgpmaallfaaDoor
open Go.RowKit
set_option linter.unusedVariables false
set_option linter.unusedSimpArgs false

/-- the keys of the standard table. -/
def stdKeys : List Int := [0, 0, 0, 3, 15, 20, 0, 28, 4, 26, 127, 21, 23, 18, 22, 17, 19, 0, 0, 2, 6, 25, 24, 1, 5, 9, 16, 8, 14, 29, 11]
def stdKey (i : Nat) : Int := stdKeys.getD i 0
def std : Tb := fun i => if 0 < stdKey i then (2, stdKey i) else (0, 0)
theorem stdKey_range : ∀ i, i < 31 → 0 ≤ stdKey i ∧ stdKey i ≤ 255 := by decide
/-- the package's list of keys lies in its variable. -/
def StdLies (w : World) : Prop := ∀ i, i < 31 → w.cell? ⟨0, i, none⟩ = some (.int .u8 (stdKey i))
theorem StdLies.size {w : World} (h : StdLies w) : 0 < w.heap.size := by
  have := h 0 (by omega)
  rcases Nat.lt_or_ge 0 w.heap.size with h' | h'
  · exact h'
  · simp [World.cell?, Array.getElem?_eq_none h'] at this
theorem StdLies.below {B : Nat} {w w' : World} (h : StdLies w) (hb : Below B w w') (hB : 0 < B) : StdLies w' := fun i hi => (hb.cell (p := ⟨0, i, none⟩) hB).trans (h i hi)

theorem pre_keep (t : Tb) (k : Nat) (h : t k = (0, 0)) (i : Nat) : pre t k i = pre t (k + 1) i := by
  unfold pre
  by_cases e : i < k
  · rw [if_pos e, if_pos (by omega)]
  · rw [if_neg e]
    by_cases e2 : i = k
    · subst e2; rw [if_pos (by omega), h]
    · rw [if_neg (by omega)]
set_option maxRecDepth 100000 in
set_option maxHeartbeats 1000000 in
/-- table.Standard -/
theorem tableStandard (w : World) (hstd : StdLies w) :
    Calls Tryd.prog 15 #[] w fun e w' => e = .returned (.agg (tabA std)) ∧ Below w.heap.size w w' := by
  have hsz := hstd.size
  have HS := hid hstd
  clear hstd
  go_enter Tryd.func15, Tryd.ntmps15
  go_wp2
  go_loopw [4] (fun i wr => ∃ k : Nat, k ≤ 31 ∧ i = .int .i64 k ∧ rowAt wr w.heap.size = some (.cells (tabA zeroT) 25 (0, 0)) ∧ rowAt wr (w.heap.size + 1) = some (.cells (tabA (pre std k)) 25 (0, 0)) ∧ Below w.heap.size w wr) (fun i _ => 31 - (intOf i).toNat)
  case atStart =>
    refine ⟨0, by omega, rfl, ?_, ?_, ((Below.refl _ _).alloc (Nat.le_refl _) _).alloc (by simp) _⟩
    · rw [rowAt_old _ _ _ (by simp), rowAt_new _ _ _ rfl]
    · rw [rowAt_new _ _ _ (by simp)]; rfl
  case round =>
    obtain ⟨k, hk, rfl, hz, ht, hb⟩ := hrel
    have hlt1 := lt_of_some ht
    have HB := hid hb
    have HZ := hid hz
    have HT := hid ht
    by_cases hlt : k < 31
    · have hc : wr.cell? ⟨0, k, none⟩ = some (.int .u8 (stdKey k)) := (HS.out.below hb hsz) k hlt
      obtain ⟨r1, r2⟩ := stdKey_range k hlt
      by_cases hpos : 0 < stdKey k
      · have hs : std k = (2, stdKey k) := if_pos hpos
        have HSK := hid hs
        clear hs hb hz ht
        go_wp2_with (first | (refine wpList_store_mid rfl 23 (.tmp 15) (.tmp 14) rfl (w.heap.size + 1) (k * 2) rfl 25 (tabA (pre std k)) HT.out _ rfl sizeCell (by rw [tabA_size]; simp; omega) rfl (tabA (upd (pre std k) k (2, stdKey k))) (lay_upd _ _ _ _ hlt) ?_) | fail)
        go_roundw
        case rel =>
          refine ⟨k + 1, by omega, by go_num, ?_, ?_, below_putRow HB.out _ _ _ (by omega)⟩
          · rw [rowAt_putOther _ _ _ _ _ (by omega)]; exact HZ.out
          · rw [rowAt_put _ _ _ _ hlt1, tabA_congr (t := upd (pre std k) k (2, stdKey k)) (u := pre std (k + 1)) (fun i _ => by rw [← HSK.out]; exact pre_upd std k i)]
        case measure => simp [intOf]; omega
      · have hs : std k = (0, 0) := if_neg hpos
        have HSK := hid hs
        clear hs hb hz ht
        go_wp2
        go_roundw
        case rel =>
          refine ⟨k + 1, by omega, by go_num, HZ.out, ?_, HB.out⟩
          rw [← tabA_congr (fun i _ => pre_keep std k HSK.out i)]; exact HT.out
        case measure => simp [intOf]; omega
    · obtain rfl : k = 31 := by omega
      have ht' : rowAt wr (w.heap.size + 1) = some (.cells (tabA std) 25 (0, 0)) := by rw [← tabA_congr (t := pre std 31) (u := std) (pre_all std)]; exact ht
      clear ht hb HT
      go_wp2
      exact bodyPost_ret (v := .agg (tabA std)) (results_cell_row Tryd.results15 _ _ w.heap.size 25 (tabA std) (0, 0) _ rfl (putRow_same _ _ _ _ (by omega)) Tryd.underlying25 rfl (by rw [tabA_size]; exact sizeTable)) rfl ⟨rfl, below_putRow HB.out _ _ _ (Nat.le_refl _)⟩
end Go.Proofs.YtjghmgpmaallfaaDoor
