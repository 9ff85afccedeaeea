/-
  The contracts of agree.cells, agree.Check.
-/
import Derived.Test.YtjghmgpmaallfaaChk
namespace Go.Proofs.Ytjghmgpmaallfaa
open Go.RowKit
set_option linter.unusedVariables false
set_option linter.unusedSimpArgs false

def zeroT : Tb := fun _ => (0, 0)
/-- the first k rows are t's, the rest is nought. -/
def pre (t : Tb) (k : Nat) : Tb := fun i => if i < k then t i else (0, 0)
theorem pre_all (t : Tb) (i : Nat) (h : i < 31) : pre t 31 i = t i := if_pos h
theorem pre_upd (t : Tb) (k i : Nat) : upd (pre t k) k (t k) i = pre t (k + 1) i := by
  unfold upd pre
  by_cases h : i = k
  · subst h; rw [if_pos rfl, if_pos (by omega)]
  · rw [if_neg h]
    by_cases h2 : i < k
    · rw [if_pos h2, if_pos (by omega)]
    · rw [if_neg h2, if_neg (by omega)]
theorem zeroTable : (Try.prog.info? 39).map (·.zero) = some (some (.agg (tabA zeroT))) := by kernel_rfl
set_option maxRecDepth 100000 in
set_option maxHeartbeats 1000000 in
/-- agree.cells -/
theorem cells (t : Tb) (w : World) :
    Calls Try.prog 42 #[.agg (tabA t)] w fun e w' => e = .returned (.agg (tabA t)) ∧ Below w.heap.size w w' := by
  go_enter Try.func42, Try.ntmps42
  go_wp2_with (first | (refine wpList_alloc_row rfl 39 rfl (tabA zeroT) zeroTable ?_) | (refine wpList_load_row rfl 25 _ rfl w.heap.size rfl 25 (tabA t) (0, 0) _ (by rw [heapOld _ _ _ (by simp <;> omega), heapOld _ _ _ (by simp), heapNew _ _ _ rfl]) Try.underlying25 rfl (by rw [tabA_size]; exact sizePrefs) ?_))
  go_loopw [7] (fun i wr => ∃ k : Nat, k ≤ 31 ∧ i = .int .i64 k ∧ wr.heap[w.heap.size + 1]? = some (.cells (tabA zeroT) 39 (0, 0)) ∧ wr.heap[w.heap.size + 1 + 1]? = some (.cells (tabA (pre t k)) 39 (0, 0)) ∧ Below w.heap.size w wr) (fun i _ => 31 - (intOf i).toNat)
  case atStart =>
    refine ⟨0, by omega, rfl, ?_, ?_, (((Below.refl _ _).alloc (Nat.le_refl _) _).alloc (by simp) _).alloc (by simp <;> omega) _⟩
    · rw [heapOld _ _ _ (by simp), heapNew _ _ _ (by simp)]
    · rw [heapNew _ _ _ (by simp)]; rfl
  case round =>
    obtain ⟨k, hk, rfl, hz, ht, hb⟩ := hrel
    have hsz := lt_of_some ht
    have HZ := hid hz
    have HT := hid ht
    clear hz ht
    by_cases hlt : k < 31
    · obtain ⟨c1, c2, hc⟩ : ∃ c1 c2, t k = (c1, c2) := ⟨_, _, rfl⟩
      have hix := fun w => run_index_tab t 25 23 k hlt w Try.underlying25 _ Try.underlying23 sizePref
      simp only [hc] at hix
      have HC := hid hc
      clear hc
      go_wp2_with (refine wpList_store_mid rfl 29 (.tmp 17) (.tmp 16) rfl (w.heap.size + 1 + 1) (k * 2) rfl 39 (tabA (pre t k)) (by rw [heapOld _ _ _ (by omega)]; exact HT.out) _ rfl sizeCell (by rw [tabA_size]; simp; omega) rfl (tabA (upd (pre t k) k (c1, c2))) (lay_upd _ _ _ _ hlt) ?_)
      go_roundw
      case rel =>
        refine ⟨k + 1, by omega, by go_num, ?_, ?_, below_putRow (hb.alloc (by have := hb.size; omega) _) _ _ _ (by omega)⟩
        · rw [putRow_other _ _ _ _ _ (by omega), heapOld _ _ _ (by omega)]; exact HZ.out
        · rw [putRow_same _ _ _ _ (by simp; omega), tabA_congr (t := upd (pre t k) k (c1, c2)) (u := pre t (k + 1)) (fun i _ => by rw [← HC.out]; exact pre_upd t k i)]
      case measure => simp [intOf]; omega
    · obtain rfl : k = 31 := by omega
      go_wp2_with (first | (refine wpList_load_row rfl 39 _ rfl (w.heap.size + 1 + 1) rfl 39 (tabA (pre t 31)) (0, 0) _ HT.out Try.underlying39 rfl (by rw [tabA_size]; exact sizeTable) ?_) | (refine wpList_store_mid rfl 39 (.tmp 2) (.tmp 19) rfl (w.heap.size + 1) 0 rfl 39 (tabA zeroT) HZ.out _ rfl (by rw [tabA_size]; exact sizeTable) (by rw [tabA_size, tabA_size]; omega) (plain_tab _) (tabA t) (by rw [lay_tab _ _ (tabA_size _)]; exact tabA_congr (pre_all t)) ?_))
      refine bodyPost_ret (v := .agg (tabA t)) (results_cell_row Try.results42 _ _ (w.heap.size + 1) 39 (tabA t) (0, 0) _ rfl (putRow_same _ _ _ _ (by omega)) Try.underlying39 rfl (by rw [tabA_size]; exact sizeTable)) rfl ⟨rfl, below_putRow hb _ _ _ (by omega)⟩
end Go.Proofs.Ytjghmgpmaallfaa
