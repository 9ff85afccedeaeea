/-
  The contract of agree.Whole.
-/
import Derived.Test.YtjghmgpmaallfaaFir
import Derived.Deep.DeepAppendRoom
namespace Go.Proofs.Ytjghmgpmaallfaa
open Go.RowKit
set_option linter.unusedVariables false
set_option linter.unusedSimpArgs false

theorem info27 : (Try.prog.info? 27).map (fun i => (i.zero, i.size, i.bytes)) = some (some (.agg #[.int .i64 0, .int .i64 0, .bool false, .bool false, .bool false, .int .u8 0]), 6, 24) := by kernel_rfl
/-- a function's cell as a triple. -/
def tri (t : Tb) (f : Nat) : List Value := [.int .i64 f, .int .i64 (t f).1, .bool false, .bool false, .bool false, .int .u8 (t f).2]
/-- the first n of a table's triples. -/
def tris (t : Tb) (n : Nat) : List Value := (List.range n).flatMap fun i => tri t (i + 1)
theorem tris_len (t : Tb) (n : Nat) : (tris t n).length = n * 6 := by
  induction n with
  | zero => rfl
  | succ n ih =>
    have : tris t (n + 1) = tris t n ++ tri t (n + 1) := by simp [tris, List.range_succ, List.flatMap_append]
    rw [this, List.length_append, ih]; simp [tri]; omega
theorem tris_succ (t : Tb) (n : Nat) : tris t (n + 1) = tris t n ++ tri t (n + 1) := by simp [tris, List.range_succ, List.flatMap_append]
theorem tris_get (t : Tb) (n i j : Nat) (hi : i < n) (hj : j < 6) : (tris t n)[i * 6 + j]? = (tri t (i + 1))[j]? := by
  induction n with
  | zero => omega
  | succ n ih =>
    rw [tris_succ]
    by_cases h : i < n
    · rw [List.getElem?_append_left (by rw [tris_len]; omega)]; exact ih h
    · obtain rfl : i = n := by omega
      rw [List.getElem?_append_right (by rw [tris_len]; omega), tris_len]
      congr 1; omega
theorem made46 : ∃ Z : Array Value, Z.size = 31 * 6 ∧ ∀ W, (Instr.makeSlice 46 (.int .i64 0) (.int .i64 31)).run Try.prog W = .ok (.slice (some ⟨W.heap.size, 0, none⟩) 0 31) (W.alloc (.cells Z 27)) := by
  obtain ⟨i0, hi, hz, hs, hy⟩ := info_parts info27
  refine ⟨madeCells (Value.agg #[.int .i64 0, .int .i64 0, .bool false, .bool false, .bool false, .int .u8 0]).cells (31 * i0.size), by rw [size_madeCells, hs], fun W => ?_⟩
  have := run_make (P := Try.prog) W 46 27 i0 _ Try.underlying46 hi hz .i64 .i64 0 31 (by omega) (by omega) (by rw [hy]; omega) (by omega)
  simpa using this

theorem lit_cell (W : World) (L : List Value) (t : TypeId) (g : Nat) (hg : g = W.heap.size) : ∀ j u, L[j]? = some u → (W.alloc (.cells L.toArray t)).cell? ((⟨g, 0, none⟩ : Addr).add j) = some u := by
  intro j u hu
  have ha : (⟨g, 0, none⟩ : Addr).add j = ⟨g, j, none⟩ := by unfold Addr.add; split <;> simp_all
  rw [ha, cell_of_row _ _ j _ t (0, 0) (heapNew _ _ _ hg)]
  simpa using hu
theorem one_lit (k c1 c2 : Int) : ∀ u ∈ [Value.int .i64 k, .int .i64 c1, .bool false, .bool false, .bool false, .int .u8 c2], u.oneCell' = true := by
  intro u hu
  simp at hu
  rcases hu with rfl | rfl | rfl | rfl <;> rfl
set_option maxHeartbeats 4000000 in
set_option maxRecDepth 100000 in
/-- agree.Whole -/
theorem whole_ok (t : Tb) (h : tabErr t = 0) (w : World) :
    Calls Try.prog 22 #[.agg (tabA t)] w fun e w' => ∃ g, e = .returned (.tuple #[.slice (some ⟨g, 0, none⟩) 30 31, .int .i64 0]) ∧
      (∀ i j u, i < 30 → (tri t (i + 1))[j]? = some u → w'.cell? ⟨g, i * 6 + j, none⟩ = some u) ∧ w.heap.size ≤ g ∧ g < w'.heap.size ∧ Below w.heap.size w w' := by
  have H := hid h
  clear h
  obtain ⟨Z, hZ, hmk⟩ := made46
  have HZ := hid hZ
  clear hZ
  go_enter Try.func22, Try.ntmps22
  go_wp2_with (first
    | (go_at_call 19; (with_reducible refine (tableCheck_eq' H.out _).mono ?_); rintro e w1 ⟨rfl, hb1⟩; have r0 := rowNext' hb1 (show rowAt _ w.heap.size = _ from rowAt_new _ _ _ rfl); have l0 := lt_of_some r0))
  clear hmk
  obtain ⟨W0, hW0⟩ : ∃ W0, W0 = w1.alloc (.cells Z 27) := ⟨_, rfl⟩
  have hown0 : W0.ownsRow w1.heap.size 27 6 (.slice (some ⟨w1.heap.size, 0, none⟩) 0 31) 0 [] := by
    rw [hW0]; exact World.ownsRow_made w1 Z 31 (Nat.le_refl _) (by unfold maxLen; omega) HZ.out
  have hbW : Below w1.heap.size w1 W0 := by rw [hW0]; exact (Below.refl _ _).alloc (Nat.le_refl _) _
  rw [← hW0]
  clear hW0
  have HO := hid hown0
  have HBW := hid hbW
  have HB1 := hid hb1
  have hs1 := hb1.size
  clear hown0 hbW r0 hb1
  obtain ⟨i0, hi, hz, hs, hy⟩ := info_parts info27
  have HI := hid (And.intro hi hs)
  clear hi hz hs hy
  go_loopw [5, 15] (fun v i wr => ∃ k : Nat, k ≤ 31 ∧ i = .int .i64 k ∧ v = .slice (some ⟨w1.heap.size, 0, none⟩) (k - 1) 31 ∧ wr.ownsRow w1.heap.size 27 6 (.slice (some ⟨w1.heap.size, 0, none⟩) (k - 1) 31) (k - 1) (tris t (k - 1)) ∧ Below w1.heap.size w1 wr) (fun v i _ => 31 - (intOf i).toNat)
  case atStart => exact ⟨0, by omega, rfl, rfl, HO.out, HBW.out⟩
  case round =>
    obtain ⟨k, hk, rfl, rfl, hown, hb⟩ := hrel
    have HN := hid hown
    have HB := hid hb
    have hsz := hb.size
    clear hown hb
    by_cases hlt : k < 31
    · obtain ⟨c1, c2, hc⟩ : ∃ c1 c2, t k = (c1, c2) := ⟨_, _, rfl⟩
      have hix := fun w => run_index_tab t 39 29 k hlt w Try.underlying39 _ Try.underlying29 sizeCell
      simp only [hc] at hix
      have HC := hid hc
      clear hc
      by_cases hpos : 0 < k
      · have hk30 : k - 1 + 1 ≤ 31 := by omega
        have hp0 : (0 : Int) < (k : Int) := by omega
        have HT : Hid (tris t (k - 1 + 1) = tris t (k - 1) ++ [.int .i64 k, .int .i64 c1, .bool false, .bool false, .bool false, .int .u8 c2]) := hid (by
          rw [tris_succ, show k - 1 + 1 = k by omega, tri, HC.out])
        go_wp2_with (first | (at_builtin; refine wpList_append_own_spare _ rfl (.tmp 21) (.tmp 28) 46 rfl w1.heap.size 27 i0 6 Try.underlying46 HI.out.1 HI.out.2 w1.heap.size (k - 1) 31 (tris t (k - 1)) rfl ((HN.out.alloc _).alloc _) ⟨wr.heap.size + 1, 0, none⟩ 1 1 [.int .i64 k, .int .i64 c1, .bool false, .bool false, .bool false, .int .u8 c2] rfl rfl (lit_cell _ _ _ _ (by simp)) (one_lit _ _ _) hk30 ?_; intro w2 hown2 hg2; have HN2 := hid hown2; have HG2 := hid hg2; clear hown2 hg2))
        go_roundw
        case rel => exact ⟨k + 1, by omega, by go_num, by rw [show k + 1 - 1 = k - 1 + 1 by omega], by rw [show k + 1 - 1 = k - 1 + 1 by omega, HT.out]; exact HN2.out,
          ((HB.out.alloc hsz _).alloc (by simp; omega) _).grown HG2.out (by simp; omega) (fun j hj => by injection hj with hj; omega)⟩
        case measure => simp [intOf]; omega
      · have hp0 : (k : Int) ≤ 0 := by omega
        go_wp2
        go_roundw
        case rel => exact ⟨k + 1, by omega, by go_num, by rw [show k + 1 - 1 = k - 1 by omega], by rw [show k + 1 - 1 = k - 1 by omega]; exact HN.out.alloc _, HB.out.alloc hsz _⟩
        case measure => simp [intOf]; omega
    · obtain rfl : k = 31 := by omega
      go_wp2
      go_ret2
      have hc := HN.out.cells (g := w1.heap.size) rfl
      refine ⟨w1.heap.size, rfl, fun i j u hi hu => ?_, (by have := hs1; simp at this; omega), (HN.out.lt w1.heap.size rfl).2, ((((Below.refl w.heap.size w).alloc (Nat.le_refl _) _)).trans (HB1.out.mono (by simp))).trans (HB.out.mono (by simp at hs1; omega))⟩
      have hj : j < 6 := by
        rcases Nat.lt_or_ge j 6 with h | h
        · exact h
        · rw [List.getElem?_eq_none (by simpa [tri] using h)] at hu; cases hu
      have := hc (i * 6 + j) u (by rw [tris_get t 30 i j hi hj]; exact hu)
      rwa [show (⟨w1.heap.size, 0, none⟩ : Addr).add (i * 6 + j) = ⟨w1.heap.size, i * 6 + j, none⟩ by unfold Addr.add; split <;> simp_all] at this
set_option maxHeartbeats 4000000 in
set_option maxRecDepth 100000 in
theorem whole_no (t : Tb) (h : tabErr t = 1) (w : World) :
    Calls Try.prog 22 #[.agg (tabA t)] w fun e w' => e = .returned (.tuple #[.slice none 0 0, .int .i64 1]) ∧ Below w.heap.size w w' := by
  have H := hid h
  clear h
  go_enter Try.func22, Try.ntmps22
  go_wp2_with (first
    | (go_at_call 19; (with_reducible refine (tableCheck_eq' H.out _).mono ?_); rintro e w1 ⟨rfl, hb1⟩; have r0 := rowNext' hb1 (show rowAt _ w.heap.size = _ from rowAt_new _ _ _ rfl); have l0 := lt_of_some r0))
  go_ret2
  exact ⟨rfl, ((Below.refl _ _).alloc (Nat.le_refl _) _).trans (hb1.mono (by simp))⟩
end Go.Proofs.Ytjghmgpmaallfaa
