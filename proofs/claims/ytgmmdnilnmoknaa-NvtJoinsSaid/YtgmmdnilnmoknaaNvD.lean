/-
  The contract of nvt.Lay.
-/
import Derived.Test.YtgmmdnilnmoknaaNvC
namespace Go.Proofs.Ytgmmdnilnmoknaa
open Go.RowKit
set_option linter.unusedVariables false
set_option linter.unusedSimpArgs false

theorem nlay_snoc (l : List UInt8) (k : Nat) (hk : k < l.length) : nlay (l.take (k + 1)) = nlay (l.take k) ++ one l[k] := by
  rw [List.take_succ_eq_append_getElem hk, nlay_append, nlay_cons, nlay_nil, List.append_nil]
theorem nlay_take_le (l : List UInt8) (k : Nat) : (nlay (l.take k)).length ≤ 2 * l.length := by
  have := nlay_le (l.take k); simp at this; omega
theorem one_le (c : UInt8) : (one c).length ≤ 2 := by
  rcases one_cases c with ⟨_, e⟩ | ⟨_, e⟩ | ⟨_, _, e⟩ <;> rw [e] <;> simp
theorem ofNat_toNat (c : UInt8) : UInt8.ofNat c.toNat = c := by simp

theorem made (n : Nat) (h : n ≤ 4096) : ∃ Z : Array Value, Z.size = n ∧ ∀ W, (Instr.makeSlice 22 (.int .i64 0) (.int .i64 (n : Int))).run Try.prog W = .ok (.slice (some ⟨W.heap.size, 0, none⟩) 0 n) (W.alloc (.cells Z 5)) := by
  obtain ⟨i0, hi, hz, hs, hy⟩ := info_parts info5
  refine ⟨madeCells (Value.int .u8 0).cells (n * i0.size), by rw [size_madeCells, hs]; omega, fun W => ?_⟩
  have := run_make (P := Try.prog) W 22 5 i0 _ Try.underlying22 hi hz .i64 .i64 0 n (by omega) (by omega) (by rw [hy]; omega) (by omega)
  simpa using this

set_option maxHeartbeats 4000000 in
set_option maxRecDepth 100000 in
/-- nvt.Lay -/
theorem nvtLay (v : Value) (l : List UInt8) (w : World) (h : Sl w v l) (hb : l.length ≤ 4096) :
    Calls Try.prog 14 #[v] w fun e w' => ∃ u, e = .returned u ∧ Sl w' u (nlay l) ∧ Below w.heap.size w w' := by
  obtain ⟨A, c, rfl, hc, hm, hn, ho⟩ := h
  clear hc hm hn
  have HO := hid ho
  clear ho
  obtain ⟨Z, hZ, hmk⟩ := made l.length hb
  have HZ := hid hZ
  clear hZ
  go_enter Try.func14, Try.ntmps14
  go_wp2_with (first | (go_at_call 18; refine (nvtLaws _).mono ?_; rintro e w1 ⟨B, rfl, hT, hB⟩; have HT := hid hT; clear hT))
  clear hmk
  go_loopw [4, 13] (fun v i wr => ∃ k : Nat, k ≤ l.length ∧ i = .int .i64 k ∧ wr.ownsRow (w1.heap.size + 1) 5 1 v (nlay (l.take k)).length (cells (nlay (l.take k))) ∧ Below (w1.heap.size + 1) (w1.alloc (.cells (funA (clo B)) 33)) wr)
    (fun _ i _ => l.length - (intOf i).toNat)
  case atStart =>
    refine ⟨0, Nat.zero_le _, rfl, ?_, (Below.refl _ _).alloc (by simp) _⟩
    have := World.ownsRow_made (base := w1.heap.size + 1) (e := 5) (size := 1) (w1.alloc (.cells (funA (clo B)) 33)) Z l.length (by simp) (by unfold maxLen; omega) (by rw [HZ.out]; omega)
    simpa [nlay_nil, cells] using this
  case round =>
    obtain ⟨k, hk, rfl, hown, hbel⟩ := hrel
    have hle := nlay_take_le l k
    by_cases hlt : k < l.length
    · have hol : Oct (w1.alloc (.cells (funA (clo B)) 33)) A l := (HO.out.below hB).below ((Below.refl _ _).alloc (Nat.le_refl _) _)
      have hol2 := hol.below (w' := wr) (by simpa using hbel)
      obtain ⟨ad, rfl, _, hc⟩ := hol2.at_ hlt
      have hck := hc k hlt
      unfold u8 at hck
      clear hc
      have hrow : wr.cell? ⟨w1.heap.size, l[k].toNat, none⟩ = some (clo B l[k].toNat) := by
        rw [hbel.cell (p := ⟨w1.heap.size, l[k].toNat, none⟩) (by simp)]
        rw [cell_of_row _ _ _ (funA (clo B)) 33 (0, 0) (heapNew _ _ _ rfl)]
        exact funA_get _ _ l[k].toNat_lt
      have hf := (HT.out l[k].toNat l[k].toNat_lt).below ((Below.refl _ _).alloc (Nat.le_refl _) (.cells (funA (clo B)) 33))
      have hf2 := hf.below (w' := wr) (by simpa using hbel)
      rw [ofNat_toNat] at hf2
      obtain ⟨_, a, c', _, hg, ho⟩ := hf2
      have h1 := one_le l[k]
      have HS := hid (nlay_snoc l k hlt)
      have HG := hid (And.intro hg ho)
      have HN := hid hown
      have hsz := hbel.size
      clear hol hol2 hf hg ho hown
      unfold clo at hrow
      have hu : (l[k].toNat : Int) < 256 := u8_lt _
      go_wp2_with (first | (go_at_call 21; refine (lawsClo (w1.heap.size + 1) _ _ _ _ _ _ (one l[k]) _ HG.out.1 HG.out.2 HN.out (by simpa using hsz) (by omega)).mono ?_; rintro e w2 ⟨v', rfl, hown', hbel'⟩))
      go_roundw
      case rel => exact ⟨k + 1, by omega, by go_num, by rw [HS.out, List.length_append]; exact hown', hbel.trans hbel'⟩
      case measure => simp [intOf]; omega
    · obtain rfl : k = l.length := by omega
      have HN := hid hown
      clear hown
      go_wp2
      go_ret
      refine ⟨_, rfl, ?_, hB.trans (((Below.refl _ _).alloc hB.size _).trans (hbel.mono (by have := hB.size; omega)))⟩
      have := Sl.own HN.out
      rwa [List.take_length] at this
end Go.Proofs.Ytgmmdnilnmoknaa
