/-
  The contract of linnetref08.Key.
-/
import Derived.Test.YtjghmgpmaallfaaDoorR08b
namespace Go.Proofs.YtjghmgpmaallfaaDoor
open Go.RowKit
set_option linter.unusedVariables false
set_option linter.unusedSimpArgs false

/-- r is the lowest octet that means f; 256: none does. -/
def lowKey (t : Tb) (f : Int) (r : Nat) : Prop := r ≤ 256 ∧ (r < 256 → 1 ≤ f ∧ meaning t r = f) ∧ ∀ k : Nat, k < r → ¬ (1 ≤ f ∧ meaning t k = f)
theorem refMeaning_eq {t : Tb} {key m : Int} (h : meaning t key = m) (w : World) :
    Calls Tryd.prog 14 #[.agg (tabA t), .int .u8 key] w fun e w' => e = .returned (.int .i64 m) ∧ Below w.heap.size w w' := by
  subst h; exact refMeaning t key w

set_option maxHeartbeats 4000000 in
set_option maxRecDepth 100000 in
/-- linnetref08.Key -/
theorem refKey (t : Tb) (f : Int) (r : Nat) (h : lowKey t f r) (w : World) :
    Calls Tryd.prog 10 #[.agg (tabA t), .int .i64 f] w fun e w' => e = .returned (.int .i64 (r : Int)) ∧ Below w.heap.size w w' := by
  obtain ⟨hr, hin, hno⟩ := h
  have HIN := hid hin
  have HNO := hid hno
  clear hin hno
  go_enter Tryd.func10, Tryd.ntmps10
  go_wp2
  go_loopw [5] (fun i wr => ∃ k : Nat, k ≤ r ∧ i = .int .i64 k ∧ Below (w.heap.size + 1) (w.alloc (.cells (tabA t) 25)) wr) (fun i _ => 256 - (intOf i).toNat)
  case atStart => exact ⟨0, by omega, rfl, Below.refl _ _⟩
  case round =>
    obtain ⟨k, hk, rfl, hb⟩ := hrel
    have HB := hid hb
    have hrow : rowAt wr w.heap.size = some (.cells (tabA t) 25 (0, 0)) := (hb.block w.heap.size (by omega)).trans (heapNew _ _ _ rfl)
    have hsz : w.heap.size + 1 ≤ wr.heap.size := by have := hb.size; simpa using this
    clear hb
    have H0 : Hid (Below w.heap.size w (w.alloc (.cells (tabA t) 25))) := hid ((Below.refl _ _).alloc (Nat.le_refl _) _)
    have hk256 : k ≤ 256 := by omega
    by_cases hlt : k < 256
    · have hc1 : (0 : Int) ≤ (k : Int) := by omega
      have hc2 : (k : Int) < 256 := by omega
      by_cases hf : 1 ≤ f
      · obtain ⟨m, hm⟩ : ∃ m, meaning t k = m := ⟨_, rfl⟩
        have HM := hid hm
        by_cases hmf : m = f
        · obtain rfl : k = r := by
            rcases Nat.lt_or_ge k r with h | h
            · exact absurd ⟨hf, hm.trans hmf⟩ (HNO.out k h)
            · omega
          subst hmf
          clear hm
          go_wp2_with (first | (go_at_call 14; (with_reducible refine (refMeaning_eq HM.out _).mono ?_); rintro e w2 ⟨rfl, hb2⟩))
          go_ret
          exact ⟨rfl, (H0.out.trans (HB.out.mono (by omega))).trans (hb2.mono (by omega))⟩
        · have hkr : k < r := by
            rcases Nat.lt_or_ge k r with h | h
            · exact h
            · obtain rfl : k = r := by omega
              exact absurd (hm.symm.trans (HIN.out hlt).2) hmf
          have hb1 : (m == f) = false := by simpa using hmf
          clear hm hmf
          go_wp2_with (first | (go_at_call 14; (with_reducible refine (refMeaning_eq HM.out _).mono ?_); rintro e w2 ⟨rfl, hb2⟩))
          go_roundw
          case rel => exact ⟨k + 1, by omega, by go_num, HB.out.trans (hb2.mono hsz)⟩
          case measure => simp [intOf]; omega
      · have hkr : k < r := by
          rcases Nat.lt_or_ge k r with h | h
          · exact h
          · obtain rfl : k = r := by omega
            exact absurd (HIN.out hlt).1 hf
        go_wp2
        go_roundw
        case rel => exact ⟨k + 1, by omega, by go_num, HB.out⟩
        case measure => simp [intOf]; omega
    · obtain rfl : k = r := by omega
      obtain rfl : k = 256 := by omega
      go_wp2
      go_ret
      exact ⟨rfl, H0.out.trans (HB.out.mono (by omega))⟩
end Go.Proofs.YtjghmgpmaallfaaDoor
