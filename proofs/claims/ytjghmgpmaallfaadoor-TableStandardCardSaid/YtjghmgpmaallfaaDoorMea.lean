/-
  table.Meaning: what a key means.
-/
import Derived.Test.YtjghmgpmaallfaaDoorSim
namespace Go.Proofs.YtjghmgpmaallfaaDoor
open Go.RowKit
set_option linter.unusedVariables false
set_option linter.unusedSimpArgs false

/-- function f is kept, by this key. -/
def hit (t : Tb) (key : Int) (f : Nat) : Prop := ¬ (t f).1 = 0 ∧ (t f).2 = key
instance (t : Tb) (key : Int) (f : Nat) : Decidable (hit t key f) := by unfold hit; infer_instance
/-- the first function, of the last n, that is kept by this key; 0: none. -/
def meanFrom (t : Tb) (key : Int) : Nat → Nat
  | 0 => 0
  | n + 1 => if hit t key (30 - n) then 30 - n else meanFrom t key n
def meaning (t : Tb) (key : Int) : Int := if key = 13 then 31 else (meanFrom t key 30 : Int)
theorem meanFrom_hit (t : Tb) (key : Int) (k : Nat) (h : hit t key k) : ∀ n, n ≤ 30 → 31 - n ≤ k → k ≤ 30 → (∀ i, 31 - n ≤ i → i < k → ¬ hit t key i) → meanFrom t key n = k
  | 0, _, h1, h2, _ => by omega
  | n + 1, hn, h1, h2, hno => by
    unfold meanFrom
    by_cases e : 30 - n = k
    · rw [e, if_pos h]
    · rw [if_neg (hno _ (by omega) (by omega))]
      exact meanFrom_hit t key k h n (by omega) (by omega) h2 (fun i hi hk => hno i (by omega) hk)
theorem meanFrom_none (t : Tb) (key : Int) : ∀ n, n ≤ 30 → (∀ i, 31 - n ≤ i → i ≤ 30 → ¬ hit t key i) → meanFrom t key n = 0
  | 0, _, _ => rfl
  | n + 1, hn, hno => by
    unfold meanFrom
    rw [if_neg (hno _ (by omega) (by omega))]
    exact meanFrom_none t key n (by omega) (fun i hi hk => hno i (by omega) hk)
theorem meaning_hit {t : Tb} {key : Int} (hk : ¬ key = 13) (k : Nat) (h : hit t key k) (h1 : 1 ≤ k) (h2 : k ≤ 30) (hno : ∀ i, 1 ≤ i → i < k → ¬ hit t key i) : meaning t key = k := by
  unfold meaning; rw [if_neg hk, meanFrom_hit t key k h 30 (by omega) (by omega) h2 (fun i hi => hno i (by omega))]
theorem meaning_none {t : Tb} {key : Int} (hk : ¬ key = 13) (hno : ∀ i, 1 ≤ i → i ≤ 30 → ¬ hit t key i) : meaning t key = 0 := by
  unfold meaning; rw [if_neg hk, meanFrom_none t key 30 (by omega) (fun i hi => hno i (by omega))]; rfl

set_option maxHeartbeats 1000000 in
/-- table.Meaning -/
theorem tableMeaning (t : Tb) (key : Int) (w : World) :
    Calls Tryd.prog 13 #[.agg (tabA t), .int .u8 key] w fun e w' => e = .returned (.int .i64 (meaning t key)) ∧ Below w.heap.size w w' := by
  by_cases hk : key = 13
  · subst hk
    go_enter Tryd.func13, Tryd.ntmps13
    go_wp2
    go_ret
    exact ⟨rfl, (Below.refl _ _).alloc (Nat.le_refl _) _⟩
  · have HK := hid hk
    have hb : (key == 13) = false := by simpa using hk
    clear hk
    go_enter Tryd.func13, Tryd.ntmps13
    go_wp2
    go_loop [5] (fun i => ∃ k : Nat, 1 ≤ k ∧ k ≤ 31 ∧ i = .int .i64 k ∧ ∀ f, 1 ≤ f → f < k → ¬ hit t key f) (fun i => 31 - (intOf i).toNat)
    case atStart => exact ⟨1, by omega, by omega, rfl, fun f h1 h2 => by omega⟩
    case round =>
      obtain ⟨k, hk1, hk2, rfl, hno⟩ := hrel
      have HNO := hid hno
      clear hno
      by_cases hlt : k < 31
      · obtain ⟨c1, c2, hc⟩ : ∃ c1 c2, t k = (c1, c2) := ⟨_, _, rfl⟩
        have HC := hid hc
        have k0 : (w.alloc (.cells (tabA t) 25)).cell? ⟨w.heap.size, k * 2, none⟩ = some (.int .i64 c1) := by rw [cell_of_row _ _ _ _ _ _ (heapNew _ _ _ rfl), tabA_cell0 t k hlt, hc]
        have k1 : (w.alloc (.cells (tabA t) 25)).cell? ⟨w.heap.size, k * 2 + 1, none⟩ = some (.int .u8 c2) := by rw [cell_of_row _ _ _ _ _ _ (heapNew _ _ _ rfl), tabA_cell1 t k hlt, hc]
        clear hc
        have hstep : ¬ hit t key k → ∀ f, 1 ≤ f → f < k + 1 → ¬ hit t key f := fun h f h1 h2 => by
          by_cases e : f = k
          · rw [e]; exact h
          · exact HNO.out f h1 (by omega)
        have HS := hid hstep
        clear hstep
        by_cases g1 : c1 = 0
        · have hn : ¬ hit t key k := by unfold hit; rw [HC.out]; exact fun h => h.1 g1
          have HN := hid hn
          clear hn
          have b1 : (c1 != 0) = false := by simpa using g1
          go_wp2
          go_round
          case rel => exact ⟨k + 1, by omega, by omega, by go_num, HS.out HN.out⟩
          case measure => simp [intOf]; omega
        · have b1 : (c1 != 0) = true := by simpa using g1
          by_cases g2 : c2 = key
          · have hn : hit t key k := by unfold hit; rw [HC.out]; exact ⟨g1, g2⟩
            have HN := hid hn
            have b2 : (c2 == key) = true := by simpa using g2
            clear hn g1 g2
            go_wp2
            go_ret
            exact ⟨ret_int (meaning_hit HK.out k HN.out hk1 (by omega) HNO.out).symm, (Below.refl _ _).alloc (Nat.le_refl _) _⟩
          · have hn : ¬ hit t key k := by unfold hit; rw [HC.out]; exact fun h => g2 h.2
            have HN := hid hn
            have b2 : (c2 == key) = false := by simpa using g2
            clear hn g1 g2
            go_wp2
            go_round
            case rel => exact ⟨k + 1, by omega, by omega, by go_num, HS.out HN.out⟩
            case measure => simp [intOf]; omega
      · obtain rfl : k = 31 := by omega
        go_wp2
        go_ret
        exact ⟨ret_int (meaning_none HK.out (fun i h1 h2 => HNO.out i h1 (by omega))).symm, (Below.refl _ _).alloc (Nat.le_refl _) _⟩
end Go.Proofs.YtjghmgpmaallfaaDoor
