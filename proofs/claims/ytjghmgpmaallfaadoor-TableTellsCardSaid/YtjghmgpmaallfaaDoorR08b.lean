/-
  The contract of linnetref08.Meaning.
-/
import Derived.Test.YtjghmgpmaallfaaDoorSim
import Derived.Test.YtjghmgpmaallfaaDoorMea
namespace Go.Proofs.YtjghmgpmaallfaaDoor
open Go.RowKit
set_option linter.unusedVariables false
set_option linter.unusedSimpArgs false

/-- is a function below m kept by the key? -/
def lowB (t : Tb) (key : Int) : Nat → Bool
  | 0 => false
  | m + 1 => lowB t key m || (decide (1 ≤ m) && decide (hit t key m))
theorem lowB_iff (t : Tb) (key : Int) : ∀ m, lowB t key m = true ↔ ∃ g, 1 ≤ g ∧ g < m ∧ hit t key g
  | 0 => by simp [lowB]
  | m + 1 => by
    rw [lowB, Bool.or_eq_true, lowB_iff t key m, Bool.and_eq_true, decide_eq_true_iff, decide_eq_true_iff]
    constructor
    · rintro (⟨g, a, b, c⟩ | ⟨a, b⟩)
      · exact ⟨g, a, by omega, c⟩
      · exact ⟨m, a, by omega, b⟩
    · rintro ⟨g, a, b, c⟩
      by_cases e : g = m
      · subst e; exact .inr ⟨a, c⟩
      · exact .inl ⟨g, a, by omega, c⟩
theorem lowB_one (t : Tb) (key : Int) : lowB t key 1 = false := by simp [lowB]
theorem lowB_step (t : Tb) (key : Int) (m : Nat) (h : 1 ≤ m) {b : Bool} (hb : decide (hit t key m) = b) : lowB t key (m + 1) = (lowB t key m || b) := by
  rw [lowB, hb, decide_eq_true h, Bool.true_and]
/-- no function from m on is the lowest that the key keeps. -/
def noneFrom (t : Tb) (key : Int) (m : Nat) : Prop := ∀ j, m ≤ j → j ≤ 30 → ¬ (hit t key j ∧ lowB t key j = false)
theorem noneFrom_all {t : Tb} {key : Int} (h : noneFrom t key 1) : ∀ i, 1 ≤ i → i ≤ 30 → ¬ hit t key i := by
  intro i
  induction i using Nat.strongRecOn with
  | _ i ih =>
    intro h1 h2 hh
    refine h i h1 h2 ⟨hh, ?_⟩
    cases hl : lowB t key i
    · rfl
    · obtain ⟨g, a, b, c⟩ := (lowB_iff t key i).1 hl
      exact absurd c (ih g b a (by omega))
theorem noneFrom_step {t : Tb} {key : Int} {m : Nat} (h : noneFrom t key (m + 1)) (hm : ¬ (hit t key m ∧ lowB t key m = false)) : noneFrom t key m := by
  intro j h1 h2
  by_cases e : j = m
  · subst e; exact hm
  · exact h j (by omega) h2

set_option maxHeartbeats 4000000 in
set_option maxRecDepth 100000 in
/-- linnetref08.Meaning -/
theorem refMeaning (t : Tb) (key : Int) (w : World) :
    Calls Tryd.prog 14 #[.agg (tabA t), .int .u8 key] w fun e w' => e = .returned (.int .i64 (meaning t key)) ∧ Below w.heap.size w w' := by
  by_cases hk : key = 13
  · subst hk
    go_enter Tryd.func14, Tryd.ntmps14
    go_wp2
    go_ret
    exact ⟨rfl, (Below.refl _ _).alloc (Nat.le_refl _) _⟩
  · have HK := hid hk
    have hb : (key == 13) = false := by simpa using hk
    clear hk
    go_enter Tryd.func14, Tryd.ntmps14
    go_wp2
    go_loop [5] (fun i => ∃ k : Nat, k ≤ 30 ∧ i = .int .i64 k ∧ noneFrom t key (k + 1)) (fun i => (intOf i).toNat)
    case atStart => exact ⟨30, by omega, rfl, fun j h1 h2 => by omega⟩
    case round =>
      obtain ⟨k, hk2, rfl, hno⟩ := hrel
      have HNO := hid hno
      clear hno
      by_cases hlt : 1 ≤ k
      · go_wp2
        go_loop [6, 7] (fun l i => ∃ m : Nat, 1 ≤ m ∧ m ≤ k ∧ i = .int .i64 m ∧ l = .bool (lowB t key m)) (fun l i => k - (intOf i).toNat)
        case atStart => exact ⟨1, by omega, hlt, rfl, by rw [lowB_one]⟩
        case round =>
          obtain ⟨m, hm1, hm2, rfl, rfl⟩ := hrel
          by_cases hmk : m < k
          · obtain ⟨c1, c2, hc⟩ : ∃ c1 c2, t m = (c1, c2) := ⟨_, _, rfl⟩
            have HC := hid hc
            have k0 : (w.alloc (.cells (tabA t) 25)).cell? ⟨w.heap.size, m * 2, none⟩ = some (.int .i64 c1) := by rw [cell_of_row _ _ _ _ _ _ (heapNew _ _ _ rfl), tabA_cell0 t m (by omega), hc]
            have k1 : (w.alloc (.cells (tabA t) 25)).cell? ⟨w.heap.size, m * 2 + 1, none⟩ = some (.int .u8 c2) := by rw [cell_of_row _ _ _ _ _ _ (heapNew _ _ _ rfl), tabA_cell1 t m (by omega), hc]
            clear hc
            cases hl : lowB t key m <;> have HL := hid hl <;> clear hl
            · by_cases g1 : c1 = 0
              · have b1 : (c1 != 0) = false := by simpa using g1
                have HS := hid (lowB_step t key m hm1 (b := false) (decide_eq_false (by unfold hit; rw [HC.out]; simp [g1])))
                clear g1
                go_wp2
                go_round
                case rel => exact ⟨m + 1, by omega, by omega, by go_num, by rw [HS.out, HL.out]; rfl⟩
                case measure => simp [intOf]; omega
              · have b1 : (c1 != 0) = true := by simpa using g1
                by_cases g2 : c2 = key
                · have b2 : (c2 == key) = true := by simpa using g2
                  have HS := hid (lowB_step t key m hm1 (b := true) (decide_eq_true (by unfold hit; rw [HC.out]; simp [g1, g2])))
                  clear g1 g2
                  go_wp2
                  go_round
                  case rel => exact ⟨m + 1, by omega, by omega, by go_num, by rw [HS.out, HL.out]; rfl⟩
                  case measure => simp [intOf]; omega
                · have b2 : (c2 == key) = false := by simpa using g2
                  have HS := hid (lowB_step t key m hm1 (b := false) (decide_eq_false (by unfold hit; rw [HC.out]; simp [g1, g2])))
                  clear g1 g2
                  go_wp2
                  go_round
                  case rel => exact ⟨m + 1, by omega, by omega, by go_num, by rw [HS.out, HL.out]; rfl⟩
                  case measure => simp [intOf]; omega
            · have HS := hid (lowB_step t key m hm1 rfl)
              go_wp2
              go_round
              case rel => exact ⟨m + 1, by omega, by omega, by go_num, by rw [HS.out, HL.out]; rfl⟩
              case measure => simp [intOf]; omega
          · obtain rfl : m = k := by omega
            obtain ⟨c1, c2, hc⟩ : ∃ c1 c2, t m = (c1, c2) := ⟨_, _, rfl⟩
            have HC := hid hc
            have k0 : (w.alloc (.cells (tabA t) 25)).cell? ⟨w.heap.size, m * 2, none⟩ = some (.int .i64 c1) := by rw [cell_of_row _ _ _ _ _ _ (heapNew _ _ _ rfl), tabA_cell0 t m (by omega), hc]
            have k1 : (w.alloc (.cells (tabA t) 25)).cell? ⟨w.heap.size, m * 2 + 1, none⟩ = some (.int .u8 c2) := by rw [cell_of_row _ _ _ _ _ _ (heapNew _ _ _ rfl), tabA_cell1 t m (by omega), hc]
            clear hc
            have HT : Hid (¬ (hit t key m ∧ lowB t key m = false) → noneFrom t key (m - 1 + 1)) := hid fun h => by
              rw [show m - 1 + 1 = m by omega]; exact noneFrom_step HNO.out h
            by_cases g1 : c1 = 0
            · have b1 : (c1 != 0) = false := by simpa using g1
              have hn : ¬ hit t key m := by unfold hit; rw [HC.out]; exact fun h => h.1 g1
              have HN := hid (HT.out fun h => hn h.1)
              clear g1 hn
              generalize lowB t key m = lo at *
              go_wp2
              go_round
              case rel => exact ⟨m - 1, by omega, by go_num, HN.out⟩
              case measure => simp [intOf]; omega
            · have b1 : (c1 != 0) = true := by simpa using g1
              by_cases g2 : c2 = key
              · have b2 : (c2 == key) = true := by simpa using g2
                have hh : hit t key m := by unfold hit; rw [HC.out]; exact ⟨g1, g2⟩
                have HH := hid hh
                clear hh g1 g2
                cases hl : lowB t key m <;> have HL := hid hl <;> clear hl
                · go_wp2
                  go_ret
                  refine ⟨ret_int (meaning_hit HK.out m HH.out hlt hk2 fun i h1 h2 h3 => ?_).symm, (Below.refl _ _).alloc (Nat.le_refl _) _⟩
                  have := (lowB_iff t key m).2 ⟨i, h1, h2, h3⟩
                  rw [HL.out] at this; cases this
                · have HN := hid (HT.out fun h => by rw [HL.out] at h; cases h.2)
                  go_wp2
                  go_round
                  case rel => exact ⟨m - 1, by omega, by go_num, HN.out⟩
                  case measure => simp [intOf]; omega
              · have b2 : (c2 == key) = false := by simpa using g2
                have hn : ¬ hit t key m := by unfold hit; rw [HC.out]; exact fun h => g2 h.2
                have HN := hid (HT.out fun h => hn h.1)
                clear g1 g2 hn
                generalize lowB t key m = lo at *
                go_wp2
                go_round
                case rel => exact ⟨m - 1, by omega, by go_num, HN.out⟩
                case measure => simp [intOf]; omega
      · obtain rfl : k = 0 := by omega
        go_wp2
        go_ret
        exact ⟨ret_int (meaning_none HK.out (noneFrom_all HNO.out)).symm, (Below.refl _ _).alloc (Nat.le_refl _) _⟩
end Go.Proofs.YtjghmgpmaallfaaDoor
