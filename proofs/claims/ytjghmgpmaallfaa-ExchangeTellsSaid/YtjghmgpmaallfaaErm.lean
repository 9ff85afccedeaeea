/-
  The contract of linnetref17.May.
-/
import Derived.Test.YtjghmgpmaallfaaExz
import Derived.Test.YtjghmgpmaallfaaR08
import Derived.Test.YtjghmgpmaallfaaR09a
import Derived.Test.YtjghmgpmaallfaaR09b
import Derived.Test.YtjghmgpmaallfaaR09d
namespace Go.Proofs.Ytjghmgpmaallfaa
open Go.RowKit
set_option linter.unusedVariables false
set_option linter.unusedSimpArgs false
theorem refMay9_eq {t : Tb} {b : Bool} (h : decide (tabOk t) = b) (w : World) : Calls Try.prog 23 #[.agg (tabA t)] w fun e w' => e = .returned (.bool b) ∧ Below w.heap.size w w' := by
  subst h; exact refMay9 t w
theorem refMay8_eq {t : Tb} {b : Bool} (h : decide (tabOk t) = b) (w : World) : Calls Try.prog 28 #[.agg (tabA t)] w fun e w' => e = .returned (.bool b) ∧ Below w.heap.size w w' := by
  subst h; exact refMay t w
theorem refMay7_eq {f l : Int} {b : Bool} (h : decide (trOk f l) = b) (a i o : Bool) (v : Int) (w : World) :
    Calls Try.prog 24 #[.agg #[.int .i64 f, .int .i64 l, .bool a, .bool i, .bool o, .int .u8 v]] w fun e w' => e = .returned (.bool b) ∧ Below w.heap.size w w' := by
  subst h; exact refMay7 f l v a i o w
theorem exErr_not {t : Tb} {m : Wt} {b : Bool} (h : (exErr t m = 0 ∧ b = true) ∨ (exErr t m = 1 ∧ b = false)) (k : Nat) (hk : k < 31) (hb : ¬ wtOk k (m k)) : b = false := by
  rcases h with ⟨h, _⟩ | ⟨_, h⟩
  · rw [exErr_bad t m k hk hb] at h; cases h
  · exact h
theorem exErr_yes {t : Tb} {m : Wt} {b : Bool} (h : (exErr t m = 0 ∧ b = true) ∨ (exErr t m = 1 ∧ b = false)) (hm : wtsOk m) : decide (tabOk t) = b := by
  rw [exErr_good t m hm] at h
  rcases tabErr_or t with ⟨h1, h2⟩ | ⟨h1, h2⟩
  · rcases h with ⟨_, h⟩ | ⟨h, _⟩
    · rw [h]; exact decide_eq_true h2
    · rw [h1] at h; cases h
  · rcases h with ⟨h, _⟩ | ⟨_, h⟩
    · rw [h1] at h; cases h
    · rw [h]; exact decide_eq_false h2
set_option maxHeartbeats 4000000 in
set_option maxRecDepth 100000 in
theorem refMay17 {t : Tb} {m : Wt} {b : Bool} (h : (exErr t m = 0 ∧ b = true) ∨ (exErr t m = 1 ∧ b = false)) (w : World) :
    Calls Try.prog 36 #[.agg (exA t m)] w fun e w' => e = .returned (.bool b) ∧ Below w.heap.size w w' := by
  have H := hid h
  clear h
  go_enter Try.func36, Try.ntmps36
  go_wp2
  go_loopw [3] (fun i wr => ∃ k : Nat, k ≤ 31 ∧ i = .int .i64 k ∧ (∀ f, f < k → wtOk f (m f)) ∧ rowAt wr w.heap.size = some (.cells (exA t m) 60 (0, 0)) ∧ Below w.heap.size w wr) (fun i _ => 31 - (intOf i).toNat)
  case atStart => exact ⟨0, by omega, rfl, fun f h => by omega, rowAt_new _ _ _ rfl, (Below.refl _ _).alloc (Nat.le_refl _) _⟩
  case round =>
    obtain ⟨k, hk, rfl, hok, hr, hb⟩ := hrel
    have HOK := hid hok
    have HB := hid hb
    have hsz := hb.size
    clear hok hb
    have hl := lt_of_some hr
    by_cases hlt : k < 31
    · obtain ⟨c, hc⟩ : ∃ c, m k = c := ⟨_, rfl⟩
      have k0 := cell_of_row _ _ (62 + k) _ _ _ hr
      rw [exA_wait t m k hlt, hc] at k0
      have HBAD : Hid (¬ wtOk k c → b = false) := hid fun h => exErr_not H.out k hlt (by rw [hc]; exact h)
      have HNXT : Hid (wtOk k c → ∀ f, f < k + 1 → wtOk f (m f)) := hid fun h f hf => by
        by_cases e : f = k
        · rw [e, hc]; exact h
        · exact HOK.out f (by omega)
      clear hc
      have HR := hid hr
      clear hr
      by_cases g5 : k = 0
      · subst g5
        have k0' : wr.cell? ⟨w.heap.size, 62, none⟩ = some (.int .i64 c) := k0
        by_cases hz : c = 0
        · subst hz
          go_wp2
          all_goals first
            | (go_ret
               exact ⟨ret_bool (HBAD.out (by unfold wtOk; omega)).symm, HB.out⟩)
            | (go_roundw
               case rel => exact ⟨1, by omega, by go_num, HNXT.out (by unfold wtOk; omega), HR.out, HB.out⟩
               case measure => simp [intOf])
        · have hz' : (c != 0) = true := by simpa using hz
          go_wp2
          all_goals first
            | (go_ret
               exact ⟨ret_bool (HBAD.out (by unfold wtOk; omega)).symm, HB.out⟩)
            | (go_roundw
               case rel => exact ⟨1, by omega, by go_num, HNXT.out (by unfold wtOk; omega), HR.out, HB.out⟩
               case measure => simp [intOf])
      · have hk0 : ((k : Int) == 0) = false := by simp; omega
        go_wp2
        all_goals first
          | (go_ret
             exact ⟨ret_bool (HBAD.out (by unfold wtOk; omega)).symm, HB.out⟩)
          | (go_roundw
             case rel => exact ⟨k + 1, by omega, by go_num, HNXT.out (by unfold wtOk; omega), HR.out, HB.out⟩
             case measure => simp [intOf]; omega)
    · obtain rfl : k = 31 := by omega
      go_wp2_with fail
      refine (refMay8_eq (exErr_yes H.out HOK.out) _).mono ?_
      rintro e w1 ⟨rfl, hb1⟩
      have HB2 := hid (below_step HB.out hsz hb1)
      go_wp2
      go_ret
      exact ⟨rfl, HB2.out⟩
end Go.Proofs.Ytjghmgpmaallfaa
