/-
  exchange.Check, function, told, kind, hears.
-/
import Derived.Test.YtjghmgpmaallfaaExr
import Derived.Test.YtjghmgpmaallfaaFir
namespace Go.Proofs.Ytjghmgpmaallfaa
open Go.RowKit
set_option linter.unusedVariables false
set_option linter.unusedSimpArgs false

/-- a number of answers that may be waited for. -/
def wtOk (f : Nat) (n : Int) : Prop := 0 ≤ n ∧ n ≤ 65536 ∧ (f = 0 → n ≤ 0)
def wtsOk (m : Wt) : Prop := ∀ f, f < 31 → wtOk f (m f)
open Classical in
noncomputable def exErr (t : Tb) (m : Wt) : Int := if wtsOk m then tabErr t else 1
theorem exErr_bad (t : Tb) (m : Wt) (f : Nat) (hf : f < 31) (h : ¬ wtOk f (m f)) : exErr t m = 1 := if_neg fun hh => h (hh f hf)
theorem exErr_good (t : Tb) (m : Wt) (h : wtsOk m) : exErr t m = tabErr t := if_pos h
set_option maxHeartbeats 1000000 in
/-- exchange.Check -/
theorem exCheck (t : Tb) (m : Wt) (w : World) :
    Calls Try.prog 33 #[.agg (exA t m)] w fun e w' => e = .returned (.int .i64 (exErr t m)) ∧ Below w.heap.size w w' := by
  go_enter Try.func33, Try.ntmps33
  go_wp2
  go_loopw [7] (fun i wr => ∃ k : Nat, k ≤ 31 ∧ i = .int .i64 k ∧ (∀ f, f < k → wtOk f (m f)) ∧ rowAt wr w.heap.size = some (.cells (exA t m) 60 (0, 0)) ∧ Below w.heap.size w wr) (fun i _ => 31 - (intOf i).toNat)
  case atStart => exact ⟨0, by omega, rfl, fun f h => by omega, rowAt_new _ _ _ rfl, (Below.refl _ _).alloc (Nat.le_refl _) _⟩
  case round =>
    obtain ⟨k, hk, rfl, hok, hr, hb⟩ := hrel
    have HOK := hid hok
    clear hok
    have hl := lt_of_some hr
    by_cases hlt : k < 31
    · obtain ⟨c, hc⟩ : ∃ c, m k = c := ⟨_, rfl⟩
      have hix := fun w => run_index_waits m k hlt w
      simp only [hc] at hix
      have HC := hid hc
      clear hc
      go_wp2
      all_goals first
        | (go_ret
           exact ⟨ret_int (exErr_bad t m k hlt (by rw [HC.out]; unfold wtOk; omega)).symm, hb⟩)
        | (go_roundw
           case rel =>
            refine ⟨k + 1, by omega, by go_num, fun f hf => ?_, hr, hb⟩
            by_cases e : f = k
            · rw [e, HC.out]; unfold wtOk; omega
            · exact HOK.out f (by omega)
           case measure => simp [intOf]; omega)
    · obtain rfl : k = 31 := by omega
      go_wp2_with fail
      refine (tableCheck t _).mono ?_
      rintro e w1 ⟨rfl, hb1⟩
      have HE := hid (exErr_good t m HOK.out)
      have HB := hid (below_step hb (by omega) hb1)
      go_wp2
      go_ret
      exact ⟨ret_int HE.out.symm, HB.out⟩
theorem exCheck_eq {t : Tb} {m : Wt} {e0 : Int} (h : exErr t m = e0) (w : World) :
    Calls Try.prog 33 #[.agg (exA t m)] w fun e w' => e = .returned (.int .i64 e0) ∧ Below w.heap.size w w' := by
  subst h; exact exCheck t m w
/-- function: is a number a function's? -/
def isF (f : Int) : Bool := decide (1 ≤ f) && decide (f < 31)
theorem exFunction (f : Int) (w : World) :
    Calls Try.prog 44 #[.int .i64 f] w fun e w' => e = .returned (.bool (isF f)) ∧ Below w.heap.size w w' := by
  go_enter Try.func44, Try.ntmps44
  go_wp2
  all_goals go_ret
  all_goals exact ⟨ret_bool (by unfold isF; simp; omega), Below.refl _ _⟩
theorem exFunction_is {f : Int} {b : Bool} (h : isF f = b) (w : World) :
    Calls Try.prog 44 #[.int .i64 f] w fun e w' => e = .returned (.bool b) ∧ Below w.heap.size w w' := by
  subst h; exact exFunction f w
/-- told: the cell that an answer tells. -/
def toldC (l v : Int) : Int × Int := if l = 0 then (0, 0) else (if l < 2 then l else 2, v)
theorem toldC_cases (l v : Int) : (l = 0 ∧ toldC l v = (0, 0)) ∨ (l ≠ 0 ∧ l < 2 ∧ toldC l v = (l, v)) ∨ (2 ≤ l ∧ toldC l v = (2, v)) := by
  unfold toldC
  by_cases h : l = 0
  · exact .inl ⟨h, if_pos h⟩
  · by_cases h2 : l < 2
    · exact .inr (.inl ⟨h, h2, by rw [if_neg h, if_pos h2]⟩)
    · exact .inr (.inr ⟨by omega, by rw [if_neg h, if_neg h2]⟩)
theorem exTold (f l v : Int) (a i o : Bool) (w : World) :
    Calls Try.prog 46 #[.agg #[.int .i64 f, .int .i64 l, .bool a, .bool i, .bool o, .int .u8 v]] w fun e w' => e = .returned (.agg #[.int .i64 (toldC l v).1, .int .u8 (toldC l v).2]) ∧ Below w.heap.size w w' := by
  have H := toldC_cases l v
  generalize toldC l v = r at *
  obtain ⟨r1, r2⟩ := r
  simp only [Prod.mk.injEq] at H
  rcases H with ⟨rfl, rfl, rfl⟩ | ⟨h1, h2, rfl, rfl⟩ | ⟨h2, rfl, rfl⟩
  rotate_right 1
  have h0 : l ≠ 0 := by omega
  have h0' : l ≠ 0 := by omega
  all_goals
    go_enter Try.func46, Try.ntmps46
    go_wp2
    all_goals first
      | (exfalso; omega)
      | (refine bodyPost_ret ?_ rfl ⟨rfl, ?_⟩
         · simp [results, Try.results46, go_sem] <;> omega
         · repeat (first | exact Below.refl _ _ | (refine Below.alloc ?_ (by first | omega | (simp <;> omega)) _)))
end Go.Proofs.Ytjghmgpmaallfaa
