/-
  What an end knows (Exch): a table and 31 numbers, 93 cells. Plain laws, and rules of the walk.
-/
import Derived.Test.YtjghmgpmaallfaaSim
import Derived.Test.YtjghmgpmaallfaaRgn
namespace Go.Proofs.Ytjghmgpmaallfaa
open Go.RowKit
set_option linter.unusedVariables false
set_option linter.unusedSimpArgs false

abbrev Wt := Nat → Int
/-- n numbers, one behind the other. -/
def ints (n : Nat) (m : Wt) : List Value := (List.range n).map fun i => .int .i64 (m i)
theorem ints_length (n : Nat) (m : Wt) : (ints n m).length = n := by simp [ints]
theorem ints_get (n : Nat) (m : Wt) (i : Nat) (h : i < n) : (ints n m)[i]? = some (.int .i64 (m i)) := by simp [ints, h]
theorem ints_congr (n : Nat) (m u : Wt) (h : ∀ i, i < n → m i = u i) : ints n m = ints n u := by
  unfold ints
  apply List.map_congr_left
  intro i hi
  rw [h i (List.mem_range.1 hi)]
theorem ints_inj (n : Nat) (m u : Wt) (h : ints n m = ints n u) (i : Nat) (hi : i < n) : m i = u i := by
  have a := ints_get n m i hi
  have b := ints_get n u i hi
  rw [h, b] at a
  simpa using a.symm
/-- one number is another one. -/
def updW (m : Wt) (k : Nat) (v : Int) : Wt := fun i => if i = k then v else m i
theorem updW_same (m : Wt) (k : Nat) (v : Int) : updW m k v k = v := if_pos rfl
theorem updW_other (m : Wt) (k i : Nat) (v : Int) (h : i ≠ k) : updW m k v i = m i := if_neg h
theorem ints_upd (n : Nat) (m : Wt) (k : Nat) (v : Int) (h : k < n) : (ints n m).set k (.int .i64 v) = ints n (updW m k v) := by
  apply List.ext_getElem?
  intro j
  rw [List.getElem?_set, ints_length]
  by_cases hj : j < n
  · rw [ints_get n _ j hj, ints_get n _ j hj]
    by_cases e : k = j
    · subst e; rw [if_pos rfl, if_pos h, updW_same]
    · rw [if_neg e, updW_other _ _ _ _ (Ne.symm e)]
  · rw [if_neg (by omega), List.getElem?_eq_none (by rw [ints_length]; omega), List.getElem?_eq_none (by rw [ints_length]; omega)]
def wtA (m : Wt) : Array Value := (ints 31 m).toArray
theorem wtA_size (m : Wt) : (wtA m).size = 31 := by simp [wtA, ints_length]
theorem wtA_get (m : Wt) (i : Nat) (h : i < 31) : (wtA m)[i]? = some (.int .i64 (m i)) := by simpa [wtA] using ints_get 31 m i h
theorem wtA_congr {m u : Wt} (h : ∀ i, i < 31 → m i = u i) : wtA m = wtA u := by unfold wtA; rw [ints_congr 31 m u h]
theorem wtA_upd (m : Wt) (k : Nat) (v : Int) (h : k < 31) : (wtA m).setIfInBounds k (.int .i64 v) = wtA (updW m k v) := by
  unfold wtA; rw [← ints_upd 31 m k v h]; simp
/-- what an end knows. -/
def exA (t : Tb) (m : Wt) : Array Value := tabA t ++ wtA m
theorem exA_size (t : Tb) (m : Wt) : (exA t m).size = 93 := by simp [exA, tabA_size, wtA_size]
theorem exA_congr {t u : Tb} {m n : Wt} (h : ∀ i, i < 31 → t i = u i) (h' : ∀ i, i < 31 → m i = n i) : exA t m = exA u n := by unfold exA; rw [tabA_congr h, wtA_congr h']
theorem exA_wait (t : Tb) (m : Wt) (i : Nat) (h : i < 31) : (exA t m)[62 + i]? = some (.int .i64 (m i)) := by
  unfold exA
  rw [Array.getElem?_append_right (by rw [tabA_size]; omega), tabA_size, show 62 + i - 62 = i from by omega]
  exact wtA_get m i h
theorem exA_tab (t : Tb) (m : Wt) : (exA t m).extract 0 62 = tabA t := by
  unfold exA; rw [Array.extract_append, tabA_size]
  have e : (tabA t).extract 0 62 = tabA t := by rw [← tabA_size t]; exact Array.extract_size
  rw [e]; simp
theorem exA_waits (t : Tb) (m : Wt) : (exA t m).extract 62 93 = wtA m := by
  unfold exA; rw [Array.extract_append, tabA_size]
  have e : (wtA m).extract 0 31 = wtA m := by rw [← wtA_size m]; exact Array.extract_size
  have e2 : (tabA t).extract 62 93 = #[] := by rw [Array.extract_eq_empty_iff]; rw [tabA_size]; omega
  rw [e2]; simpa using e
theorem exA_updW (t : Tb) (m : Wt) (k : Nat) (v : Int) (h : k < 31) : (exA t m).setIfInBounds (62 + k) (.int .i64 v) = exA t (updW m k v) := by
  unfold exA; rw [Array.setIfInBounds_append, tabA_size, if_neg (by omega), show 62 + k - 62 = k from by omega, wtA_upd m k v h]
theorem exA_upd (t : Tb) (m : Wt) (k : Nat) (c : Int × Int) (h : k < 31) :
    ((exA t m).setIfInBounds (k * 2) (.int .i64 c.1)).setIfInBounds (k * 2 + 1) (.int .u8 c.2) = exA (upd t k c) m := by
  unfold exA
  rw [Array.setIfInBounds_append, tabA_size, if_pos (by omega), Array.setIfInBounds_append, if_pos (by simp [tabA_size]; omega), tabA_upd t k c h]
theorem exA_cell0 (t : Tb) (m : Wt) (i : Nat) (h : i < 31) : (exA t m)[i * 2]? = some (.int .i64 (t i).1) := by
  unfold exA; rw [Array.getElem?_append_left (by rw [tabA_size]; omega)]; exact tabA_cell0 t i h
theorem exA_cell1 (t : Tb) (m : Wt) (i : Nat) (h : i < 31) : (exA t m)[i * 2 + 1]? = some (.int .u8 (t i).2) := by
  unfold exA; rw [Array.getElem?_append_left (by rw [tabA_size]; omega)]; exact tabA_cell1 t i h
theorem exA_row (t : Tb) (m : Wt) (i : Nat) (h : i < 31) : (exA t m).extract (i * 2) (i * 2 + 2) = #[.int .i64 (t i).1, .int .u8 (t i).2] := by
  unfold exA; rw [Array.extract_append, tabA_row t i h, tabA_size, show i * 2 - 62 = 0 from by omega, show i * 2 + 2 - 62 = 0 from by omega]; simp
theorem exA_inj {t u : Tb} {m n : Wt} (h : exA t m = exA u n) : tabA t = tabA u ∧ wtA m = wtA n := by
  have a := exA_tab t m
  have b := exA_waits t m
  rw [h, exA_tab] at a
  rw [h, exA_waits] at b
  exact ⟨a.symm, b.symm⟩
def zeroW : Wt := fun _ => 0
theorem plain_ex (t : Tb) (m : Wt) : (exA t m).toList.all plainCell = true := by
  have h : (exA t m).toList = (tabA t).toList ++ ints 31 m := by simp [exA, wtA]
  rw [h, List.all_append, plain_tab]
  simp [ints, plainCell]
end Go.Proofs.Ytjghmgpmaallfaa
