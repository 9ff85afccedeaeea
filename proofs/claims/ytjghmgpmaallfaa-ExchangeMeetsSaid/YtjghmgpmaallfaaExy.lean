/-
  The prefs of Told as a range of its block.
-/
import Derived.Test.YtjghmgpmaallfaaExv
import Derived.Test.YtjghmgpmaallfaaDrg
namespace Go.Proofs.Ytjghmgpmaallfaa
open Go.RowKit
set_option linter.unusedVariables false
set_option linter.unusedSimpArgs false
theorem tdA_low (p : Tb) (b : Bool) (f l : Int) (a i o : Bool) (v : Int) (j : Nat) (h : j < 62) : (tdA p b f l a i o v)[j]? = (tabA p)[j]? := by
  unfold tdA; rw [Array.getElem?_append_left (by rw [tabA_size]; exact h)]
theorem range_td {w : World} {g : Nat} {p : Tb} {b : Bool} {f l : Int} {a i o : Bool} {v : Int} {t : TypeId} {U : List Value} (h : rowAt w g = some (.cells (tdA p b f l a i o v) t (0, 0))) (hU : tabA p = U.toArray) : w.rangeAt g 0 U := by
  intro j x hx
  have hj : j < 62 := by
    have := len_of_tab hU
    rcases Nat.lt_or_ge j U.length with h | h
    · omega
    · rw [List.getElem?_eq_none h] at hx; cases hx
  rw [cell_of_row w g (0 + j) _ t (0, 0) h, Nat.zero_add, tdA_low _ _ _ _ _ _ _ _ j hj, hU]
  simpa using hx
theorem range_ex {w : World} {g : Nat} {t : Tb} {m : Wt} {ty : TypeId} {U : List Value} (h : rowAt w g = some (.cells (exA t m) ty (0, 0))) (hU : exA t m = U.toArray) : w.rangeAt g 0 U := range_of_row h hU
@[go_sem] theorem tdA_e62 (p : Tb) (b : Bool) (f l : Int) (a i o : Bool) (v : Int) (h : 62 < (tdA p b f l a i o v).size) : (tdA p b f l a i o v)[62]'h = .bool b := by
  have e := tdA_get p b f l a i o v 0
  rw [Array.getElem?_eq_getElem h] at e
  exact Option.some.inj e
@[go_sem] theorem tdA_e63 (p : Tb) (b : Bool) (f l : Int) (a i o : Bool) (v : Int) (h : 63 < (tdA p b f l a i o v).size) : (tdA p b f l a i o v)[63]'h = .int .i64 f := by
  have e := tdA_get p b f l a i o v 1
  rw [Array.getElem?_eq_getElem h] at e
  exact Option.some.inj e
@[go_sem] theorem tdA_e64 (p : Tb) (b : Bool) (f l : Int) (a i o : Bool) (v : Int) (h : 64 < (tdA p b f l a i o v).size) : (tdA p b f l a i o v)[64]'h = .int .i64 l := by
  have e := tdA_get p b f l a i o v 2
  rw [Array.getElem?_eq_getElem h] at e
  exact Option.some.inj e
@[go_sem] theorem tdA_e65 (p : Tb) (b : Bool) (f l : Int) (a i o : Bool) (v : Int) (h : 65 < (tdA p b f l a i o v).size) : (tdA p b f l a i o v)[65]'h = .bool a := by
  have e := tdA_get p b f l a i o v 3
  rw [Array.getElem?_eq_getElem h] at e
  exact Option.some.inj e
@[go_sem] theorem tdA_e66 (p : Tb) (b : Bool) (f l : Int) (a i o : Bool) (v : Int) (h : 66 < (tdA p b f l a i o v).size) : (tdA p b f l a i o v)[66]'h = .bool i := by
  have e := tdA_get p b f l a i o v 4
  rw [Array.getElem?_eq_getElem h] at e
  exact Option.some.inj e
@[go_sem] theorem tdA_e67 (p : Tb) (b : Bool) (f l : Int) (a i o : Bool) (v : Int) (h : 67 < (tdA p b f l a i o v).size) : (tdA p b f l a i o v)[67]'h = .bool o := by
  have e := tdA_get p b f l a i o v 5
  rw [Array.getElem?_eq_getElem h] at e
  exact Option.some.inj e
@[go_sem] theorem tdA_e68 (p : Tb) (b : Bool) (f l : Int) (a i o : Bool) (v : Int) (h : 68 < (tdA p b f l a i o v).size) : (tdA p b f l a i o v)[68]'h = .int .u8 v := by
  have e := tdA_get p b f l a i o v 6
  rw [Array.getElem?_eq_getElem h] at e
  exact Option.some.inj e
/-- a region that makes a variable of two cells and stores a call's result in it: what lies behind it, whichever came first. -/
theorem left2_call {w3 w9 : World} {x y : Value} {t : TypeId} {c1 c2 : Value} (hb : Below (w3.alloc (.cells #[x, y] t)).drew.heap.size (w3.alloc (.cells #[x, y] t)).drew w9) :
    rowAt ((w9.setCell ⟨w3.heap.size, 0, none⟩ c1).setCell ⟨w3.heap.size, 1, none⟩ c2) w3.heap.size = some (.cells #[c1, c2] t (0, 0)) ∧ w3.heap.size ≤ w3.heap.size ∧ Below w3.heap.size w3 ((w9.setCell ⟨w3.heap.size, 0, none⟩ c1).setCell ⟨w3.heap.size, 1, none⟩ c2) :=
  ⟨setCell_rowSame (setCell_rowSame (row_ahead hb) _ _) _ _, Nat.le_refl _, ((below9 hb).setCell (p := ⟨w3.heap.size, 0, none⟩) (Nat.le_refl _) c1).setCell (p := ⟨w3.heap.size, 1, none⟩) (Nat.le_refl _) c2⟩
theorem left2_new {w3 w9 : World} {t : TypeId} {c1 c2 : Value} (hb : Below w3.heap.size w3 w9) :
    rowAt (w9.alloc (.cells #[c1, c2] t)) w9.heap.size = some (.cells #[c1, c2] t (0, 0)) ∧ w3.heap.size ≤ w9.heap.size ∧ Below w3.heap.size w3 (w9.alloc (.cells #[c1, c2] t)) :=
  ⟨rowAt_new _ _ _ rfl, hb.size, hb.alloc hb.size _⟩
end Go.Proofs.Ytjghmgpmaallfaa
