/-
  A region that draws its order, reads, calls one function that makes new blocks, makes one variable and stores the call's result in it.
-/
import Derived.Test.YtjghmgpmaallfaaRgn
import Derived.Deep.RegionHeld3
import Derived.Deep.CutRange
namespace Go.Proofs.Ytjghmgpmaallfaa
open Go.RowKit
set_option linter.unusedVariables false
set_option linter.unusedSimpArgs false

theorem range_of_row {w : World} {g : Nat} {cs : Array Value} {t : TypeId} {U : List Value} (h : rowAt w g = some (.cells cs t (0, 0))) (hU : cs = U.toArray) : w.rangeAt g 0 U := by
  intro j x hx
  rw [cell_of_row w g (0 + j) cs t (0, 0) h, hU, Nat.zero_add]
  simpa using hx
theorem one_of_tab {t : Tb} {V : List Value} (h : tabA t = V.toArray) : ∀ x ∈ V, x.oneCell' = true := by
  have hV : V = rows2 31 t := by
    have := congrArg Array.toList h
    simpa [tabA] using this.symm
  subst hV
  intro x hx
  simp only [rows2, List.mem_flatMap] at hx
  obtain ⟨i, _, hx⟩ := hx
  simp at hx
  rcases hx with rfl | rfl <;> rfl
theorem len_of_tab {t : Tb} {V : List Value} (h : tabA t = V.toArray) : V.length = 62 := by
  have := congrArg Array.size h
  rw [tabA_size] at this
  simpa using this.symm
theorem setCells_row : ∀ (l : List Value) (w : World) (b off : Nat) (cs : Array Value) (t : TypeId), w.heap[b]? = some (.cells cs t (0, 0)) → off + l.length ≤ cs.size → w.setCells b off l = putRow w b (lay cs off l) t := by
  intro l
  induction l with
  | nil => intro w b off cs t h _; rw [World.setCells, lay, putRow_self w b cs t h]
  | cons v r ih =>
    intro w b off cs t h hn
    simp only [List.length_cons] at hn
    have hb := lt_of_some h
    rw [World.setCells, setCell_row w b off cs t v h, ih (putRow w b (cs.setIfInBounds off v) t) b (off + 1) (cs.setIfInBounds off v) t (putRow_same _ _ _ _ hb) (by simp; omega), putRow_putRow]
    rfl
theorem setCells_at {w : World} {b : Nat} {cs : Array Value} {t : TypeId} {V : List Value} (h : rowAt w b = some (.cells cs t (0, 0))) (hn : V.length = cs.size) : rowAt (w.setCells b 0 V) b = some (.cells V.toArray t (0, 0)) := by
  rw [setCells_row V w b 0 cs t h (by omega)]
  rw [lay_whole _ _ hn]
  exact putRow_same _ _ _ _ (lt_of_some h)
theorem setCells_heap : ∀ (V : List Value) (w : World) (b o : Nat), (w.setCells b o V).os = w.os ∧ (w.setCells b o V).tape = w.tape ∧ (w.setCells b o V).output = w.output ∧ (w.setCells b o V).heap.size = w.heap.size ∧ ∀ j, j ≠ b → (w.setCells b o V).heap[j]? = w.heap[j]? := by
  intro V
  induction V with
  | nil => intro w b o; rw [World.setCells]; exact ⟨rfl, rfl, rfl, rfl, fun _ _ => rfl⟩
  | cons v r ih =>
    intro w b o
    rw [World.setCells]
    obtain ⟨h1, h2, h3, h4, h5⟩ := ih (w.setCell ⟨b, o, none⟩ v) b (o + 1)
    exact ⟨h1.trans rfl, h2.trans rfl, h3.trans rfl, h4.trans (setCell_size _ _ _), fun j hj => (h5 j hj).trans (Below.heap_setCell w _ v j hj)⟩
theorem below_set {B : Nat} {a w : World} {b : Nat} {V : List Value} (h : Below B a w) (hb : B ≤ b) : Below B a (w.setCells b 0 V) := by
  obtain ⟨h1, h2, h3, h4, h5⟩ := setCells_heap V w b 0
  exact ⟨h1.trans h.os, h2.trans h.tape, h3.trans h.output, by rw [h4]; exact h.size, fun j hj => (h5 j (by omega)).trans (h.block j hj)⟩
theorem there_row {w : World} {g n : Nat} {cs : Array Value} {t : TypeId} (h : rowAt w g = some (.cells cs t (0, 0))) (hn : n ≤ cs.size) : w.there g 0 n := by
  intro j hj
  refine ⟨?_, frozenRow h (0 + j)⟩
  rw [cell_of_row w g (0 + j) cs t (0, 0) h, Nat.zero_add, Array.getElem?_eq_getElem (by omega)]
  rfl
/-- the block that was made ahead of the call. -/
theorem row_ahead {w3 w9 : World} {cs : Array Value} {t : TypeId} (hb : Below (w3.alloc (.cells cs t)).drew.heap.size (w3.alloc (.cells cs t)).drew w9) : rowAt w9 w3.heap.size = some (.cells cs t (0, 0)) :=
  rowNext' hb (rowAt_new w3 _ _ rfl)
theorem there_call {w3 w9 : World} {V : List Value} (hn : Hid (V.length = 62)) (hb : Below (w3.alloc (.cells (tabA zeroT) 39)).drew.heap.size (w3.alloc (.cells (tabA zeroT) 39)).drew w9) : w9.there w3.heap.size 0 V.length :=
  there_row (row_ahead hb) (by rw [tabA_size, hn.out]; omega)
theorem there_new {w9 : World} {V : List Value} (hn : Hid (V.length = 62)) : (w9.alloc (.cells (tabA zeroT) 39)).there w9.heap.size 0 V.length :=
  there_row (rowAt_new w9 _ _ rfl) (by rw [tabA_size, hn.out]; omega)
theorem below9 {w3 wp w9 : World} (hb : Below wp.heap.size wp w9) (h : Below w3.heap.size w3 wp := by first | exact (Below.refl _ _).drew | exact ((Below.refl _ _).alloc (Nat.le_refl _) _).drew) : Below w3.heap.size w3 w9 := h.trans (hb.mono h.size)
/-- what lies behind the region, whichever came first. -/
theorem left_new {w3 w9 : World} {V : List Value} {v : Tb} (hn : Hid (V.length = 62)) (hV : Hid (tabA v = V.toArray)) (hb : Below w3.heap.size w3 w9) :
    rowAt ((w9.alloc (.cells (tabA zeroT) 39)).setCells w9.heap.size 0 V) w9.heap.size = some (.cells (tabA v) 39 (0, 0)) ∧ w3.heap.size ≤ w9.heap.size ∧
      Below w3.heap.size w3 ((w9.alloc (.cells (tabA zeroT) 39)).setCells w9.heap.size 0 V) :=
  ⟨by rw [hV.out]; exact setCells_at (rowAt_new w9 _ _ rfl) (by rw [tabA_size, hn.out]), hb.size, below_set (hb.alloc hb.size _) hb.size⟩
theorem left_call {w3 w9 : World} {V : List Value} {v : Tb} (hn : Hid (V.length = 62)) (hV : Hid (tabA v = V.toArray)) (hb : Below (w3.alloc (.cells (tabA zeroT) 39)).drew.heap.size (w3.alloc (.cells (tabA zeroT) 39)).drew w9) :
    rowAt (w9.setCells w3.heap.size 0 V) w3.heap.size = some (.cells (tabA v) 39 (0, 0)) ∧ w3.heap.size ≤ w3.heap.size ∧ Below w3.heap.size w3 (w9.setCells w3.heap.size 0 V) :=
  ⟨by rw [hV.out]; exact setCells_at (row_ahead hb) (by rw [tabA_size, hn.out]), Nat.le_refl _, below_set (((Below.refl w3.heap.size w3).alloc (Nat.le_refl _) (.cells (tabA zeroT) 39)).drew.trans (hb.mono (by simp))) (Nat.le_refl _)⟩
end Go.Proofs.Ytjghmgpmaallfaa
