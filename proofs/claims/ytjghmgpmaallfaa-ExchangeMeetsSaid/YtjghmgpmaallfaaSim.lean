/-
  Whole tables loaded, stored, made and indexed, as rules of the walk: by what a block holds ('rowAt').
-/
import Derived.Test.YtjghmgpmaallfaaProg
import Derived.Test.YtjghmgpmaallfaaLib2
import Derived.Test.YtjghmgpmaallfaaChk
import Derived.Test.YtjghmgpmaallfaaCel
namespace Go.Proofs.Ytjghmgpmaallfaa
open Go.RowKit
set_option linter.unusedVariables false
set_option linter.unusedSimpArgs false

/-- what block g holds: behind a name of its own, so that the walk does not look into the heap. -/
def rowAt (w : World) (g : Nat) : Option Obj := w.heap[g]?
theorem rowAt_drew (w : World) (g : Nat) : rowAt w.drew g = rowAt w g := rfl
theorem rowAt_drewN (w : World) (n g : Nat) : rowAt (w.drewN n) g = rowAt w g := rfl
theorem rowAt_old (w : World) (o : Obj) (g : Nat) (h : g < w.heap.size) : rowAt (w.alloc o) g = rowAt w g := heapOld w o g h
theorem rowAt_new (w : World) (o : Obj) (g : Nat) (h : g = w.heap.size) : rowAt (w.alloc o) g = some o := heapNew w o g h
theorem rowAt_put (w : World) (b : Nat) (cs : Array Value) (t : TypeId) (h : b < w.heap.size) : rowAt (putRow w b cs t) b = some (.cells cs t (0, 0)) := putRow_same w b cs t h
theorem rowAt_putOther (w : World) (b g : Nat) (cs : Array Value) (t : TypeId) (h : g ≠ b) : rowAt (putRow w b cs t) g = rowAt w g := putRow_other w b g cs t h
theorem rowAt_setCell (w : World) (b off g : Nat) (v : Value) (h : g ≠ b) : rowAt (w.setCell ⟨b, off, none⟩ v) g = rowAt w g := Below.heap_setCell w _ v g h
theorem rowNext' {W w1 : World} (hb : Below W.heap.size W w1) {i : Nat} {o : Obj} (h : rowAt W i = some o) : rowAt w1 i = some o := rowNext hb h
attribute [go_sem] rowAt_drew rowAt_drewN rowAt_old rowAt_new rowAt_put rowAt_putOther rowAt_setCell

/-- what a load of a whole row comes to. -/
def loadOr (n : Nat) (w : World) (g : Nat) (r : Result Value) : Result Value :=
  match rowAt w g with
  | some (.cells cs _ _) => if cs.size = n then .ok (.agg cs) w else r
  | _ => r
theorem loadOr_eq (n : Nat) (w : World) (g : Nat) (r : Result Value) : loadOr n w g r = match rowAt w g with
  | some (.cells cs _ _) => if cs.size = n then .ok (.agg cs) w else r
  | _ => r := rfl
attribute [go_sem] loadOr_eq tabA_size
theorem run_loadAt_or {P : Program} {ty : TypeId} {n : Nat} {d : TypeDesc} (hu : P.underlying ty = some d) (hd : (match d with | .struct _ | .array _ _ => true | _ => false) = true) (hi : (P.info? ty).map (·.size) = some n) (w : World) (g : Nat) :
    (Instr.loadAt ty (.pointer (some ⟨g, 0, none⟩))).run P w = loadOr n w g ((loadVar ty ⟨g, 0, none⟩).run P w) := by
  have e : (Instr.loadAt ty (.pointer (some ⟨g, 0, none⟩))).run P w = (loadVar ty ⟨g, 0, none⟩).run P w := by
    unfold Instr.loadAt Instr.sureAddr
    simp only [Sem.run_bind, Sem.run_pure, Result.andThen_ok]
  rw [e]
  unfold loadOr
  split
  · rename_i cs t fr hg
    split
    · rename_i hn
      exact run_loadVar_row w g t ty cs fr d hg hu hd (by rw [hn]; exact hi)
    · rfl
  · rfl
/-- a load, a store, a new variable of a whole row: behind names of their own. -/
noncomputable def loadT (ty : TypeId) (v : Value) : Sem Value := Instr.loadAt ty v
noncomputable def storeT (ty : TypeId) (x v : Value) : Sem Unit := Instr.storeAt ty x v
noncomputable def allocT (ty : TypeId) (h : Bool) (v : Value) : Sem Value := Instr.alloc ty h v
noncomputable def farLoad' (P : Program) (ty : TypeId) (w : World) (g : Nat) : Result Value := (loadVar ty ⟨g, 0, none⟩).run P w
noncomputable def farStore' (P : Program) (ty : TypeId) (g : Nat) (cs : Array Value) (w : World) : Result Unit := (storeT ty (.pointer (some ⟨g, 0, none⟩)) (.agg cs)).run P w
theorem run_allocT {P : Program} {ty : TypeId} {cs : Array Value} (hz : (P.info? ty).map (·.zero) = some (some (.agg cs))) (w : World) :
    (allocT ty true (.tuple #[])).run P w = .ok (.pointer (some ⟨w.heap.size, 0, none⟩)) (w.alloc (.cells cs ty)) := by
  obtain ⟨ie, hi, hs⟩ : ∃ ie, P.info? ty = some ie ∧ ie.zero = some (.agg cs) := by
    cases h : P.info? ty with
    | none => simp [h] at hz
    | some ie => exact ⟨ie, rfl, by simpa [h] using hz⟩
  unfold allocT Instr.alloc
  simp [Sem.run_bind, zeroValue, typeInfo, hi, hs, newVar, newRow, Value.cells]
theorem run_storeT {P : Program} {ty : TypeId} {n : Nat} (hi : (P.info? ty).map (·.size) = some n) (w : World) (g : Nat) (ds : Array Value) (hds : ds.size = n) (hp : ds.toList.all plainCell = true) :
    (storeT ty (.pointer (some ⟨g, 0, none⟩)) (.agg ds)).run P w = match rowAt w g with
      | some (.cells cs t fr) => if cs.size = n ∧ fr = (0, 0) then .ok () (putRow w g ds t) else farStore' P ty g ds w
      | _ => farStore' P ty g ds w := by
  split
  · rename_i cs t fr hg
    split
    · rename_i h
      obtain ⟨hn, rfl⟩ := h
      obtain ⟨i, hq, hs⟩ := size_of hi
      have hst := run_storeCells_row (P := P) ds.toList w g 0 0 cs t hg (by simp [hds, hn]) hp
      have hl : lay cs 0 ds.toList = ds := by rw [lay_whole _ _ (by simp [hds, hn])]
      unfold storeT
      simp only [Instr.storeAt, Instr.sureAddr, storeVar, Value.cells, sizeOf, typeInfo, Sem.run_bind, Sem.run_pure, Result.andThen_ok, Sem.run, program, hq, hs]
      simp [hst, hl, hs, hds]
    · rfl
  · rfl
theorem zeroPrefs' : (Try.prog.info? 25).map (·.zero) = some (some (.agg (tabA zeroT))) := by kernel_rfl
theorem nameLoad25 (v : Value) : Instr.loadAt 25 v = loadT 25 v := rfl
theorem nameLoad39 (v : Value) : Instr.loadAt 39 v = loadT 39 v := rfl
theorem nameStore25 (x v : Value) : Instr.storeAt 25 x v = storeT 25 x v := rfl
theorem nameStore39 (x v : Value) : Instr.storeAt 39 x v = storeT 39 x v := rfl
theorem nameAlloc25 (h : Bool) (v : Value) : Instr.alloc 25 h v = allocT 25 h v := rfl
theorem nameAlloc39 (h : Bool) (v : Value) : Instr.alloc 39 h v = allocT 39 h v := rfl
attribute [go_sem ↓] nameLoad25 nameLoad39 nameStore25 nameStore39 nameAlloc25 nameAlloc39
theorem load25 (w : World) (g : Nat) : (loadT 25 (.pointer (some ⟨g, 0, none⟩))).run Try.prog w = loadOr 62 w g (farLoad' Try.prog 25 w g) :=
  run_loadAt_or Try.underlying25 rfl sizePrefs w g
theorem load39 (w : World) (g : Nat) : (loadT 39 (.pointer (some ⟨g, 0, none⟩))).run Try.prog w = loadOr 62 w g (farLoad' Try.prog 39 w g) :=
  run_loadAt_or Try.underlying39 rfl sizeTable w g
theorem alloc25 (w : World) : (allocT 25 true (.tuple #[])).run Try.prog w = .ok (.pointer (some ⟨w.heap.size, 0, none⟩)) (w.alloc (.cells (tabA zeroT) 25)) := run_allocT zeroPrefs' w
theorem alloc39 (w : World) : (allocT 39 true (.tuple #[])).run Try.prog w = .ok (.pointer (some ⟨w.heap.size, 0, none⟩)) (w.alloc (.cells (tabA zeroT) 39)) := run_allocT zeroTable w
theorem store25 (w : World) (g : Nat) (t : Tb) : (storeT 25 (.pointer (some ⟨g, 0, none⟩)) (.agg (tabA t))).run Try.prog w = match rowAt w g with
      | some (.cells cs ty fr) => if cs.size = 62 ∧ fr = (0, 0) then .ok () (putRow w g (tabA t) ty) else farStore' Try.prog 25 g (tabA t) w
      | _ => farStore' Try.prog 25 g (tabA t) w := run_storeT sizePrefs w g (tabA t) (tabA_size t) (plain_tab t)
theorem store39 (w : World) (g : Nat) (t : Tb) : (storeT 39 (.pointer (some ⟨g, 0, none⟩)) (.agg (tabA t))).run Try.prog w = match rowAt w g with
      | some (.cells cs ty fr) => if cs.size = 62 ∧ fr = (0, 0) then .ok () (putRow w g (tabA t) ty) else farStore' Try.prog 39 g (tabA t) w
      | _ => farStore' Try.prog 39 g (tabA t) w := run_storeT sizeTable w g (tabA t) (tabA_size t) (plain_tab t)
attribute [go_sem] load25 load39 alloc25 alloc39 store25 store39
/-- a store into a block that has just been made. -/
theorem putRow_alloc (w : World) (cs ds : Array Value) (t t' : TypeId) (g : Nat) (h : g = w.heap.size) : putRow (w.alloc (.cells cs t)) g ds t' = w.alloc (.cells ds t') := by
  subst h
  have hh : (w.heap.push (.cells cs t)).setIfInBounds w.heap.size (.cells ds t') = w.heap.push (.cells ds t') := by
    apply Array.ext_getElem?
    intro j
    simp only [Array.getElem?_setIfInBounds, Array.getElem?_push, Array.size_push]
    by_cases e : w.heap.size = j
    · subst e; simp
    · simp [e, Ne.symm e]
  show (⟨(w.heap.push (.cells cs t)).setIfInBounds w.heap.size (.cells ds t'), w.tape, w.drawn, w.os, w.output⟩ : World) = ⟨w.heap.push (.cells ds t'), w.tape, w.drawn, w.os, w.output⟩
  rw [hh]
theorem putRow_allocOther (w : World) (o : Obj) (ds : Array Value) (t' : TypeId) (g : Nat) (h : g < w.heap.size) : putRow (w.alloc o) g ds t' = (putRow w g ds t').alloc o := by
  have hh : (w.heap.push o).setIfInBounds g (.cells ds t') = (w.heap.setIfInBounds g (.cells ds t')).push o := by
    apply Array.ext_getElem?
    intro j
    simp only [Array.getElem?_setIfInBounds, Array.getElem?_push, Array.size_push, Array.size_setIfInBounds]
    by_cases e : g = j
    · subst e; simp [h, Nat.ne_of_lt h]; omega
    · simp [e]
  show (⟨(w.heap.push o).setIfInBounds g (.cells ds t'), w.tape, w.drawn, w.os, w.output⟩ : World) = ⟨(w.heap.setIfInBounds g (.cells ds t')).push o, w.tape, w.drawn, w.os, w.output⟩
  rw [hh]
theorem putRow_drew (w : World) (g : Nat) (ds : Array Value) (t : TypeId) : putRow w.drew g ds t = (putRow w g ds t).drew := rfl
attribute [go_sem] putRow_alloc putRow_allocOther putRow_drew
end Go.Proofs.Ytjghmgpmaallfaa
