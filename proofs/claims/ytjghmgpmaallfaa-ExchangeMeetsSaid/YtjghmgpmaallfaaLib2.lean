/-
  More laws: results that lie in a block; stores of one cell into a known block.
-/
import Derived.Test.YtjghmgpmaallfaaLib
namespace Go.Proofs.Ytjghmgpmaallfaa
open Go.RowKit
set_option linter.unusedVariables false
set_option linter.unusedSimpArgs false

section
variable {P : Program}
/-- a new variable of an aggregate's type, its place by its number. -/
theorem wpList_alloc_at {ops : Array Oper} {rest : List Oper} {o : Oper} {a : Act} {w : World} {Q : Exit → Act → World → Prop} (hgd : o.guard = none) (ty : TypeId) (ho : o.op = .alloc ty)
    (cs : Array Value) (hz : (P.info? ty).map (·.zero) = some (some (.agg cs))) (n : Nat) (hn : w.heap.size = n)
    (h : wpList P ops Q rest (a.put o.dst (.pointer (some ⟨n, 0, none⟩))) (w.alloc (.cells cs ty))) : wpList P ops Q (o :: rest) a w := by
  subst hn
  exact wpList_alloc_row hgd ty ho cs hz h
/-- two results, the first one in a block. -/
theorem results_row_tmp {fn : Func} {p u : Tmp} {ty : TypeId} (h : fn.results = #[.cell p ty, .tmp u]) (tmps : Array Value) (w : World) (g : Nat) (t : TypeId) (cs : Array Value) (fr : Nat × Nat) (d : TypeDesc)
    (hp : tmps.getD p undef = .pointer (some ⟨g, 0, none⟩)) (hg : w.heap[g]? = some (.cells cs t fr))
    (hu : P.underlying ty = some d) (hd : (match d with | .struct _ | .array _ _ => true | _ => false) = true) (hi : (P.info? ty).map (·.size) = some cs.size) (v : Value) (hv : tmps.getD u undef = v) :
    (results fn tmps).run P w = .ok (.tuple #[.agg cs, v]) w := by
  rw [results_cell_tmp h, hp, hv]
  simp [asAddr, run_loadVar_row w g t ty cs fr d hg hu hd hi, Result.andThen]
/-- three results, the first one in a block. -/
theorem results_row_tmp2 {fn : Func} {p u u2 : Tmp} {ty : TypeId} (h : fn.results = #[.cell p ty, .tmp u, .tmp u2]) (tmps : Array Value) (w : World) (g : Nat) (t : TypeId) (cs : Array Value) (fr : Nat × Nat) (d : TypeDesc)
    (hp : tmps.getD p undef = .pointer (some ⟨g, 0, none⟩)) (hg : w.heap[g]? = some (.cells cs t fr))
    (hu : P.underlying ty = some d) (hd : (match d with | .struct _ | .array _ _ => true | _ => false) = true) (hi : (P.info? ty).map (·.size) = some cs.size) (v v2 : Value) (hv : tmps.getD u undef = v) (hv2 : tmps.getD u2 undef = v2) :
    (results fn tmps).run P w = .ok (.tuple #[.agg cs, v, v2]) w := by
  have hp' : tmps[p]?.getD undef = .pointer (some ⟨g, 0, none⟩) := by simpa using hp
  have hv' : tmps[u]?.getD undef = v := by simpa using hv
  have hv2' : tmps[u2]?.getD undef = v2 := by simpa using hv2
  simp [results, h, hp', hv', hv2', asAddr, run_loadVar_row w g t ty cs fr d hg hu hd hi, Sem.run_bind, Result.andThen]
end
theorem putRow_cellOther (w : World) (b c o : Nat) (cs : Array Value) (t : TypeId) (h : c ≠ b) : (putRow w b cs t).cell? ⟨c, o, none⟩ = w.cell? ⟨c, o, none⟩ := by
  simp only [World.cell?, putRow_other w b c cs t h]
theorem putRow_cellSame (w : World) (b o : Nat) (cs : Array Value) (t : TypeId) (h : b < w.heap.size) : (putRow w b cs t).cell? ⟨b, o, none⟩ = cs[o]? := by
  simp only [World.cell?, putRow_same w b cs t h]
  simp
theorem putRow_frozenOther (w : World) (b c o : Nat) (cs : Array Value) (t : TypeId) (h : c ≠ b) : (putRow w b cs t).frozen? ⟨c, o, none⟩ = w.frozen? ⟨c, o, none⟩ := by
  simp only [World.frozen?, putRow_other w b c cs t h]
theorem putRow_frozenSame (w : World) (b o : Nat) (cs : Array Value) (t : TypeId) (h : b < w.heap.size) : (putRow w b cs t).frozen? ⟨b, o, none⟩ = false := by
  simp [World.frozen?, putRow_same w b cs t h]
attribute [go_sem] putRow_size putRow_cellOther putRow_cellSame putRow_frozenOther putRow_frozenSame
theorem drewN_heap (w : World) (n : Nat) : (w.drewN n).heap = w.heap := rfl
theorem drew_heap (w : World) : w.drew.heap = w.heap := rfl
theorem below_drewN' {B : Nat} {a w : World} (h : Below B a w) (n : Nat) : Below B a (w.drewN n) := ⟨h.os, h.tape, h.output, h.size, h.block⟩
theorem setCell_size (w : World) (a : Addr) (v : Value) : (w.setCell a v).heap.size = w.heap.size := by simp [World.setCell]
theorem setCell_rowSame {w : World} {b : Nat} {cs : Array Value} {t : TypeId} (h : w.heap[b]? = some (.cells cs t (0, 0))) (off : Nat) (v : Value) :
    (w.setCell ⟨b, off, none⟩ v).heap[b]? = some (.cells (cs.setIfInBounds off v) t (0, 0)) := by
  rw [setCell_row w b off cs t v h]; exact putRow_same _ _ _ _ (lt_of_some h)
theorem setCell_rowOther {w : World} {b j : Nat} {o : Obj} (h : w.heap[j]? = some o) (off : Nat) (v : Value) (hj : j ≠ b) :
    (w.setCell ⟨b, off, none⟩ v).heap[j]? = some o := (Below.heap_setCell w _ _ _ hj).trans h
theorem allocRow {w : World} {j : Nat} {o : Obj} (h : w.heap[j]? = some o) (x : Obj) : (w.alloc x).heap[j]? = some o := (heapOld w x j (lt_of_some h)).trans h
theorem drewRow {w : World} {j : Nat} {o : Obj} (h : w.heap[j]? = some o) : w.drew.heap[j]? = some o := h
theorem putRowOther {w : World} {b j : Nat} {o : Obj} (h : w.heap[j]? = some o) (cs : Array Value) (t : TypeId) (hj : j ≠ b) : (putRow w b cs t).heap[j]? = some o := (putRow_other w b j cs t hj).trans h
theorem putRowSame {w : World} {b : Nat} {o : Obj} (h : w.heap[b]? = some o) (cs : Array Value) (t : TypeId) : (putRow w b cs t).heap[b]? = some (.cells cs t (0, 0)) := putRow_same w b cs t (lt_of_some h)
end Go.Proofs.Ytjghmgpmaallfaa
