/-
  Plain model of the tables (rows of two cells), and laws on blocks of the call's own: no program in sight.
-/
import Derived.WalkKit
import Derived.WalkSpells
import Derived.WalkLawsBesides
namespace Go.Proofs.Ytjghmgpmaallfaa
open Go.RowKit
set_option linter.unusedVariables false
set_option linter.unusedSimpArgs false

theorem hid {p : Prop} (h : p) : Hid p := h
theorem ret_int {k : IntKind} {a b : Int} (h : a = b) : Ending.returned (.int k a) = .returned (.int k b) := by rw [h]
theorem ret_bool {a b : Bool} (h : a = b) : Ending.returned (.bool a) = .returned (.bool b) := by rw [h]

/-! ### rows of two cells -/
abbrev Tb := Nat → Int × Int
/-- the cells of n rows of two. -/
def rows2 (n : Nat) (t : Tb) : List Value := (List.range n).flatMap fun i => [.int .i64 (t i).1, .int .u8 (t i).2]
theorem rows2_succ (n : Nat) (t : Tb) : rows2 (n+1) t = rows2 n t ++ [.int .i64 (t n).1, .int .u8 (t n).2] := by
  simp [rows2, List.range_succ, List.flatMap_append]
theorem rows2_length (n : Nat) (t : Tb) : (rows2 n t).length = 2 * n := by
  induction n with
  | zero => simp [rows2]
  | succ n ih => rw [rows2_succ]; simp [ih]; omega
theorem rows2_get (n : Nat) (t : Tb) (i : Nat) (h : i < n) : (rows2 n t)[2*i]? = some (.int .i64 (t i).1) ∧ (rows2 n t)[2*i+1]? = some (.int .u8 (t i).2) := by
  induction n with
  | zero => omega
  | succ n ih =>
    have hl := rows2_length n t
    rw [rows2_succ]
    by_cases hi : i < n
    · obtain ⟨a, b⟩ := ih hi
      rw [List.getElem?_append_left (by omega), List.getElem?_append_left (by omega)]
      exact ⟨a, b⟩
    · obtain rfl : i = n := by omega
      rw [List.getElem?_append_right (by omega), List.getElem?_append_right (by omega)]
      have e1 : 2 * i - (rows2 i t).length = 0 := by omega
      have e2 : 2 * i + 1 - (rows2 i t).length = 1 := by omega
      rw [e1, e2]; exact ⟨rfl, rfl⟩
theorem rows2_congr (n : Nat) (t u : Tb) (h : ∀ i, i < n → t i = u i) : rows2 n t = rows2 n u := by
  induction n with
  | zero => rfl
  | succ n ih => rw [rows2_succ, rows2_succ, ih (fun i hi => h i (by omega)), h n (by omega)]
/-- a row is another one. -/
def upd (t : Tb) (k : Nat) (c : Int × Int) : Tb := fun i => if i = k then c else t i
theorem upd_same (t : Tb) (k : Nat) (c : Int × Int) : upd t k c k = c := if_pos rfl
theorem upd_other (t : Tb) (k i : Nat) (c : Int × Int) (h : i ≠ k) : upd t k c i = t i := if_neg h
theorem rows2_upd (n : Nat) (t : Tb) (k : Nat) (c : Int × Int) (h : k < n) :
    ((rows2 n t).set (2*k) (.int .i64 c.1)).set (2*k+1) (.int .u8 c.2) = rows2 n (upd t k c) := by
  have hl := rows2_length n t
  have hl' := rows2_length n (upd t k c)
  apply List.ext_getElem?
  intro j
  rw [List.getElem?_set, List.getElem?_set]
  by_cases hj : j < 2 * n
  · obtain ⟨i, hi⟩ : ∃ i, j = 2 * i ∨ j = 2 * i + 1 := ⟨j / 2, by omega⟩
    obtain ⟨a, b⟩ := rows2_get n t i (by omega)
    obtain ⟨a', b'⟩ := rows2_get n (upd t k c) i (by omega)
    rcases hi with rfl | rfl
    · rw [a', a, if_neg (by omega)]
      by_cases e : i = k
      · subst e; rw [if_pos rfl, if_pos (by omega), upd_same]
      · rw [if_neg (by omega), upd_other _ _ _ _ e]
    · rw [b', b]
      by_cases e : i = k
      · subst e; rw [if_pos rfl, if_pos (by simp; omega), upd_same]
      · rw [if_neg (by omega), if_neg (by omega), upd_other _ _ _ _ e]
  · rw [if_neg (by omega), if_neg (by omega), List.getElem?_eq_none (by omega), List.getElem?_eq_none (by omega)]
theorem rows2_inj (n : Nat) (t u : Tb) (h : rows2 n t = rows2 n u) (i : Nat) (hi : i < n) : t i = u i := by
  obtain ⟨a, b⟩ := rows2_get n t i hi
  obtain ⟨a', b'⟩ := rows2_get n u i hi
  rw [h] at a b
  rw [a] at a'; rw [b] at b'
  simp at a' b'
  exact Prod.ext a' b'

def tabA (t : Tb) : Array Value := (rows2 31 t).toArray
theorem tabA_size (t : Tb) : (tabA t).size = 62 := by simp [tabA, rows2_length]
theorem tabA_congr {t u : Tb} (h : ∀ i, i < 31 → t i = u i) : tabA t = tabA u := by unfold tabA; rw [rows2_congr 31 t u h]
theorem tabA_cell0 (t : Tb) (i : Nat) (h : i < 31) : (tabA t)[i * 2]? = some (.int .i64 (t i).1) := by
  have := (rows2_get 31 t i h).1
  simpa [tabA, Nat.mul_comm] using this
theorem tabA_cell1 (t : Tb) (i : Nat) (h : i < 31) : (tabA t)[i * 2 + 1]? = some (.int .u8 (t i).2) := by
  have := (rows2_get 31 t i h).2
  simpa [tabA, Nat.mul_comm] using this
theorem tabA_row (t : Tb) (i : Nat) (h : i < 31) : (tabA t).extract (i * 2) (i * 2 + 2) = #[.int .i64 (t i).1, .int .u8 (t i).2] := by
  have a := tabA_cell0 t i h
  have b := tabA_cell1 t i h
  apply Array.ext_getElem?
  intro j
  rw [Array.getElem?_extract]
  have hs : (tabA t).size = 62 := tabA_size t
  match j with
  | 0 => rw [if_pos (by omega)]; simpa using a
  | 1 => rw [if_pos (by omega)]; simpa using b
  | j + 2 => rw [if_neg (by omega)]; simp
theorem tabA_upd (t : Tb) (k : Nat) (c : Int × Int) (h : k < 31) :
    ((tabA t).setIfInBounds (k * 2) (.int .i64 c.1)).setIfInBounds (k * 2 + 1) (.int .u8 c.2) = tabA (upd t k c) := by
  have := rows2_upd 31 t k c h
  unfold tabA
  rw [← this]
  simp [Nat.mul_comm]

/-! ### reading out of an array's value; loading, storing -/
section
variable {P : Program}
theorem size_of {T : TypeId} {n : Nat} (hi : (P.info? T).map (·.size) = some n) : ∃ ie, P.info? T = some ie ∧ ie.size = n := by
  cases h : P.info? T with
  | none => simp [h] at hi
  | some ie => exact ⟨ie, rfl, by simpa [h] using hi⟩
theorem run_index_tab (t : Tb) (T E : TypeId) (k : Nat) (hk : k < 31) (w : World) (hT : P.underlying T = some (.array 31 E)) (fs : Array Field) (hE : P.underlying E = some (.struct fs)) (hi : (P.info? E).map (·.size) = some 2) :
    (Instr.index T (.agg (tabA t)) (.int .i64 (k : Int))).run P w = .ok (.agg #[.int .i64 (t k).1, .int .u8 (t k).2]) w := by
  obtain ⟨ie, hi, hs⟩ := size_of hi
  have hrow := tabA_row t k hk
  unfold Instr.index
  simp [Sem.run_bind, asIntOf, run_underlying hT, run_underlying hE, sizeOf, typeInfo, hi, hs, part, isAgg, hrow]
  intro h; omega
/-- an aggregate is loaded out of the middle of a block. -/
theorem run_loadVar_mid (w : World) (g off n : Nat) (t ty : TypeId) (cs : Array Value) (fr : Nat × Nat) (d : TypeDesc) (hg : w.heap[g]? = some (.cells cs t fr))
    (hu : P.underlying ty = some d) (hd : (match d with | .struct _ | .array _ _ => true | _ => false) = true) (hi : (P.info? ty).map (·.size) = some n) (hn : off + n ≤ cs.size) :
    (loadVar ty ⟨g, off, none⟩).run P w = .ok (.agg (cs.extract off (off + n))) w := by
  have hlen : (cs.extract off (off + n)).toList.length = n := by simp; omega
  have hl : (loadCells ⟨g, off, none⟩ (cs.extract off (off + n)).toList.length).run P w = .ok (cs.extract off (off + n)).toList.toArray w :=
    run_loadCells_list (P := P) w ⟨g, off, none⟩ (cs.extract off (off + n)).toList (fun j v hv => by
      have hadd : (⟨g, off, none⟩ : Addr).add j = ⟨g, off + j, none⟩ := by unfold Addr.add; split <;> simp_all
      rw [hadd, cell_of_row w g (off + j) cs t fr hg]
      rw [Array.getElem?_toList, Array.getElem?_extract] at hv
      split at hv
      · exact hv
      · simp at hv)
  obtain ⟨i, hq, hs⟩ := size_of hi
  have hagg : (isAgg ty).run P w = .ok true w := by
    unfold isAgg
    rw [Sem.run_bind, run_underlying hu w]
    cases d <;> simp_all
  rw [hlen] at hl
  simp only [Array.toArray_toList] at hl
  simp [loadVar, Sem.run_bind, hagg, sizeOf, typeInfo, hq, hs, hl]
theorem wpList_load_mid {ops : Array Oper} {rest : List Oper} {o : Oper} {a : Act} {w : World} {Q : Exit → Act → World → Prop} (hgd : o.guard = none) (ty : TypeId) (x : Operand) (ho : o.op = .load ty x)
    (g off : Nat) (hx : a.eval x = .pointer (some ⟨g, off, none⟩)) (t : TypeId) (cs : Array Value) (fr : Nat × Nat) (d : TypeDesc) (hg : w.heap[g]? = some (.cells cs t fr))
    (hu : P.underlying ty = some d) (hd : (match d with | .struct _ | .array _ _ => true | _ => false) = true) (n : Nat) (hi : (P.info? ty).map (·.size) = some n) (hn : off + n ≤ cs.size)
    (new : Array Value) (hnew : cs.extract off (off + n) = new)
    (h : wpList P ops Q rest (a.put o.dst (.agg new)) w) : wpList P ops Q (o :: rest) a w :=
  wpList_plain hgd fun _ hK => by
    unfold Oper.wp execOp
    simp only [ho, hx, Instr.loadAt, Instr.sureAddr, Sem.run_bind, Sem.run_pure, Result.andThen_ok, run_loadVar_mid w g off n t ty cs fr d hg hu hd hi hn, hnew]
    exact hK _ _ h
end

section
variable {P : Program}
/-- a new variable of an aggregate's type. -/
theorem wpList_alloc_row {ops : Array Oper} {rest : List Oper} {o : Oper} {a : Act} {w : World} {Q : Exit → Act → World → Prop} (hgd : o.guard = none) (ty : TypeId) (ho : o.op = .alloc ty)
    (cs : Array Value) (hz : (P.info? ty).map (·.zero) = some (some (.agg cs)))
    (h : wpList P ops Q rest (a.put o.dst (.pointer (some ⟨w.heap.size, 0, none⟩))) (w.alloc (.cells cs ty))) : wpList P ops Q (o :: rest) a w :=
  wpList_plain hgd fun _ hK => by
    obtain ⟨ie, hi, hs⟩ : ∃ ie, P.info? ty = some ie ∧ ie.zero = some (.agg cs) := by
      cases h : P.info? ty with
      | none => simp [h] at hz
      | some ie => exact ⟨ie, rfl, by simpa [h] using hz⟩
    have hrun : (Instr.alloc ty true (.tuple #[])).run P w = .ok (.pointer (some ⟨w.heap.size, 0, none⟩)) (w.alloc (.cells cs ty)) := by
      unfold Instr.alloc
      simp [Sem.run_bind, zeroValue, typeInfo, hi, hs, newVar, newRow, Value.cells]
    unfold Oper.wp execOp
    simp only [ho, Sem.run_bind, hrun, Result.andThen_ok]
    exact hK _ _ h
end
section
variable {P : Program}
/-- an aggregate that is written out, by what it comes to. -/
theorem wpList_build_known {ops : Array Oper} {rest : List Oper} {o : Oper} {a : Act} {w : World} {Q : Exit → Act → World → Prop} (hgd : o.guard = none) (ty : TypeId) (parts : Array (Nat × Operand)) (ho : o.op = .build ty parts)
    (vals : Array (Nat × Value)) (hv : (parts.map fun x => (x.1, a.eval x.2)) = vals) (v : Value) (hrun : (Instr.build ty vals).run P w = .ok v w)
    (h : wpList P ops Q rest (a.put o.dst v) w) : wpList P ops Q (o :: rest) a w :=
  wpList_plain hgd fun _ hK => by
    have hv' : (parts.map fun (i, x) => (i, a.eval x)) = vals := hv
    unfold Oper.wp execOp
    simp only [ho, hv', Sem.run_bind, hrun, Result.andThen_ok]
    exact hK _ _ h
end
theorem heapNew (w : World) (o : Obj) (i : Nat) (h : i = w.heap.size) : (w.alloc o).heap[i]? = some o := by subst h; exact heap_alloc_new w o
theorem heapOld (w : World) (o : Obj) (i : Nat) (h : i < w.heap.size) : (w.alloc o).heap[i]? = w.heap[i]? := by
  show (w.heap.push o)[i]? = w.heap[i]?
  rw [Array.getElem?_push, if_neg (Nat.ne_of_lt h)]
theorem lt_of_some {w : World} {b : Nat} {o : Obj} (h : w.heap[b]? = some o) : b < w.heap.size := by
  rcases Nat.lt_or_ge b w.heap.size with h' | h'
  · exact h'
  · rw [Array.getElem?_eq_none h'] at h; simp at h
theorem bcell {W w1 : World} (hb : Below W.heap.size W w1) : (∀ b o, b < W.heap.size → w1.cell? ⟨b, o, none⟩ = W.cell? ⟨b, o, none⟩) ∧ (∀ b o, b < W.heap.size → w1.frozen? ⟨b, o, none⟩ = W.frozen? ⟨b, o, none⟩) ∧ (∀ b, b < W.heap.size → b < w1.heap.size) :=
  ⟨fun b o h => hb.cell (p := ⟨b, o, none⟩) h, fun b o h => hb.frozen (p := ⟨b, o, none⟩) h, fun _ h => Nat.lt_of_lt_of_le h hb.size⟩
/-- a block of the call's own stays behind a callee. -/
theorem rowNext {W w1 : World} (hb : Below W.heap.size W w1) {i : Nat} {o : Obj} (h : W.heap[i]? = some o) : w1.heap[i]? = some o := (hb.block i (lt_of_some h)).trans h
theorem frozenRow {w : World} {b : Nat} {cs : Array Value} {t : TypeId} (h : w.heap[b]? = some (.cells cs t (0, 0))) (o : Nat) : w.frozen? ⟨b, o, none⟩ = false := by simp [World.frozen?, h]
theorem cells1 {w : World} {b : Nat} {x0 : Value} {t : TypeId} (h : w.heap[b]? = some (.cells #[x0] t (0, 0))) :
    w.cell? ⟨b, 0, none⟩ = some x0 ∧ (∀ o, w.frozen? ⟨b, o, none⟩ = false) ∧ b < w.heap.size :=
  ⟨cell_of_row w b 0 _ _ _ h, frozenRow h, lt_of_some h⟩
theorem cells2 {w : World} {b : Nat} {x0 x1 : Value} {t : TypeId} (h : w.heap[b]? = some (.cells #[x0, x1] t (0, 0))) :
    w.cell? ⟨b, 0, none⟩ = some x0 ∧ w.cell? ⟨b, 1, none⟩ = some x1 ∧ (∀ o, w.frozen? ⟨b, o, none⟩ = false) ∧ b < w.heap.size :=
  ⟨cell_of_row w b 0 _ _ _ h, cell_of_row w b 1 _ _ _ h, frozenRow h, lt_of_some h⟩
theorem cells6 {w : World} {b : Nat} {x0 x1 x2 x3 x4 x5 : Value} {t : TypeId} (h : w.heap[b]? = some (.cells #[x0, x1, x2, x3, x4, x5] t (0, 0))) :
    w.cell? ⟨b, 0, none⟩ = some x0 ∧ w.cell? ⟨b, 1, none⟩ = some x1 ∧ w.cell? ⟨b, 2, none⟩ = some x2 ∧ w.cell? ⟨b, 3, none⟩ = some x3 ∧ w.cell? ⟨b, 4, none⟩ = some x4 ∧ w.cell? ⟨b, 5, none⟩ = some x5 ∧ (∀ o, w.frozen? ⟨b, o, none⟩ = false) ∧ b < w.heap.size :=
  ⟨cell_of_row w b 0 _ _ _ h, cell_of_row w b 1 _ _ _ h, cell_of_row w b 2 _ _ _ h, cell_of_row w b 3 _ _ _ h, cell_of_row w b 4 _ _ _ h, cell_of_row w b 5 _ _ _ h, frozenRow h, lt_of_some h⟩
theorem bheap {W w1 : World} (hb : Below W.heap.size W w1) (i : Nat) (h : i < W.heap.size) : w1.heap[i]? = W.heap[i]? := hb.block i h
theorem below_step {B : Nat} {a W w1 : World} (h : Below B a W) (hB : B ≤ W.heap.size) (hb : Below W.heap.size W w1) : Below B a w1 := h.trans (hb.mono hB)

/-- block b is another one. -/
def putRow (w : World) (b : Nat) (cs : Array Value) (t : TypeId) : World := { w with heap := w.heap.setIfInBounds b (.cells cs t (0, 0)) }
theorem putRow_size (w : World) (b : Nat) (cs : Array Value) (t : TypeId) : (putRow w b cs t).heap.size = w.heap.size := by simp [putRow]
theorem putRow_same (w : World) (b : Nat) (cs : Array Value) (t : TypeId) (h : b < w.heap.size) : (putRow w b cs t).heap[b]? = some (.cells cs t (0, 0)) := by simp [putRow, h]
theorem putRow_other (w : World) (b j : Nat) (cs : Array Value) (t : TypeId) (h : j ≠ b) : (putRow w b cs t).heap[j]? = w.heap[j]? := by
  simp only [putRow, Array.getElem?_setIfInBounds]
  rw [if_neg (by omega)]
theorem below_putRow {B : Nat} {a w : World} (h : Below B a w) (b : Nat) (cs : Array Value) (t : TypeId) (hB : B ≤ b) : Below B a (putRow w b cs t) :=
  h.trans ⟨rfl, rfl, rfl, by rw [putRow_size]; exact Nat.le_refl _, fun k hk => putRow_other _ _ _ _ _ (by omega)⟩
theorem setCell_row (w : World) (b off : Nat) (cs : Array Value) (t : TypeId) (v : Value) (h : w.heap[b]? = some (.cells cs t (0, 0))) :
    w.setCell ⟨b, off, none⟩ v = putRow w b (cs.setIfInBounds off v) t := by
  have hb : b < w.heap.size := by
    rcases Nat.lt_or_ge b w.heap.size with h' | h'
    · exact h'
    · rw [Array.getElem?_eq_none h'] at h; simp at h
  unfold World.setCell putRow
  congr 1
  apply Array.ext_getElem?
  intro j
  rw [Array.getElem?_modify, Array.getElem?_setIfInBounds]
  by_cases e : b = j
  · subst e
    rw [if_pos rfl, if_pos rfl, if_pos hb, h]
    rfl
  · rw [if_neg e, if_neg e]
/-- the cells of a block, and what is laid into it from off on. -/
def lay (cs : Array Value) (off : Nat) : List Value → Array Value
  | [] => cs
  | v :: r => lay (cs.setIfInBounds off v) (off + 1) r
theorem lay_size (cs : Array Value) (off : Nat) (l : List Value) : (lay cs off l).size = cs.size := by
  induction l generalizing cs off with
  | nil => rfl
  | cons v r ih => simp [lay, ih]
theorem lay_get (cs : Array Value) (off : Nat) (l : List Value) (h : off + l.length ≤ cs.size) (j : Nat) :
    (lay cs off l)[j]? = if off ≤ j ∧ j < off + l.length then l[j - off]? else cs[j]? := by
  induction l generalizing cs off with
  | nil => simp only [lay]; rw [if_neg (by simp only [List.length_nil]; omega)]
  | cons v r ih =>
    simp only [lay, List.length_cons] at h ⊢
    rw [ih _ _ (by rw [Array.size_setIfInBounds]; omega), Array.getElem?_setIfInBounds]
    by_cases h1 : off + 1 ≤ j ∧ j < off + 1 + r.length
    · rw [if_pos h1, if_pos (by omega)]
      have : j - off = (j - (off + 1)) + 1 := by omega
      rw [this]; simp
    · rw [if_neg h1]
      by_cases h2 : off = j
      · subst h2; rw [if_pos rfl, if_pos (by omega), if_pos (by omega)]; simp
      · rw [if_neg h2, if_neg (by omega)]
theorem lay_whole (cs : Array Value) (l : List Value) (h : l.length = cs.size) : lay cs 0 l = l.toArray := by
  apply Array.ext_getElem?
  intro j
  rw [lay_get _ _ _ (by omega)]
  by_cases hj : j < l.length
  · rw [if_pos ⟨by omega, by omega⟩]; simp
  · rw [if_neg (by omega), Array.getElem?_eq_none (by omega), Array.getElem?_eq_none (by simp; omega)]
theorem lay_tab (cs : Array Value) (t : Tb) (h : cs.size = 62) : lay cs 0 (tabA t).toList = tabA t := by
  rw [lay_whole _ _ (by rw [h]; simpa using tabA_size t)]
theorem lay_upd (t : Tb) (k : Nat) (a b : Int) (h : k < 31) : lay (tabA t) (k * 2) [.int .i64 a, .int .u8 b] = tabA (upd t k (a, b)) := tabA_upd t k (a, b) h
def plainCell : Value → Bool
  | .agg _ | .tuple _ => false
  | _ => true
theorem plain_tab (t : Tb) : (tabA t).toList.all plainCell = true := by
  rw [List.all_eq_true]
  intro v hv
  have hv' : v ∈ rows2 31 t := by simpa [tabA] using hv
  simp only [rows2, List.mem_flatMap] at hv'
  obtain ⟨i, _, h⟩ := hv'
  simp at h
  rcases h with rfl | rfl <;> rfl
section
variable {P : Program}
theorem putRow_putRow (w : World) (b : Nat) (cs ds : Array Value) (t : TypeId) : putRow (putRow w b cs t) b ds t = putRow w b ds t := by
  unfold putRow
  congr 1
  apply Array.ext_getElem?
  intro j
  simp only [Array.getElem?_setIfInBounds, Array.size_setIfInBounds]
  split <;> simp_all
theorem putRow_self (w : World) (b : Nat) (cs : Array Value) (t : TypeId) (h : w.heap[b]? = some (.cells cs t (0, 0))) : putRow w b cs t = w := by
  unfold putRow
  have : w.heap.setIfInBounds b (.cells cs t (0, 0)) = w.heap := by
    apply Array.ext_getElem?
    intro j
    rw [Array.getElem?_setIfInBounds]
    split
    · subst_vars; split <;> simp_all
    · rfl
  rw [this]
theorem run_storeCells_row (l : List Value) : ∀ (w : World) (b off i : Nat) (cs : Array Value) (t : TypeId), w.heap[b]? = some (.cells cs t (0, 0)) → off + i + l.length ≤ cs.size → (l.all plainCell) = true →
    (storeCells ⟨b, off, none⟩ l i).run P w = .ok () (putRow w b (lay cs (off + i) l) t) := by
  induction l with
  | nil => intro w b off i cs t hg _ _; simp only [storeCells, lay]; rw [putRow_self w b cs t hg]; rfl
  | cons v r ih =>
    intro w b off i cs t hg hn hp
    simp only [List.all_cons, Bool.and_eq_true, List.length_cons] at hp hn
    have hadd : (⟨b, off, none⟩ : Addr).add i = ⟨b, off + i, none⟩ := by unfold Addr.add; split <;> simp_all
    have hc : w.cell? ⟨b, off + i, none⟩ = cs[off + i]? := cell_of_row w b (off + i) cs t (0, 0) hg
    have hc' : cs[off + i]? = some cs[off + i] := Array.getElem?_eq_getElem (by omega)
    have hf : w.frozen? ⟨b, off + i, none⟩ = false := by simp [World.frozen?, hg]
    have hb : b < w.heap.size := by
      rcases Nat.lt_or_ge b w.heap.size with h' | h'
      · exact h'
      · rw [Array.getElem?_eq_none h'] at hg; simp at hg
    have hst : (store ⟨b, off + i, none⟩ v).run P w = .ok () (putRow w b (cs.setIfInBounds (off + i) v) t) := by
      rw [← setCell_row w b (off + i) cs t v hg]
      unfold store
      cases v <;> simp_all [Sem.run, plainCell]
    have hrest := ih (putRow w b (cs.setIfInBounds (off + i) v) t) b off (i + 1) (cs.setIfInBounds (off + i) v) t (putRow_same _ _ _ _ hb) (by simp; omega) hp.2
    simp only [storeCells, hadd, Sem.run_bind, hst, Result.andThen_ok, hrest, putRow_putRow, lay]
    rfl
/-- an aggregate is stored into the middle of a block of the call's own. -/
theorem wpList_store_mid {ops : Array Oper} {rest : List Oper} {o : Oper} {a : Act} {w : World} {Q : Exit → Act → World → Prop} (hgd : o.guard = none) (ty : TypeId) (x y : Operand) (ho : o.op = .store ty x y)
    (g off : Nat) (hx : a.eval x = .pointer (some ⟨g, off, none⟩)) (t : TypeId) (cs : Array Value) (hg : w.heap[g]? = some (.cells cs t (0, 0)))
    (vs : Array Value) (hy : a.eval y = .agg vs) (hi : (P.info? ty).map (·.size) = some vs.size) (hn : off + vs.size ≤ cs.size) (hp : vs.toList.all plainCell = true)
    (new : Array Value) (hnew : lay cs off vs.toList = new)
    (h : wpList P ops Q rest (a.put o.dst undef) (putRow w g new t)) : wpList P ops Q (o :: rest) a w :=
  wpList_plain hgd fun _ hK => by
    obtain ⟨i, hq, hs⟩ := size_of hi
    have hst := run_storeCells_row (P := P) vs.toList w g off 0 cs t hg (by simpa using hn) hp
    unfold Oper.wp execOp
    simp only [ho, hx, hy, Instr.storeAt, Instr.sureAddr, storeVar, Value.cells, sizeOf, typeInfo, Sem.run_bind, Sem.run_pure, Result.andThen_ok, Sem.run, program, hq, hs]
    simp [hst, hnew, Oper.upon]
    exact hK _ _ h
end
end Go.Proofs.Ytjghmgpmaallfaa
