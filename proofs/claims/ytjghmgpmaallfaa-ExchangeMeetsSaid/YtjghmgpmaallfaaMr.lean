/-
  The memory of ExchangeMeets: two Exchs in a row, two prefs and a slice in a row: loads and stores in the middle.
-/
import Derived.Test.YtjghmgpmaallfaaMo
import Derived.Test.YtjghmgpmaallfaaExy
namespace Go.Proofs.Ytjghmgpmaallfaa
open Go.RowKit
set_option linter.unusedVariables false
set_option linter.unusedSimpArgs false

/-- both ends. -/
def xsA (t0 t1 : Tb) (m0 m1 : Wt) : Array Value := exA t0 m0 ++ exA t1 m1
theorem xsA_size (t0 t1 : Tb) (m0 m1 : Wt) : (xsA t0 t1 m0 m1).size = 186 := by simp [xsA, exA_size]
theorem cut_low (a b : Array Value) (i j : Nat) (h : j ≤ a.size) : (a ++ b).extract i j = a.extract i j := by
  rw [Array.extract_append, show j - a.size = 0 by omega]; simp
theorem cut_high (a b : Array Value) (i j : Nat) (h : a.size ≤ i) : (a ++ b).extract i j = b.extract (i - a.size) (j - a.size) := by
  rw [Array.extract_append, show a.extract i j = #[] from Array.extract_eq_empty_iff.2 (by omega)]; simp
theorem exA_all (t : Tb) (m : Wt) : (exA t m).extract 0 93 = exA t m := by
  rw [← exA_size t m]; exact Array.extract_size
theorem xsA_0 (t0 t1 : Tb) (m0 m1 : Wt) : (xsA t0 t1 m0 m1).extract 0 93 = exA t0 m0 := by
  unfold xsA; rw [cut_low _ _ _ _ (by rw [exA_size]; omega)]; exact exA_all _ _
theorem xsA_1 (t0 t1 : Tb) (m0 m1 : Wt) : (xsA t0 t1 m0 m1).extract 93 186 = exA t1 m1 := by
  unfold xsA; rw [cut_high _ _ _ _ (by rw [exA_size]; omega), exA_size]; exact exA_all _ _
theorem xsA_t0 (t0 t1 : Tb) (m0 m1 : Wt) : (xsA t0 t1 m0 m1).extract 0 62 = tabA t0 := by
  unfold xsA; rw [cut_low _ _ _ _ (by rw [exA_size]; omega)]; exact exA_tab _ _
theorem xsA_t1 (t0 t1 : Tb) (m0 m1 : Wt) : (xsA t0 t1 m0 m1).extract 93 155 = tabA t1 := by
  unfold xsA; rw [cut_high _ _ _ _ (by rw [exA_size]; omega), exA_size]; exact exA_tab _ _
theorem xsA_w0 (t0 t1 : Tb) (m0 m1 : Wt) : (xsA t0 t1 m0 m1).extract 62 93 = wtA m0 := by
  unfold xsA; rw [cut_low _ _ _ _ (by rw [exA_size]; omega)]; exact exA_waits _ _
theorem xsA_w1 (t0 t1 : Tb) (m0 m1 : Wt) : (xsA t0 t1 m0 m1).extract 155 186 = wtA m1 := by
  unfold xsA; rw [cut_high _ _ _ _ (by rw [exA_size]; omega), exA_size]; exact exA_waits _ _
theorem prA_0 (p0 p1 : Tb) (s : Value) : (prA p0 p1 s).extract 0 62 = tabA p0 := by
  unfold prA; rw [cut_low _ _ _ _ (by simp [tabA_size]), cut_low _ _ _ _ (by rw [tabA_size]; omega)]
  rw [← tabA_size p0]; exact Array.extract_size
theorem prA_1 (p0 p1 : Tb) (s : Value) : (prA p0 p1 s).extract 62 124 = tabA p1 := by
  unfold prA; rw [cut_low _ _ _ _ (by simp [tabA_size]), cut_high _ _ _ _ (by rw [tabA_size]; omega), tabA_size]
  show (tabA p1).extract 0 62 = tabA p1
  rw [← tabA_size p1]; exact Array.extract_size
theorem prA_s (p0 p1 : Tb) (s : Value) : (prA p0 p1 s)[124]? = some s := by
  unfold prA; rw [Array.getElem?_append_right (by simp [tabA_size])]; simp [tabA_size]
theorem lay_xs0 (t0 t1 t : Tb) (m0 m1 m : Wt) : lay (xsA t0 t1 m0 m1) 0 (exA t m).toList = xsA t t1 m m1 := by
  apply Array.ext_getElem?
  intro j
  have hl : (exA t m).toList.length = 93 := by simp [exA_size]
  rw [lay_get _ _ _ (by rw [hl, xsA_size]; omega), hl]
  unfold xsA
  by_cases hj : j < 93
  · rw [if_pos (by omega), Array.getElem?_append_left (by rw [exA_size]; exact hj)]; simp
  · rw [if_neg (by omega), Array.getElem?_append_right (by rw [exA_size]; omega), Array.getElem?_append_right (by rw [exA_size]; omega), exA_size, exA_size]
theorem lay_xs1 (t0 t1 t : Tb) (m0 m1 m : Wt) : lay (xsA t0 t1 m0 m1) 93 (exA t m).toList = xsA t0 t m0 m := by
  apply Array.ext_getElem?
  intro j
  have hl : (exA t m).toList.length = 93 := by simp [exA_size]
  rw [lay_get _ _ _ (by rw [hl, xsA_size]; omega), hl]
  unfold xsA
  by_cases hj : j < 93
  · rw [if_neg (by omega), Array.getElem?_append_left (by rw [exA_size]; exact hj), Array.getElem?_append_left (by rw [exA_size]; exact hj)]
  · rw [Array.getElem?_append_right (by rw [exA_size]; omega), Array.getElem?_append_right (by rw [exA_size]; omega), exA_size]
    by_cases hj2 : j < 186
    · rw [if_pos (by omega)]; simp
    · rw [if_neg (by omega), Array.getElem?_eq_none (by rw [exA_size]; omega), Array.getElem?_eq_none (by rw [exA_size]; omega)]
attribute [go_sem] xsA_size xsA_0 xsA_1 xsA_t0 xsA_t1 xsA_w0 xsA_w1 prA_size prA_0 prA_1 lay_xs0 lay_xs1
theorem zeroBoth : (Try.prog.info? 80).map (·.zero) = some (some (.agg (xsA zeroT zeroT zeroW zeroW))) := by kernel_rfl
theorem nameAlloc80 (h : Bool) (v : Value) : Instr.alloc 80 h v = allocT 80 h v := rfl
theorem alloc80 (w : World) : (allocT 80 true (.tuple #[])).run Try.prog w = .ok (.pointer (some ⟨w.heap.size, 0, none⟩)) (w.alloc (.cells (xsA zeroT zeroT zeroW zeroW) 80)) := run_allocT zeroBoth w
attribute [go_sem ↓] nameAlloc80
theorem loadT_mid {P : Program} {ty : TypeId} {n : Nat} {d : TypeDesc} (hu : P.underlying ty = some d) (hd : (match d with | .struct _ | .array _ _ => true | _ => false) = true) (hi : (P.info? ty).map (·.size) = some n) (w : World) (g off : Nat) :
    (loadT ty (.pointer (some ⟨g, off, none⟩))).run P w = loadMidOr off n w g (farMid P ty w g off) := by
  have e : (loadT ty (.pointer (some ⟨g, off, none⟩))).run P w = (loadVar ty ⟨g, off, none⟩).run P w := by
    unfold loadT Instr.loadAt Instr.sureAddr
    simp only [Sem.run_bind, Sem.run_pure, Result.andThen_ok]
  rw [e]; exact run_loadVar_midOr hu hd hi w g off
theorem load60_93 (w : World) (g : Nat) : (loadT 60 (.pointer (some ⟨g, 93, none⟩))).run Try.prog w = loadMidOr 93 93 w g (farMid Try.prog 60 w g 93) := loadT_mid Try.underlying60 rfl sizeExch w g 93
theorem load39_93 (w : World) (g : Nat) : (loadT 39 (.pointer (some ⟨g, 93, none⟩))).run Try.prog w = loadMidOr 93 62 w g (farMid Try.prog 39 w g 93) := loadT_mid Try.underlying39 rfl sizeTable w g 93
theorem load25_62 (w : World) (g : Nat) : (loadT 25 (.pointer (some ⟨g, 62, none⟩))).run Try.prog w = loadMidOr 62 62 w g (farMid Try.prog 25 w g 62) := loadT_mid Try.underlying25 rfl sizePrefs w g 62
theorem far60 (w : World) (g : Nat) : farLoad' Try.prog 60 w g = loadMidOr 0 93 w g (farMid Try.prog 60 w g 0) := run_loadVar_midOr Try.underlying60 rfl sizeExch w g 0
/-- a store of an Exch into the middle of a row. -/
noncomputable def farStoreMid (P : Program) (off g : Nat) (cs : Array Value) (w : World) : Result Unit := (storeT 60 (.pointer (some ⟨g, off, none⟩)) (.agg cs)).run P w
theorem storeT_mid (off : Nat) (w : World) (g : Nat) (t : Tb) (m : Wt) : (storeT 60 (.pointer (some ⟨g, off, none⟩)) (.agg (exA t m))).run Try.prog w = match rowAt w g with
      | some (.cells cs ty fr) => if off + 93 ≤ cs.size ∧ fr = (0, 0) then .ok () (putRow w g (lay cs off (exA t m).toList) ty) else farStoreMid Try.prog off g (exA t m) w
      | _ => farStoreMid Try.prog off g (exA t m) w := by
  split
  · rename_i cs ty fr hg
    split
    · rename_i h
      obtain ⟨hn, rfl⟩ := h
      obtain ⟨i, hq, hs⟩ := size_of sizeExch
      have hl : (exA t m).toList.length = 93 := by simp [exA_size]
      have hst := run_storeCells_row (P := Try.prog) (exA t m).toList w g off 0 cs ty hg (by rw [hl]; omega) (plain_ex t m)
      unfold storeT
      simp only [Instr.storeAt, Instr.sureAddr, storeVar, Value.cells, sizeOf, typeInfo, Sem.run_bind, Sem.run_pure, Result.andThen_ok, Sem.run, program, hq, hs]
      simp [hst, hs, exA_size]
    · rfl
  · rfl
theorem store60_93 (w : World) (g : Nat) (t : Tb) (m : Wt) : (storeT 60 (.pointer (some ⟨g, 93, none⟩)) (.agg (exA t m))).run Try.prog w = match rowAt w g with
      | some (.cells cs ty fr) => if 93 + 93 ≤ cs.size ∧ fr = (0, 0) then .ok () (putRow w g (lay cs 93 (exA t m).toList) ty) else farStoreMid Try.prog 93 g (exA t m) w
      | _ => farStoreMid Try.prog 93 g (exA t m) w := storeT_mid 93 w g t m
theorem farStore60 (w : World) (g : Nat) (t : Tb) (m : Wt) : farStore' Try.prog 60 g (exA t m) w = match rowAt w g with
      | some (.cells cs ty fr) => if 0 + 93 ≤ cs.size ∧ fr = (0, 0) then .ok () (putRow w g (lay cs 0 (exA t m).toList) ty) else farStoreMid Try.prog 0 g (exA t m) w
      | _ => farStoreMid Try.prog 0 g (exA t m) w := storeT_mid 0 w g t m
attribute [go_sem] alloc80 load60_93 load39_93 load25_62 far60 store60_93 farStore60
end Go.Proofs.Ytjghmgpmaallfaa
