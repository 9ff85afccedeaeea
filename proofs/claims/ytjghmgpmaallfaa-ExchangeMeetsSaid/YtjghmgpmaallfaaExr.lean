/-
  Whole Exchs loaded, stored and made, and a table and the numbers out of their middle, as rules of the walk.
-/
import Derived.Test.YtjghmgpmaallfaaExm
namespace Go.Proofs.Ytjghmgpmaallfaa
open Go.RowKit
set_option linter.unusedVariables false
set_option linter.unusedSimpArgs false

theorem sizeExch : (Try.prog.info? 60).map (·.size) = some 93 := by kernel_rfl
theorem sizeWaits : (Try.prog.info? 58).map (·.size) = some 31 := by kernel_rfl
theorem zeroExch : (Try.prog.info? 60).map (·.zero) = some (some (.agg (exA zeroT zeroW))) := by kernel_rfl
theorem buildExch (w : World) : (Instr.build 60 #[]).run Try.prog w = .ok (.agg (exA zeroT zeroW)) w := by kernel_rfl
theorem buildWaits (w : World) : (Instr.build 58 #[]).run Try.prog w = .ok (.agg (wtA zeroW)) w := by kernel_rfl
attribute [go_sem] exA_size wtA_size exA_tab exA_waits
attribute [go_sem ↓] buildExch buildWaits
theorem nameLoad60 (v : Value) : Instr.loadAt 60 v = loadT 60 v := rfl
theorem nameLoad58 (v : Value) : Instr.loadAt 58 v = loadT 58 v := rfl
theorem nameStore60 (x v : Value) : Instr.storeAt 60 x v = storeT 60 x v := rfl
theorem nameAlloc60 (h : Bool) (v : Value) : Instr.alloc 60 h v = allocT 60 h v := rfl
attribute [go_sem ↓] nameLoad60 nameLoad58 nameStore60 nameAlloc60
theorem load60 (w : World) (g : Nat) : (loadT 60 (.pointer (some ⟨g, 0, none⟩))).run Try.prog w = loadOr 93 w g (farLoad' Try.prog 60 w g) :=
  run_loadAt_or Try.underlying60 rfl sizeExch w g
theorem alloc60 (w : World) : (allocT 60 true (.tuple #[])).run Try.prog w = .ok (.pointer (some ⟨w.heap.size, 0, none⟩)) (w.alloc (.cells (exA zeroT zeroW) 60)) := run_allocT zeroExch w
theorem store60 (w : World) (g : Nat) (t : Tb) (m : Wt) : (storeT 60 (.pointer (some ⟨g, 0, none⟩)) (.agg (exA t m))).run Try.prog w = match rowAt w g with
      | some (.cells cs ty fr) => if cs.size = 93 ∧ fr = (0, 0) then .ok () (putRow w g (exA t m) ty) else farStore' Try.prog 60 g (exA t m) w
      | _ => farStore' Try.prog 60 g (exA t m) w := run_storeT sizeExch w g (exA t m) (exA_size t m) (plain_ex t m)
/-- what a load out of the middle of a row comes to. -/
def loadMidOr (off n : Nat) (w : World) (g : Nat) (r : Result Value) : Result Value :=
  match rowAt w g with
  | some (.cells cs _ _) => if off + n ≤ cs.size then .ok (.agg (cs.extract off (off + n))) w else r
  | _ => r
theorem loadMidOr_eq (off n : Nat) (w : World) (g : Nat) (r : Result Value) : loadMidOr off n w g r = match rowAt w g with
  | some (.cells cs _ _) => if off + n ≤ cs.size then .ok (.agg (cs.extract off (off + n))) w else r
  | _ => r := rfl
noncomputable def farMid (P : Program) (ty : TypeId) (w : World) (g off : Nat) : Result Value := (loadVar ty ⟨g, off, none⟩).run P w
theorem run_loadVar_midOr {P : Program} {ty : TypeId} {n : Nat} {d : TypeDesc} (hu : P.underlying ty = some d) (hd : (match d with | .struct _ | .array _ _ => true | _ => false) = true) (hi : (P.info? ty).map (·.size) = some n) (w : World) (g off : Nat) :
    (loadVar ty ⟨g, off, none⟩).run P w = loadMidOr off n w g (farMid P ty w g off) := by
  unfold loadMidOr
  split
  · rename_i cs t fr hg
    split
    · rename_i hn
      exact run_loadVar_mid w g off n t ty cs fr d hg hu hd hi hn
    · rfl
  · rfl
theorem load58 (w : World) (g off : Nat) : (loadT 58 (.pointer (some ⟨g, off, none⟩))).run Try.prog w = loadMidOr off 31 w g (farMid Try.prog 58 w g off) := by
  have e : (loadT 58 (.pointer (some ⟨g, off, none⟩))).run Try.prog w = (loadVar 58 ⟨g, off, none⟩).run Try.prog w := by
    unfold loadT Instr.loadAt Instr.sureAddr
    simp only [Sem.run_bind, Sem.run_pure, Result.andThen_ok]
  rw [e, run_loadVar_midOr Try.underlying58 rfl sizeWaits]
theorem far39 (w : World) (g : Nat) : farLoad' Try.prog 39 w g = loadMidOr 0 62 w g (farMid Try.prog 39 w g 0) :=
  run_loadVar_midOr Try.underlying39 rfl sizeTable w g 0
attribute [go_sem] load60 load58 alloc60 store60 far39 loadMidOr_eq
theorem run_index_waits (m : Wt) (k : Nat) (hk : k < 31) (w : World) : (Instr.index 58 (.agg (wtA m)) (.int .i64 (k : Int))).run Try.prog w = .ok (.int .i64 (m k)) w := by
  have hu : Try.prog.underlying 3 = some (.int .i64) := Try.underlying3
  obtain ⟨ie, hi, hs⟩ := size_of (P := Try.prog) (T := 3) (n := 1) (by kernel_rfl)
  have hg := wtA_get m k hk
  unfold Instr.index
  simp [Sem.run_bind, asIntOf, run_underlying Try.underlying58, run_underlying hu, sizeOf, typeInfo, hi, hs, part, isAgg, hg]
  omega
end Go.Proofs.Ytjghmgpmaallfaa
