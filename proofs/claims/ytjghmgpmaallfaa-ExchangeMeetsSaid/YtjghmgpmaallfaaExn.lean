/-
  An Exch built of a table; exchange.Begin.
-/
import Derived.Test.YtjghmgpmaallfaaExp
import Derived.Test.YtjghmgpmaallfaaFir
import Derived.Test.YtjghmgpmaallfaaWho
import Derived.Test.YtjghmgpmaallfaaR09d
namespace Go.Proofs.Ytjghmgpmaallfaa
open Go.RowKit
set_option linter.unusedVariables false
set_option linter.unusedSimpArgs false

theorem fold_lay (off : Nat) : ∀ (l : List Value) (k : Nat) (cs : Array Value), (l.zipIdx k).foldl (fun cs (p : Value × Nat) => cs.setIfInBounds (off + p.2) p.1) cs = lay cs (off + k) l
  | [], k, cs => rfl
  | v :: r, k, cs => by
    rw [List.zipIdx_cons, List.foldl_cons, fold_lay off r (k + 1), lay]; rfl
theorem lay_ex (t u : Tb) (m : Wt) : lay (exA u m) 0 (tabA t).toList = exA t m := by
  have hl : (tabA t).toList.length = 62 := by simp [tabA_size]
  apply Array.ext_getElem?
  intro j
  rw [lay_get _ _ _ (by rw [hl, exA_size]; omega), hl]
  by_cases hj : j < 62
  · rw [if_pos (by omega)]
    unfold exA
    rw [Array.getElem?_append_left (by rw [tabA_size]; exact hj)]
    simp
  · rw [if_neg (by omega)]
    unfold exA
    rw [Array.getElem?_append_right (by rw [tabA_size]; omega), Array.getElem?_append_right (by rw [tabA_size]; omega), tabA_size, tabA_size]
theorem buildExT (t : Tb) (w : World) : (Instr.build 60 #[(0, .agg (tabA t))]).run Try.prog w = .ok (.agg (exA t zeroW)) w := by
  refine run_build w _ _ _ ?_
  have hu : Try.prog.underlying 60 = some (.struct (Try.prog.fieldsOf 60)) := by kernel_rfl
  have hp : (Try.prog.fieldsOf 60).toList.mapM (fun f => (Try.prog.info? f.type).map fun i => (f.offset, i.size)) = some [(0, 62), (62, 31)] := by kernel_rfl
  obtain ⟨it, hit, hz⟩ : ∃ it, Try.prog.info? 60 = some it ∧ it.zero = some (.agg (exA zeroT zeroW)) := by
    have h := zeroExch
    cases hi : Try.prog.info? 60 with
    | none => rw [hi] at h; simp at h
    | some it => rw [hi] at h; exact ⟨it, rfl, by simpa using h⟩
  unfold Program.built
  simp only [hit, hu, hz, hp]
  have hc : (Value.agg (tabA t)).cells = tabA t := rfl
  have hc2 : (Value.agg (exA zeroT zeroW)).cells = exA zeroT zeroW := rfl
  have e : (tabA t).zipIdx.foldl (fun cs (p : Value × Nat) => cs.setIfInBounds (0 + p.2) p.1) (exA zeroT zeroW) = exA t zeroW := by
    rw [← Array.foldl_toList, Array.toList_zipIdx, fold_lay 0 (tabA t).toList 0]; exact lay_ex t zeroT zeroW
  simp only [Instr.fill, hc, hc2, tabA_size, exA_size]
  simp
  simpa using e
end Go.Proofs.Ytjghmgpmaallfaa
