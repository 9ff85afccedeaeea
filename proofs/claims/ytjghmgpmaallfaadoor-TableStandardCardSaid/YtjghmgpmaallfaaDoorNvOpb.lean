/-
  An argument of octets, opened.
-/
import Derived.Test.YtjghmgpmaallfaaDoorNvMem
import Derived.ProofKit
import Derived.OpenShut
import Derived.ChangeSlices
import Derived.Lib.SmallJoins
namespace Go.Proofs.YtjghmgpmaallfaaDoor
set_option linter.unusedVariables false
set_option linter.unusedSimpArgs false
open Go.RowKit Go.ChangeShapes Go.WideShapes
section
variable {H : Type} {enc : TypeId × Value → H} {P : Program} {w : World} {base : Nat} {spare : Nat → Bool} {held : Bool} {r : Reach} {b0 : Nat}
/-- An argument of octets, opened. -/
theorem open_bytes {t e : TypeId} {v : Value} {d : DataW H} {p : List MemPlace} (ht : P.underlying t = some (.slice e)) (he : P.underlying e = some (.int .u8)) (hc : P.cellsOf e = 1)
    (hv : Value.okWide P w r b0 t v) (h : DataW.Trod enc P w base spare held t v d p) : ∃ l, Sl w v l := by
  obtain ⟨A, n, c, rfl⟩ := okWide_slice ht hv
  obtain ⟨m, hm⟩ := h
  rcases open_ints ht he hc hm with ⟨hcs, _⟩ | ⟨a, len, cap, zs, hcs, _, hl, hm, hz, _, hcell, hw⟩
  · simp [Value.cells] at hcs
    obtain ⟨rfl, rfl, rfl⟩ := hcs
    exact ⟨[], none, 0, rfl, by simp, by simp, fun _ => rfl, .inl rfl⟩
  · simp [Value.cells] at hcs
    obtain ⟨rfl, rfl, rfl⟩ := hcs
    have hlz : n ≤ zs.length := by rw [hz]; split <;> omega
    have hlen : ((zs.take n).map fun z => UInt8.ofNat z.toNat).length = n := by simp; omega
    refine ⟨(zs.take n).map fun z => UInt8.ofNat z.toNat, some a, c, by rw [hlen], by omega, hm, (fun h => by cases h), .inr ⟨a, rfl, fun i hi => ?_⟩⟩
    have hi' : i < zs.length := by omega
    rw [hcell i hi']
    have hb := hw _ (List.getElem_mem hi')
    have hb' : 0 ≤ zs[i] ∧ zs[i] ≤ 255 := bounds_u8 hb
    have h2 : (UInt8.ofNat zs[i].toNat).toNat = zs[i].toNat := by simp; omega
    simp only [u8, List.getElem_map, List.getElem_take, h2]
    rw [show ((zs[i].toNat : Nat) : Int) = zs[i] by omega]
    simp [List.getD, hi']
end
end Go.Proofs.YtjghmgpmaallfaaDoor
