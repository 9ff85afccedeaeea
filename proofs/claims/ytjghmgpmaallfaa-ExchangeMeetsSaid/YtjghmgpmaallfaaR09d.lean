/-
  The contract of linnetref07.Same, of two rows that are alike.
-/
import Derived.Test.YtjghmgpmaallfaaR09c
import Derived.Test.YtjghmgpmaallfaaRgn
namespace Go.Proofs.Ytjghmgpmaallfaa
open Go.RowKit
set_option linter.unusedVariables false
set_option linter.unusedSimpArgs false

/-- thirty triples of a table lie here. -/
def Tris (w : World) (g : Nat) (t : Tb) : Prop := ∀ i j u, i < 30 → (tri t (i + 1))[j]? = some u → w.cell? ⟨g, i * 6 + j, none⟩ = some u
theorem Tris.below {w w' : World} {g : Nat} {t : Tb} (h : Tris w g t) (hb : Below w.heap.size w w') : Tris w' g t := fun i j u hi hu => by
  have hc := h i j u hi hu
  exact (hb.cell (p := ⟨g, i * 6 + j, none⟩) (World.block_lt_of_cell? w _ hc)).trans hc

set_option maxHeartbeats 4000000 in
set_option maxRecDepth 100000 in
/-- linnetref07.Same -/
theorem refSame (t : Tb) (g g' c c' : Nat) (w : World) (h : Tris w g t) (h' : Tris w g' t) :
    Calls Try.prog 29 #[.slice (some ⟨g, 0, none⟩) 30 c, .slice (some ⟨g', 0, none⟩) 30 c'] w fun e w' => e = .returned (.bool true) ∧ Below w.heap.size w w' := by
  have H := hid h
  have H' := hid h'
  clear h h'
  go_enter Try.func29, Try.ntmps29
  go_wp2
  go_loopw [5] (fun i wr => ∃ k : Nat, k ≤ 30 ∧ i = .int .i64 k ∧ Below w.heap.size w wr) (fun i _ => 30 - (intOf i).toNat)
  case atStart => exact ⟨0, by omega, rfl, Below.refl _ _⟩
  case round =>
    obtain ⟨k, hk, rfl, hb⟩ := hrel
    have HB := hid hb
    have hsz := hb.size
    clear hb
    by_cases hlt : k < 30
    · have A1 := H.out.below HB.out
      have A2 := H'.out.below HB.out
      obtain ⟨a1, a2, ha⟩ : ∃ a1 a2, t (k + 1) = (a1, a2) := ⟨_, _, rfl⟩
      have hx : tri t (k + 1) = [.int .i64 ((k : Int) + 1), .int .i64 a1, .bool false, .bool false, .bool false, .int .u8 a2] := by rw [tri, ha]; rfl
      have u0 : ∀ x : Good wr, x.u.cell? ⟨g, k * 6, none⟩ = some (.int .i64 ((k : Int) + 1)) := fun x => (A1.below x.b) k 0 _ hlt (by rw [hx]; rfl)
      have u1 : ∀ x : Good wr, x.u.cell? ⟨g, k * 6 + 1, none⟩ = some (.int .i64 a1) := fun x => (A1.below x.b) k 1 _ hlt (by rw [hx]; rfl)
      have u2 : ∀ x : Good wr, x.u.cell? ⟨g, k * 6 + 2, none⟩ = some (.bool false) := fun x => (A1.below x.b) k 2 _ hlt (by rw [hx]; rfl)
      have u3 : ∀ x : Good wr, x.u.cell? ⟨g, k * 6 + 3, none⟩ = some (.bool false) := fun x => (A1.below x.b) k 3 _ hlt (by rw [hx]; rfl)
      have u4 : ∀ x : Good wr, x.u.cell? ⟨g, k * 6 + 4, none⟩ = some (.bool false) := fun x => (A1.below x.b) k 4 _ hlt (by rw [hx]; rfl)
      have u5 : ∀ x : Good wr, x.u.cell? ⟨g, k * 6 + 5, none⟩ = some (.int .u8 a2) := fun x => (A1.below x.b) k 5 _ hlt (by rw [hx]; rfl)
      have v0 : ∀ x : Good wr, x.u.cell? ⟨g', k * 6, none⟩ = some (.int .i64 ((k : Int) + 1)) := fun x => (A2.below x.b) k 0 _ hlt (by rw [hx]; rfl)
      have v1 : ∀ x : Good wr, x.u.cell? ⟨g', k * 6 + 1, none⟩ = some (.int .i64 a1) := fun x => (A2.below x.b) k 1 _ hlt (by rw [hx]; rfl)
      have v2 : ∀ x : Good wr, x.u.cell? ⟨g', k * 6 + 2, none⟩ = some (.bool false) := fun x => (A2.below x.b) k 2 _ hlt (by rw [hx]; rfl)
      have v3 : ∀ x : Good wr, x.u.cell? ⟨g', k * 6 + 3, none⟩ = some (.bool false) := fun x => (A2.below x.b) k 3 _ hlt (by rw [hx]; rfl)
      have v4 : ∀ x : Good wr, x.u.cell? ⟨g', k * 6 + 4, none⟩ = some (.bool false) := fun x => (A2.below x.b) k 4 _ hlt (by rw [hx]; rfl)
      have v5 : ∀ x : Good wr, x.u.cell? ⟨g', k * 6 + 5, none⟩ = some (.int .u8 a2) := fun x => (A2.below x.b) k 5 _ hlt (by rw [hx]; rfl)
      clear A1 A2 ha hx
      have hk0 : (0 : Int) ≤ (k : Int) := by omega
      have hk30 : (k : Int) < 30 := by omega
      go_wp2_with fail
      refine wp_region_goodw (by kernel_rfl) (by kernel_rfl) ?_
      intro W6 hW6
      subst hW6
      iterate 9 (go_big_quiet_step (fail))
      refine wpQuiet_nil ?_
      rintro w6 ⟨⟨_, hb6⟩, rfl⟩
      clear u0 u1 u2 u3 u4 u5 v0 v1 v2 v3 v4 v5
      go_wp2_with fail
      go_roundw
      case rel => exact ⟨k + 1, by omega, by go_num, HB.out.trans (hb6.mono hsz)⟩
      case measure => simp [intOf]; omega
    · obtain rfl : k = 30 := by omega
      go_wp2
      go_ret
      exact ⟨rfl, HB.out⟩
end Go.Proofs.Ytjghmgpmaallfaa
