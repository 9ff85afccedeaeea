/-
  The contract of linnetref07.Same, of two rows of one triple that are alike, and of two that are none.
-/
import Derived.Test.YtjghmgpmaallfaaExy
import Derived.Test.YtjghmgpmaallfaaRgn
namespace Go.Proofs.Ytjghmgpmaallfaa
open Go.RowKit
set_option linter.unusedVariables false
set_option linter.unusedSimpArgs false

set_option maxHeartbeats 4000000 in
set_option maxRecDepth 100000 in
theorem refSame1 (g g' c c' : Nat) (f l : Int) (a i o : Bool) (v : Int) (w : World) (h : rowAt w g = some (.cells #[.int .i64 f, .int .i64 l, .bool a, .bool i, .bool o, .int .u8 v] 27 (0, 0))) (h' : rowAt w g' = some (.cells #[.int .i64 f, .int .i64 l, .bool a, .bool i, .bool o, .int .u8 v] 27 (0, 0))) :
    Calls Try.prog 29 #[.slice (some ⟨g, 0, none⟩) 1 c, .slice (some ⟨g', 0, none⟩) 1 c'] w fun e w' => e = .returned (.bool true) ∧ Below w.heap.size w w' := by
  have H := hid h
  have H' := hid h'
  clear h h'
  go_enter Try.func29, Try.ntmps29
  go_wp2
  go_loopw [5] (fun i wr => ∃ k : Nat, k ≤ 1 ∧ i = .int .i64 k ∧ Below w.heap.size w wr) (fun i _ => 1 - (intOf i).toNat)
  case atStart => exact ⟨0, by omega, rfl, Below.refl _ _⟩
  case round =>
    obtain ⟨k, hk, rfl, hb⟩ := hrel
    have HB := hid hb
    have hsz := hb.size
    clear hb
    by_cases hlt : k < 1
    · obtain rfl : k = 0 := by omega
      have u0 := fun x => cells6 (goodRow (rowNext' HB.out H.out) x)
      have v0 := fun x => cells6 (goodRow (rowNext' HB.out H'.out) x)
      go_wp2_with fail
      refine wp_region_goodw (by kernel_rfl) (by kernel_rfl) ?_
      intro W6 hW6
      subst hW6
      iterate 9 (go_big_quiet_step (fail))
      refine wpQuiet_nil ?_
      rintro w6 ⟨⟨_, hb6⟩, rfl⟩
      clear u0 v0
      go_wp2_with fail
      go_roundw
      case rel => exact ⟨1, by omega, by go_num, HB.out.trans (hb6.mono hsz)⟩
      case measure => simp [intOf]
    · obtain rfl : k = 1 := by omega
      go_wp2
      go_ret
      exact ⟨rfl, HB.out⟩
theorem refSame0 (w : World) :
    Calls Try.prog 29 #[.slice none 0 0, .slice none 0 0] w fun e w' => e = .returned (.bool true) ∧ Below w.heap.size w w' := by
  go_enter Try.func29, Try.ntmps29
  go_wp2
  go_loopw [5] (fun i wr => i = .int .i64 0 ∧ Below w.heap.size w wr) (fun i _ => 1 - (intOf i).toNat)
  case atStart => exact ⟨rfl, Below.refl _ _⟩
  case round =>
    obtain ⟨rfl, hb⟩ := hrel
    go_wp2
    go_ret
    exact ⟨rfl, hb⟩
end Go.Proofs.Ytjghmgpmaallfaa
