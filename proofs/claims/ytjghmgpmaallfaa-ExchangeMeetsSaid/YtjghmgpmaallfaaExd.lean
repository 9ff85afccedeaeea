/-
  exchange.kind, hears.
-/
import Derived.Test.YtjghmgpmaallfaaExk
namespace Go.Proofs.Ytjghmgpmaallfaa
open Go.RowKit
set_option linter.unusedVariables false
set_option linter.unusedSimpArgs false

theorem serverHears (n : Int) (w : World) :
    Calls Try.prog 62 #[.agg #[], .int .i64 n] w fun e w' => e = .returned (.bool (n == 0)) ∧ Below w.heap.size w w' := by
  go_enter Try.func62, Try.ntmps62
  go_wp2
  all_goals go_ret
  all_goals exact ⟨ret_bool (by simp), by first | exact Below.refl _ _ | exact (Below.refl _ _).alloc (Nat.le_refl _) _⟩
theorem clientHears (n : Int) (w : World) :
    Calls Try.prog 63 #[.agg #[], .int .i64 n] w fun e w' => e = .returned (.bool true) ∧ Below w.heap.size w w' := by
  go_enter Try.func63, Try.ntmps63
  go_wp2
  all_goals go_ret
  all_goals exact ⟨rfl, by first | exact Below.refl _ _ | exact (Below.refl _ _).alloc (Nat.le_refl _) _⟩
theorem exKind (b : Bool) (w : World) :
    Calls Try.prog 45 #[.bool b] w fun e w' => e = .returned (.iface (if b then 93 else 94) (.agg #[])) ∧ Below w.heap.size w w' := by
  cases b
  all_goals
    go_enter Try.func45, Try.ntmps45
    go_wp2
    go_ret
    exact ⟨rfl, Below.refl _ _⟩
end Go.Proofs.Ytjghmgpmaallfaa
