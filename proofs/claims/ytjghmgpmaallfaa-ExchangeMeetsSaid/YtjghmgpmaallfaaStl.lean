/-
  The contracts of agree.settled, agree.cells, agree.Check.
-/
import Derived.Test.YtjghmgpmaallfaaChk
namespace Go.Proofs.Ytjghmgpmaallfaa
open Go.RowKit
set_option linter.unusedVariables false
set_option linter.unusedSimpArgs false

set_option maxHeartbeats 1000000 in
/-- agree.settled -/
theorem settled (m pv f l v : Int) (a i o : Bool) (w : World) :
    Calls Try.prog 41 #[.agg #[.int .i64 m, .int .u8 pv], .agg #[.int .i64 f, .int .i64 l, .bool a, .bool i, .bool o, .int .u8 v]] w fun e w' => e = .returned (.agg #[.int .i64 (setl m pv l v).1, .int .u8 (setl m pv l v).2]) ∧ Below w.heap.size w w' := by
  have H := setl_cases m pv l v
  generalize setl m pv l v = r at *
  obtain ⟨r1, r2⟩ := r
  simp only [Prod.mk.injEq] at H
  rcases H with ⟨rfl, rfl, rfl⟩ | ⟨h1, rfl, rfl, rfl⟩ | ⟨rfl, rfl, h1, rfl, rfl⟩ | ⟨rfl, rfl, rfl, rfl, rfl⟩ | ⟨rfl, h1, h2, rfl, rfl⟩ | ⟨h1, h2, rfl, rfl, rfl⟩ | ⟨h1, h2, h3, h4, rfl, rfl⟩
  rotate_right 1
  have b1 : (r1 == 0) = false := by simpa using h3
  have b2 : (m == 0) = false := by simpa using h1
  have b3 : (m == 1) = false := by simpa using h2
  have b4 : (r1 == 3) = false := by simpa using h4
  all_goals
    go_enter Try.func41, Try.ntmps41
    go_wp2
    refine bodyPost_ret ?_ rfl ⟨rfl, ?_⟩
    · simp [results, Try.results41, go_sem]
    · repeat (first | exact Below.refl _ _ | (refine Below.alloc ?_ (by first | omega | (simp <;> omega)) _))

end Go.Proofs.Ytjghmgpmaallfaa
