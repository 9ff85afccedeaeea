/-
  agree.Settle: one contract for all arguments.
-/
import Derived.Test.YtjghmgpmaallfaaSet
namespace Go.Proofs.Ytjghmgpmaallfaa
open Go.RowKit
set_option linter.unusedVariables false
set_option linter.unusedSimpArgs false

theorem settle_any (t : Tb) (f l v : Int) (a i o : Bool) (w : World) :
    Calls Try.prog 15 #[.agg (tabA t), .agg #[.int .i64 f, .int .i64 l, .bool a, .bool i, .bool o, .int .u8 v]] w fun e w' => e = .returned (.tuple #[.agg #[.int .i64 (settle t f l v).1.1, .int .u8 (settle t f l v).1.2], .int .i64 (settle t f l v).2]) ∧ Below w.heap.size w w' := by
  rcases tabErr_or t with ⟨e1, h1⟩ | ⟨e1, h1⟩
  · rcases trErr_or f l with ⟨e2, h2⟩ | ⟨e2, h2⟩
    · by_cases h3 : 31 ≤ f
      · have e : settle t f l v = ((0, 0), 0) := by unfold settle; rw [if_pos ⟨h1, h2⟩, if_pos h3]
        rw [e]; exact settle_out t f l v a i o w e1 e2 h3
      · obtain ⟨n, rfl⟩ := Int.eq_ofNat_of_zero_le h2.1
        have e : settle t n l v = (setl (t n).1 (t n).2 l v, 0) := by unfold settle; rw [if_pos ⟨h1, h2⟩, if_neg h3]; rfl
        rw [e]; exact settle_in t l v a i o w n (by omega) e1 e2
    · have e : settle t f l v = ((0, 0), 1) := by unfold settle; rw [if_neg fun h => h2 h.2]
      rw [e]; exact settle_bad2 t f l v a i o w e1 e2
  · have e : settle t f l v = ((0, 0), 1) := by unfold settle; rw [if_neg fun h => h1 h.1]
    rw [e]; exact settle_bad t f l v a i o w e1
theorem settle_eq {t : Tb} {f l v c1 c2 e0 : Int} (h : settle t f l v = ((c1, c2), e0)) (a i o : Bool) (w : World) :
    Calls Try.prog 15 #[.agg (tabA t), .agg #[.int .i64 f, .int .i64 l, .bool a, .bool i, .bool o, .int .u8 v]] w fun e w' => e = .returned (.tuple #[.agg #[.int .i64 c1, .int .u8 c2], .int .i64 e0]) ∧ Below w.heap.size w w' := by
  have := settle_any t f l v a i o w
  rw [h] at this
  exact this
theorem sizeTriple : (Try.prog.info? 27).map (·.size) = some 6 := by kernel_rfl
theorem zeroPrefs : (Try.prog.info? 25).map (·.zero) = some (some (.agg (tabA zeroT))) := by kernel_rfl
end Go.Proofs.Ytjghmgpmaallfaa
