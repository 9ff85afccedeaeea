/-
  AgreeTells: what package agree says, told by the reference: for all prefs, triples and tables the law returns true, and its arguments read as they did.
-/
import Derived.Test.YtjghmgpmaallfaaAt8
import Derived.Test.YtjghmgpmaallfaaPla
import Derived.Test.YtjghmgpmaallfaaOpn
import Derived.ChangeOld
import Derived.Below
namespace Go.Proofs.Ytjghmgpmaallfaa.agreeTells
open Go.ChangeShapes Go.WideShapes Go.ChangeAt Go.RowKit
set_option linter.unusedVariables false
set_option linter.unusedSimpArgs false

theorem settle_good {p : Tb} {f l v : Int} (h : tabOk p ∧ trOk f l) : ∃ c1 c2, settle p f l v = ((c1, c2), 0) := by
  unfold settle; rw [if_pos h]; exact ⟨_, _, rfl⟩
/-- the walk, whatever the prefs, the triple and the table. -/
theorem walk (p : Tb) (f l : Int) (a i o : Bool) (v : Int) (u : Tb) (w : World) :
    Calls Try.prog 8 #[.agg (tabA p), .agg #[.int .i64 f, .int .i64 l, .bool a, .bool i, .bool o, .int .u8 v], .agg (tabA u)] w fun e w' => e = .returned (.bool true) ∧ Below w.heap.size w w' := by
  rcases tabErr_or p with ⟨h1, hp⟩ | ⟨h1, hp⟩ <;> rcases tabErr_or u with ⟨h2, hu⟩ | ⟨h2, hu⟩
  · by_cases ht : trOk f l
    · obtain ⟨c1, c2, hs⟩ := settle_good (v := v) ⟨hp, ht⟩
      exact at_ptu p u f l v a i o c1 c2 hs h1 (decide_eq_true hp) (decide_eq_true ht) h2 (decide_eq_true hu) w
    · exact at_pnu p u f l v a i o (settle_of_bad (fun h => ht h.2)) h1 (decide_eq_true hp) (decide_eq_false ht) h2 (decide_eq_true hu) w
  · by_cases ht : trOk f l
    · obtain ⟨c1, c2, hs⟩ := settle_good (v := v) ⟨hp, ht⟩
      exact at_ptn p u f l v a i o c1 c2 hs h1 (decide_eq_true hp) (decide_eq_true ht) h2 (decide_eq_false hu) w
    · exact at_pnn p u f l v a i o (settle_of_bad (fun h => ht h.2)) h1 (decide_eq_true hp) (decide_eq_false ht) h2 (decide_eq_false hu) w
  · exact at_ntu p u f l v a i o (settle_of_bad (fun h => hp h.1)) h1 (decide_eq_false hp) h2 (decide_eq_true hu) w
  · exact at_ntn p u f l v a i o (settle_of_bad (fun h => hp h.1)) h1 (decide_eq_false hp) h2 (decide_eq_false hu) w

theorem own : ownKnob Try.prog.godebug = none := by kernel_rfl
theorem laidOut : laidOutB Try.prog = true := by kernel_rfl

set_option maxRecDepth 100000 in
theorem lifted (os : Os) (started : os.Started) (H : Type) (enc : TypeId × Value → H) :
    ReturnsInHanded {} Try.checked os 8 .any (Rows.agreeTellsSpec.pre6 enc Try.prog Try.f8 Rows.agreeTellsRow.domain false) (Rows.agreeTellsSpec.post enc Try.prog Try.f8 false true false false) := by
  refine returnsInHanded_of_change (C := Try.checked) own started (by kernel_rfl) Try.func8
    (ChangeSpec.witness6 (enc := enc) (C := Try.checked) false ⟨#[], #[.agg (tabA fun _ => (0, 0)), .agg #[.int .i64 0, .int .i64 0, .bool false, .bool false, .bool false, .int .u8 0], .agg (tabA fun _ => (0, 0))], []⟩ 8 (by kernel_rfl) (by kernel_rfl) (by kernel_rfl) (by kernel_rfl)) ?_
  intro W base args ds gs before hval0 hW hcnd _
  have hval : ∀ (j : Nat) t v, Try.f8.params[j]? = some t → args[j]? = some v → Value.okWide Try.prog W .any base t v := hval0
  have hW' := hW
  obtain ⟨p, q, hA0, hV, rfl, hfz, hnd⟩ := hW
  have hA : DataW.TrodAll enc Try.prog W 0 (fun _ => true) true Try.f8.params.toList args.toList ds p := hA0
  rw [Try.params8] at hA hval
  obtain ⟨v0, vs0, d0, ds0, p0, q0, hargs, rfl, rfl, h0, r0⟩ := trodAll_cons hA
  obtain ⟨v1, vs1, d1, ds1, p1, q1, rfl, rfl, rfl, h1, r1⟩ := trodAll_cons r0
  obtain ⟨v2, vs2, d2, ds2, p2, q2, rfl, rfl, rfl, h2, r2⟩ := trodAll_cons r1
  obtain ⟨rfl, rfl, rfl⟩ := trodAll_nil r2
  obtain rfl : args = #[v0, v1, v2] := by cases args; simp_all
  obtain ⟨rfl, rfl⟩ := trodVars_none hV
  have lt0 : ∀ x ∈ p0, x.block < W.heap.size := by obtain ⟨m, hm⟩ := h0; exact DataW.trod_lt m _ _ _ hm
  have lt1 : ∀ x ∈ p1, x.block < W.heap.size := by obtain ⟨m, hm⟩ := h1; exact DataW.trod_lt m _ _ _ hm
  have lt2 : ∀ x ∈ p2, x.block < W.heap.size := by obtain ⟨m, hm⟩ := h2; exact DataW.trod_lt m _ _ _ hm
  obtain ⟨t0, rfl, b0_0⟩ := open_tab Try.underlying25 Try.underlying23 ⟨rfl, rfl⟩ ⟨rfl, rfl⟩ Try.underlying3 Try.underlying5 (by kernel_rfl) (by kernel_rfl) (by kernel_rfl) (by kernel_rfl) (hval 0 25 v0 rfl rfl) h0
  obtain ⟨F, L, a, i, o, V, rfl, b1_0, b1_1, b1_2⟩ := open_triple Try.underlying27 ⟨rfl, rfl⟩ ⟨rfl, rfl⟩ ⟨rfl, rfl⟩ ⟨rfl, rfl⟩ ⟨rfl, rfl⟩ ⟨rfl, rfl⟩ Try.underlying3 Try.underlying4 Try.underlying5 (by kernel_rfl) (by kernel_rfl) (by kernel_rfl) (by kernel_rfl) (hval 1 27 v1 rfl rfl) h1
  obtain ⟨t1, rfl, b2_0⟩ := open_tab Try.underlying39 Try.underlying29 ⟨rfl, rfl⟩ ⟨rfl, rfl⟩ Try.underlying3 Try.underlying5 (by kernel_rfl) (by kernel_rfl) (by kernel_rfl) (by kernel_rfl) (hval 2 39 v2 rfl rfl) h2
  clear hA0 hval0
  refine (walk t0 F L a i o V t1 W).mono fun e W' ⟨he, bel⟩ => ?_
  subst he
  exact ⟨_, rfl, _, _, _, [], _, [], hW', trodAll_mk1 (shut_bool Try.underlying4 _), (trodAll_cons_mk (Below.trod laidOut (by kernel_rfl) (of_decide_eq_true (by kernel_rfl)) h0 bel lt0) (trodAll_cons_mk (Below.trod laidOut (by kernel_rfl) (of_decide_eq_true (by kernel_rfl)) h1 bel lt1) (trodAll_cons_mk (Below.trod laidOut (by kernel_rfl) (of_decide_eq_true (by kernel_rfl)) h2 bel lt2) trodAll_mk0))), rfl, bel.frame _, fun h => by cases h⟩

theorem proved : Rows.AgreeTellsSaid :=
  OpenClaim.holds_of_wide 8 Try.f8 rfl rfl rfl rfl rfl rfl rfl ⟨rfl, rfl, rfl, rfl, rfl⟩ rfl rfl rfl rfl rfl (by kernel_rfl) Try.func8 (by kernel_rfl)
    (of_decide_eq_true (by kernel_rfl)) (by unfold Func.isWrapper; first | (rw [if_pos (by decide +kernel)]; kernel_rfl) | (rw [if_neg (by decide +kernel)]; exact ⟨rfl, rfl⟩))
    (fun os started H enc _ => lifted os started H enc)
end Go.Proofs.Ytjghmgpmaallfaa.agreeTells
#print axioms Go.Proofs.Ytjghmgpmaallfaa.agreeTells.proved
