/-
  ExchangeWhole: two ends that begin come to the table that is settled: for all prefs the law returns true, and its arguments read as they did.
-/
import Derived.Test.YtjghmgpmaallfaaEb6
import Derived.Test.YtjghmgpmaallfaaOpn
import Derived.ChangeOld
import Derived.Below
namespace Go.Proofs.Ytjghmgpmaallfaa.exchangeWhole
open Go.ChangeShapes Go.WideShapes Go.ChangeAt Go.RowKit
set_option linter.unusedVariables false
set_option linter.unusedSimpArgs false

/-- the walk, whatever the two ends' prefs. -/
theorem walk (p q : Tb) (w : World) :
    Calls Try.prog 14 #[.agg (tabA p), .agg (tabA q)] w fun e w' => e = .returned (.bool true) ∧ Below w.heap.size w w' := by
  rcases tabErr_or p with ⟨hp, _⟩ | ⟨hp, _⟩ <;> rcases tabErr_or q with ⟨hq, _⟩ | ⟨hq, _⟩
  · exact wholeAll p q hp hq w
  · exact whole_p p q hp hq w
  · exact whole_q0 p q hp hq w
  · exact whole_q1 p q hp hq w

theorem own : ownKnob Try.prog.godebug = none := by kernel_rfl
theorem laidOut : laidOutB Try.prog = true := by kernel_rfl

set_option maxRecDepth 100000 in
theorem lifted (os : Os) (started : os.Started) (H : Type) (enc : TypeId × Value → H) :
    ReturnsInHanded {} Try.checked os 14 .any (Rows.exchangeWholeSpec.pre6 enc Try.prog Try.f14 Rows.exchangeWholeRow.domain false) (Rows.exchangeWholeSpec.post enc Try.prog Try.f14 false true false false) := by
  refine returnsInHanded_of_change (C := Try.checked) own started (by kernel_rfl) Try.func14
    (ChangeSpec.witness6 (enc := enc) (C := Try.checked) false ⟨#[], #[.agg (tabA fun _ => (0, 0)), .agg (tabA fun _ => (0, 0))], []⟩ 8 (by kernel_rfl) (by kernel_rfl) (by kernel_rfl) (by kernel_rfl)) ?_
  intro W base args ds gs before hval0 hW hcnd _
  have hval : ∀ (j : Nat) t v, Try.f14.params[j]? = some t → args[j]? = some v → Value.okWide Try.prog W .any base t v := hval0
  have hW' := hW
  obtain ⟨p, q, hA0, hV, rfl, hfz, hnd⟩ := hW
  have hA : DataW.TrodAll enc Try.prog W 0 (fun _ => true) true Try.f14.params.toList args.toList ds p := hA0
  rw [Try.params14] at hA hval
  obtain ⟨v0, vs0, d0, ds0, p0, q0, hargs, rfl, rfl, h0, r0⟩ := trodAll_cons hA
  obtain ⟨v1, vs1, d1, ds1, p1, q1, rfl, rfl, rfl, h1, r1⟩ := trodAll_cons r0
  obtain ⟨rfl, rfl, rfl⟩ := trodAll_nil r1
  obtain rfl : args = #[v0, v1] := by cases args; simp_all
  obtain ⟨rfl, rfl⟩ := trodVars_none hV
  have lt0 : ∀ x ∈ p0, x.block < W.heap.size := by obtain ⟨m, hm⟩ := h0; exact DataW.trod_lt m _ _ _ hm
  have lt1 : ∀ x ∈ p1, x.block < W.heap.size := by obtain ⟨m, hm⟩ := h1; exact DataW.trod_lt m _ _ _ hm
  obtain ⟨t0, rfl, b0_0⟩ := open_tab Try.underlying25 Try.underlying23 ⟨rfl, rfl⟩ ⟨rfl, rfl⟩ Try.underlying3 Try.underlying5 (by kernel_rfl) (by kernel_rfl) (by kernel_rfl) (by kernel_rfl) (hval 0 25 v0 rfl rfl) h0
  obtain ⟨t1, rfl, b1_0⟩ := open_tab Try.underlying25 Try.underlying23 ⟨rfl, rfl⟩ ⟨rfl, rfl⟩ Try.underlying3 Try.underlying5 (by kernel_rfl) (by kernel_rfl) (by kernel_rfl) (by kernel_rfl) (hval 1 25 v1 rfl rfl) h1
  clear hA0 hval0
  refine (walk t0 t1 W).mono fun e W' ⟨he, bel⟩ => ?_
  subst he
  exact ⟨_, rfl, _, _, _, [], _, [], hW', trodAll_mk1 (shut_bool Try.underlying4 _), (trodAll_cons_mk (Below.trod laidOut (by kernel_rfl) (of_decide_eq_true (by kernel_rfl)) h0 bel lt0) (trodAll_cons_mk (Below.trod laidOut (by kernel_rfl) (of_decide_eq_true (by kernel_rfl)) h1 bel lt1) trodAll_mk0)), rfl, bel.frame _, fun h => by cases h⟩

theorem proved : Rows.ExchangeWholeSaid :=
  OpenClaim.holds_of_wide 14 Try.f14 rfl rfl rfl rfl rfl rfl rfl ⟨rfl, rfl, rfl, rfl, rfl⟩ rfl rfl rfl rfl rfl (by kernel_rfl) Try.func14 (by kernel_rfl)
    (of_decide_eq_true (by kernel_rfl)) (by unfold Func.isWrapper; first | (rw [if_pos (by decide +kernel)]; kernel_rfl) | (rw [if_neg (by decide +kernel)]; exact ⟨rfl, rfl⟩))
    (fun os started H enc _ => lifted os started H enc)
end Go.Proofs.Ytjghmgpmaallfaa.exchangeWhole
#print axioms Go.Proofs.Ytjghmgpmaallfaa.exchangeWhole.proved
