/-
  AgreeStays: what is settled, proposed again, is settled as it is, and so is what is answered: for all prefs and triples the law returns true, and its arguments read as they did.
-/
import Derived.Test.YtjghmgpmaallfaaSty
import Derived.Test.YtjghmgpmaallfaaPla2
import Derived.Test.YtjghmgpmaallfaaOpn
import Derived.ChangeOld
import Derived.Below
namespace Go.Proofs.Ytjghmgpmaallfaa.agreeStays
open Go.ChangeShapes Go.WideShapes Go.ChangeAt Go.RowKit
set_option linter.unusedVariables false
set_option linter.unusedSimpArgs false

/-- the walk, whatever is settled. -/
theorem walk (p : Tb) (f l : Int) (a i o : Bool) (v : Int) (w : World) :
    Calls Try.prog 5 #[.agg (tabA p), .agg #[.int .i64 f, .int .i64 l, .bool a, .bool i, .bool o, .int .u8 v]] w fun e w' => e = .returned (.bool true) ∧ Below w.heap.size w w' := by
  obtain ⟨c1, c2, e0, h1⟩ : ∃ c1 c2 e0, settle p f l v = ((c1, c2), e0) := ⟨_, _, _, rfl⟩
  rcases settle_err h1 with rfl | rfl
  · exact stays_ok p f l v a i o c1 c2 h1 (stays_plain h1) w
  · exact stays_no p f l v a i o c1 c2 h1 w

theorem own : ownKnob Try.prog.godebug = none := by kernel_rfl
theorem laidOut : laidOutB Try.prog = true := by kernel_rfl

set_option maxRecDepth 100000 in
theorem lifted (os : Os) (started : os.Started) (H : Type) (enc : TypeId × Value → H) :
    ReturnsInHanded {} Try.checked os 5 .any (Rows.agreeStaysSpec.pre6 enc Try.prog Try.f5 Rows.agreeStaysRow.domain false) (Rows.agreeStaysSpec.post enc Try.prog Try.f5 false true false false) := by
  refine returnsInHanded_of_change (C := Try.checked) own started (by kernel_rfl) Try.func5
    (ChangeSpec.witness6 (enc := enc) (C := Try.checked) false ⟨#[], #[.agg (tabA fun _ => (0, 0)), .agg #[.int .i64 0, .int .i64 0, .bool false, .bool false, .bool false, .int .u8 0]], []⟩ 8 (by kernel_rfl) (by kernel_rfl) (by kernel_rfl) (by kernel_rfl)) ?_
  intro W base args ds gs before hval0 hW hcnd _
  have hval : ∀ (j : Nat) t v, Try.f5.params[j]? = some t → args[j]? = some v → Value.okWide Try.prog W .any base t v := hval0
  have hW' := hW
  obtain ⟨p, q, hA0, hV, rfl, hfz, hnd⟩ := hW
  have hA : DataW.TrodAll enc Try.prog W 0 (fun _ => true) true Try.f5.params.toList args.toList ds p := hA0
  rw [Try.params5] at hA hval
  obtain ⟨v0, vs0, d0, ds0, p0, q0, hargs, rfl, rfl, h0, r0⟩ := trodAll_cons hA
  obtain ⟨v1, vs1, d1, ds1, p1, q1, rfl, rfl, rfl, h1, r1⟩ := trodAll_cons r0
  obtain ⟨rfl, rfl, rfl⟩ := trodAll_nil r1
  obtain rfl : args = #[v0, v1] := by cases args; simp_all
  obtain ⟨rfl, rfl⟩ := trodVars_none hV
  have lt0 : ∀ x ∈ p0, x.block < W.heap.size := by obtain ⟨m, hm⟩ := h0; exact DataW.trod_lt m _ _ _ hm
  have lt1 : ∀ x ∈ p1, x.block < W.heap.size := by obtain ⟨m, hm⟩ := h1; exact DataW.trod_lt m _ _ _ hm
  obtain ⟨t0, rfl, b0_0⟩ := open_tab Try.underlying25 Try.underlying23 ⟨rfl, rfl⟩ ⟨rfl, rfl⟩ Try.underlying3 Try.underlying5 (by kernel_rfl) (by kernel_rfl) (by kernel_rfl) (by kernel_rfl) (hval 0 25 v0 rfl rfl) h0
  obtain ⟨F, L, a, i, o, V, rfl, b1_0, b1_1, b1_2⟩ := open_triple Try.underlying27 ⟨rfl, rfl⟩ ⟨rfl, rfl⟩ ⟨rfl, rfl⟩ ⟨rfl, rfl⟩ ⟨rfl, rfl⟩ ⟨rfl, rfl⟩ Try.underlying3 Try.underlying4 Try.underlying5 (by kernel_rfl) (by kernel_rfl) (by kernel_rfl) (by kernel_rfl) (hval 1 27 v1 rfl rfl) h1
  clear hA0 hval0
  refine (walk t0 F L a i o V W).mono fun e W' ⟨he, bel⟩ => ?_
  subst he
  exact ⟨_, rfl, _, _, _, [], _, [], hW', trodAll_mk1 (shut_bool Try.underlying4 _), (trodAll_cons_mk (Below.trod laidOut (by kernel_rfl) (of_decide_eq_true (by kernel_rfl)) h0 bel lt0) (trodAll_cons_mk (Below.trod laidOut (by kernel_rfl) (of_decide_eq_true (by kernel_rfl)) h1 bel lt1) trodAll_mk0)), rfl, bel.frame _, fun h => by cases h⟩

theorem proved : Rows.AgreeStaysSaid :=
  OpenClaim.holds_of_wide 5 Try.f5 rfl rfl rfl rfl rfl rfl rfl ⟨rfl, rfl, rfl, rfl, rfl⟩ rfl rfl rfl rfl rfl (by kernel_rfl) Try.func5 (by kernel_rfl)
    (of_decide_eq_true (by kernel_rfl)) (by unfold Func.isWrapper; first | (rw [if_pos (by decide +kernel)]; kernel_rfl) | (rw [if_neg (by decide +kernel)]; exact ⟨rfl, rfl⟩))
    (fun os started H enc _ => lifted os started H enc)
end Go.Proofs.Ytjghmgpmaallfaa.agreeStays
#print axioms Go.Proofs.Ytjghmgpmaallfaa.agreeStays.proved
