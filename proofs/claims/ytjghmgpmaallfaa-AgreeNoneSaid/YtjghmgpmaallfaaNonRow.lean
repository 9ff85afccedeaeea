/-
  AgreeNone: what one end does not support is settled as none; what both may change is as proposed; the default is the own key: for all prefs and triples the law returns true, and its arguments read as they did.
-/
import Derived.Test.YtjghmgpmaallfaaNon
import Derived.Test.YtjghmgpmaallfaaOpn
import Derived.ChangeOld
import Derived.Below
namespace Go.Proofs.Ytjghmgpmaallfaa.agreeNone
open Go.ChangeShapes Go.WideShapes Go.ChangeAt Go.RowKit
set_option linter.unusedVariables false
set_option linter.unusedSimpArgs false

/-- the walk, whatever is settled. -/
theorem walk (p : Tb) (f l : Int) (a i o : Bool) (v : Int) (w : World) :
    Calls Try.prog 4 #[.agg (tabA p), .agg #[.int .i64 f, .int .i64 l, .bool a, .bool i, .bool o, .int .u8 v]] w fun e w' => e = .returned (.bool true) ∧ Below w.heap.size w w' := by
  obtain ⟨c1, c2, e0, h1⟩ : ∃ c1 c2 e0, settle p f l v = ((c1, c2), e0) := ⟨_, _, _, rfl⟩
  rcases settle_err h1 with rfl | rfl
  · by_cases hf : f < 1
    · exact none_low p f l v a i o c1 c2 h1 hf w
    · by_cases hg : 31 ≤ f
      · exact none_high p f l v a i o c1 c2 h1 hg w
      · obtain ⟨n, rfl⟩ := Int.eq_ofNat_of_zero_le (show 0 ≤ f by omega)
        obtain ⟨hp, ht⟩ := settle_ok h1
        obtain ⟨m, pv, hm⟩ : ∃ m pv, p n = (m, pv) := ⟨_, _, rfl⟩
        have hs := settle_of_in (v := v) hp ht hg
        rw [Int.toNat_natCast, hm, h1] at hs
        dsimp only at hs
        have HS := setl_cases m pv l v
        simp only [Prod.mk.injEq, and_true] at hs
        rw [← hs] at HS
        simp only [Prod.mk.injEq] at HS
        clear hs
        rcases HS with ⟨rfl, rfl, rfl⟩ | ⟨g1, rfl, rfl, rfl⟩ | ⟨rfl, rfl, g1, rfl, rfl⟩ | ⟨rfl, rfl, rfl, rfl, rfl⟩ | ⟨rfl, g1, g2, rfl, rfl⟩ | ⟨g1, g2, rfl, rfl, rfl⟩ | ⟨g1, g2, g3, g4, rfl, rfl⟩
        · exact none_in1 p n (by omega) (by omega) _ _ _ a i o hm h1 w
        · exact none_in2 p n (by omega) (by omega) _ _ _ a i o g1 hm h1 w
        · exact none_in3 p n (by omega) (by omega) _ _ a i o g1 hm h1 w
        · exact none_in4 p n (by omega) (by omega) _ a i o hm h1 w
        · exact none_in5 p n (by omega) (by omega) _ _ _ a i o g1 g2 hm h1 w
        · exact none_in6 p n (by omega) (by omega) _ _ _ a i o g1 g2 hm h1 w
        · exact none_in7 p n (by omega) (by omega) _ _ _ _ a i o g1 g2 g3 g4 hm h1 w
  · exact none_no p f l v a i o c1 c2 h1 w

theorem own : ownKnob Try.prog.godebug = none := by kernel_rfl
theorem laidOut : laidOutB Try.prog = true := by kernel_rfl

set_option maxRecDepth 100000 in
theorem lifted (os : Os) (started : os.Started) (H : Type) (enc : TypeId × Value → H) :
    ReturnsInHanded {} Try.checked os 4 .any (Rows.agreeNoneSpec.pre6 enc Try.prog Try.f4 Rows.agreeNoneRow.domain false) (Rows.agreeNoneSpec.post enc Try.prog Try.f4 false true false false) := by
  refine returnsInHanded_of_change (C := Try.checked) own started (by kernel_rfl) Try.func4
    (ChangeSpec.witness6 (enc := enc) (C := Try.checked) false ⟨#[], #[.agg (tabA fun _ => (0, 0)), .agg #[.int .i64 0, .int .i64 0, .bool false, .bool false, .bool false, .int .u8 0]], []⟩ 8 (by kernel_rfl) (by kernel_rfl) (by kernel_rfl) (by kernel_rfl)) ?_
  intro W base args ds gs before hval0 hW hcnd _
  have hval : ∀ (j : Nat) t v, Try.f4.params[j]? = some t → args[j]? = some v → Value.okWide Try.prog W .any base t v := hval0
  have hW' := hW
  obtain ⟨p, q, hA0, hV, rfl, hfz, hnd⟩ := hW
  have hA : DataW.TrodAll enc Try.prog W 0 (fun _ => true) true Try.f4.params.toList args.toList ds p := hA0
  rw [Try.params4] at hA hval
  obtain ⟨v0, vs0, d0, ds0, p0, q0, hargs, rfl, rfl, h0, r0⟩ := trodAll_cons hA
  obtain ⟨v1, vs1, d1, ds1, p1, q1, rfl, rfl, rfl, h1, r1⟩ := trodAll_cons r0
  obtain ⟨rfl, rfl, rfl⟩ := trodAll_nil r1
  obtain rfl : args = #[v0, v1] := by cases args; simp_all
  obtain ⟨rfl, rfl⟩ := trodVars_none hV
  have lt0 : ∀ x ∈ p0, x.block < W.heap.size := by obtain ⟨m, hm⟩ := h0; exact DataW.trod_lt m _ _ _ hm
  have lt1 : ∀ x ∈ p1, x.block < W.heap.size := by obtain ⟨m, hm⟩ := h1; exact DataW.trod_lt m _ _ _ hm
  obtain ⟨t0, rfl, b0_0⟩ := open_tab Try.underlying25 Try.underlying23 ⟨rfl, rfl⟩ ⟨rfl, rfl⟩ Try.underlying3 Try.underlying5 (by kernel_rfl) (by kernel_rfl) (by kernel_rfl) (by kernel_rfl) (hval 0 25 v0 rfl rfl) h0
  obtain ⟨F, L, a, i, o, V, rfl, b1_0, b1_1, b1_2⟩ := open_triple Try.underlying27 ⟨rfl, rfl⟩ ⟨rfl, rfl⟩ ⟨rfl, rfl⟩ ⟨rfl, rfl⟩ ⟨rfl, rfl⟩ ⟨rfl, rfl⟩ Try.underlying3 Try.underlying4 Try.underlying5 (by kernel_rfl) (by kernel_rfl) (by kernel_rfl) (by kernel_rfl) (hval 1 27 v1 rfl rfl) h1
  clear hA0 hval0
  refine (walk t0 F L a i o V W).mono fun e W' ⟨he, bel⟩ => ?_
  subst he
  exact ⟨_, rfl, _, _, _, [], _, [], hW', trodAll_mk1 (shut_bool Try.underlying4 _), (trodAll_cons_mk (Below.trod laidOut (by kernel_rfl) (of_decide_eq_true (by kernel_rfl)) h0 bel lt0) (trodAll_cons_mk (Below.trod laidOut (by kernel_rfl) (of_decide_eq_true (by kernel_rfl)) h1 bel lt1) trodAll_mk0)), rfl, bel.frame _, fun h => by cases h⟩

theorem proved : Rows.AgreeNoneSaid :=
  OpenClaim.holds_of_wide 4 Try.f4 rfl rfl rfl rfl rfl rfl rfl ⟨rfl, rfl, rfl, rfl, rfl⟩ rfl rfl rfl rfl rfl (by kernel_rfl) Try.func4 (by kernel_rfl)
    (of_decide_eq_true (by kernel_rfl)) (by unfold Func.isWrapper; first | (rw [if_pos (by decide +kernel)]; kernel_rfl) | (rw [if_neg (by decide +kernel)]; exact ⟨rfl, rfl⟩))
    (fun os started H enc _ => lifted os started H enc)
end Go.Proofs.Ytjghmgpmaallfaa.agreeNone
#print axioms Go.Proofs.Ytjghmgpmaallfaa.agreeNone.proved
