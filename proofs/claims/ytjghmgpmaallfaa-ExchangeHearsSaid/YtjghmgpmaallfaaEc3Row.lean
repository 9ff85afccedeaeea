/-
  ExchangeHears: what is heard is the cell: for each Exch and whatever it is told the law returns true, and its arguments read as they did.
-/
import Derived.Test.YtjghmgpmaallfaaExz
import Derived.Test.YtjghmgpmaallfaaExp
import Derived.Test.YtjghmgpmaallfaaEb3
import Derived.Test.YtjghmgpmaallfaaOpn
import Derived.ChangeOld
import Derived.Below
namespace Go.Proofs.Ytjghmgpmaallfaa.exchangeHears
open Go.ChangeShapes Go.WideShapes Go.ChangeAt Go.RowKit
set_option linter.unusedVariables false
set_option linter.unusedSimpArgs false

theorem settle_away {p : Tb} {f l v c1 c2 : Int} (h : settle p f l v = ((c1, c2), 0)) (hf : f < 1 ∨ 31 ≤ f) : c1 = 0 ∧ c2 = 0 := by
  obtain ⟨hp, ht⟩ := settle_ok h
  by_cases h31 : 31 ≤ f
  · rw [settle_of_out hp ht h31] at h; simp at h; omega
  · rw [settle_of_in hp ht h31] at h
    have h0 : f.toNat = 0 := by unfold trOk at ht; omega
    obtain ⟨_, _, _, k⟩ := hp 0 (by omega)
    obtain ⟨k1, k2⟩ := k rfl
    rw [h0, k1, k2] at h
    unfold setl at h
    rw [if_pos (.inr rfl)] at h
    simp at h; omega
/-- the walk, whatever the Exch and what it is told. -/
theorem walk (t : Tb) (m : Wt) (p : Tb) (b : Bool) (f l : Int) (a i o : Bool) (v : Int) (w : World) :
    Calls Try.prog 11 #[.agg (exA t m), .agg (tdA p b f l a i o v)] w fun e w' => e = .returned (.bool true) ∧ Below w.heap.size w w' := by
  rcases exErr_or t m with ⟨hx, hwt, htb⟩ | ⟨hx, _⟩
  · rcases settle_or p f l v with ⟨c1, c2, hs, hpo, htr⟩ | hs
    · by_cases hlow : f < 1
      · obtain ⟨rfl, rfl⟩ := settle_away hs (.inl hlow)
        have hf : isF f = false := by unfold isF; simp; omega
        exact hears_low t m p b f l a i o v hlow (hid (by simp [gotR, hx, hs, hf])) hs hx w
      by_cases hhigh : 31 ≤ f
      · obtain ⟨rfl, rfl⟩ := settle_away hs (.inr hhigh)
        have hf : isF f = false := by unfold isF; simp; omega
        exact hears_high t m p b f l a i o v hhigh (hid (by simp [gotR, hx, hs, hf])) hs hx w
      have hf : isF f = true := by unfold isF; simp; omega
      obtain ⟨n, rfl, h1, h2⟩ := isF_nat hf
      have hr := settle_range hs
      cases b
      · exact hears_c t m p n h1 h2 l a i o v c1 c2 (hid (by simp [gotR, hx, hs, hf, toldC_same hr.2.1 hr.2.2])) hs hx w
      · by_cases hm : m n = 0
        · exact hears_s t m p n h1 h2 l a i o v c1 c2 hm (hid (by simp [gotR, hx, hs, hf, hm, toldC_same hr.2.1 hr.2.2])) hs hx w
        · exact hears_deaf t m p n h1 h2 l a i o v c1 c2 (m n) (by have := (hwt n h2).1; omega) rfl (hid (by simp [gotR, hx, hs, hf, hm])) hs hx w
    · exact hears_bads t m p b f l a i o v (hid (by simp [gotR, hx, hs])) hs hx w
  · rcases settle_or p f l v with ⟨c1, c2, hs, hpo, htr⟩ | hs
    · exact hears_badx0 t m p b f l a i o v c1 c2 (hid (by simp [gotR, hx])) hs hx w
    · exact hears_badx1 t m p b f l a i o v (hid (by simp [gotR, hx])) hs hx w

theorem own : ownKnob Try.prog.godebug = none := by kernel_rfl
theorem laidOut : laidOutB Try.prog = true := by kernel_rfl

set_option maxRecDepth 100000 in
theorem lifted (os : Os) (started : os.Started) (H : Type) (enc : TypeId × Value → H) :
    ReturnsInHanded {} Try.checked os 11 .any (Rows.exchangeHearsSpec.pre6 enc Try.prog Try.f11 Rows.exchangeHearsRow.domain false) (Rows.exchangeHearsSpec.post enc Try.prog Try.f11 false true false false) := by
  refine returnsInHanded_of_change (C := Try.checked) own started (by kernel_rfl) Try.func11
    (ChangeSpec.witness6 (enc := enc) (C := Try.checked) false ⟨#[], #[.agg (exA (fun _ => (0, 0)) (fun _ => 0)), .agg (tdA (fun _ => (0, 0)) false 0 0 false false false 0)], []⟩ 8 (by kernel_rfl) (by kernel_rfl) (by kernel_rfl) (by kernel_rfl)) ?_
  intro W base args ds gs before hval0 hW hcnd _
  have hval : ∀ (j : Nat) t v, Try.f11.params[j]? = some t → args[j]? = some v → Value.okWide Try.prog W .any base t v := hval0
  have hW' := hW
  obtain ⟨p, q, hA0, hV, rfl, hfz, hnd⟩ := hW
  have hA : DataW.TrodAll enc Try.prog W 0 (fun _ => true) true Try.f11.params.toList args.toList ds p := hA0
  rw [Try.params11] at hA hval
  obtain ⟨v0, vs0, d0, ds0, p0, q0, hargs, rfl, rfl, h0, r0⟩ := trodAll_cons hA
  obtain ⟨v1, vs1, d1, ds1, p1, q1, rfl, rfl, rfl, h1, r1⟩ := trodAll_cons r0
  obtain ⟨rfl, rfl, rfl⟩ := trodAll_nil r1
  obtain rfl : args = #[v0, v1] := by cases args; simp_all
  obtain ⟨rfl, rfl⟩ := trodVars_none hV
  have lt0 : ∀ x ∈ p0, x.block < W.heap.size := by obtain ⟨m, hm⟩ := h0; exact DataW.trod_lt m _ _ _ hm
  have lt1 : ∀ x ∈ p1, x.block < W.heap.size := by obtain ⟨m, hm⟩ := h1; exact DataW.trod_lt m _ _ _ hm
  obtain ⟨t0, m0, rfl, b0_0, b0_1⟩ := open_exch Try.underlying60 Try.underlying39 Try.underlying29 Try.underlying58 ⟨rfl, rfl⟩ ⟨rfl, rfl⟩ ⟨rfl, rfl⟩ ⟨rfl, rfl⟩ Try.underlying3 Try.underlying5 (by kernel_rfl) (by kernel_rfl) (by kernel_rfl) (by kernel_rfl) (by kernel_rfl) (by kernel_rfl) (hval 0 60 v0 rfl rfl) h0
  obtain ⟨p0, B, F, L, A, I, O, V, rfl, b1_0, b1_1, b1_2, b1_3⟩ := open_told Try.underlying62 Try.underlying25 Try.underlying23 Try.underlying27 ⟨rfl, rfl⟩ ⟨rfl, rfl⟩ ⟨rfl, rfl⟩ ⟨rfl, rfl⟩ ⟨rfl, rfl⟩ ⟨rfl, rfl⟩ ⟨rfl, rfl⟩ ⟨rfl, rfl⟩ ⟨rfl, rfl⟩ ⟨rfl, rfl⟩ ⟨rfl, rfl⟩ Try.underlying3 Try.underlying4 Try.underlying5 (by kernel_rfl) (by kernel_rfl) (by kernel_rfl) (by kernel_rfl) (by kernel_rfl) (by kernel_rfl) (by kernel_rfl) (hval 1 62 v1 rfl rfl) h1
  clear hA0 hval0
  refine (walk t0 m0 p0 B F L A I O V W).mono fun e W' ⟨he, bel⟩ => ?_
  subst he
  exact ⟨_, rfl, _, _, _, [], _, [], hW', trodAll_mk1 (shut_bool Try.underlying4 _), (trodAll_cons_mk (Below.trod laidOut (by kernel_rfl) (of_decide_eq_true (by kernel_rfl)) h0 bel lt0) (trodAll_cons_mk (Below.trod laidOut (by kernel_rfl) (of_decide_eq_true (by kernel_rfl)) h1 bel lt1) trodAll_mk0)), rfl, bel.frame _, fun h => by cases h⟩

theorem proved : Rows.ExchangeHearsSaid :=
  OpenClaim.holds_of_wide 11 Try.f11 rfl rfl rfl rfl rfl rfl rfl ⟨rfl, rfl, rfl, rfl, rfl⟩ rfl rfl rfl rfl rfl (by kernel_rfl) Try.func11 (by kernel_rfl)
    (of_decide_eq_true (by kernel_rfl)) (by unfold Func.isWrapper; first | (rw [if_pos (by decide +kernel)]; kernel_rfl) | (rw [if_neg (by decide +kernel)]; exact ⟨rfl, rfl⟩))
    (fun os started H enc _ => lifted os started H enc)
end Go.Proofs.Ytjghmgpmaallfaa.exchangeHears
#print axioms Go.Proofs.Ytjghmgpmaallfaa.exchangeHears.proved
