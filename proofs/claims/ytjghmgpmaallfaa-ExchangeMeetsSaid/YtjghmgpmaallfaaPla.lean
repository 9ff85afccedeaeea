/-
  Plain laws of what is settled.
-/
import Derived.Test.YtjghmgpmaallfaaMod
namespace Go.Proofs.Ytjghmgpmaallfaa
open Go.RowKit
set_option linter.unusedVariables false
set_option linter.unusedSimpArgs false

theorem settle_of_out {p : Tb} {f l v : Int} (hp : tabOk p) (ht : trOk f l) (h : 31 ≤ f) : settle p f l v = ((0, 0), 0) := by
  unfold settle; rw [if_pos ⟨hp, ht⟩, if_pos h]
theorem settle_of_in {p : Tb} {f l v : Int} (hp : tabOk p) (ht : trOk f l) (h : ¬ 31 ≤ f) : settle p f l v = (setl (p f.toNat).1 (p f.toNat).2 l v, 0) := by
  unfold settle; rw [if_pos ⟨hp, ht⟩, if_neg h]
theorem settle_of_bad {p : Tb} {f l v : Int} (h : ¬ (tabOk p ∧ trOk f l)) : settle p f l v = ((0, 0), 1) := by
  unfold settle; rw [if_neg h]
theorem settle_ok {p : Tb} {f l v : Int} {c : Int × Int} (h : settle p f l v = (c, 0)) : tabOk p ∧ trOk f l := by
  by_cases hh : tabOk p ∧ trOk f l
  · exact hh
  · rw [settle_of_bad hh] at h; simp at h
theorem settle_err {p : Tb} {f l v : Int} {c : Int × Int} {e : Int} (h : settle p f l v = (c, e)) : e = 0 ∨ e = 1 := by
  unfold settle at h
  split at h <;> simp only [Prod.mk.injEq] at h <;> omega
/-- what is settled (d) of what the other end has settled (c): both settle it as it is. -/
theorem setl_both (pm pv qm qv l v c1 c2 d1 d2 : Int) (a1 : 0 ≤ pm) (a2 : pm ≤ 2) (a3 : pm = 0 → pv = 0) (b1 : 0 ≤ qm) (b2 : qm ≤ 2) (b3 : qm = 0 → qv = 0) (hl0 : 0 ≤ l) (hl1 : l ≤ 3)
    (h1 : setl pm pv l v = (c1, c2)) (h2 : setl qm qv c1 c2 = (d1, d2)) :
    0 ≤ d1 ∧ d1 ≤ 3 ∧ setl pm pv d1 d2 = (d1, d2) ∧ setl qm qv d1 d2 = (d1, d2) ∧ d1 ≤ c1 := by
  have ep := setl_cases pm pv l v
  have eq := setl_cases qm qv c1 c2
  have fp := setl_cases pm pv d1 d2
  have fq := setl_cases qm qv d1 d2
  rw [h1] at ep
  rw [h2] at eq
  clear h1 h2
  generalize setl pm pv d1 d2 = x at *
  generalize setl qm qv d1 d2 = y at *
  obtain ⟨x1, x2⟩ := x
  obtain ⟨y1, y2⟩ := y
  simp only [Prod.mk.injEq] at *
  omega
theorem both_plain (p q : Tb) (f l v c1 c2 d1 d2 : Int) (h1 : settle p f l v = ((c1, c2), 0)) (h2 : settle q f c1 c2 = ((d1, d2), 0)) :
    settle p f d1 d2 = ((d1, d2), 0) ∧ settle q f d1 d2 = ((d1, d2), 0) ∧ d1 ≤ c1 := by
  obtain ⟨hp, ht⟩ := settle_ok h1
  obtain ⟨hq, ht2⟩ := settle_ok h2
  by_cases hf : 31 ≤ f
  · rw [settle_of_out hp ht hf] at h1
    rw [settle_of_out hq ht2 hf] at h2
    simp only [Prod.mk.injEq, and_true] at h1 h2
    obtain ⟨rfl, rfl⟩ := h1
    obtain ⟨rfl, rfl⟩ := h2
    exact ⟨settle_of_out hp ht2 hf, settle_of_out hq ht2 hf, Int.le_refl _⟩
  · obtain ⟨hf0, hf1, hl0, hl1⟩ := ht
    obtain ⟨a1, a2, a3, _⟩ := hp f.toNat (by omega)
    obtain ⟨b1, b2, b3, _⟩ := hq f.toNat (by omega)
    rw [settle_of_in hp ⟨hf0, hf1, hl0, hl1⟩ hf] at h1
    rw [settle_of_in hq ht2 hf] at h2
    simp only [Prod.mk.injEq, and_true] at h1 h2
    obtain ⟨k0, k1, k2, k3, k4⟩ := setl_both _ _ _ _ l v c1 c2 d1 d2 a1 a2 a3 b1 b2 b3 hl0 hl1 h1 h2
    rw [settle_of_in hp ⟨hf0, hf1, k0, k1⟩ hf, settle_of_in hq ⟨hf0, hf1, k0, k1⟩ hf, k2, k3]
    exact ⟨rfl, rfl, k4⟩
end Go.Proofs.Ytjghmgpmaallfaa
