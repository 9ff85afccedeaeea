/-
  What Got answers, in plain Lean.
-/
import Derived.Test.YtjghmgpmaallfaaExw
import Derived.Test.YtjghmgpmaallfaaPla
import Derived.Test.YtjghmgpmaallfaaPla2
namespace Go.Proofs.Ytjghmgpmaallfaa
open Go.RowKit
set_option linter.unusedVariables false
set_option linter.unusedSimpArgs false
theorem settle_range {p : Tb} {f l v c1 c2 : Int} (h : settle p f l v = ((c1, c2), 0)) : 0 ≤ c1 ∧ c1 ≤ 2 ∧ (c1 = 0 → c2 = 0) := by
  obtain ⟨hp, ht⟩ := settle_ok h
  by_cases hf : 31 ≤ f
  · rw [settle_of_out hp ht hf] at h
    simp at h; omega
  · rw [settle_of_in hp ht hf] at h
    have k := hp f.toNat (by unfold trOk at ht; omega)
    unfold trOk at ht
    have h' : setl (p f.toNat).1 (p f.toNat).2 l v = (c1, c2) := by simpa using h
    have := setl_range _ _ _ _ _ _ k.1 k.2.1 k.2.2.1 (by omega) (by omega) h'
    omega
theorem toldC_range {l v : Int} (h0 : 0 ≤ l) (h3 : l ≤ 3) : 0 ≤ (toldC l v).1 ∧ (toldC l v).1 ≤ 2 ∧ ((toldC l v).1 = 0 → (toldC l v).2 = 0) := by
  rcases toldC_cases l v with ⟨h, e⟩ | ⟨h, h', e⟩ | ⟨h, e⟩ <;> rw [e] <;> simp <;> omega
theorem toldC_same {c1 c2 : Int} (h2 : c1 ≤ 2) (hz : c1 = 0 → c2 = 0) : toldC c1 c2 = (c1, c2) := by
  rcases toldC_cases c1 c2 with ⟨h, e⟩ | ⟨h, h', e⟩ | ⟨h, e⟩ <;> rw [e]
  · rw [h, hz h]
  · rw [show c1 = 2 from by omega]
theorem tab_upd {t : Tb} (h : tabOk t) {n : Nat} {c : Int × Int} (hn : 1 ≤ n) (hc : 0 ≤ c.1 ∧ c.1 ≤ 2 ∧ (c.1 = 0 → c.2 = 0)) : tabOk (upd t n c) := by
  intro f hf
  by_cases hfn : f = n
  · subst hfn; rw [upd_same]; exact ⟨hc.1, hc.2.1, hc.2.2, by omega⟩
  · rw [upd_other _ _ _ _ hfn]; exact h f hf
theorem ex_good {t : Tb} {m : Wt} (hm : wtsOk m) (ht : tabOk t) : exErr t m = 0 := by rw [exErr_good _ _ hm]; exact if_pos ht
/-- an Exch of which one function's cells are others. -/
def OthersSame (f : Int) (t t' : Tb) (m m' : Wt) : Prop := ∀ k : Nat, k < 31 → (k : Int) ≠ f → t' k = t k ∧ m' k = m k
theorem others_upd (n : Nat) (t : Tb) (m : Wt) (c : Int × Int) (y : Int) : OthersSame n t (upd t n c) m (updW m n y) :=
  fun k _ hk => ⟨upd_other _ _ _ _ (by omega), updW_other _ _ _ _ (by omega)⟩
theorem gotR_cases (t : Tb) (m : Wt) (p : Tb) (b : Bool) (f l v : Int) (a : Bool) :
    (∃ e, (e = 1 ∨ e = 5) ∧ gotR t m p b f l v a = ((t, m), none, e)) ∨
    (a = true ∧ ∃ t' m', gotR t m p b f l v a = ((t', m'), none, 0) ∧ OthersSame f t t' m m' ∧ exErr t' m' = 0) ∨
    (a = false ∧ ∃ t' m' c1 c2, gotR t m p b f l v a = ((t', m'), some (c1, c2), 0) ∧ OthersSame f t t' m m' ∧ exErr t' m' = 0 ∧ settle p f l v = ((c1, c2), 0)) := by
  rcases exErr_or t m with ⟨hx, hwt, htb⟩ | ⟨hx, _⟩
  · rcases settle_or p f l v with ⟨d1, d2, hs, hpo, htr⟩ | hs
    · cases a
      · cases hf : isF f
        · refine .inr (.inr ⟨rfl, t, m, d1, d2, by simp [gotR, hx, hs, hf], fun _ _ _ => ⟨rfl, rfl⟩, hx, hs⟩)
        · obtain ⟨n, rfl, h1, h2⟩ := isF_nat hf
          by_cases hb : b = true ∧ ¬ m n = 0
          · exact .inl ⟨5, .inr rfl, by simp [gotR, hx, hs, hf, hb]⟩
          · refine .inr (.inr ⟨rfl, upd t n (toldC d1 d2), updW m n 0, d1, d2, by simp [gotR, hx, hs, hf, hb], others_upd n t m _ _, ?_, hs⟩)
            have hr := settle_range hs
            exact ex_good (wts_updW hwt h1 (by omega) (by omega)) (tab_upd htb h1 (toldC_range hr.1 (by omega)))
      · cases hf : isF f
        · exact .inl ⟨5, .inr rfl, by simp [gotR, hx, hs, hf]⟩
        · obtain ⟨n, rfl, h1, h2⟩ := isF_nat hf
          by_cases hm : 1 ≤ m n
          · refine .inr (.inl ⟨rfl, upd t n (toldC l v), updW m n (m n - 1), by simp [gotR, hx, hs, hf, hm], others_upd n t m _ _, ?_⟩)
            unfold trOk at htr
            exact ex_good (wts_updW hwt h1 (by omega) (by have := (hwt n h2).2.1; omega)) (tab_upd htb h1 (toldC_range htr.2.2.1 htr.2.2.2))
          · exact .inl ⟨5, .inr rfl, by simp [gotR, hx, hs, hf, hm]⟩
    · exact .inl ⟨1, .inl rfl, by simp [gotR, hx, hs]⟩
  · exact .inl ⟨1, .inl rfl, by simp [gotR, hx]⟩
end Go.Proofs.Ytjghmgpmaallfaa
