/-
  table.With as one contract.
-/
import Derived.Test.YtjghmgpmaallfaaDoorAw8
import Derived.Deep.QuietTactic
import Derived.BigQuiet
import Derived.Deep.RegionWith
namespace Go.Proofs.YtjghmgpmaallfaaDoor
open Go.RowKit
set_option linter.unusedVariables false
set_option linter.unusedSimpArgs false

/-- what With answers. -/
def withT (t : Tb) (f c1 c2 : Int) : Tb × Int := if 1 ≤ f ∧ f < 31 ∧ tabErr (upd t f.toNat (c1, c2)) = 0 then (upd t f.toNat (c1, c2), 0) else (t, 1)
theorem with_eq {t u : Tb} {f c1 c2 e0 : Int} (h : withT t f c1 c2 = (u, e0)) (w : World) :
    Calls Tryd.prog 17 #[.agg (tabA t), .int .i64 f, .agg #[.int .i64 c1, .int .u8 c2]] w fun e w' => e = .returned (.tuple #[.agg (tabA u), .int .i64 e0]) ∧ Below w.heap.size w w' := by
  unfold withT at h
  by_cases h1 : 1 ≤ f
  · by_cases h2 : f < 31
    · obtain ⟨n, rfl⟩ : ∃ n : Nat, f = n := ⟨f.toNat, by omega⟩
      rw [Int.toNat_natCast] at h
      rcases tabErr_or (upd t n (c1, c2)) with ⟨k, _⟩ | ⟨k, _⟩
      · rw [if_pos ⟨h1, h2, k⟩] at h
        obtain ⟨rfl, rfl⟩ := Prod.mk.inj h
        exact with_ok t n (by omega) (by omega) c1 c2 (hid k) w
      · rw [if_neg (by rw [k]; omega)] at h
        obtain ⟨rfl, rfl⟩ := Prod.mk.inj h
        exact with_bad t n (by omega) (by omega) c1 c2 (hid k) w
    · rw [if_neg (by omega)] at h
      obtain ⟨rfl, rfl⟩ := Prod.mk.inj h
      exact with_high t f c1 c2 (by omega) w
  · rw [if_neg (by omega)] at h
    obtain ⟨rfl, rfl⟩ := Prod.mk.inj h
    exact with_low t f c1 c2 (by omega) w
theorem upd_comm (t : Tb) (i j : Nat) (hij : i ≠ j) (a b : Int × Int) : upd (upd t i a) j b = upd (upd t j b) i a := by
  funext k
  unfold upd
  by_cases h1 : k = i <;> by_cases h2 : k = j <;> simp [h1, h2] <;> omega
theorem cellOk_upd {t : Tb} (i : Nat) (hi : i < 31) (c : Int × Int) (ht : tabOk t) : tabOk (upd t i c) ↔ cellOk i c := by
  constructor
  · intro h; have := h i hi; simpa [upd] using this
  · intro h k hk
    unfold upd
    by_cases e : k = i
    · subst e; simpa using h
    · simpa [e] using ht k hk
/-- With at two functions, in either order. -/
theorem order_plain {t a b : Tb} {f g c1 c2 d1 d2 ea eb : Int} (ht : tabErr t = 0) (hfg : ¬ f = g) (h1 : withT t f c1 c2 = (a, ea)) (h2 : withT a g d1 d2 = (b, eb)) :
    ∃ c, withT t g d1 d2 = (c, eb) ∧ withT c f c1 c2 = (b, ea) := by
  have hok := tabErr_ok ht
  have E : ∀ u : Tb, tabOk u → ∀ (x : Int) (p q : Int), 1 ≤ x → x < 31 → (tabErr (upd u x.toNat (p, q)) = 0 ↔ cellOk x.toNat (p, q)) := by
    intro u hu x p q hx1 hx2
    rcases tabErr_or (upd u x.toNat (p, q)) with ⟨k1, k2⟩ | ⟨k1, k2⟩
    · simp [k1, (cellOk_upd _ (by omega) _ hu).1 k2]
    · rw [k1]; simp; exact fun h => k2 ((cellOk_upd _ (by omega) _ hu).2 h)
  have W : ∀ u : Tb, tabOk u → ∀ (x p q : Int), withT u x p q = if 1 ≤ x ∧ x < 31 ∧ cellOk x.toNat (p, q) then (upd u x.toNat (p, q), 0) else (u, 1) := by
    intro u hu x p q
    unfold withT
    by_cases k1 : 1 ≤ x
    · by_cases k2 : x < 31
      · simp only [E u hu x p q k1 k2]
      · rw [if_neg (by omega), if_neg (by omega)]
    · rw [if_neg (by omega), if_neg (by omega)]
  have O : ∀ u : Tb, tabOk u → ∀ (x p q : Int), tabOk (withT u x p q).1 := by
    intro u hu x p q
    rw [W u hu]
    split
    · rename_i k; exact (cellOk_upd _ (by omega) _ hu).2 k.2.2
    · exact hu
  have oa : tabOk a := by have := O t hok f c1 c2; rwa [h1] at this
  rw [W t hok] at h1
  rw [W a oa] at h2
  by_cases A : 1 ≤ f ∧ f < 31 ∧ cellOk f.toNat (c1, c2) <;> by_cases B : 1 ≤ g ∧ g < 31 ∧ cellOk g.toNat (d1, d2)
  · rw [if_pos A] at h1; rw [if_pos B] at h2
    obtain ⟨rfl, rfl⟩ := Prod.mk.inj h1; obtain ⟨rfl, rfl⟩ := Prod.mk.inj h2
    exact ⟨upd t g.toNat (d1, d2), by rw [W t hok, if_pos B], by rw [W _ ((cellOk_upd _ (by omega) _ hok).2 B.2.2), if_pos A, upd_comm _ _ _ (by omega)]⟩
  · rw [if_pos A] at h1; rw [if_neg B] at h2
    obtain ⟨rfl, rfl⟩ := Prod.mk.inj h1; obtain ⟨rfl, rfl⟩ := Prod.mk.inj h2
    exact ⟨t, by rw [W t hok, if_neg B], by rw [W t hok, if_pos A]⟩
  · rw [if_neg A] at h1; rw [if_pos B] at h2
    obtain ⟨rfl, rfl⟩ := Prod.mk.inj h1; obtain ⟨rfl, rfl⟩ := Prod.mk.inj h2
    exact ⟨upd t g.toNat (d1, d2), by rw [W t hok, if_pos B], by rw [W _ ((cellOk_upd _ (by omega) _ hok).2 B.2.2), if_neg A]⟩
  · rw [if_neg A] at h1; rw [if_neg B] at h2
    obtain ⟨rfl, rfl⟩ := Prod.mk.inj h1; obtain ⟨rfl, rfl⟩ := Prod.mk.inj h2
    exact ⟨t, by rw [W t hok, if_neg B], by rw [W t hok, if_neg A]⟩
end Go.Proofs.YtjghmgpmaallfaaDoor
