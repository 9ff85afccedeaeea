/-
  AgreeTable, where a pref may not be; the plain law.
-/
import Derived.Test.YtjghmgpmaallfaaAgt
import Derived.Test.YtjghmgpmaallfaaPla
namespace Go.Proofs.Ytjghmgpmaallfaa
open Go.RowKit
set_option linter.unusedVariables false
set_option linter.unusedSimpArgs false

set_option maxHeartbeats 8000000 in
set_option maxRecDepth 100000 in
theorem agt_no1 (p q : Tb) (hp : tabErr p = 1) (w : World) :
    Calls Try.prog 7 #[.agg (tabA p), .agg (tabA q)] w fun e w' => e = .returned (.bool true) ∧ Below w.heap.size w w' := by
  have HP := hid hp
  clear hp
  go_enter Try.func7, Try.ntmps7
  go_wp2_with (first
    | (go_at_call 20; (with_reducible refine (first_no p HP.out _).mono ?_); rintro e w1 ⟨rfl, hb1⟩)
    | (go_at_call 16; (with_reducible refine (awake9 _).mono ?_); rintro e w5 ⟨rfl, hb5⟩))
  go_ret
  have h1 : Below w.heap.size w w1 := ((((Below.refl _ _).alloc (Nat.le_refl _) _).alloc (by simp) _).trans (hb1.mono (by simp; omega)))
  exact ⟨rfl, (h1.alloc h1.size _).trans (hb5.mono (by have := h1.size; simp; omega))⟩
set_option maxHeartbeats 8000000 in
set_option maxRecDepth 100000 in
theorem agt_no2 (p q : Tb) (hp : tabErr p = 0) (hq : tabErr q = 1) (w : World) :
    Calls Try.prog 7 #[.agg (tabA p), .agg (tabA q)] w fun e w' => e = .returned (.bool true) ∧ Below w.heap.size w w' := by
  have HP := hid hp
  have HQ := hid hq
  clear hp hq
  go_enter Try.func7, Try.ntmps7
  go_wp2_with (first
    | (go_at_call 20; (with_reducible refine (first_ok p HP.out _).mono ?_); rintro e w1 ⟨rfl, hb1⟩; have q1 := rowNext' hb1 (show rowAt _ (w.heap.size + 1) = _ from rowAt_new _ _ _ (by simp)); have lq1 := lt_of_some q1)
    | (go_at_call 21; (with_reducible refine (agreeCheck_eq' HQ.out _).mono ?_); rintro e w2 ⟨rfl, hb2⟩)
    | (go_at_call 16; (with_reducible refine (awake9 _).mono ?_); rintro e w5 ⟨rfl, hb5⟩))
  go_ret
  have h1 : Below w.heap.size w w1 := ((((Below.refl _ _).alloc (Nat.le_refl _) _).alloc (by simp) _).trans (hb1.mono (by simp; omega)))
  have h2 : Below w.heap.size w w2 := (h1.alloc h1.size _).trans (hb2.mono (by have := h1.size; simp; omega))
  exact ⟨rfl, h2.trans (hb5.mono h2.size)⟩

theorem trOk_in {p : Tb} (hp : tabOk p) (f : Nat) (h2 : f < 31) : trOk f (p f).1 := by
  obtain ⟨h, h', _⟩ := hp f h2
  exact ⟨by omega, by omega, h, by omega⟩
theorem setl_self {f : Nat} {c : Int × Int} (hc : cellOk f c) : setl c.1 c.2 c.1 c.2 = c := by
  obtain ⟨h1, h2, h3, _⟩ := hc
  obtain ⟨m, v⟩ := c
  simp only at h1 h2 h3 ⊢
  rcases setl_cases m v m v with ⟨a, e⟩ | ⟨_, a, e⟩ | ⟨_, _, a, e⟩ | ⟨_, _, _, e⟩ | ⟨_, _, _, e⟩ | ⟨_, _, _, e⟩ | ⟨_, _, _, _, e⟩ <;> rw [e]
  · rw [a, h3 a]
  · rw [a, h3 a]
  · exact absurd rfl a
theorem settle_self {p : Tb} (hp : tabOk p) (f : Nat) (h2 : f < 31) : settle p f (p f).1 (p f).2 = (p f, 0) := by
  rw [settle_of_in hp (trOk_in hp f h2) (by omega), Int.toNat_natCast, setl_self (hp f h2)]
theorem settle_some {p q : Tb} (hp : tabOk p) (hq : tabOk q) (f : Nat) (h2 : f < 31) : settle q f (p f).1 (p f).2 = (setl (q f).1 (q f).2 (p f).1 (p f).2, 0) := by
  rw [settle_of_in hq (trOk_in hp f h2) (by omega), Int.toNat_natCast]
theorem setU_ok {p q : Tb} (hp : tabOk p) (hq : tabOk q) : tabErr (setU p q 30) = 0 := by
  refine tabErr_good _ fun i hi => ?_
  unfold setU
  by_cases h : 1 ≤ i ∧ i ≤ 30
  · rw [if_pos h, settle_some hp hq i hi]
    have h0 : cellOk i (0, 0) := ⟨by simp, by simp, fun _ => rfl, fun _ => ⟨rfl, rfl⟩⟩
    rcases setl_cases (q i).1 (q i).2 (p i).1 (p i).2 with ⟨_, e⟩ | ⟨_, _, e⟩ | ⟨_, _, _, e⟩ | ⟨_, _, _, e⟩ | ⟨_, _, _, e⟩ | ⟨_, _, _, e⟩ | ⟨_, _, _, _, e⟩ <;> rw [e]
    · exact h0
    · exact h0
    · exact h0
    · exact hq i hi
    · exact hq i hi
    · exact hq i hi
    · exact hp i hi
  · rw [if_neg h]; exact hp i hi
end Go.Proofs.Ytjghmgpmaallfaa
