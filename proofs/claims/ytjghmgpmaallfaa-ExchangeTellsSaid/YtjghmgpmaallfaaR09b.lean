/-
  The contracts of linnetref09.Settle, linnetref09.Answer.
-/
import Derived.Test.YtjghmgpmaallfaaR09a
import Derived.Test.YtjghmgpmaallfaaSta
import Derived.Test.YtjghmgpmaallfaaPla
namespace Go.Proofs.Ytjghmgpmaallfaa
open Go.RowKit
set_option linter.unusedVariables false
set_option linter.unusedSimpArgs false

set_option maxHeartbeats 4000000 in
set_option maxRecDepth 100000 in
theorem s9_low (p : Tb) (f : Int) (l v : Int) (a i o : Bool) (h : f < 1) (w : World) :
    Calls Try.prog 25 #[.agg (tabA p), .agg #[.int .i64 f, .int .i64 l, .bool a, .bool i, .bool o, .int .u8 v]] w fun e w' => e = .returned (.agg #[.int .i64 0, .int .u8 0]) ∧ Below w.heap.size w w' := by
  have d1 : decide (f < 1) = true := decide_eq_true h
  go_enter Try.func25, Try.ntmps25
  go_wp2
  refine bodyPost_ret ?_ rfl ⟨rfl, ?_⟩
  · simp [results, Try.results25, go_sem]
  · repeat (first | exact Below.refl _ _ | refine Below.setCell ?_ (by simp <;> omega) _ | refine Below.alloc ?_ (by simp <;> omega) _)
set_option maxHeartbeats 4000000 in
set_option maxRecDepth 100000 in
theorem s9_high (p : Tb) (f : Int) (l v : Int) (a i o : Bool) (h : 30 < f) (w : World) :
    Calls Try.prog 25 #[.agg (tabA p), .agg #[.int .i64 f, .int .i64 l, .bool a, .bool i, .bool o, .int .u8 v]] w fun e w' => e = .returned (.agg #[.int .i64 0, .int .u8 0]) ∧ Below w.heap.size w w' := by
  have d1 : decide (f < 1) = false := decide_eq_false (by omega)
  have d2 : decide (30 < f) = true := decide_eq_true h
  go_enter Try.func25, Try.ntmps25
  go_wp2
  refine bodyPost_ret ?_ rfl ⟨rfl, ?_⟩
  · simp [results, Try.results25, go_sem]
  · repeat (first | exact Below.refl _ _ | refine Below.setCell ?_ (by simp <;> omega) _ | refine Below.alloc ?_ (by simp <;> omega) _)
set_option maxHeartbeats 4000000 in
set_option maxRecDepth 100000 in
theorem s9_l0 (p : Tb) (n : Nat) (l v : Int) (a i o : Bool) (h1 : 1 ≤ n) (h2 : n < 31) (hl : l = 0) (w : World) :
    Calls Try.prog 25 #[.agg (tabA p), .agg #[.int .i64 n, .int .i64 l, .bool a, .bool i, .bool o, .int .u8 v]] w fun e w' => e = .returned (.agg #[.int .i64 0, .int .u8 0]) ∧ Below w.heap.size w w' := by
  have d1 : decide ((n : Int) < 1) = false := decide_eq_false (by omega)
  have d2 : decide (30 < (n : Int)) = false := decide_eq_false (by omega)
  have b1 : (l == 0) = true := by simp [hl]
  clear hl
  go_enter Try.func25, Try.ntmps25
  go_wp2
  refine bodyPost_ret ?_ rfl ⟨rfl, ?_⟩
  · simp [results, Try.results25, go_sem]
  · repeat (first | exact Below.refl _ _ | refine Below.setCell ?_ (by simp <;> omega) _ | refine Below.alloc ?_ (by simp <;> omega) _)
set_option maxHeartbeats 4000000 in
set_option maxRecDepth 100000 in
theorem s9_m0 (p : Tb) (n : Nat) (l v : Int) (a i o : Bool) (h1 : 1 ≤ n) (h2 : n < 31) (pv : Int) (HC : Hid (p n = (0, pv))) (hl : ¬ l = 0) (w : World) :
    Calls Try.prog 25 #[.agg (tabA p), .agg #[.int .i64 n, .int .i64 l, .bool a, .bool i, .bool o, .int .u8 v]] w fun e w' => e = .returned (.agg #[.int .i64 0, .int .u8 0]) ∧ Below w.heap.size w w' := by
  have d1 : decide ((n : Int) < 1) = false := decide_eq_false (by omega)
  have d2 : decide (30 < (n : Int)) = false := decide_eq_false (by omega)
  have b1 : (l == 0) = false := by simpa using hl
  have r0 : rowAt (((w.alloc (.cells (tabA p) 25)).alloc (.cells #[.int .i64 n, .int .i64 l, .bool a, .bool i, .bool o, .int .u8 v] 27)).alloc (.cells #[.int .i64 0, .int .u8 0] 29)) w.heap.size = some (.cells (tabA p) 25 (0, 0)) := by rw [rowAt_old _ _ _ (by simp; omega), rowAt_old _ _ _ (by simp), rowAt_new _ _ _ rfl]
  have k0 : (((w.alloc (.cells (tabA p) 25)).alloc (.cells #[.int .i64 n, .int .i64 l, .bool a, .bool i, .bool o, .int .u8 v] 27)).alloc (.cells #[.int .i64 0, .int .u8 0] 29)).cell? ⟨w.heap.size, n * 2, none⟩ = some (.int .i64 0) := by rw [cell_of_row _ _ _ _ _ _ r0, tabA_cell0 p n h2, HC.out]
  have k1 : (((w.alloc (.cells (tabA p) 25)).alloc (.cells #[.int .i64 n, .int .i64 l, .bool a, .bool i, .bool o, .int .u8 v] 27)).alloc (.cells #[.int .i64 0, .int .u8 0] 29)).cell? ⟨w.heap.size, n * 2 + 1, none⟩ = some (.int .u8 pv) := by rw [cell_of_row _ _ _ _ _ _ r0, tabA_cell1 p n h2, HC.out]
  clear r0
  go_enter Try.func25, Try.ntmps25
  go_wp2
  refine bodyPost_ret ?_ rfl ⟨rfl, ?_⟩
  · simp [results, Try.results25, go_sem]
  · repeat (first | exact Below.refl _ _ | refine Below.setCell ?_ (by simp <;> omega) _ | refine Below.alloc ?_ (by simp <;> omega) _)
set_option maxHeartbeats 4000000 in
set_option maxRecDepth 100000 in
theorem s9_23 (p : Tb) (n : Nat) (l v : Int) (a i o : Bool) (h1 : 1 ≤ n) (h2 : n < 31) (pv : Int) (HC : Hid (p n = (2, pv))) (hl : ¬ l = 0) (h3 : (l == 3) = true) (w : World) :
    Calls Try.prog 25 #[.agg (tabA p), .agg #[.int .i64 n, .int .i64 l, .bool a, .bool i, .bool o, .int .u8 v]] w fun e w' => e = .returned (.agg #[.int .i64 2, .int .u8 pv]) ∧ Below w.heap.size w w' := by
  have d1 : decide ((n : Int) < 1) = false := decide_eq_false (by omega)
  have d2 : decide (30 < (n : Int)) = false := decide_eq_false (by omega)
  have b1 : (l == 0) = false := by simpa using hl
  have r0 : rowAt (((w.alloc (.cells (tabA p) 25)).alloc (.cells #[.int .i64 n, .int .i64 l, .bool a, .bool i, .bool o, .int .u8 v] 27)).alloc (.cells #[.int .i64 0, .int .u8 0] 29)) w.heap.size = some (.cells (tabA p) 25 (0, 0)) := by rw [rowAt_old _ _ _ (by simp; omega), rowAt_old _ _ _ (by simp), rowAt_new _ _ _ rfl]
  have k0 : (((w.alloc (.cells (tabA p) 25)).alloc (.cells #[.int .i64 n, .int .i64 l, .bool a, .bool i, .bool o, .int .u8 v] 27)).alloc (.cells #[.int .i64 0, .int .u8 0] 29)).cell? ⟨w.heap.size, n * 2, none⟩ = some (.int .i64 2) := by rw [cell_of_row _ _ _ _ _ _ r0, tabA_cell0 p n h2, HC.out]
  have k1 : (((w.alloc (.cells (tabA p) 25)).alloc (.cells #[.int .i64 n, .int .i64 l, .bool a, .bool i, .bool o, .int .u8 v] 27)).alloc (.cells #[.int .i64 0, .int .u8 0] 29)).cell? ⟨w.heap.size, n * 2 + 1, none⟩ = some (.int .u8 pv) := by rw [cell_of_row _ _ _ _ _ _ r0, tabA_cell1 p n h2, HC.out]
  clear r0
  go_enter Try.func25, Try.ntmps25
  go_wp2
  refine bodyPost_ret ?_ rfl ⟨rfl, ?_⟩
  · simp [results, Try.results25, go_sem]
  · repeat (first | exact Below.refl _ _ | refine Below.setCell ?_ (by simp <;> omega) _ | refine Below.alloc ?_ (by simp <;> omega) _)
set_option maxHeartbeats 4000000 in
set_option maxRecDepth 100000 in
theorem s9_2 (p : Tb) (n : Nat) (l v : Int) (a i o : Bool) (h1 : 1 ≤ n) (h2 : n < 31) (pv : Int) (HC : Hid (p n = (2, pv))) (hl : ¬ l = 0) (h3 : (l == 3) = false) (w : World) :
    Calls Try.prog 25 #[.agg (tabA p), .agg #[.int .i64 n, .int .i64 l, .bool a, .bool i, .bool o, .int .u8 v]] w fun e w' => e = .returned (.agg #[.int .i64 l, .int .u8 v]) ∧ Below w.heap.size w w' := by
  have d1 : decide ((n : Int) < 1) = false := decide_eq_false (by omega)
  have d2 : decide (30 < (n : Int)) = false := decide_eq_false (by omega)
  have b1 : (l == 0) = false := by simpa using hl
  have r0 : rowAt (((w.alloc (.cells (tabA p) 25)).alloc (.cells #[.int .i64 n, .int .i64 l, .bool a, .bool i, .bool o, .int .u8 v] 27)).alloc (.cells #[.int .i64 0, .int .u8 0] 29)) w.heap.size = some (.cells (tabA p) 25 (0, 0)) := by rw [rowAt_old _ _ _ (by simp; omega), rowAt_old _ _ _ (by simp), rowAt_new _ _ _ rfl]
  have k0 : (((w.alloc (.cells (tabA p) 25)).alloc (.cells #[.int .i64 n, .int .i64 l, .bool a, .bool i, .bool o, .int .u8 v] 27)).alloc (.cells #[.int .i64 0, .int .u8 0] 29)).cell? ⟨w.heap.size, n * 2, none⟩ = some (.int .i64 2) := by rw [cell_of_row _ _ _ _ _ _ r0, tabA_cell0 p n h2, HC.out]
  have k1 : (((w.alloc (.cells (tabA p) 25)).alloc (.cells #[.int .i64 n, .int .i64 l, .bool a, .bool i, .bool o, .int .u8 v] 27)).alloc (.cells #[.int .i64 0, .int .u8 0] 29)).cell? ⟨w.heap.size, n * 2 + 1, none⟩ = some (.int .u8 pv) := by rw [cell_of_row _ _ _ _ _ _ r0, tabA_cell1 p n h2, HC.out]
  clear r0
  go_enter Try.func25, Try.ntmps25
  go_wp2
  refine bodyPost_ret ?_ rfl ⟨rfl, ?_⟩
  · simp [results, Try.results25, go_sem]
  · repeat (first | exact Below.refl _ _ | refine Below.setCell ?_ (by simp <;> omega) _ | refine Below.alloc ?_ (by simp <;> omega) _)
set_option maxHeartbeats 4000000 in
set_option maxRecDepth 100000 in
theorem s9_11 (p : Tb) (n : Nat) (l v : Int) (a i o : Bool) (h1 : 1 ≤ n) (h2 : n < 31) (pv : Int) (HC : Hid (p n = (1, pv))) (hl : ¬ l = 0) (h3 : (l == 1) = true) (h4 : (v != pv) = true) (w : World) :
    Calls Try.prog 25 #[.agg (tabA p), .agg #[.int .i64 n, .int .i64 l, .bool a, .bool i, .bool o, .int .u8 v]] w fun e w' => e = .returned (.agg #[.int .i64 0, .int .u8 0]) ∧ Below w.heap.size w w' := by
  have d1 : decide ((n : Int) < 1) = false := decide_eq_false (by omega)
  have d2 : decide (30 < (n : Int)) = false := decide_eq_false (by omega)
  have b1 : (l == 0) = false := by simpa using hl
  have r0 : rowAt (((w.alloc (.cells (tabA p) 25)).alloc (.cells #[.int .i64 n, .int .i64 l, .bool a, .bool i, .bool o, .int .u8 v] 27)).alloc (.cells #[.int .i64 0, .int .u8 0] 29)) w.heap.size = some (.cells (tabA p) 25 (0, 0)) := by rw [rowAt_old _ _ _ (by simp; omega), rowAt_old _ _ _ (by simp), rowAt_new _ _ _ rfl]
  have k0 : (((w.alloc (.cells (tabA p) 25)).alloc (.cells #[.int .i64 n, .int .i64 l, .bool a, .bool i, .bool o, .int .u8 v] 27)).alloc (.cells #[.int .i64 0, .int .u8 0] 29)).cell? ⟨w.heap.size, n * 2, none⟩ = some (.int .i64 1) := by rw [cell_of_row _ _ _ _ _ _ r0, tabA_cell0 p n h2, HC.out]
  have k1 : (((w.alloc (.cells (tabA p) 25)).alloc (.cells #[.int .i64 n, .int .i64 l, .bool a, .bool i, .bool o, .int .u8 v] 27)).alloc (.cells #[.int .i64 0, .int .u8 0] 29)).cell? ⟨w.heap.size, n * 2 + 1, none⟩ = some (.int .u8 pv) := by rw [cell_of_row _ _ _ _ _ _ r0, tabA_cell1 p n h2, HC.out]
  clear r0
  go_enter Try.func25, Try.ntmps25
  go_wp2
  refine bodyPost_ret ?_ rfl ⟨rfl, ?_⟩
  · simp [results, Try.results25, go_sem]
  · repeat (first | exact Below.refl _ _ | refine Below.setCell ?_ (by simp <;> omega) _ | refine Below.alloc ?_ (by simp <;> omega) _)
set_option maxHeartbeats 4000000 in
set_option maxRecDepth 100000 in
theorem s9_1a (p : Tb) (n : Nat) (l v : Int) (a i o : Bool) (h1 : 1 ≤ n) (h2 : n < 31) (pv : Int) (HC : Hid (p n = (1, pv))) (hl : ¬ l = 0) (h3 : (l == 1) = true) (h4 : (v != pv) = false) (w : World) :
    Calls Try.prog 25 #[.agg (tabA p), .agg #[.int .i64 n, .int .i64 l, .bool a, .bool i, .bool o, .int .u8 v]] w fun e w' => e = .returned (.agg #[.int .i64 1, .int .u8 pv]) ∧ Below w.heap.size w w' := by
  have d1 : decide ((n : Int) < 1) = false := decide_eq_false (by omega)
  have d2 : decide (30 < (n : Int)) = false := decide_eq_false (by omega)
  have b1 : (l == 0) = false := by simpa using hl
  have r0 : rowAt (((w.alloc (.cells (tabA p) 25)).alloc (.cells #[.int .i64 n, .int .i64 l, .bool a, .bool i, .bool o, .int .u8 v] 27)).alloc (.cells #[.int .i64 0, .int .u8 0] 29)) w.heap.size = some (.cells (tabA p) 25 (0, 0)) := by rw [rowAt_old _ _ _ (by simp; omega), rowAt_old _ _ _ (by simp), rowAt_new _ _ _ rfl]
  have k0 : (((w.alloc (.cells (tabA p) 25)).alloc (.cells #[.int .i64 n, .int .i64 l, .bool a, .bool i, .bool o, .int .u8 v] 27)).alloc (.cells #[.int .i64 0, .int .u8 0] 29)).cell? ⟨w.heap.size, n * 2, none⟩ = some (.int .i64 1) := by rw [cell_of_row _ _ _ _ _ _ r0, tabA_cell0 p n h2, HC.out]
  have k1 : (((w.alloc (.cells (tabA p) 25)).alloc (.cells #[.int .i64 n, .int .i64 l, .bool a, .bool i, .bool o, .int .u8 v] 27)).alloc (.cells #[.int .i64 0, .int .u8 0] 29)).cell? ⟨w.heap.size, n * 2 + 1, none⟩ = some (.int .u8 pv) := by rw [cell_of_row _ _ _ _ _ _ r0, tabA_cell1 p n h2, HC.out]
  clear r0
  go_enter Try.func25, Try.ntmps25
  go_wp2
  refine bodyPost_ret ?_ rfl ⟨rfl, ?_⟩
  · simp [results, Try.results25, go_sem]
  · repeat (first | exact Below.refl _ _ | refine Below.setCell ?_ (by simp <;> omega) _ | refine Below.alloc ?_ (by simp <;> omega) _)
set_option maxHeartbeats 4000000 in
set_option maxRecDepth 100000 in
theorem s9_1b (p : Tb) (n : Nat) (l v : Int) (a i o : Bool) (h1 : 1 ≤ n) (h2 : n < 31) (pv : Int) (HC : Hid (p n = (1, pv))) (hl : ¬ l = 0) (h3 : (l == 1) = false) (w : World) :
    Calls Try.prog 25 #[.agg (tabA p), .agg #[.int .i64 n, .int .i64 l, .bool a, .bool i, .bool o, .int .u8 v]] w fun e w' => e = .returned (.agg #[.int .i64 1, .int .u8 pv]) ∧ Below w.heap.size w w' := by
  have d1 : decide ((n : Int) < 1) = false := decide_eq_false (by omega)
  have d2 : decide (30 < (n : Int)) = false := decide_eq_false (by omega)
  have b1 : (l == 0) = false := by simpa using hl
  have r0 : rowAt (((w.alloc (.cells (tabA p) 25)).alloc (.cells #[.int .i64 n, .int .i64 l, .bool a, .bool i, .bool o, .int .u8 v] 27)).alloc (.cells #[.int .i64 0, .int .u8 0] 29)) w.heap.size = some (.cells (tabA p) 25 (0, 0)) := by rw [rowAt_old _ _ _ (by simp; omega), rowAt_old _ _ _ (by simp), rowAt_new _ _ _ rfl]
  have k0 : (((w.alloc (.cells (tabA p) 25)).alloc (.cells #[.int .i64 n, .int .i64 l, .bool a, .bool i, .bool o, .int .u8 v] 27)).alloc (.cells #[.int .i64 0, .int .u8 0] 29)).cell? ⟨w.heap.size, n * 2, none⟩ = some (.int .i64 1) := by rw [cell_of_row _ _ _ _ _ _ r0, tabA_cell0 p n h2, HC.out]
  have k1 : (((w.alloc (.cells (tabA p) 25)).alloc (.cells #[.int .i64 n, .int .i64 l, .bool a, .bool i, .bool o, .int .u8 v] 27)).alloc (.cells #[.int .i64 0, .int .u8 0] 29)).cell? ⟨w.heap.size, n * 2 + 1, none⟩ = some (.int .u8 pv) := by rw [cell_of_row _ _ _ _ _ _ r0, tabA_cell1 p n h2, HC.out]
  clear r0
  go_enter Try.func25, Try.ntmps25
  go_wp2
  refine bodyPost_ret ?_ rfl ⟨rfl, ?_⟩
  · simp [results, Try.results25, go_sem]
  · repeat (first | exact Below.refl _ _ | refine Below.setCell ?_ (by simp <;> omega) _ | refine Below.alloc ?_ (by simp <;> omega) _)
/-- linnetref09.Settle, of what may be -/
theorem refSettle9 {p : Tb} {f l v c1 c2 : Int} (h : settle p f l v = ((c1, c2), 0)) (a i o : Bool) (w : World) :
    Calls Try.prog 25 #[.agg (tabA p), .agg #[.int .i64 f, .int .i64 l, .bool a, .bool i, .bool o, .int .u8 v]] w fun e w' => e = .returned (.agg #[.int .i64 c1, .int .u8 c2]) ∧ Below w.heap.size w w' := by
  obtain ⟨hp, ht⟩ := settle_ok h
  have hf0 : 0 ≤ f := ht.1
  by_cases hhi : 31 ≤ f
  · rw [settle_of_out hp ht hhi] at h
    obtain ⟨h, _⟩ := Prod.mk.inj h
    obtain ⟨rfl, rfl⟩ := Prod.mk.inj h
    exact s9_high p f l v a i o (by omega) w
  rw [settle_of_in hp ht hhi] at h
  obtain ⟨n, rfl⟩ : ∃ n : Nat, f = n := ⟨f.toNat, by omega⟩
  rw [Int.toNat_natCast] at h
  replace h := (Prod.mk.inj h).1
  obtain ⟨m, pv, hc⟩ : ∃ m pv, p n = (m, pv) := ⟨_, _, rfl⟩
  rw [hc] at h
  have hok := hp n (by omega)
  rw [hc] at hok
  obtain ⟨o1, o2, o3, o4⟩ := hok
  simp only at o1 o2 o3 o4 h
  unfold setl at h
  by_cases hn : n = 0
  · subst hn
    have hm := (o4 rfl).1
    rw [if_pos (.inr hm)] at h
    obtain ⟨rfl, rfl⟩ := Prod.mk.inj h
    exact s9_low p _ l v a i o (by omega) w
  by_cases hl : l = 0
  · rw [if_pos (.inl hl)] at h
    obtain ⟨rfl, rfl⟩ := Prod.mk.inj h
    exact s9_l0 p n l v a i o (by omega) (by omega) hl w
  by_cases hm0 : m = 0
  · subst hm0
    rw [if_pos (.inr rfl)] at h
    obtain ⟨rfl, rfl⟩ := Prod.mk.inj h
    exact s9_m0 p n l v a i o (by omega) (by omega) pv (hid hc) hl w
  rw [if_neg (by omega)] at h
  by_cases hm1 : m = 1
  · subst hm1
    by_cases hl1 : l = 1
    · by_cases hv : v = pv
      · rw [if_neg (by intro hh; exact hh.2.2 hv), if_pos (.inl rfl)] at h
        obtain ⟨rfl, rfl⟩ := Prod.mk.inj h
        exact s9_1a p n l v a i o (by omega) (by omega) _ (hid hc) hl (by simpa using hl1) (by simpa using hv) w
      · rw [if_pos ⟨rfl, hl1, hv⟩] at h
        obtain ⟨rfl, rfl⟩ := Prod.mk.inj h
        exact s9_11 p n l v a i o (by omega) (by omega) pv (hid hc) hl (by simpa using hl1) (by simpa using hv) w
    · rw [if_neg (by intro hh; exact hl1 hh.2.1), if_pos (.inl rfl)] at h
      obtain ⟨rfl, rfl⟩ := Prod.mk.inj h
      exact s9_1b p n l v a i o (by omega) (by omega) _ (hid hc) hl (by simpa using hl1) w
  · obtain rfl : m = 2 := by omega
    rw [if_neg (by omega)] at h
    by_cases hl3 : l = 3
    · rw [if_pos (.inr hl3)] at h
      obtain ⟨rfl, rfl⟩ := Prod.mk.inj h
      exact s9_23 p n l v a i o (by omega) (by omega) _ (hid hc) hl (by simpa using hl3) w
    · rw [if_neg (by omega)] at h
      obtain ⟨rfl, rfl⟩ := Prod.mk.inj h
      exact s9_2 p n l v a i o (by omega) (by omega) pv (hid hc) hl (by simpa using hl3) w

set_option maxHeartbeats 4000000 in
set_option maxRecDepth 100000 in
/-- linnetref09.Answer, of what may be -/
theorem refAnswer9 {p : Tb} {f l v c1 c2 : Int} (h : settle p f l v = ((c1, c2), 0)) (a i o : Bool) (w : World) :
    Calls Try.prog 26 #[.agg (tabA p), .agg #[.int .i64 f, .int .i64 l, .bool a, .bool i, .bool o, .int .u8 v]] w fun e w' => e = .returned (.agg #[.int .i64 f, .int .i64 c1, .bool true, .bool i, .bool o, .int .u8 c2]) ∧ Below w.heap.size w w' := by
  have H := hid h
  clear h
  go_enter Try.func26, Try.ntmps26
  go_wp2_with (first | (go_at_call 25; (with_reducible refine (refSettle9 H.out a i o _).mono ?_); rintro e w1 ⟨rfl, hb1⟩
                        have r1 := rowNext' hb1 (show rowAt _ (w.heap.size + 1) = some (.cells #[.int .i64 f, .int .i64 l, .bool a, .bool i, .bool o, .int .u8 v] 27 (0, 0)) from by rw [rowAt_old _ _ _ (by simp), rowAt_new _ _ _ (by simp)])
                        have r2 := rowNext' hb1 (show rowAt _ (w.heap.size + 1 + 1) = _ from rowAt_new _ _ _ (by simp))
                        have c1' := cells6 r1
                        have c2' := cells6 r2
                        have l1 := lt_of_some r1
                        have l2 := lt_of_some r2))
  refine bodyPost_ret ?_ rfl ⟨rfl, ?_⟩
  · simp [results, Try.results26, go_sem, c2', l2]
  · have hB : Below w.heap.size w w1 := ((((Below.refl _ _).alloc (Nat.le_refl _) _).alloc (by simp) _).alloc (by simp; omega) _).trans (hb1.mono (by simp; omega))
    have hle : w.heap.size ≤ w.heap.size + 1 + 1 := by omega
    have h6 := (((((hB.setCell (p := ⟨w.heap.size + 1 + 1, 0, none⟩) hle (.int .i64 f)).setCell (p := ⟨w.heap.size + 1 + 1, 1, none⟩) hle (.int .i64 c1)).setCell (p := ⟨w.heap.size + 1 + 1, 2, none⟩) hle (.bool true)).setCell (p := ⟨w.heap.size + 1 + 1, 3, none⟩) hle (.bool i)).setCell (p := ⟨w.heap.size + 1 + 1, 4, none⟩) hle (.bool o)).setCell (p := ⟨w.heap.size + 1 + 1, 5, none⟩) hle (.int .u8 c2)
    exact h6.alloc h6.size _
end Go.Proofs.Ytjghmgpmaallfaa
