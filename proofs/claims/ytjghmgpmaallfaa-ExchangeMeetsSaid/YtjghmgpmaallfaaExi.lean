/-
  exchange.Got: a proposal that a server does not hear.
-/
import Derived.Test.YtjghmgpmaallfaaAns
import Derived.Test.YtjghmgpmaallfaaExb
import Derived.Test.YtjghmgpmaallfaaExd
import Derived.BigRegion
namespace Go.Proofs.Ytjghmgpmaallfaa
open Go.RowKit
set_option linter.unusedVariables false
set_option linter.unusedSimpArgs false

@[local go_sem] theorem nilServer (w : World) : (nilAhead 212 93 (Value.agg #[]) "linnet/exchange.hears").run Try.prog w = .ok (some false) w := by kernel_rfl
@[local go_sem] theorem nilClient (w : World) : (nilAhead 212 94 (Value.agg #[]) "linnet/exchange.hears").run Try.prog w = .ok (some false) w := by kernel_rfl
@[local go_sem] theorem methServer (w : World) : (method 212 93 (Value.agg #[]) "linnet/exchange.hears").run Try.prog w = .ok (62, Value.agg #[]) w := by kernel_rfl
@[local go_sem] theorem methClient (w : World) : (method 212 94 (Value.agg #[]) "linnet/exchange.hears").run Try.prog w = .ok (63, Value.agg #[]) w := by kernel_rfl
set_option maxHeartbeats 2000000 in
set_option maxRecDepth 100000 in
theorem got_deaf (t : Tb) (m : Wt) (p : Tb) (n : Nat) (h1 : 1 ≤ n) (h2 : n < 31) (l v : Int) (i o : Bool) (c1 c2 c : Int) (H1 : Hid (settle p n l v = ((c1, c2), 0))) (HX : Hid (exErr t m = 0)) (HM : Hid (m n = c)) (hc : 1 ≤ c) (w : World) :
    Calls Try.prog 31 #[.agg (exA t m), .agg (tabA p), .bool true, .agg #[.int .i64 n, .int .i64 l, .bool false, .bool i, .bool o, .int .u8 v]] w fun e w' => e = .returned (.tuple #[.agg (exA t m), .slice none 0 0, .int .i64 5]) ∧ Below w.heap.size w w' := by
  have HF := hid (show isF n = true from by unfold isF; simp; omega)
  have hcz : (c == 0) = false := by simp; omega
  go_enter Try.func31, Try.ntmps31
  go_wp2_with fail
  refine (answer_ok _ _ _ _ false i o _ _ H1 _).mono ?_
  rintro e w1 ⟨rfl, hb1⟩
  have HB1 := hid (below_step (((((Below.refl w.heap.size w).alloc (by first | omega | (simp [putRow_size, drewN_heap, drew_heap] <;> omega)) _).alloc (by first | omega | (simp [putRow_size, drewN_heap, drew_heap] <;> omega)) _).alloc (by first | omega | (simp [putRow_size, drewN_heap, drew_heap] <;> omega)) _).alloc (by first | omega | (simp [putRow_size, drewN_heap, drew_heap] <;> omega)) _) (by first | omega | (simp [putRow_size, drewN_heap, drew_heap] <;> omega)) hb1)
  have hs1 : w.heap.size ≤ w1.heap.size := HB1.out.size
  have r1_0 : rowAt w1 (w.heap.size) = some (.cells (exA t m) 60 (0, 0)) := rowNext' hb1 (by rw [rowAt_old _ _ _ (by first | omega | (simp [putRow_size, drewN_heap, drew_heap] <;> omega)), rowAt_old _ _ _ (by first | omega | (simp [putRow_size, drewN_heap, drew_heap] <;> omega)), rowAt_old _ _ _ (by first | omega | (simp [putRow_size, drewN_heap, drew_heap] <;> omega)), rowAt_new _ _ _ (by first | omega | (simp [putRow_size, drewN_heap, drew_heap] <;> omega))])
  have c1_0 := lt_of_some r1_0
  have r1_1 : rowAt w1 (w.heap.size + 1) = some (.cells (tabA p) 25 (0, 0)) := rowNext' hb1 (by rw [rowAt_old _ _ _ (by first | omega | (simp [putRow_size, drewN_heap, drew_heap] <;> omega)), rowAt_old _ _ _ (by first | omega | (simp [putRow_size, drewN_heap, drew_heap] <;> omega)), rowAt_new _ _ _ (by first | omega | (simp [putRow_size, drewN_heap, drew_heap] <;> omega))])
  have c1_1 := lt_of_some r1_1
  have r1_2 : rowAt w1 (w.heap.size + 1 + 1) = some (.cells #[.int .i64 n, .int .i64 l, .bool false, .bool i, .bool o, .int .u8 v] 27 (0, 0)) := rowNext' hb1 (by rw [rowAt_old _ _ _ (by first | omega | (simp [putRow_size, drewN_heap, drew_heap] <;> omega)), rowAt_new _ _ _ (by first | omega | (simp [putRow_size, drewN_heap, drew_heap] <;> omega))])
  have c1_2 := cells6 r1_2
  have r1_3 : rowAt w1 (w.heap.size + 1 + 1 + 1) = some (.cells (exA zeroT zeroW) 60 (0, 0)) := rowNext' hb1 (by rw [rowAt_new _ _ _ (by first | omega | (simp [putRow_size, drewN_heap, drew_heap] <;> omega))])
  have c1_3 := lt_of_some r1_3
  have hne1 : w1.heap.size ≠ w.heap.size + 1 + 1 + 1 := by omega
  have hne2 : w.heap.size + 1 + 1 + 1 ≠ w1.heap.size := by omega
  have hne3 : w.heap.size ≠ w.heap.size + 1 + 1 + 1 := by omega
  go_wp2_with fail
  refine (exCheck_eq HX.out _).mono ?_
  rintro e w2 ⟨rfl, hb2⟩
  have HB2 := hid (below_step (HB1.out.alloc (by first | omega | (simp [putRow_size, drewN_heap, drew_heap] <;> omega)) _) (by first | omega | (simp [putRow_size, drewN_heap, drew_heap] <;> omega)) hb2)
  have hs2 : w.heap.size ≤ w2.heap.size := HB2.out.size
  have r2_0 : rowAt w2 (w.heap.size) = some (.cells (exA t m) 60 (0, 0)) := rowNext' hb2 (by rw [rowAt_old _ _ _ (by first | omega | (simp [putRow_size, drewN_heap, drew_heap] <;> omega))]; exact r1_0)
  have c2_0 := lt_of_some r2_0
  have r2_1 : rowAt w2 (w.heap.size + 1) = some (.cells (tabA p) 25 (0, 0)) := rowNext' hb2 (by rw [rowAt_old _ _ _ (by first | omega | (simp [putRow_size, drewN_heap, drew_heap] <;> omega))]; exact r1_1)
  have c2_1 := lt_of_some r2_1
  have r2_2 : rowAt w2 (w.heap.size + 1 + 1) = some (.cells #[.int .i64 n, .int .i64 l, .bool false, .bool i, .bool o, .int .u8 v] 27 (0, 0)) := rowNext' hb2 (by rw [rowAt_old _ _ _ (by first | omega | (simp [putRow_size, drewN_heap, drew_heap] <;> omega))]; exact r1_2)
  have c2_2 := cells6 r2_2
  have r2_3 : rowAt w2 (w.heap.size + 1 + 1 + 1) = some (.cells (exA zeroT zeroW) 60 (0, 0)) := rowNext' hb2 (by rw [rowAt_old _ _ _ (by first | omega | (simp [putRow_size, drewN_heap, drew_heap] <;> omega))]; exact r1_3)
  have c2_3 := lt_of_some r2_3
  have r2_4 : rowAt w2 (w1.heap.size) = some (.cells #[.int .i64 n, .int .i64 c1, .bool true, .bool i, .bool o, .int .u8 c2] 27 (0, 0)) := rowNext' hb2 (by rw [rowAt_new _ _ _ (by first | omega | (simp [putRow_size, drewN_heap, drew_heap] <;> omega))])
  have c2_4 := cells6 r2_4
  clear r1_0 c1_0 r1_1 c1_1 r1_2 c1_2 r1_3 c1_3 hb1 HB1 hs1
  go_wp2_with fail
  refine (exFunction_is HF.out _).mono ?_
  rintro e w3 ⟨rfl, hb3⟩
  have HB3 := hid (below_step HB2.out (by first | omega | (simp [putRow_size, drewN_heap, drew_heap] <;> omega)) hb3)
  have hs3 : w.heap.size ≤ w3.heap.size := HB3.out.size
  have r3_0 : rowAt w3 (w.heap.size) = some (.cells (exA t m) 60 (0, 0)) := rowNext' hb3 r2_0
  have c3_0 := lt_of_some r3_0
  have r3_1 : rowAt w3 (w.heap.size + 1) = some (.cells (tabA p) 25 (0, 0)) := rowNext' hb3 r2_1
  have c3_1 := lt_of_some r3_1
  have r3_2 : rowAt w3 (w.heap.size + 1 + 1) = some (.cells #[.int .i64 n, .int .i64 l, .bool false, .bool i, .bool o, .int .u8 v] 27 (0, 0)) := rowNext' hb3 r2_2
  have c3_2 := cells6 r3_2
  have r3_3 : rowAt w3 (w.heap.size + 1 + 1 + 1) = some (.cells (exA zeroT zeroW) 60 (0, 0)) := rowNext' hb3 r2_3
  have c3_3 := lt_of_some r3_3
  have r3_4 : rowAt w3 (w1.heap.size) = some (.cells #[.int .i64 n, .int .i64 c1, .bool true, .bool i, .bool o, .int .u8 c2] 27 (0, 0)) := rowNext' hb3 r2_4
  have c3_4 := cells6 r3_4
  clear r2_0 c2_0 r2_1 c2_1 r2_2 c2_2 r2_3 c2_3 r2_4 c2_4 hb2 HB2 hs2
  have k0 : w3.cell? ⟨w.heap.size, 62 + n, none⟩ = some (.int .i64 c) := by rw [cell_of_row w3 _ _ _ _ _ r3_0, exA_wait t m n h2, HM.out]
  have hn0 : (0 : Int) ≤ (n : Int) := by omega
  have hn31 : (n : Int) < 31 := by omega
  go_upto_region 8 with fail
  have q : ∀ x : Good w3, x.u.cell? ⟨w.heap.size + 1 + 1, 0, none⟩ = some (.int .i64 n) ∧ x.u.cell? ⟨w.heap.size, 62 + n, none⟩ = some (.int .i64 c) := by
    intro x; exact ⟨(cells6 (rowNext' x.b r3_2)).1, by rw [cell_of_row x.u _ _ _ _ _ (rowNext' x.b r3_0), exA_wait t m n h2, HM.out]⟩
  have HQQ := hid q
  clear q
  go_region_held3 (fun w' => w'.cell? ⟨w.heap.size + 1 + 1, 0, none⟩ = some (.int .i64 n) ∧ w'.cell? ⟨w.heap.size, 62 + n, none⟩ = some (.int .i64 c))
    (exact HQQ.out ⟨_, by first | exact Below.refl _ _ | exact (Below.refl _ _).drew | exact hb9' | exact hb9'.drew | exact hb9'.alloc hb9'.size _ | exact ((Below.refl _ _).alloc (Nat.le_refl _) _).drew⟩)
    (first | (go_at_call 45; (with_reducible refine (exKind true _).mono ?_); rintro e w9 ⟨rfl, hb9⟩; have hb9' := below9 (w3 := w3) hb9) | (go_at_call 62; (with_reducible refine (serverHears c _).mono ?_); rintro e w8 ⟨rfl, hb8⟩; have hb9' := hb9'.trans (hb8.mono hb9'.size)))
  have r8 := rowNext' hb9' r3_0
  have r8_3 := rowNext' hb9' r3_3
  have l8 := lt_of_some r8_3
  have HB8 := hid (HB3.out.trans (hb9'.mono hs3))
  clear hb9' hb8 hb9
  go_wp2_with fail
  exact bodyPost_ret (v := .tuple #[.agg (exA t m), .slice none 0 0, .int .i64 5]) (results_row_tmp2 Try.results31 _ _ (w.heap.size + 1 + 1 + 1) 60 (exA t m) (0, 0) _ rfl (by show rowAt _ _ = _; rw [rowAt_put _ _ _ _ l8]) Try.underlying60 rfl (by rw [exA_size]; exact sizeExch) (.slice none 0 0) (.int .i64 5) rfl rfl) rfl ⟨rfl, below_putRow HB8.out _ _ _ (by omega)⟩

end Go.Proofs.Ytjghmgpmaallfaa
