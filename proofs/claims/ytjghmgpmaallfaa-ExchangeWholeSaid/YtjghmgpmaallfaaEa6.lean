/-
  The walk of ExchangeWhole.
-/
import Derived.Test.YtjghmgpmaallfaaEbg
import Derived.Test.YtjghmgpmaallfaaExs
import Derived.Test.YtjghmgpmaallfaaR09d
import Derived.Deep.QuietTactic
import Derived.BigQuiet
import Derived.Deep.CutRange
namespace Go.Proofs.Ytjghmgpmaallfaa
open Go.RowKit
set_option linter.unusedVariables false
set_option linter.unusedSimpArgs false

set_option maxHeartbeats 2000000 in
set_option maxRecDepth 100000 in
theorem whole_q0 (p q : Tb) (HP : Hid (tabErr p = 1)) (HQ : Hid (tabErr q = 0)) (w : World) :
    Calls Try.prog 14 #[.agg (tabA p), .agg (tabA q)] w fun e w' => e = .returned (.bool true) ∧ Below w.heap.size w w' := by
  go_enter Try.func14, Try.ntmps14
  go_wp2_with fail
  refine (begin_no p true HP.out _).mono ?_
  rintro e w1 ⟨rfl, hb1⟩
  have HB1 := hid (below_step (((Below.refl w.heap.size w).alloc (by first | omega | (simp [putRow_size, drewN_heap, drew_heap] <;> omega)) _).alloc (by first | omega | (simp [putRow_size, drewN_heap, drew_heap] <;> omega)) _) (by first | omega | (simp [putRow_size, drewN_heap, drew_heap] <;> omega)) hb1)
  have hs1 : w.heap.size ≤ w1.heap.size := HB1.out.size
  have r1_0 : rowAt w1 (w.heap.size) = some (.cells (tabA p) 25 (0, 0)) := rowNext' hb1 (by rw [rowAt_old _ _ _ (by first | omega | (simp [putRow_size, drewN_heap, drew_heap] <;> omega)), rowAt_new _ _ _ (by first | omega | (simp [putRow_size, drewN_heap, drew_heap] <;> omega))])
  have c1_0 := lt_of_some r1_0
  have r1_1 : rowAt w1 (w.heap.size + 1) = some (.cells (tabA q) 25 (0, 0)) := rowNext' hb1 (by rw [rowAt_new _ _ _ (by first | omega | (simp [putRow_size, drewN_heap, drew_heap] <;> omega))])
  have c1_1 := lt_of_some r1_1
  go_wp2_with fail
  refine (begin_c q HQ.out _).mono ?_
  rintro e w2 ⟨rfl, hb2⟩
  have HB2 := hid (below_step (HB1.out.alloc (by first | omega | (simp [putRow_size, drewN_heap, drew_heap] <;> omega)) _) (by first | omega | (simp [putRow_size, drewN_heap, drew_heap] <;> omega)) hb2)
  have hs2 : w.heap.size ≤ w2.heap.size := HB2.out.size
  have r2_0 : rowAt w2 (w.heap.size) = some (.cells (tabA p) 25 (0, 0)) := rowNext' hb2 (by rw [rowAt_old _ _ _ (by first | omega | (simp [putRow_size, drewN_heap, drew_heap] <;> omega))]; exact r1_0)
  have c2_0 := lt_of_some r2_0
  have r2_1 : rowAt w2 (w.heap.size + 1) = some (.cells (tabA q) 25 (0, 0)) := rowNext' hb2 (by rw [rowAt_old _ _ _ (by first | omega | (simp [putRow_size, drewN_heap, drew_heap] <;> omega))]; exact r1_1)
  have c2_1 := lt_of_some r2_1
  have r2_2 : rowAt w2 (w1.heap.size) = some (.cells (exA zeroT zeroW) 60 (0, 0)) := rowNext' hb2 (by rw [rowAt_new _ _ _ (by first | omega | (simp [putRow_size, drewN_heap, drew_heap] <;> omega))])
  have c2_2 := lt_of_some r2_2
  clear r1_0 c1_0 r1_1 c1_1 hb1 HB1 hs1
  go_wp2_with fail
  refine (awake17 _).mono ?_
  rintro e w3 ⟨rfl, hb3⟩
  have HB3 := hid (below_step (HB2.out.alloc (by first | omega | (simp [putRow_size, drewN_heap, drew_heap] <;> omega)) _) (by first | omega | (simp [putRow_size, drewN_heap, drew_heap] <;> omega)) hb3)
  have hs3 : w.heap.size ≤ w3.heap.size := HB3.out.size
  have r3_0 : rowAt w3 (w.heap.size) = some (.cells (tabA p) 25 (0, 0)) := rowNext' hb3 (by rw [rowAt_old _ _ _ (by first | omega | (simp [putRow_size, drewN_heap, drew_heap] <;> omega))]; exact r2_0)
  have c3_0 := lt_of_some r3_0
  have r3_1 : rowAt w3 (w.heap.size + 1) = some (.cells (tabA q) 25 (0, 0)) := rowNext' hb3 (by rw [rowAt_old _ _ _ (by first | omega | (simp [putRow_size, drewN_heap, drew_heap] <;> omega))]; exact r2_1)
  have c3_1 := lt_of_some r3_1
  have r3_2 : rowAt w3 (w1.heap.size) = some (.cells (exA zeroT zeroW) 60 (0, 0)) := rowNext' hb3 (by rw [rowAt_old _ _ _ (by first | omega | (simp [putRow_size, drewN_heap, drew_heap] <;> omega))]; exact r2_2)
  have c3_2 := lt_of_some r3_2
  have r3_3 : rowAt w3 (w2.heap.size) = some (.cells (exA q zeroW) 60 (0, 0)) := rowNext' hb3 (by rw [rowAt_new _ _ _ (by first | omega | (simp [putRow_size, drewN_heap, drew_heap] <;> omega))])
  have c3_3 := lt_of_some r3_3
  clear r2_0 c2_0 r2_1 c2_1 r2_2 c2_2 hb2 HB2 hs2
  go_wp2_with fail
  go_ret
  exact ⟨rfl, HB3.out⟩

set_option maxHeartbeats 2000000 in
set_option maxRecDepth 100000 in
theorem whole_q1 (p q : Tb) (HP : Hid (tabErr p = 1)) (HQ : Hid (tabErr q = 1)) (w : World) :
    Calls Try.prog 14 #[.agg (tabA p), .agg (tabA q)] w fun e w' => e = .returned (.bool true) ∧ Below w.heap.size w w' := by
  go_enter Try.func14, Try.ntmps14
  go_wp2_with fail
  refine (begin_no p true HP.out _).mono ?_
  rintro e w1 ⟨rfl, hb1⟩
  have HB1 := hid (below_step (((Below.refl w.heap.size w).alloc (by first | omega | (simp [putRow_size, drewN_heap, drew_heap] <;> omega)) _).alloc (by first | omega | (simp [putRow_size, drewN_heap, drew_heap] <;> omega)) _) (by first | omega | (simp [putRow_size, drewN_heap, drew_heap] <;> omega)) hb1)
  have hs1 : w.heap.size ≤ w1.heap.size := HB1.out.size
  have r1_0 : rowAt w1 (w.heap.size) = some (.cells (tabA p) 25 (0, 0)) := rowNext' hb1 (by rw [rowAt_old _ _ _ (by first | omega | (simp [putRow_size, drewN_heap, drew_heap] <;> omega)), rowAt_new _ _ _ (by first | omega | (simp [putRow_size, drewN_heap, drew_heap] <;> omega))])
  have c1_0 := lt_of_some r1_0
  have r1_1 : rowAt w1 (w.heap.size + 1) = some (.cells (tabA q) 25 (0, 0)) := rowNext' hb1 (by rw [rowAt_new _ _ _ (by first | omega | (simp [putRow_size, drewN_heap, drew_heap] <;> omega))])
  have c1_1 := lt_of_some r1_1
  go_wp2_with fail
  refine (begin_no q false HQ.out _).mono ?_
  rintro e w2 ⟨rfl, hb2⟩
  have HB2 := hid (below_step (HB1.out.alloc (by first | omega | (simp [putRow_size, drewN_heap, drew_heap] <;> omega)) _) (by first | omega | (simp [putRow_size, drewN_heap, drew_heap] <;> omega)) hb2)
  have hs2 : w.heap.size ≤ w2.heap.size := HB2.out.size
  have r2_0 : rowAt w2 (w.heap.size) = some (.cells (tabA p) 25 (0, 0)) := rowNext' hb2 (by rw [rowAt_old _ _ _ (by first | omega | (simp [putRow_size, drewN_heap, drew_heap] <;> omega))]; exact r1_0)
  have c2_0 := lt_of_some r2_0
  have r2_1 : rowAt w2 (w.heap.size + 1) = some (.cells (tabA q) 25 (0, 0)) := rowNext' hb2 (by rw [rowAt_old _ _ _ (by first | omega | (simp [putRow_size, drewN_heap, drew_heap] <;> omega))]; exact r1_1)
  have c2_1 := lt_of_some r2_1
  have r2_2 : rowAt w2 (w1.heap.size) = some (.cells (exA zeroT zeroW) 60 (0, 0)) := rowNext' hb2 (by rw [rowAt_new _ _ _ (by first | omega | (simp [putRow_size, drewN_heap, drew_heap] <;> omega))])
  have c2_2 := lt_of_some r2_2
  clear r1_0 c1_0 r1_1 c1_1 hb1 HB1 hs1
  go_wp2_with fail
  refine (awake17 _).mono ?_
  rintro e w3 ⟨rfl, hb3⟩
  have HB3 := hid (below_step (HB2.out.alloc (by first | omega | (simp [putRow_size, drewN_heap, drew_heap] <;> omega)) _) (by first | omega | (simp [putRow_size, drewN_heap, drew_heap] <;> omega)) hb3)
  have hs3 : w.heap.size ≤ w3.heap.size := HB3.out.size
  have r3_0 : rowAt w3 (w.heap.size) = some (.cells (tabA p) 25 (0, 0)) := rowNext' hb3 (by rw [rowAt_old _ _ _ (by first | omega | (simp [putRow_size, drewN_heap, drew_heap] <;> omega))]; exact r2_0)
  have c3_0 := lt_of_some r3_0
  have r3_1 : rowAt w3 (w.heap.size + 1) = some (.cells (tabA q) 25 (0, 0)) := rowNext' hb3 (by rw [rowAt_old _ _ _ (by first | omega | (simp [putRow_size, drewN_heap, drew_heap] <;> omega))]; exact r2_1)
  have c3_1 := lt_of_some r3_1
  have r3_2 : rowAt w3 (w1.heap.size) = some (.cells (exA zeroT zeroW) 60 (0, 0)) := rowNext' hb3 (by rw [rowAt_old _ _ _ (by first | omega | (simp [putRow_size, drewN_heap, drew_heap] <;> omega))]; exact r2_2)
  have c3_2 := lt_of_some r3_2
  have r3_3 : rowAt w3 (w2.heap.size) = some (.cells (exA zeroT zeroW) 60 (0, 0)) := rowNext' hb3 (by rw [rowAt_new _ _ _ (by first | omega | (simp [putRow_size, drewN_heap, drew_heap] <;> omega))])
  have c3_3 := lt_of_some r3_3
  clear r2_0 c2_0 r2_1 c2_1 r2_2 c2_2 hb2 HB2 hs2
  go_wp2_with fail
  go_ret
  exact ⟨rfl, HB3.out⟩

set_option maxHeartbeats 2000000 in
set_option maxRecDepth 100000 in
theorem whole_p (p q : Tb) (HP : Hid (tabErr p = 0)) (HQ : Hid (tabErr q = 1)) (w : World) :
    Calls Try.prog 14 #[.agg (tabA p), .agg (tabA q)] w fun e w' => e = .returned (.bool true) ∧ Below w.heap.size w w' := by
  go_enter Try.func14, Try.ntmps14
  go_wp2_with fail
  refine (begin_s p HP.out _).mono ?_
  rintro e w1 ⟨g, rfl, ht1, hg1, hg1l, hb1⟩
  have hG : w.heap.size ≤ g := by first | omega | (simp [putRow_size, drewN_heap, drew_heap] at hg1; omega)
  have HT1 : Hid (Tris w1 g p) := hid ht1
  clear ht1 hg1
  have HB1 := hid (below_step (((Below.refl w.heap.size w).alloc (by first | omega | (simp [putRow_size, drewN_heap, drew_heap] <;> omega)) _).alloc (by first | omega | (simp [putRow_size, drewN_heap, drew_heap] <;> omega)) _) (by first | omega | (simp [putRow_size, drewN_heap, drew_heap] <;> omega)) hb1)
  have hs1 : w.heap.size ≤ w1.heap.size := HB1.out.size
  have r1_0 : rowAt w1 (w.heap.size) = some (.cells (tabA p) 25 (0, 0)) := rowNext' hb1 (by rw [rowAt_old _ _ _ (by first | omega | (simp [putRow_size, drewN_heap, drew_heap] <;> omega)), rowAt_new _ _ _ (by first | omega | (simp [putRow_size, drewN_heap, drew_heap] <;> omega))])
  have c1_0 := lt_of_some r1_0
  have r1_1 : rowAt w1 (w.heap.size + 1) = some (.cells (tabA q) 25 (0, 0)) := rowNext' hb1 (by rw [rowAt_new _ _ _ (by first | omega | (simp [putRow_size, drewN_heap, drew_heap] <;> omega))])
  have c1_1 := lt_of_some r1_1
  go_wp2_with fail
  refine (begin_no q false HQ.out _).mono ?_
  rintro e w2 ⟨rfl, hb2⟩
  have HB2 := hid (below_step (HB1.out.alloc (by first | omega | (simp [putRow_size, drewN_heap, drew_heap] <;> omega)) _) (by first | omega | (simp [putRow_size, drewN_heap, drew_heap] <;> omega)) hb2)
  have hs2 : w.heap.size ≤ w2.heap.size := HB2.out.size
  have r2_0 : rowAt w2 (w.heap.size) = some (.cells (tabA p) 25 (0, 0)) := rowNext' hb2 (by rw [rowAt_old _ _ _ (by first | omega | (simp [putRow_size, drewN_heap, drew_heap] <;> omega))]; exact r1_0)
  have c2_0 := lt_of_some r2_0
  have r2_1 : rowAt w2 (w.heap.size + 1) = some (.cells (tabA q) 25 (0, 0)) := rowNext' hb2 (by rw [rowAt_old _ _ _ (by first | omega | (simp [putRow_size, drewN_heap, drew_heap] <;> omega))]; exact r1_1)
  have c2_1 := lt_of_some r2_1
  have r2_2 : rowAt w2 (w1.heap.size) = some (.cells (exA p (onesTo 31)) 60 (0, 0)) := rowNext' hb2 (by rw [rowAt_new _ _ _ (by first | omega | (simp [putRow_size, drewN_heap, drew_heap] <;> omega))])
  have c2_2 := lt_of_some r2_2
  clear r1_0 c1_0 r1_1 c1_1 hb1 HB1 hs1
  go_wp2_with fail
  refine (awake17 _).mono ?_
  rintro e w3 ⟨rfl, hb3⟩
  have HB3 := hid (below_step (HB2.out.alloc (by first | omega | (simp [putRow_size, drewN_heap, drew_heap] <;> omega)) _) (by first | omega | (simp [putRow_size, drewN_heap, drew_heap] <;> omega)) hb3)
  have hs3 : w.heap.size ≤ w3.heap.size := HB3.out.size
  have r3_0 : rowAt w3 (w.heap.size) = some (.cells (tabA p) 25 (0, 0)) := rowNext' hb3 (by rw [rowAt_old _ _ _ (by first | omega | (simp [putRow_size, drewN_heap, drew_heap] <;> omega))]; exact r2_0)
  have c3_0 := lt_of_some r3_0
  have r3_1 : rowAt w3 (w.heap.size + 1) = some (.cells (tabA q) 25 (0, 0)) := rowNext' hb3 (by rw [rowAt_old _ _ _ (by first | omega | (simp [putRow_size, drewN_heap, drew_heap] <;> omega))]; exact r2_1)
  have c3_1 := lt_of_some r3_1
  have r3_2 : rowAt w3 (w1.heap.size) = some (.cells (exA p (onesTo 31)) 60 (0, 0)) := rowNext' hb3 (by rw [rowAt_old _ _ _ (by first | omega | (simp [putRow_size, drewN_heap, drew_heap] <;> omega))]; exact r2_2)
  have c3_2 := lt_of_some r3_2
  have r3_3 : rowAt w3 (w2.heap.size) = some (.cells (exA zeroT zeroW) 60 (0, 0)) := rowNext' hb3 (by rw [rowAt_new _ _ _ (by first | omega | (simp [putRow_size, drewN_heap, drew_heap] <;> omega))])
  have c3_3 := lt_of_some r3_3
  clear r2_0 c2_0 r2_1 c2_1 r2_2 c2_2 hb2 HB2 hs2
  go_wp2_with fail
  go_ret
  exact ⟨rfl, HB3.out⟩

/-- what is settled of the server's proposals, of the functions up to k. -/
def dealt (p q : Tb) (i : Nat) : Int × Int := (settle q i (p i).1 (p i).2).1
def upTo (p q u : Tb) (k : Nat) : Tb := fun i => if 1 ≤ i ∧ i ≤ k then dealt p q i else u i
def onesFrom (k : Nat) : Wt := fun i => if k < i ∧ i < 31 then 1 else 0
theorem upTo_zero (p q u : Tb) : upTo p q u 0 = u := by funext i; unfold upTo; rw [if_neg (by omega)]
theorem upTo_succ (p q u : Tb) (k : Nat) : upd (upTo p q u k) (k + 1) (dealt p q (k + 1)) = upTo p q u (k + 1) := by
  funext i
  unfold upd upTo
  by_cases e : i = k + 1
  · subst e; rw [if_pos rfl, if_pos (by omega)]
  · rw [if_neg e]
    by_cases h : 1 ≤ i ∧ i ≤ k
    · rw [if_pos h, if_pos (by omega)]
    · rw [if_neg h, if_neg (by omega)]
theorem upTo_at (p q u : Tb) {k i : Nat} (h1 : 1 ≤ i) (h2 : i ≤ k) : upTo p q u k i = dealt p q i := by unfold upTo; rw [if_pos ⟨h1, h2⟩]
theorem onesFrom_zero : onesFrom 0 = onesTo 31 := by funext i; unfold onesFrom onesTo; by_cases h : 0 < i ∧ i < 31 <;> simp [h] <;> omega
theorem onesFrom_succ (k : Nat) (hk : k < 30) : updW (onesFrom k) (k + 1) (onesFrom k (k + 1) - 1) = onesFrom (k + 1) := by
  funext i
  unfold updW onesFrom
  by_cases e : i = k + 1
  · subst e; rw [if_pos rfl, if_neg (show ¬ (k + 1 < k + 1 ∧ k + 1 < 31) by omega)]
    rw [if_pos (by omega)]; rfl
  · rw [if_neg e]
    by_cases h : k < i ∧ i < 31
    · rw [if_pos h, if_pos (by omega)]
    · rw [if_neg h, if_neg (by omega)]
theorem zeroW_same (k : Nat) : updW zeroW k 0 = zeroW := by funext i; unfold updW zeroW; split <;> rfl
theorem onesFrom_all : onesFrom 30 = zeroW := by funext i; unfold onesFrom zeroW; rw [if_neg (by omega)]
theorem onesFrom_ok (k : Nat) : wtsOk (onesFrom k) := by
  intro f hf; unfold wtOk onesFrom
  by_cases h : k < f ∧ f < 31
  · rw [if_pos h]; omega
  · rw [if_neg h]; omega
theorem upTo_ok {p q u : Tb} (hq : tabOk q) (hu : tabOk u) (hp : tabOk p) (k : Nat) (hk : k ≤ 30) : tabOk (upTo p q u k) := by
  intro f hf
  unfold upTo
  by_cases h : 1 ≤ f ∧ f ≤ k
  · rw [if_pos h]
    obtain ⟨k0, k1, _, _⟩ := hp f hf
    have hs : settle q f (p f).1 (p f).2 = (((dealt p q f).1, (dealt p q f).2), 0) := by
      unfold dealt settle; rw [if_pos ⟨hq, by omega, by omega, by omega, by omega⟩]
    have r := settle_range hs
    exact ⟨r.1, r.2.1, r.2.2, by omega⟩
  · rw [if_neg h]; exact hu f hf
theorem dealt_is {p q : Tb} (hp : tabOk p) (hq : tabOk q) {n : Nat} (h2 : n < 31) : settle q n (p n).1 (p n).2 = (((dealt p q n).1, (dealt p q n).2), 0) := by
  obtain ⟨k0, k1, _, _⟩ := hp n h2
  unfold dealt settle; rw [if_pos ⟨hq, by omega, by omega, by omega, by omega⟩]
/-- a round, said of the client. -/
theorem round_c {p q : Tb} (hp : tabOk p) (hq : tabOk q) {k : Nat} (hk : k < 30) {a1 a2 d1 d2 : Int} (ha : p (k + 1) = (a1, a2)) (hd : dealt p q (k + 1) = (d1, d2)) :
    settle q ((k : Int) + 1) a1 a2 = ((d1, d2), 0) ∧ gotR (upTo p q q k) zeroW q false ((k : Int) + 1) a1 a2 false = ((upTo p q q (k + 1), zeroW), some (d1, d2), 0) := by
  have hs := dealt_is hp hq (n := k + 1) (by omega)
  rw [ha, hd] at hs
  have hc : (((k + 1 : Nat) : Int)) = (k : Int) + 1 := by omega
  rw [hc] at hs
  refine ⟨hs, ?_⟩
  have hf : isF ((k : Int) + 1) = true := by unfold isF; simp; omega
  have hx := ex_good wts_zero (upTo_ok hq hq hp k (by omega))
  have hr := settle_range hs
  have hn : ((k : Int) + 1).toNat = k + 1 := by omega
  have e : toldC d1 d2 = dealt p q (k + 1) := by rw [toldC_same hr.2.1 hr.2.2, hd]
  unfold gotR
  rw [if_pos ⟨hx, by rw [hs]⟩, if_neg (by simp), if_pos hf, if_neg (by simp), hs, hn]
  simp only
  rw [e, upTo_succ, zeroW_same]
theorem round_s {p q : Tb} (hp : tabOk p) (hq : tabOk q) {k : Nat} (hk : k < 30) {d1 d2 : Int} (hd : dealt p q (k + 1) = (d1, d2)) :
    gotR (upTo p q p k) (onesFrom k) p true ((k : Int) + 1) d1 d2 true = ((upTo p q p (k + 1), onesFrom (k + 1)), none, 0) := by
  have hs := dealt_is hp hq (n := k + 1) (by omega)
  rw [hd] at hs
  have hr := settle_range hs
  have hf : isF ((k : Int) + 1) = true := by unfold isF; simp; omega
  have hx := ex_good (onesFrom_ok k) (upTo_ok hq hp hp k (by omega))
  have hn : ((k : Int) + 1).toNat = k + 1 := by omega
  have e : toldC d1 d2 = dealt p q (k + 1) := by rw [toldC_same hr.2.1 hr.2.2, hd]
  have h2 : (settle p ((k : Int) + 1) d1 d2).2 = 0 := by
    unfold settle; rw [if_pos ⟨hp, by omega, by omega, hr.1, by omega⟩]
  unfold gotR
  rw [if_pos ⟨hx, h2⟩, if_pos rfl, if_pos ⟨hf, by rw [hn]; unfold onesFrom; rw [if_pos (by omega)]; omega⟩, hn, e, upTo_succ, onesFrom_succ k hk]
theorem dealt_end {p q : Tb} (hp : tabOk p) (hq : tabOk q) : sameEx (upTo p q q 30) (upTo p q p 30) zeroW (onesFrom 30) = true := by
  rw [sameEx_iff]
  refine ⟨fun i hi => ?_, fun i hi => by rw [onesFrom_all]⟩
  unfold upTo
  by_cases h : 1 ≤ i ∧ i ≤ 30
  · rw [if_pos h, if_pos h]
  · rw [if_neg h, if_neg h]
    obtain rfl : i = 0 := by omega
    have a := (hp 0 (by omega)).2.2.2 rfl
    have b := (hq 0 (by omega)).2.2.2 rfl
    exact Prod.ext (b.1.trans a.1.symm) (b.2.trans a.2.symm)
end Go.Proofs.Ytjghmgpmaallfaa
