/-
  A queue of triples in memory: a slice that begins anywhere in a row of the call's own; append, and what is cut off ahead.
-/
import Derived.Test.YtjghmgpmaallfaaMg
import Derived.Test.YtjghmgpmaallfaaWho
namespace Go.Proofs.Ytjghmgpmaallfaa
open Go.RowKit
set_option linter.unusedVariables false
set_option linter.unusedSimpArgs false

def msgC (x : Msg) : List Value := [.int .i64 x.f, .int .i64 x.l, .bool x.a, .bool x.i, .bool x.o, .int .u8 x.v]
def msgsC (q : List Msg) : List Value := q.flatMap msgC
theorem msgsC_len (q : List Msg) : (msgsC q).length = q.length * 6 := by
  induction q with
  | nil => rfl
  | cons x q ih => have : msgsC (x :: q) = msgC x ++ msgsC q := by simp [msgsC]
                   rw [this, List.length_append, ih]; simp [msgC]; omega
theorem msgsC_cons (x : Msg) (q : List Msg) : msgsC (x :: q) = msgC x ++ msgsC q := by simp [msgsC]
theorem msgsC_snoc (q : List Msg) (x : Msg) : msgsC (q ++ [x]) = msgsC q ++ msgC x := by simp [msgsC, List.flatMap_append]
theorem msgC_one (x : Msg) : ∀ u ∈ msgC x, u.oneCell' = true := by
  intro u hu
  simp [msgC] at hu
  rcases hu with rfl | rfl | rfl | rfl | rfl | rfl <;> rfl
def HasQ (w : World) (B : Nat) (v : Value) (q : List Msg) : Prop :=
  (v = .slice none 0 0 ∧ q = []) ∨ ∃ g off cap cur, v = .slice (some ⟨g, off, none⟩) q.length cap ∧ B ≤ g ∧ rowAt w g = some (.cells cur 27 (0, 0)) ∧ q.length ≤ cap ∧ cap ≤ maxLen ∧ off + cap * 6 ≤ cur.size ∧ (cur.toList.drop off).take (q.length * 6) = msgsC q
theorem HasQ.kept {w w' : World} {B : Nat} {v : Value} {q : List Msg} (h : HasQ w B v q) (hk : ∀ k, v.ownBlock = some k → rowAt w' k = rowAt w k) : HasQ w' B v q := by
  rcases h with h | ⟨g, off, cap, cur, rfl, hB, hr, rest⟩
  · exact .inl h
  · exact .inr ⟨g, off, cap, cur, rfl, hB, (hk g rfl).trans hr, rest⟩
theorem HasQ.below {w w' : World} {B : Nat} {v : Value} {q : List Msg} (h : HasQ w B v q) (hb : Below w.heap.size w w') : HasQ w' B v q := by
  rcases h with h | ⟨g, off, cap, cur, rfl, hB, hr, rest⟩
  · exact .inl h
  · exact .inr ⟨g, off, cap, cur, rfl, hB, rowNext' hb hr, rest⟩
theorem HasQ.lt {w : World} {B : Nat} {v : Value} {q : List Msg} (h : HasQ w B v q) {k : Nat} (hk : v.ownBlock = some k) : B ≤ k ∧ k < w.heap.size := by
  rcases h with ⟨rfl, _⟩ | ⟨g, off, cap, cur, rfl, hB, hr, rest⟩
  · cases hk
  · simp [Value.ownBlock] at hk; subst hk; exact ⟨hB, lt_of_some hr⟩
/-- how a queue's value looks. -/
theorem HasQ.form {w : World} {B : Nat} {v : Value} {q : List Msg} (h : HasQ w B v q) : ∃ ad cap, v = .slice ad q.length cap := by
  rcases h with ⟨rfl, rfl⟩ | ⟨g, off, cap, cur, rfl, _⟩
  · exact ⟨none, 0, rfl⟩
  · exact ⟨_, cap, rfl⟩
/-- the first of a queue, and the rest. -/
theorem HasQ.first {w : World} {B : Nat} {v : Value} {x : Msg} {q : List Msg} (h : HasQ w B v (x :: q)) :
    ∃ g off cap, v = .slice (some ⟨g, off, none⟩) (q.length + 1) cap ∧ q.length + 1 ≤ cap ∧ cap ≤ maxLen ∧ B ≤ g ∧ g < w.heap.size ∧ (∀ j u, (msgC x)[j]? = some u → w.cell? ⟨g, off + j, none⟩ = some u) ∧ (∀ o, w.frozen? ⟨g, o, none⟩ = false) ∧
      HasQ w B (.slice (if cap = 1 then some ⟨g, off, none⟩ else some ⟨g, off + 6, none⟩) q.length (cap - 1)) q := by
  rcases h with ⟨_, h⟩ | ⟨g, off, cap, cur, rfl, hB, hr, hn, hm, hs, ht⟩
  · cases h
  · simp only [List.length_cons] at hn ht ⊢
    refine ⟨g, off, cap, rfl, hn, hm, hB, lt_of_some hr, fun j u hu => ?_, frozenRow hr, ?_⟩
    · have hj : j < 6 := by
        rcases Nat.lt_or_ge j 6 with h | h
        · exact h
        · rw [List.getElem?_eq_none (by simpa [msgC] using h)] at hu; cases hu
      rw [cell_of_row w g (off + j) _ _ _ hr]
      have e : ((cur.toList.drop off).take ((q.length + 1) * 6))[j]? = some u := by
        rw [ht, msgsC_cons, List.getElem?_append_left (by simpa [msgC] using hj)]; exact hu
      rw [List.getElem?_take, if_pos (by omega), List.getElem?_drop] at e
      simpa using e
    · by_cases h1 : cap = 1
      · have hq : q = [] := List.eq_nil_of_length_eq_zero (by omega)
        subst hq
        rw [if_pos h1]
        exact .inr ⟨g, off, cap - 1, cur, rfl, hB, hr, by simp, by omega, by omega, by simp [msgsC]⟩
      rw [if_neg h1]
      refine .inr ⟨g, off + 6, cap - 1, cur, rfl, hB, hr, by omega, by omega, by omega, ?_⟩
      have e := congrArg (List.drop 6) ht
      rw [msgsC_cons, List.drop_append_of_le_length (by simp [msgC]), show (msgC x).drop 6 = [] from rfl, List.nil_append, List.drop_take, List.drop_drop] at e
      rw [← e]
      congr 1
      omega
theorem q_snoc (L N : List Value) (off n : Nat) (hL : off + (n + 1) * 6 ≤ L.length) (hN : N.length = 6) :
    ((L.take (off + n * 6 + 0) ++ N ++ L.drop (off + n * 6 + 0 + N.length)).drop off).take ((n + 1) * 6) = (L.drop off).take (n * 6) ++ N := by
  have h1 : (L.take (off + n * 6)).drop off = (L.drop off).take (n * 6) := by rw [List.drop_take]; congr 1; omega
  have h2 : ((L.drop off).take (n * 6)).length = n * 6 := by rw [List.length_take, List.length_drop]; omega
  simp only [Nat.add_zero]
  rw [List.append_assoc, List.drop_append_of_le_length (by rw [List.length_take]; omega), h1]
  generalize (L.drop off).take (n * 6) = X at h2
  rw [List.take_append, h2, show (n + 1) * 6 - n * 6 = 6 by omega, List.take_append_of_le_length (by omega), List.take_of_length_le (show N.length ≤ 6 by omega), List.take_of_length_le (show X.length ≤ (n + 1) * 6 by omega)]
set_option maxHeartbeats 1000000 in
/-- append of one triple. -/
theorem run_append_q {w : World} {B : Nat} {v : Value} {q : List Msg} (h : HasQ w B v q) (hB : B ≤ w.heap.size) {g c : Nat} {x : Msg} (hx : rowAt w g = some (.cells (msgC x).toArray 27 (0, 0))) (hl : q.length ≤ 1000000) (ty : TypeId) :
    ∃ v' w', (Builtin.append_ #[46, 46] ty #[v, .slice (some ⟨g, 0, none⟩) 1 c]).run Try.prog w = .ok v' w' ∧ HasQ w' B v' (q ++ [x]) ∧ w.grownBy w' v.ownBlock ∧ (v'.ownBlock = v.ownBlock ∨ v'.ownBlock = some w.heap.size) := by
  obtain ⟨i0, hi, hz, hs, hy⟩ := info_parts info27
  have hnews : ∀ j u, (msgC x)[j]? = some u → w.cell? ((⟨g, 0, none⟩ : Addr).add j) = some u := by
    intro j u hu
    have ha : (⟨g, 0, none⟩ : Addr).add j = ⟨g, j, none⟩ := by unfold Addr.add; split <;> simp_all
    rw [ha, cell_of_row w g j _ _ _ hx]
    simpa using hu
  have hln : (msgC x).length = 1 * i0.size := by rw [hs]; rfl
  have hqx : (q ++ [x]).length = q.length + 1 := by simp
  rcases h with ⟨rfl, rfl⟩ | ⟨g', off, cap, cur, rfl, hBg, hr, hn, hm, hsz, ht⟩
  · have hr := run_append_nil (P := Try.prog) w 46 ty 27 i0 _ Try.underlying46 hi hz ⟨g, 0, none⟩ 1 c (msgC x) hln hnews (by omega) (by omega) (by rw [hy]; omega)
    refine ⟨_, _, hr, .inr ⟨w.heap.size, 0, grownCap w 1 0 27, _, rfl, hB, rowAt_new _ _ _ rfl, grownCap_ge w 1 0 _, grownCap_le_maxLen w 1 0 _ (by unfold maxLen; omega), ?_, ?_⟩, ⟨rfl, rfl, rfl, by simp, fun k hk _ => heapOld w.drew _ k hk⟩, .inr rfl⟩
    · have hge := grownCap_ge w 1 0 27
      rw [Array.size_append, size_zeroCells]
      have : (msgC x).toArray.size = 6 := rfl
      rw [this, show (Value.agg #[.int .i64 0, .int .i64 0, .bool false, .bool false, .bool false, .int .u8 0]).cells.size = 6 from rfl]
      omega
    · rw [Array.toList_append, List.drop_zero]
      show List.take (1 * 6) _ = msgsC [x]
      rw [List.take_append_of_le_length (by simp [msgC])]
      simp [msgsC, msgC]
  · have hcq : ∀ j u, (msgsC q)[j]? = some u → w.cell? ((⟨g', off, none⟩ : Addr).add j) = some u := by
      intro j u hu
      have ha : (⟨g', off, none⟩ : Addr).add j = ⟨g', off + j, none⟩ := by unfold Addr.add; split <;> simp_all
      rw [ha, cell_of_row w g' (off + j) _ _ _ hr]
      rw [← ht, List.getElem?_take] at hu
      split at hu
      · rw [List.getElem?_drop] at hu; simpa using hu
      · cases hu
    by_cases hroom : q.length + 1 ≤ cap
    · have hfit : off + q.length * i0.size + 0 + (msgC x).length ≤ cur.size := by rw [hs]; simp [msgC]; omega
      have hf := run_firstCells_some (P := Try.prog) w i0.size 1 ⟨g, 0, none⟩ 1 c (msgC x) hln hnews
      have hst := run_storeCells_at Try.prog g' (off + q.length * i0.size) 27 (msgC x) 0 cur w hr hfit (msgC_one x)
      have hadd : (⟨g', off, none⟩ : Addr).add (q.length * i0.size) = ⟨g', off + q.length * i0.size, none⟩ := by unfold Addr.add; split <;> simp_all
      have hrun : (Builtin.append_ #[46, 46] ty #[.slice (some ⟨g', off, none⟩) q.length cap, .slice (some ⟨g, 0, none⟩) 1 c]).run Try.prog w =
          .ok (.slice (some ⟨g', off, none⟩) (q.length + 1) cap) (w.setRow g' (cur.toList.take (off + q.length * i0.size + 0) ++ msgC x ++ cur.toList.drop (off + q.length * i0.size + 0 + (msgC x).length)).toArray) := by
        simp [Builtin.append_, run_underlying Try.underlying46, sizeOf, typeInfo, hi, Builtin.lenOf, hroom, hf, hadd, hst]
      refine ⟨_, _, hrun, .inr ⟨g', off, cap, _, by rw [hqx], hBg, setRow_heap w g' cur _ _ _ hr, by omega, hm, ?_, ?_⟩, ⟨rfl, rfl, rfl, by simp, fun k _ hk => setRow_other w g' k _ (fun e => hk (by simp [Value.ownBlock, e]))⟩, .inl rfl⟩
      · simp only [List.size_toArray, List.length_append, List.length_take, List.length_drop, Array.length_toList, hs] at hfit ⊢
        simp [msgC] at hfit ⊢
        omega
      · rw [hqx, msgsC_snoc, ← ht, hs]
        exact q_snoc cur.toList (msgC x) off q.length (by have : cur.toList.length = cur.size := Array.length_toList; omega) rfl
    · have hr2 := run_append_grow (P := Try.prog) w 46 ty 27 i0 _ Try.underlying46 hi hz ⟨g', off, none⟩ q.length cap (msgsC q) (by rw [hs]; exact msgsC_len q) hcq ⟨g, 0, none⟩ 1 c (msgC x) hln hnews (by omega) (by omega) (growslice_fits (by omega) (by rw [hy]; omega))
      refine ⟨_, _, hr2, .inr ⟨w.heap.size, 0, grownCap w (q.length + 1) cap 27, _, by rw [hqx], hB, rowAt_new _ _ _ rfl, by rw [hqx]; exact grownCap_ge w _ _ _, grownCap_le_maxLen w _ _ _ (by unfold maxLen; omega), ?_, ?_⟩, ⟨rfl, rfl, rfl, by simp, fun k hk _ => heapOld w.drew _ k hk⟩, .inr rfl⟩
      · have hge := grownCap_ge w (q.length + 1) cap 27
        rw [Array.size_append, Array.size_append, size_zeroCells, List.size_toArray, List.size_toArray, msgsC_len]
        rw [show (Value.agg #[.int .i64 0, .int .i64 0, .bool false, .bool false, .bool false, .int .u8 0]).cells.size = 6 from rfl, show (msgC x).length = 6 from rfl]
        omega
      · rw [Array.toList_append, Array.toList_append, List.drop_zero, hqx, msgsC_snoc]
        rw [List.take_append_of_le_length (by simp [msgsC_len, msgC]; omega)]
        rw [List.take_of_length_le (by simp [msgsC_len, msgC]; omega)]
/-- append of nothing. -/
theorem run_append_none {w : World} {B : Nat} {v : Value} {q : List Msg} (h : HasQ w B v q) (ty : TypeId) :
    (Builtin.append_ #[46, 46] ty #[v, .slice none 0 0]).run Try.prog w = .ok v w := by
  obtain ⟨i0, hi, hz, hs, hy⟩ := info_parts info27
  rcases h with ⟨rfl, rfl⟩ | ⟨g', off, cap, cur, rfl, hBg, hr, hn, hm, hsz, ht⟩
  · simp [Builtin.append_, run_underlying Try.underlying46, sizeOf, typeInfo, hi, Builtin.lenOf, Builtin.firstCells]
  · simp [Builtin.append_, run_underlying Try.underlying46, sizeOf, typeInfo, hi, Builtin.lenOf, Builtin.firstCells, hn, storeCells]
end Go.Proofs.Ytjghmgpmaallfaa
