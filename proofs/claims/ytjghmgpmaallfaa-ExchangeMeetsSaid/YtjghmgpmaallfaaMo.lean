/-
  The argument of ExchangeMeets, opened: two ends' prefs, and what happens.
-/
import Derived.Test.YtjghmgpmaallfaaOpn
import Derived.Test.YtjghmgpmaallfaaMb
import Derived.Deep.Slices
import Derived.Deep.SlicePairs
namespace Go.Proofs.Ytjghmgpmaallfaa
open Go.RowKit Go.ChangeShapes Go.WideShapes Go.Deep
set_option linter.unusedVariables false
set_option linter.unusedSimpArgs false
/-- both ends' prefs, and the slice. -/
def prA (p0 p1 : Tb) (s : Value) : Array Value := (tabA p0 ++ tabA p1) ++ #[s]
theorem prA_size (p0 p1 : Tb) (s : Value) : (prA p0 p1 s).size = 125 := by simp [prA, tabA_size]
/-- what happens: a slice of acts. -/
def Acts (w : World) (s : Value) (n : Nat) : Prop :=
  (s = .slice none 0 0 ∧ n = 0) ∨ ∃ (a : Addr) (cap : Nat), s = .slice (some a) n cap ∧ n ≤ cap ∧ cap ≤ maxLen ∧
    ∀ i, i < n → ∃ (who : Int) (co : Bool) (x : Msg), 0 ≤ who ∧ who ≤ 255 ∧ 0 ≤ x.v ∧ x.v ≤ 255 ∧ w.cell? (a.add (i * 8)) = some (.int .u8 who) ∧ w.cell? (a.add (i * 8 + 1)) = some (.bool co) ∧
      ∀ j u, (msgC x)[j]? = some u → w.cell? (a.add (i * 8 + (2 + j))) = some u
section
variable {H : Type} {enc : TypeId × Value → H} {P : Program} {w : World} {base : Nat} {spare : Nat → Bool} {held : Bool} {r : Reach} {b0 : Nat}
theorem acts_of_trod {t e R ti tb tu : TypeId} {e0 e1 e2 g0 g1 g2 g3 g4 g5 : Field} {fuel : Nat} {cs : List Value} {x : DataW H × List MemPlace} (ht : P.underlying t = some (.slice e)) (he : P.underlying e = some (.struct #[e0, e1, e2])) (hR : P.underlying R = some (.struct #[g0, g1, g2, g3, g4, g5]))
    (k0 : e0.type = tu ∧ e0.offset = 0) (k1 : e1.type = tb ∧ e1.offset = 1) (k2 : e2.type = R ∧ e2.offset = 2)
    (q0 : g0.type = ti ∧ g0.offset = 0) (q1 : g1.type = ti ∧ g1.offset = 1) (q2 : g2.type = tb ∧ g2.offset = 2) (q3 : g3.type = tb ∧ g3.offset = 3) (q4 : g4.type = tb ∧ g4.offset = 4) (q5 : g5.type = tu ∧ g5.offset = 5)
    (hi : P.underlying ti = some (.int .i64)) (hb : P.underlying tb = some .bool) (hu : P.underlying tu = some (.int .u8))
    (ci : P.cellsOf ti = 1) (cb : P.cellsOf tb = 1) (cu : P.cellsOf tu = 1) (cR : P.cellsOf R = 6) (ce : P.cellsOf e = 8)
    (h : DataW.trod enc P w base spare held fuel t cs = some x) : ∃ s n, cs = [s] ∧ Acts w s n ∧ (n = 0 ∨ ∃ es sp, x.1 = .slice es sp ∧ es.length = n) := by
  rcases open_slice ht h with ⟨rfl, _⟩ | ⟨a, len, cap, m, n, D, Pl, rfl, hbb, hl, hm, hmm, rfl, hx⟩
  · exact ⟨_, 0, rfl, .inl ⟨rfl, rfl⟩, .inl rfl⟩
  · have hlm : len ≤ m := by rw [hmm]; split <;> omega
    have each : ∀ i, i < len → ∃ (who : Int) (co : Bool) (x : Msg), 0 ≤ who ∧ who ≤ 255 ∧ 0 ≤ x.v ∧ x.v ≤ 255 ∧ w.cell? (a.add (i * 8)) = some (.int .u8 who) ∧ w.cell? (a.add (i * 8 + 1)) = some (.bool co) ∧
        ∀ j u, (msgC x)[j]? = some u → w.cell? (a.add (i * 8 + (2 + j))) = some u := by
      intro i hil
      obtain ⟨cs', h1, h2⟩ := hx i (by omega)
      rw [ce] at h1
      obtain ⟨_, hlen, hcell⟩ := World.cells?_some h1
      obtain ⟨xs, k, _, _, _, hxl, hf⟩ := DataW.trod_struct he h2
      match xs, hxl, cs', hlen with
      | [y0, y1, y2], _, [v0, v1, v2, v3, v4, v5, v6, v7], _ =>
        have g0' := hf 0 e0 rfl
        have g1' := hf 1 e1 rfl
        have g2' := hf 2 e2 rfl
        rw [k0.1, k0.2, cu] at g0'
        rw [k1.1, k1.2, cb] at g1'
        rw [k2.1, k2.2, cR] at g2'
        simp at g0' g1' g2'
        obtain ⟨who, ew, _, wf⟩ := DataW.trod_int hu g0'
        obtain ⟨co, ec, _⟩ := DataW.trod_bool hb g1'
        obtain ⟨F, L, a', i', o', V, et, b1, b2, b3⟩ := triple_of_trod hR q0 q1 q2 q3 q4 q5 hi hb hu ci cb cu cR g2'
        simp at ew ec et
        obtain ⟨rfl, rfl, rfl, rfl, rfl, rfl⟩ := et
        subst ew ec
        have hw := bounds_u8 wf
        have c0 := hcell 0 (by omega)
        have c1 := hcell 1 (by omega)
        have c2 := hcell 2 (by omega)
        have c3 := hcell 3 (by omega)
        have c4 := hcell 4 (by omega)
        have c5 := hcell 5 (by omega)
        have c6 := hcell 6 (by omega)
        have c7 := hcell 7 (by omega)
        rw [add_add] at c0 c1 c2 c3 c4 c5 c6 c7
        refine ⟨who, co, ⟨F, L, a', i', o', V⟩, hw.1, hw.2, b3.1, b3.2, by simpa using c0, by simpa using c1, fun j u hj => ?_⟩
        match j, hj with
        | 0, hj => simp [msgC] at hj; subst hj; simpa using c2
        | 1, hj => simp [msgC] at hj; subst hj; simpa using c3
        | 2, hj => simp [msgC] at hj; subst hj; simpa using c4
        | 3, hj => simp [msgC] at hj; subst hj; simpa using c5
        | 4, hj => simp [msgC] at hj; subst hj; simpa using c6
        | 5, hj => simp [msgC] at hj; subst hj; simpa using c7
        | j + 6, hj => simp [msgC] at hj
    exact ⟨_, len, rfl, .inr ⟨a, cap, rfl, hl, hm, each⟩, .inr ⟨_, _, rfl, by simp⟩⟩
theorem Acts.below {w w' : World} {s : Value} {n : Nat} (h : Acts w s n) (hb : Below w.heap.size w w') : Acts w' s n := by
  rcases h with h | ⟨a, cap, h1, h2, h3, h4⟩
  · exact .inl h
  · refine .inr ⟨a, cap, h1, h2, h3, fun i hi => ?_⟩
    obtain ⟨who, co, x, k1, k2, k3, k4, c0, c1, c2⟩ := h4 i hi
    have keep : ∀ (A : Addr) (u : Value), w.cell? A = some u → w'.cell? A = some u := fun A u h => (hb.cell (World.block_lt_of_cell? w A h)).trans h
    exact ⟨who, co, x, k1, k2, k3, k4, keep _ _ c0, keep _ _ c1, fun j u hj => keep _ _ (c2 j u hj)⟩
theorem open_pair {X Y T E R t e ti tb tu : TypeId} {x0 x1 f0 f1 e0 e1 e2 g0 g1 g2 g3 g4 g5 : Field} {v : Value} {d : DataW H} {p : List MemPlace} (hX : P.underlying X = some (.struct #[x0, x1])) (hY : P.underlying Y = some (.array 2 T)) (hT : P.underlying T = some (.array 31 E)) (hE : P.underlying E = some (.struct #[f0, f1]))
    (ht : P.underlying t = some (.slice e)) (he : P.underlying e = some (.struct #[e0, e1, e2])) (hR : P.underlying R = some (.struct #[g0, g1, g2, g3, g4, g5]))
    (n0 : x0.type = Y ∧ x0.offset = 0) (n1 : x1.type = t ∧ x1.offset = 124) (h0 : f0.type = ti ∧ f0.offset = 0) (h1 : f1.type = tu ∧ f1.offset = 1)
    (k0 : e0.type = tu ∧ e0.offset = 0) (k1 : e1.type = tb ∧ e1.offset = 1) (k2 : e2.type = R ∧ e2.offset = 2)
    (q0 : g0.type = ti ∧ g0.offset = 0) (q1 : g1.type = ti ∧ g1.offset = 1) (q2 : g2.type = tb ∧ g2.offset = 2) (q3 : g3.type = tb ∧ g3.offset = 3) (q4 : g4.type = tb ∧ g4.offset = 4) (q5 : g5.type = tu ∧ g5.offset = 5)
    (hi : P.underlying ti = some (.int .i64)) (hb : P.underlying tb = some .bool) (hu : P.underlying tu = some (.int .u8))
    (ci : P.cellsOf ti = 1) (cb : P.cellsOf tb = 1) (cu : P.cellsOf tu = 1) (cE : P.cellsOf E = 2) (cT : P.cellsOf T = 62) (cY : P.cellsOf Y = 124) (ct : P.cellsOf t = 1) (cR : P.cellsOf R = 6) (ce : P.cellsOf e = 8) (cX : P.cellsOf X = 125)
    (hv : Value.okWide P w r b0 X v) (h : DataW.Trod enc P w base spare held X v d p) :
    ∃ (p0 p1 : Tb) (s : Value) (n : Nat), v = .agg (prA p0 p1 s) ∧ (∀ i, i < 31 → i64b (p0 i).1 ∧ u8b (p0 i).2) ∧ (∀ i, i < 31 → i64b (p1 i).1 ∧ u8b (p1 i).2) ∧ Acts w s n ∧ (n = 0 ∨ ∃ D es sp, d = .agg [D, .slice es sp] ∧ es.length = n) := by
  obtain ⟨cs, rfl, _⟩ := okWide_struct hX hv
  obtain ⟨fuel, hf⟩ := h
  obtain ⟨xs, n, _, hd, hlen, hxl, hg⟩ := DataW.trod_struct hX hf
  rw [cX] at hlen
  match xs, hxl with
  | [y0, y1], _ =>
    have a0 := hg 0 x0 rfl
    have a1 := hg 1 x1 rfl
    rw [n0.1, n0.2, cY] at a0
    rw [n1.1, n1.2, ct] at a1
    obtain ⟨zs, m, _, _, hl2, hzl, hz⟩ := DataW.trod_array hY a0
    match zs, hzl with
    | [z0, z1], _ =>
      have b0' := hz 0 (by omega)
      have b1' := hz 1 (by omega)
      rw [cT] at b0' b1'
      obtain ⟨p0, hp0, hb0⟩ := rows_of_trod hT hE h0 h1 hi hu ci cu cE cT b0'
      obtain ⟨p1, hp1, hb1⟩ := rows_of_trod hT hE h0 h1 hi hu ci cu cE cT b1'
      obtain ⟨s, k, hs, hA, hD⟩ := acts_of_trod ht he hR k0 k1 k2 q0 q1 q2 q3 q4 q5 hi hb hu ci cb cu cR ce a1
      refine ⟨p0, p1, s, k, ?_, hb0, hb1, hA, ?_⟩
      case refine_2 =>
        rcases hD with h | ⟨es, sp, h1, h2⟩
        · exact .inl h
        · refine .inr ⟨y0.1, es, sp, ?_, h2⟩
          have := congrArg Prod.fst hd
          simpa [h1] using this
      refine congrArg Value.agg (Array.toList_inj.1 ?_)
      have e1 : (prA p0 p1 s).toList = (rows2 31 p0 ++ rows2 31 p1) ++ [s] := by simp [prA, tabA]
      have hl : cs.toList.length = 125 := hlen
      have e2 : cs.toList = ((cs.toList.take 62) ++ ((cs.toList.drop 62).take 62)) ++ ((cs.toList.drop 124).take 1) := by
        have e3 : (cs.toList.drop 124).take 1 = cs.toList.drop 124 := List.take_of_length_le (by rw [List.length_drop]; omega)
        have e4 : cs.toList.drop 124 = (cs.toList.drop 62).drop 62 := by rw [List.drop_drop]
        rw [e3, e4, List.append_assoc, List.take_append_drop, List.take_append_drop]
      have hp0' : cs.toList.take 62 = rows2 31 p0 := by
        have : ((cs.toList.drop 0).take 124 |>.drop (0 * 62)).take 62 = rows2 31 p0 := hp0
        rw [← this]; simp [List.take_take]
      have hp1' : (cs.toList.drop 62).take 62 = rows2 31 p1 := by
        have : ((cs.toList.drop 0).take 124 |>.drop (1 * 62)).take 62 = rows2 31 p1 := hp1
        rw [← this]; simp [List.drop_take, List.take_take]
      have hs' : (cs.toList.drop 124).take 1 = [s] := hs
      rw [e1, e2, hp0', hp1', hs']
end
end Go.Proofs.Ytjghmgpmaallfaa
