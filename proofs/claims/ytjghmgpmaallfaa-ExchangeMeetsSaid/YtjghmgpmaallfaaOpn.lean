/-
  Arguments opened: tables, triples, cells by value.
-/
import Derived.Test.YtjghmgpmaallfaaRows
import Derived.Test.YtjghmgpmaallfaaLib
import Derived.ProofKit
import Derived.OpenShut
import Derived.Lib.SmallJoins
namespace Go.Proofs.Ytjghmgpmaallfaa
open Go.RowKit Go.ChangeShapes Go.WideShapes
set_option linter.unusedVariables false
set_option linter.unusedSimpArgs false

def i64b (n : Int) : Prop := -9223372036854775808 ≤ n ∧ n ≤ 9223372036854775807
def u8b (n : Int) : Prop := 0 ≤ n ∧ n ≤ 255
section
variable {H : Type} {enc : TypeId × Value → H} {P : Program} {w : World} {base : Nat} {spare : Nat → Bool} {held : Bool} {r : Reach} {b0 : Nat}

theorem okWide_array {T E : TypeId} {n : Nat} {v : Value} (ht : P.underlying T = some (.array n E)) (h : Value.okWide P w r b0 T v) : ∃ cs, v = .agg cs ∧ cs.size = P.cellsOf T := by
  simp only [Value.okWide, ht] at h
  obtain ⟨cs, h1, h2, _⟩ := h
  exact ⟨cs, h1, h2⟩

/-- two one-cell fields, an int and a uint8. -/
theorem cell_of_trod {E ti tu : TypeId} {f0 f1 : Field} {fuel : Nat} {cs : List Value} {x : DataW H × List MemPlace} (hE : P.underlying E = some (.struct #[f0, f1]))
    (h0 : f0.type = ti ∧ f0.offset = 0) (h1 : f1.type = tu ∧ f1.offset = 1) (hi : P.underlying ti = some (.int .i64)) (hu : P.underlying tu = some (.int .u8)) (ci : P.cellsOf ti = 1) (cu : P.cellsOf tu = 1) (cE : P.cellsOf E = 2)
    (h : DataW.trod enc P w base spare held fuel E cs = some x) :
    ∃ a b : Int, cs = [.int .i64 a, .int .u8 b] ∧ i64b a ∧ u8b b := by
  obtain ⟨xs, n, _, _, hlen, hxl, hf⟩ := DataW.trod_struct hE h
  rw [cE] at hlen
  match cs, hlen with
  | [c0, c1], _ =>
    have g0 := hf 0 f0 rfl
    have g1 := hf 1 f1 rfl
    rw [h0.1, h0.2, ci] at g0
    rw [h1.1, h1.2, cu] at g1
    match xs, hxl with
    | [y0, y1], _ =>
      simp at g0 g1
      obtain ⟨a, ea, _, wa⟩ := DataW.trod_int hi g0
      obtain ⟨b, eb, _, wb⟩ := DataW.trod_int hu g1
      simp at ea eb
      subst ea eb
      refine ⟨a, b, rfl, ?_, ?_⟩
      · exact bounds_i64 wa
      · exact bounds_u8 wb

/-- an array of n such. -/
theorem rows_of_trod {T E ti tu : TypeId} {n : Nat} {f0 f1 : Field} {fuel : Nat} {cs : List Value} {x : DataW H × List MemPlace} (hT : P.underlying T = some (.array n E)) (hE : P.underlying E = some (.struct #[f0, f1]))
    (h0 : f0.type = ti ∧ f0.offset = 0) (h1 : f1.type = tu ∧ f1.offset = 1) (hi : P.underlying ti = some (.int .i64)) (hu : P.underlying tu = some (.int .u8)) (ci : P.cellsOf ti = 1) (cu : P.cellsOf tu = 1) (cE : P.cellsOf E = 2) (cT : P.cellsOf T = 2 * n)
    (h : DataW.trod enc P w base spare held fuel T cs = some x) :
    ∃ t : Tb, cs = rows2 n t ∧ ∀ i, i < n → i64b (t i).1 ∧ u8b (t i).2 := by
  obtain ⟨xs, m, _, _, hlen, hxl, hf⟩ := DataW.trod_array hT h
  rw [cT] at hlen
  have hrow : ∀ i, ∃ c : Int × Int, i < n → ((cs.drop (i * 2)).take 2 = [.int .i64 c.1, .int .u8 c.2] ∧ i64b c.1 ∧ u8b c.2) := by
    intro i
    by_cases hi' : i < n
    · have g := hf i hi'
      rw [cE] at g
      have hx : xs[i]? = some (xs[i]'(by omega)) := List.getElem?_eq_getElem (by omega)
      rw [hx] at g
      obtain ⟨a, b, e, ha, hb⟩ := cell_of_trod hE h0 h1 hi hu ci cu cE g
      exact ⟨(a, b), fun _ => ⟨e, ha, hb⟩⟩
    · exact ⟨(0, 0), fun h' => absurd h' hi'⟩
  refine ⟨fun i => (hrow i).choose, ?_, fun i hi' => ((hrow i).choose_spec hi').2⟩
  apply List.ext_getElem?
  intro j
  by_cases hj : j < 2 * n
  · obtain ⟨i, hji⟩ : ∃ i, j = 2 * i ∨ j = 2 * i + 1 := ⟨j / 2, by omega⟩
    have hin : i < n := by omega
    have e := ((hrow i).choose_spec hin).1
    obtain ⟨a, b⟩ := rows2_get n (fun i => (hrow i).choose) i hin
    have hg : ∀ k, k < 2 → cs[i * 2 + k]? = ((cs.drop (i * 2)).take 2)[k]? := by
      intro k hk
      rw [List.getElem?_take, if_pos hk, List.getElem?_drop]
    rcases hji with rfl | rfl
    · rw [a]
      have := hg 0 (by omega)
      rw [e] at this
      simpa [Nat.mul_comm] using this
    · rw [b]
      have := hg 1 (by omega)
      rw [e] at this
      simpa [Nat.mul_comm] using this
  · rw [List.getElem?_eq_none (by omega), List.getElem?_eq_none (by rw [rows2_length]; omega)]

/-- six one-cell fields: two ints, three bools, a uint8. -/
theorem triple_of_trod {E ti tb tu : TypeId} {f0 f1 f2 f3 f4 f5 : Field} {fuel : Nat} {cs : List Value} {x : DataW H × List MemPlace} (hE : P.underlying E = some (.struct #[f0, f1, f2, f3, f4, f5]))
    (h0 : f0.type = ti ∧ f0.offset = 0) (h1 : f1.type = ti ∧ f1.offset = 1) (h2 : f2.type = tb ∧ f2.offset = 2) (h3 : f3.type = tb ∧ f3.offset = 3) (h4 : f4.type = tb ∧ f4.offset = 4) (h5 : f5.type = tu ∧ f5.offset = 5)
    (hi : P.underlying ti = some (.int .i64)) (hb : P.underlying tb = some .bool) (hu : P.underlying tu = some (.int .u8)) (ci : P.cellsOf ti = 1) (cb : P.cellsOf tb = 1) (cu : P.cellsOf tu = 1) (cE : P.cellsOf E = 6)
    (h : DataW.trod enc P w base spare held fuel E cs = some x) :
    ∃ (F L : Int) (a i o : Bool) (V : Int), cs = [.int .i64 F, .int .i64 L, .bool a, .bool i, .bool o, .int .u8 V] ∧ i64b F ∧ i64b L ∧ u8b V := by
  obtain ⟨xs, n, _, _, hlen, hxl, hf⟩ := DataW.trod_struct hE h
  rw [cE] at hlen
  match cs, hlen with
  | [c0, c1, c2, c3, c4, c5], _ =>
    have g0 := hf 0 f0 rfl
    have g1 := hf 1 f1 rfl
    have g2 := hf 2 f2 rfl
    have g3 := hf 3 f3 rfl
    have g4 := hf 4 f4 rfl
    have g5 := hf 5 f5 rfl
    rw [h0.1, h0.2, ci] at g0
    rw [h1.1, h1.2, ci] at g1
    rw [h2.1, h2.2, cb] at g2
    rw [h3.1, h3.2, cb] at g3
    rw [h4.1, h4.2, cb] at g4
    rw [h5.1, h5.2, cu] at g5
    match xs, hxl with
    | [y0, y1, y2, y3, y4, y5], _ =>
      simp at g0 g1 g2 g3 g4 g5
      obtain ⟨F, e0, _, w0⟩ := DataW.trod_int hi g0
      obtain ⟨L, e1, _, w1⟩ := DataW.trod_int hi g1
      obtain ⟨a, e2, _⟩ := DataW.trod_bool hb g2
      obtain ⟨i, e3, _⟩ := DataW.trod_bool hb g3
      obtain ⟨o, e4, _⟩ := DataW.trod_bool hb g4
      obtain ⟨V, e5, _, w5⟩ := DataW.trod_int hu g5
      simp at e0 e1 e2 e3 e4 e5
      subst e0 e1 e2 e3 e4 e5
      exact ⟨F, L, a, i, o, V, rfl, bounds_i64 w0, bounds_i64 w1, bounds_u8 w5⟩

/-- an array by value, an argument. -/
theorem open_tab {T E ti tu : TypeId} {f0 f1 : Field} {v : Value} {d : DataW H} {p : List MemPlace} (hT : P.underlying T = some (.array 31 E)) (hE : P.underlying E = some (.struct #[f0, f1]))
    (h0 : f0.type = ti ∧ f0.offset = 0) (h1 : f1.type = tu ∧ f1.offset = 1) (hi : P.underlying ti = some (.int .i64)) (hu : P.underlying tu = some (.int .u8)) (ci : P.cellsOf ti = 1) (cu : P.cellsOf tu = 1) (cE : P.cellsOf E = 2) (cT : P.cellsOf T = 62)
    (hv : Value.okWide P w r b0 T v) (h : DataW.Trod enc P w base spare held T v d p) : ∃ t : Tb, v = .agg (tabA t) ∧ ∀ i, i < 31 → i64b (t i).1 ∧ u8b (t i).2 := by
  obtain ⟨cs, rfl, _⟩ := okWide_array hT hv
  obtain ⟨fuel, hf⟩ := h
  obtain ⟨t, ht, hb⟩ := rows_of_trod hT hE h0 h1 hi hu ci cu cE cT hf
  refine ⟨t, ?_, hb⟩
  have : cs.toList = rows2 31 t := ht
  unfold tabA
  rw [← this]
theorem open_triple {E ti tb tu : TypeId} {f0 f1 f2 f3 f4 f5 : Field} {v : Value} {d : DataW H} {p : List MemPlace} (hE : P.underlying E = some (.struct #[f0, f1, f2, f3, f4, f5]))
    (h0 : f0.type = ti ∧ f0.offset = 0) (h1 : f1.type = ti ∧ f1.offset = 1) (h2 : f2.type = tb ∧ f2.offset = 2) (h3 : f3.type = tb ∧ f3.offset = 3) (h4 : f4.type = tb ∧ f4.offset = 4) (h5 : f5.type = tu ∧ f5.offset = 5)
    (hi : P.underlying ti = some (.int .i64)) (hb : P.underlying tb = some .bool) (hu : P.underlying tu = some (.int .u8)) (ci : P.cellsOf ti = 1) (cb : P.cellsOf tb = 1) (cu : P.cellsOf tu = 1) (cE : P.cellsOf E = 6)
    (hv : Value.okWide P w r b0 E v) (h : DataW.Trod enc P w base spare held E v d p) :
    ∃ (F L : Int) (a i o : Bool) (V : Int), v = .agg #[.int .i64 F, .int .i64 L, .bool a, .bool i, .bool o, .int .u8 V] ∧ i64b F ∧ i64b L ∧ u8b V := by
  obtain ⟨cs, rfl, _⟩ := okWide_struct hE hv
  obtain ⟨fuel, hf⟩ := h
  obtain ⟨F, L, a, i, o, V, ht, k⟩ := triple_of_trod hE h0 h1 h2 h3 h4 h5 hi hb hu ci cb cu cE hf
  refine ⟨F, L, a, i, o, V, ?_, k⟩
  have : cs.toList = [.int .i64 F, .int .i64 L, .bool a, .bool i, .bool o, .int .u8 V] := ht
  congr 1
  apply Array.toList_inj.1
  rw [this]
end
end Go.Proofs.Ytjghmgpmaallfaa
