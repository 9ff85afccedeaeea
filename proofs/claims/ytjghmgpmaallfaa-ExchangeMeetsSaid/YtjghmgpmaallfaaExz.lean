/-
  What a law is told (Told: prefs, an end, a triple): its cells, its loads, its opening.
-/
import Derived.Test.YtjghmgpmaallfaaExo
import Derived.Test.YtjghmgpmaallfaaExw
namespace Go.Proofs.Ytjghmgpmaallfaa
open Go.RowKit Go.ChangeShapes Go.WideShapes
set_option linter.unusedVariables false
set_option linter.unusedSimpArgs false

def tdA (p : Tb) (b : Bool) (f l : Int) (a i o : Bool) (v : Int) : Array Value := tabA p ++ #[.bool b, .int .i64 f, .int .i64 l, .bool a, .bool i, .bool o, .int .u8 v]
theorem tdA_size (p : Tb) (b : Bool) (f l : Int) (a i o : Bool) (v : Int) : (tdA p b f l a i o v).size = 69 := by simp [tdA, tabA_size]
theorem tdA_tab (p : Tb) (b : Bool) (f l : Int) (a i o : Bool) (v : Int) : (tdA p b f l a i o v).extract 0 62 = tabA p := by
  unfold tdA; rw [Array.extract_append, tabA_size]
  have e : (tabA p).extract 0 62 = tabA p := by rw [← tabA_size p]; exact Array.extract_size
  rw [e]; simp
theorem tdA_get (p : Tb) (b : Bool) (f l : Int) (a i o : Bool) (v : Int) (k : Nat) : (tdA p b f l a i o v)[62 + k]? = (#[.bool b, .int .i64 f, .int .i64 l, .bool a, .bool i, .bool o, .int .u8 v] : Array Value)[k]? := by
  unfold tdA; rw [Array.getElem?_append_right (by rw [tabA_size]; omega), tabA_size, show 62 + k - 62 = k from by omega]
theorem cellsTd {w : World} {g : Nat} {p : Tb} {b : Bool} {f l : Int} {a i o : Bool} {v : Int} {t : TypeId} (h : rowAt w g = some (.cells (tdA p b f l a i o v) t (0, 0))) :
    w.cell? ⟨g, 62, none⟩ = some (.bool b) ∧ w.cell? ⟨g, 63, none⟩ = some (.int .i64 f) ∧ w.cell? ⟨g, 64, none⟩ = some (.int .i64 l) ∧ w.cell? ⟨g, 65, none⟩ = some (.bool a) ∧ w.cell? ⟨g, 66, none⟩ = some (.bool i) ∧ w.cell? ⟨g, 67, none⟩ = some (.bool o) ∧ w.cell? ⟨g, 68, none⟩ = some (.int .u8 v) ∧ (∀ o, w.frozen? ⟨g, o, none⟩ = false) ∧ g < w.heap.size := by
  refine ⟨?_, ?_, ?_, ?_, ?_, ?_, ?_, frozenRow h, lt_of_some h⟩
  · rw [cell_of_row w _ 62 _ _ _ h]; exact tdA_get p b f l a i o v 0
  · rw [cell_of_row w _ 63 _ _ _ h]; exact tdA_get p b f l a i o v 1
  · rw [cell_of_row w _ 64 _ _ _ h]; exact tdA_get p b f l a i o v 2
  · rw [cell_of_row w _ 65 _ _ _ h]; exact tdA_get p b f l a i o v 3
  · rw [cell_of_row w _ 66 _ _ _ h]; exact tdA_get p b f l a i o v 4
  · rw [cell_of_row w _ 67 _ _ _ h]; exact tdA_get p b f l a i o v 5
  · rw [cell_of_row w _ 68 _ _ _ h]; exact tdA_get p b f l a i o v 6
theorem far25 (w : World) (g : Nat) : farLoad' Try.prog 25 w g = loadMidOr 0 62 w g (farMid Try.prog 25 w g 0) :=
  run_loadVar_midOr Try.underlying25 rfl sizePrefs w g 0
attribute [go_sem] far25 tdA_size tdA_tab
section
variable {H : Type} {enc : TypeId × Value → H} {P : Program} {w : World} {base : Nat} {spare : Nat → Bool} {held : Bool} {r : Reach} {b0 : Nat}
theorem open_told {X T E R ti tb tu : TypeId} {e0 e1 e2 f0 f1 g0 g1 g2 g3 g4 g5 : Field} {v : Value} {d : DataW H} {p : List MemPlace} (hX : P.underlying X = some (.struct #[e0, e1, e2])) (hT : P.underlying T = some (.array 31 E)) (hE : P.underlying E = some (.struct #[f0, f1])) (hR : P.underlying R = some (.struct #[g0, g1, g2, g3, g4, g5]))
    (k0 : e0.type = T ∧ e0.offset = 0) (k1 : e1.type = tb ∧ e1.offset = 62) (k2 : e2.type = R ∧ e2.offset = 63) (h0 : f0.type = ti ∧ f0.offset = 0) (h1 : f1.type = tu ∧ f1.offset = 1)
    (q0 : g0.type = ti ∧ g0.offset = 0) (q1 : g1.type = ti ∧ g1.offset = 1) (q2 : g2.type = tb ∧ g2.offset = 2) (q3 : g3.type = tb ∧ g3.offset = 3) (q4 : g4.type = tb ∧ g4.offset = 4) (q5 : g5.type = tu ∧ g5.offset = 5)
    (hi : P.underlying ti = some (.int .i64)) (hb : P.underlying tb = some .bool) (hu : P.underlying tu = some (.int .u8))
    (ci : P.cellsOf ti = 1) (cb : P.cellsOf tb = 1) (cu : P.cellsOf tu = 1) (cE : P.cellsOf E = 2) (cT : P.cellsOf T = 62) (cR : P.cellsOf R = 6) (cX : P.cellsOf X = 69)
    (hv : Value.okWide P w r b0 X v) (h : DataW.Trod enc P w base spare held X v d p) :
    ∃ (t : Tb) (b : Bool) (F L : Int) (a i o : Bool) (V : Int), v = .agg (tdA t b F L a i o V) ∧ (∀ i, i < 31 → i64b (t i).1 ∧ u8b (t i).2) ∧ i64b F ∧ i64b L ∧ u8b V := by
  obtain ⟨cs, rfl, _⟩ := okWide_struct hX hv
  obtain ⟨fuel, hf⟩ := h
  obtain ⟨xs, n, _, _, hlen, hxl, hg⟩ := DataW.trod_struct hX hf
  rw [cX] at hlen
  match xs, hxl with
  | [y0, y1, y2], _ =>
    have a0 := hg 0 e0 rfl
    have a1 := hg 1 e1 rfl
    have a2 := hg 2 e2 rfl
    rw [k0.1, k0.2, cT] at a0
    rw [k1.1, k1.2, cb] at a1
    rw [k2.1, k2.2, cR] at a2
    obtain ⟨t, ht, hbd⟩ := rows_of_trod hT hE h0 h1 hi hu ci cu cE cT a0
    obtain ⟨b, hbb, _⟩ := DataW.trod_bool hb a1
    obtain ⟨F, L, a, i, o, V, htr, b1, b2, b3⟩ := triple_of_trod hR q0 q1 q2 q3 q4 q5 hi hb hu ci cb cu cR a2
    refine ⟨t, b, F, L, a, i, o, V, ?_, hbd, b1, b2, b3⟩
    refine congrArg Value.agg (Array.toList_inj.1 ?_)
    have e1 : (tdA t b F L a i o V).toList = rows2 31 t ++ ([.bool b] ++ [.int .i64 F, .int .i64 L, .bool a, .bool i, .bool o, .int .u8 V]) := by simp [tdA, tabA]
    have hl : cs.toList.length = 69 := hlen
    have e2 : cs.toList = cs.toList.take 62 ++ ((cs.toList.drop 62).take 1 ++ (cs.toList.drop 63).take 6) := by
      have e3 : (cs.toList.drop 63).take 6 = cs.toList.drop 63 := List.take_of_length_le (by rw [List.length_drop]; omega)
      have e4 : cs.toList.drop 63 = (cs.toList.drop 62).drop 1 := by rw [List.drop_drop]
      rw [e3, e4, List.take_append_drop, List.take_append_drop]
    have ht' : cs.toList.take 62 = rows2 31 t := ht
    have hb' : (cs.toList.drop 62).take 1 = [.bool b] := hbb
    have hr' : (cs.toList.drop 63).take 6 = [.int .i64 F, .int .i64 L, .bool a, .bool i, .bool o, .int .u8 V] := htr
    rw [e1, e2, ht', hb', hr']
end
end Go.Proofs.Ytjghmgpmaallfaa
