/-
  Arguments opened: what an end knows (Exch) by value.
-/
import Derived.Test.YtjghmgpmaallfaaOpn
import Derived.Test.YtjghmgpmaallfaaExm
namespace Go.Proofs.Ytjghmgpmaallfaa
open Go.RowKit Go.ChangeShapes Go.WideShapes
set_option linter.unusedVariables false
set_option linter.unusedSimpArgs false
section
variable {H : Type} {enc : TypeId × Value → H} {P : Program} {w : World} {base : Nat} {spare : Nat → Bool} {held : Bool} {r : Reach} {b0 : Nat}
/-- an array of n numbers. -/
theorem ints_of_trod {T ti : TypeId} {n : Nat} {fuel : Nat} {cs : List Value} {x : DataW H × List MemPlace} (hT : P.underlying T = some (.array n ti)) (hi : P.underlying ti = some (.int .i64)) (ci : P.cellsOf ti = 1) (cT : P.cellsOf T = n)
    (h : DataW.trod enc P w base spare held fuel T cs = some x) : ∃ m : Wt, cs = ints n m ∧ ∀ i, i < n → i64b (m i) := by
  obtain ⟨xs, k, _, _, hlen, hxl, hf⟩ := DataW.trod_array hT h
  rw [cT] at hlen
  have hrow : ∀ i, ∃ c : Int, i < n → ((cs.drop i).take 1 = [.int .i64 c] ∧ i64b c) := by
    intro i
    by_cases hi' : i < n
    · have g := hf i hi'
      rw [ci, Nat.mul_one] at g
      have hx : xs[i]? = some (xs[i]'(by omega)) := List.getElem?_eq_getElem (by omega)
      rw [hx] at g
      obtain ⟨a, ea, _, wa⟩ := DataW.trod_int hi g
      exact ⟨a, fun _ => ⟨ea, bounds_i64 wa⟩⟩
    · exact ⟨0, fun h' => absurd h' hi'⟩
  refine ⟨fun i => (hrow i).choose, ?_, fun i hi' => ((hrow i).choose_spec hi').2⟩
  apply List.ext_getElem?
  intro j
  by_cases hj : j < n
  · have e := ((hrow j).choose_spec hj).1
    rw [ints_get n _ j hj]
    have hg : cs[j]? = ((cs.drop j).take 1)[0]? := by rw [List.getElem?_take, if_pos (by omega), List.getElem?_drop, Nat.add_zero]
    rw [hg]; exact (congrArg (fun l : List Value => l[0]?) e).trans rfl
  · rw [List.getElem?_eq_none (by omega), List.getElem?_eq_none (by rw [ints_length]; omega)]
theorem open_exch {X T E A ti tu : TypeId} {g0 g1 f0 f1 : Field} {v : Value} {d : DataW H} {p : List MemPlace} (hX : P.underlying X = some (.struct #[g0, g1])) (hT : P.underlying T = some (.array 31 E)) (hE : P.underlying E = some (.struct #[f0, f1])) (hA : P.underlying A = some (.array 31 ti))
    (k0 : g0.type = T ∧ g0.offset = 0) (k1 : g1.type = A ∧ g1.offset = 62) (h0 : f0.type = ti ∧ f0.offset = 0) (h1 : f1.type = tu ∧ f1.offset = 1) (hi : P.underlying ti = some (.int .i64)) (hu : P.underlying tu = some (.int .u8))
    (ci : P.cellsOf ti = 1) (cu : P.cellsOf tu = 1) (cE : P.cellsOf E = 2) (cT : P.cellsOf T = 62) (cA : P.cellsOf A = 31) (cX : P.cellsOf X = 93)
    (hv : Value.okWide P w r b0 X v) (h : DataW.Trod enc P w base spare held X v d p) : ∃ (t : Tb) (m : Wt), v = .agg (exA t m) ∧ (∀ i, i < 31 → i64b (t i).1 ∧ u8b (t i).2) ∧ ∀ i, i < 31 → i64b (m i) := by
  obtain ⟨cs, rfl, _⟩ := okWide_struct hX hv
  obtain ⟨fuel, hf⟩ := h
  obtain ⟨xs, n, _, _, hlen, hxl, hg⟩ := DataW.trod_struct hX hf
  rw [cX] at hlen
  match xs, hxl with
  | [y0, y1], _ =>
    have a0 := hg 0 g0 rfl
    have a1 := hg 1 g1 rfl
    rw [k0.1, k0.2, cT] at a0
    rw [k1.1, k1.2, cA] at a1
    obtain ⟨t, ht, hb⟩ := rows_of_trod hT hE h0 h1 hi hu ci cu cE cT a0
    obtain ⟨m, hm, hc⟩ := ints_of_trod hA hi ci cA a1
    refine ⟨t, m, ?_, hb, hc⟩
    refine congrArg Value.agg (Array.toList_inj.1 ?_)
    have e1 : (exA t m).toList = rows2 31 t ++ ints 31 m := by simp [exA, tabA, wtA]
    have hl : cs.toList.length = 93 := hlen
    have e2 : cs.toList = cs.toList.take 62 ++ (cs.toList.drop 62).take 31 := by
      have e3 : (cs.toList.drop 62).take 31 = cs.toList.drop 62 := List.take_of_length_le (by rw [List.length_drop]; omega)
      rw [e3, List.take_append_drop]
    have ht' : cs.toList.take 62 = rows2 31 t := ht
    have hm' : (cs.toList.drop 62).take 31 = ints 31 m := hm
    rw [e1, e2, ht', hm']
end
end Go.Proofs.Ytjghmgpmaallfaa
