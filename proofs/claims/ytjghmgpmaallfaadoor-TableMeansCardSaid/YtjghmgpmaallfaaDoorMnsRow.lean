/-
  TableMeans: what a key means is a function kept by that key: for all tables and keys the law returns true, and its arguments read as they did.
-/
import Derived.Test.YtjghmgpmaallfaaDoorMns
import Derived.Test.YtjghmgpmaallfaaDoorMnp
import Derived.Test.YtjghmgpmaallfaaDoorOpn
import Derived.Test.YtjghmgpmaallfaaDoorCards
import Derived.Test.YtjghmgpmaallfaaDoorTie
import Derived.ChangeOld
import Derived.Below
import Derived.Deep.DeepHandedRow
import Derived.Lib.LaidTab
namespace Go.Proofs.YtjghmgpmaallfaaDoor.tableMeans
open Go.ChangeShapes Go.WideShapes Go.ChangeAt Go.RowKit
set_option linter.unusedVariables false
set_option linter.unusedSimpArgs false

/-- the walk, whatever the keys. -/
theorem walk (t : Tb) (k1 k2 : Int) (w : World) (hstd : StdLies w) :
    Calls Tryd.prog 4 #[.agg (tabA t), .int .u8 k1, .int .u8 k2] w fun e w' => e = .returned (.bool true) ∧ Below w.heap.size w w' := by
  rcases meaning_cases t k1 with ⟨rfl, h1⟩ | ⟨hk, h1⟩ | ⟨hk, n, c1, g1, g2, hc, hn, h1⟩
  · by_cases hk2 : k2 = 13
    · subst hk2; exact means_enter2 t (hid h1) w hstd
    · refine means_enter t k2 _ ?_ (hid h1) (hid rfl) w hstd
      rcases meaning_cases t k2 with ⟨rfl, _⟩ | ⟨_, h2⟩ | ⟨_, n, c1, g1, g2, _, _, h2⟩
      · exact absurd rfl hk2
      · rw [h2]; decide
      · rw [h2]; simp; omega
  · exact means_none t k1 k2 _ (by simpa using hk) (hid h1) (hid rfl) w hstd
  · by_cases hm : meaning t k2 = n
    · have e : k2 = k1 := by
        rcases meaning_cases t k2 with ⟨rfl, h2⟩ | ⟨_, h2⟩ | ⟨_, n', c1', _, _, hc', _, h2⟩
        · rw [h2] at hm; omega
        · rw [h2] at hm; omega
        · rw [h2] at hm
          obtain rfl : n' = n := by omega
          rw [hc] at hc'
          exact (Prod.mk.inj hc').2.symm
      subst e
      exact means_same t _ c1 n g1 g2 hn (by simpa using hk) (hid hc) (hid h1) w hstd
    · exact means_hit t k1 k2 _ c1 n g1 g2 hn (by simpa using hk) (by simpa using fun e => hm e.symm) (hid rfl) (hid hc) (hid h1) w hstd

theorem own : ownKnob Tryd.prog.godebug = none := by kernel_rfl
theorem laidOut : laidOutB Tryd.prog = true := by kernel_rfl
theorem gTab : Tryd.prog.globalNamed "linnet/table.standard" = some 0 := by kernel_rfl
theorem gTabType : (Tryd.prog.globals[0]?).map (·.type) = some 45 := by kernel_rfl
theorem cellsTab : Tryd.prog.cellsOf 45 = 31 := by kernel_rfl
theorem cellsByte : Tryd.prog.cellsOf 5 = 1 := by kernel_rfl
/-- what the row's list gives: the table's cells hold their numbers. -/
theorem table {W : World} (h : laidMetH Tryd.prog Rows.tableMeansRow.laid W) : Lib.TabIs Tryd.prog W "linnet/table.standard" .u8 [0, 0, 0, 3, 15, 20, 0, 28, 4, 26, 127, 21, 23, 18, 22, 17, 19, 0, 0, 2, 6, 25, 24, 1, 5, 9, 16, 8, 14, 29, 11] :=
  Lib.tabIs_of_head (rest := []) gTab gTabType Tryd.underlying45 Tryd.underlying5 cellsByte cellsTab h
theorem lies {W : World} (h : laidMetH Tryd.prog Rows.tableMeansRow.laid W) : StdLies W := fun i hi => (table h).cell gTab i hi

set_option maxRecDepth 100000 in
/-- what the walk gives, for every argument and every world that holds the table. -/
theorem contract (H : Type) (enc : TypeId × Value → H) (W : World) (base : Nat) (args : Array Value) (ds gs : List (DataW H)) (before : List MemPlace)
    (hval0 : ∀ (j : Nat) t v, Tryd.f4.params[j]? = some t → args[j]? = some v → Value.okWide Tryd.prog W .any base t v)
    (hW : DataW.Whole enc Tryd.prog Tryd.f4.params.toList Rows.tableMeansSpec.vars false W args.toList ds gs before) (hL : laidMetH Tryd.prog Rows.tableMeansRow.laid W) :
    Calls Tryd.prog 4 args W fun e W' => ∃ v, e = .returned v ∧ Rows.tableMeansSpec.post enc Tryd.prog Tryd.f4 false true false false W args v W' := by
  have hval : ∀ (j : Nat) t v, Tryd.f4.params[j]? = some t → args[j]? = some v → Value.okWide Tryd.prog W .any base t v := hval0
  have hW' := hW
  obtain ⟨p, q, hA0, hV, rfl, hfz, hnd⟩ := hW
  have hA : DataW.TrodAll enc Tryd.prog W 0 (fun _ => true) true Tryd.f4.params.toList args.toList ds p := hA0
  rw [Tryd.params4] at hA hval
  obtain ⟨v0, vs0, d0, ds0, p0, q0, hargs, rfl, rfl, h0, r0⟩ := trodAll_cons hA
  obtain ⟨v1, vs1, d1, ds1, p1, q1, rfl, rfl, rfl, h1, r1⟩ := trodAll_cons r0
  obtain ⟨v2, vs2, d2, ds2, p2, q2, rfl, rfl, rfl, h2, r2⟩ := trodAll_cons r1
  obtain ⟨rfl, rfl, rfl⟩ := trodAll_nil r2
  obtain rfl : args = #[v0, v1, v2] := by cases args; simp_all
  obtain ⟨rfl, rfl⟩ := trodVars_none hV
  have lt0 : ∀ x ∈ p0, x.block < W.heap.size := by obtain ⟨m, hm⟩ := h0; exact DataW.trod_lt m _ _ _ hm
  obtain ⟨t, rfl, b0_0⟩ := open_tab Tryd.underlying25 Tryd.underlying23 ⟨rfl, rfl⟩ ⟨rfl, rfl⟩ Tryd.underlying3 Tryd.underlying5 (by kernel_rfl) (by kernel_rfl) (by kernel_rfl) (by kernel_rfl) (hval 0 25 v0 rfl rfl) h0
  obtain ⟨k1, rfl, rfl, rfl, b1_0⟩ := open_int Tryd.underlying5 (hval 1 5 v1 rfl rfl) h1
  obtain ⟨k2, rfl, rfl, rfl, b2_0⟩ := open_int Tryd.underlying5 (hval 2 5 v2 rfl rfl) h2
  clear hA0 hval0
  refine (walk t k1 k2 W (lies hL)).mono fun e W' ⟨he, bel⟩ => ?_
  subst he
  exact ⟨_, rfl, _, _, _, [], _, [], hW', trodAll_mk1 (shut_bool Tryd.underlying4 _), (trodAll_cons_mk (Below.trod laidOut (by kernel_rfl) (of_decide_eq_true (by kernel_rfl)) h0 bel lt0) (trodAll_cons_mk (shut_int Tryd.underlying5 b1_0) (trodAll_cons_mk (shut_int Tryd.underlying5 b2_0) trodAll_mk0))), rfl, bel.frame _, fun h => by cases h⟩

/-- a world for the witness: the settled one, the table holding what its text lays. -/
noncomputable def laidWorld (os : Os) : World :=
  { World.holding Tryd.prog os ⟨#[], #[], []⟩ with heap := (World.holding Tryd.prog os ⟨#[], #[], []⟩).heap.modify 0 fun
      | .cells _ t frozen => .cells #[.int .u8 0, .int .u8 0, .int .u8 0, .int .u8 3, .int .u8 15, .int .u8 20, .int .u8 0, .int .u8 28, .int .u8 4, .int .u8 26, .int .u8 127, .int .u8 21, .int .u8 23, .int .u8 18, .int .u8 22, .int .u8 17, .int .u8 19, .int .u8 0, .int .u8 0, .int .u8 2, .int .u8 6, .int .u8 25, .int .u8 24, .int .u8 1, .int .u8 5, .int .u8 9, .int .u8 16, .int .u8 8, .int .u8 14, .int .u8 29, .int .u8 11] t frozen
      | o => o }
theorem laid_met (os : Os) : laidMet Tryd.prog Rows.tableMeansRow.laid ((laidWorld os).forCall (fun _ _ => 0) ⟨#[], #[.agg (tabA fun _ => (0, 0)), .int .u8 0, .int .u8 0], []⟩).memory :=
  laidMet_of_run' 8 (by kernel_rfl) (by kernel_rfl)
theorem reads (os : Os) {H : Type} (enc : TypeId × Value → H) : ∃ x, DataW.whole enc Tryd.prog ((laidWorld os).forCall (fun _ _ => 0) ⟨#[], #[.agg (tabA fun _ => (0, 0)), .int .u8 0, .int .u8 0], []⟩).memory Tryd.f4.params.toList Rows.tableMeansSpec.vars false (#[.agg (tabA fun _ => (0, 0)), .int .u8 0, .int .u8 0] : Array Value).toList 8 = some x :=
  Option.isSome_iff_exists.1 (by kernel_rfl)

set_option maxRecDepth 100000 in
theorem lifted (os : Os) (started : os.Started) (H : Type) (enc : TypeId × Value → H) (F : Stop.Interp) :
    ReturnsInHanded {} Tryd.checked os 4 .any ((OpenSpec.ofChange Rows.tableMeansSpec).preRow enc Tryd.prog Tryd.f4 Rows.tableMeansRow.domain false Rows.tableMeansRow.laid) (((OpenSpec.ofChange Rows.tableMeansSpec).at F).post enc Tryd.prog Tryd.f4 false true false false) := by
  obtain ⟨places, hx⟩ := reads os enc
  refine returnsInHanded_of_row (C := Tryd.checked) (s := OpenSpec.ofChange Rows.tableMeansSpec) own started (by kernel_rfl) Tryd.func4
    (witness_row_at (enc := enc) (C := Tryd.checked) false (laidWorld os) #[.agg (tabA fun _ => (0, 0)), .int .u8 0, .int .u8 0] rfl (by kernel_rfl) (by kernel_rfl) (by kernel_rfl)
      (OpenSpec.preRow_of_cond 8 hx rfl (fun k hk => by cases hk) (by kernel_rfl) (laid_met os))) ?_
  intro W base args ds gs before hval hW _ _ _ hL _ _
  exact contract H enc W base args ds gs before hval hW hL

theorem said : Rows.TableMeansSaid :=
  OpenClaim.holds_of_cond 4 Tryd.f4 rfl rfl rfl rfl rfl rfl rfl ⟨rfl, rfl, rfl, rfl, rfl⟩ rfl rfl rfl rfl rfl (by kernel_rfl) Tryd.func4 (by kernel_rfl)
    (of_decide_eq_true (by kernel_rfl)) (by unfold Func.isWrapper; first | (rw [if_pos (by decide +kernel)]; kernel_rfl) | (rw [if_neg (by decide +kernel)]; exact ⟨rfl, rfl⟩))
    (fun os started H enc _ F => by rw [OpenClaim.pre_eq_preRow]; exact lifted os started H enc F)

/-- no parameter wants a stand-in; the program's own looks are off. -/
theorem plain (f : FuncId) (fn : Func) (hf : Tryd.pinned.checked.prog.funcNamed "linnet/linnetlaw08.TableMeans" = some f) (hfn : Tryd.pinned.checked.prog.funcs[f]? = some fn) :
    false = Tryd.pinned.checked.prog.looks [] ∧ ∀ (j : Nat) t, fn.params[j]? = some t → Tryd.pinned.checked.prog.wantsStandIn t = false := by
  obtain rfl : f = 4 := Option.some.inj ((show Tryd.prog.funcNamed "linnet/linnetlaw08.TableMeans" = some 4 by kernel_rfl).symm.trans hf) |>.symm
  obtain rfl : fn = Tryd.f4 := (Option.some.inj (Tryd.func4.symm.trans hfn)).symm
  refine ⟨by kernel_rfl, fun j t ht => ?_⟩
  rw [Tryd.params4] at ht
  have hm := Array.mem_of_getElem? ht
  simp only [List.mem_toArray, List.mem_cons, List.not_mem_nil, or_false] at hm
  rcases hm with rfl | rfl | rfl
  all_goals first | exact (show Tryd.prog.wantsStandIn 25 = false by kernel_rfl) | kernel_rfl

/-- the card. -/
theorem card : Rows.TableMeansCardSaid :=
  Claim7.holds_tied_plain_at .later [] _ _ _ _ said (fun _ h => by cases h) (by kernel_rfl) (fun _ h => by cases h) tableMeans_row_tie rfl ⟨rfl, rfl⟩ (by kernel_rfl) rfl plain (by kernel_rfl)
end Go.Proofs.YtjghmgpmaallfaaDoor.tableMeans
#print axioms Go.Proofs.YtjghmgpmaallfaaDoor.tableMeans.card
