/-
  TableFirst: a key means the first function that is kept by it: for all tables, keys and functions the law returns true, and its arguments read as they did.
-/
import Derived.Test.YtjghmgpmaallfaaDoorFst
import Derived.Test.YtjghmgpmaallfaaDoorOpn
import Derived.Test.YtjghmgpmaallfaaDoorCards
import Derived.Test.YtjghmgpmaallfaaDoorTie
import Derived.ChangeOld
import Derived.Below
import Derived.Deep.DeepHandedRow
import Derived.Lib.LaidTab
namespace Go.Proofs.YtjghmgpmaallfaaDoor.tableFirst
open Go.ChangeShapes Go.WideShapes Go.ChangeAt Go.RowKit
set_option linter.unusedVariables false
set_option linter.unusedSimpArgs false

/-- the walk, whatever the key and the function. -/
theorem walk (t : Tb) (key f : Int) (w : World) (hstd : StdLies w) :
    Calls Tryd.prog 6 #[.agg (tabA t), .int .u8 key, .int .i64 f] w fun e w' => e = .returned (.bool true) ∧ Below w.heap.size w w' := by
  have hm : (key != 13) = false ∨ ((key != 13) = true ∧ (meaning t key != ((meanFrom t key 30 : Nat) : Int)) = false) := by
    by_cases hk : key = 13
    · exact .inl (by simpa using hk)
    · exact .inr ⟨by simpa using hk, by simp [meaning, hk]⟩
  by_cases h1 : f < 1
  · exact first_low t f h1 key _ _ hm (hid rfl) (hid rfl) w hstd
  by_cases h2 : 31 < f
  · exact first_high t f h2 key _ _ hm (hid rfl) (hid rfl) w hstd
  by_cases h3 : f = 31
  · subst h3; exact first_enter t key _ _ hm (hid rfl) (hid rfl) w hstd
  obtain ⟨n, rfl⟩ : ∃ n : Nat, f = n := ⟨f.toNat, by omega⟩
  obtain ⟨c1, c2, hc⟩ : ∃ c1 c2, t n = (c1, c2) := ⟨_, _, rfl⟩
  by_cases h4 : c1 = 0
  · subst h4; exact first_none t n (by omega) (by omega) c2 (hid hc) key _ _ hm (hid rfl) (hid rfl) w hstd
  by_cases h5 : meaning t c2 = n
  · exact first_ok t n (by omega) (by omega) c1 c2 h4 (hid hc) (hid h5) key _ _ hm (hid rfl) (hid rfl) w hstd
  · exact first_other t n (by omega) (by omega) c1 c2 _ h5 h4 (hid hc) (hid rfl) key _ _ hm (hid rfl) (hid rfl) w hstd

theorem own : ownKnob Tryd.prog.godebug = none := by kernel_rfl
theorem laidOut : laidOutB Tryd.prog = true := by kernel_rfl
theorem gTab : Tryd.prog.globalNamed "linnet/table.standard" = some 0 := by kernel_rfl
theorem gTabType : (Tryd.prog.globals[0]?).map (·.type) = some 45 := by kernel_rfl
theorem cellsTab : Tryd.prog.cellsOf 45 = 31 := by kernel_rfl
theorem cellsByte : Tryd.prog.cellsOf 5 = 1 := by kernel_rfl
/-- what the row's list gives: the table's cells hold their numbers. -/
theorem table {W : World} (h : laidMetH Tryd.prog Rows.tableFirstRow.laid W) : Lib.TabIs Tryd.prog W "linnet/table.standard" .u8 [0, 0, 0, 3, 15, 20, 0, 28, 4, 26, 127, 21, 23, 18, 22, 17, 19, 0, 0, 2, 6, 25, 24, 1, 5, 9, 16, 8, 14, 29, 11] :=
  Lib.tabIs_of_head (rest := []) gTab gTabType Tryd.underlying45 Tryd.underlying5 cellsByte cellsTab h
theorem lies {W : World} (h : laidMetH Tryd.prog Rows.tableFirstRow.laid W) : StdLies W := fun i hi => (table h).cell gTab i hi

set_option maxRecDepth 100000 in
/-- what the walk gives, for every argument and every world that holds the table. -/
theorem contract (H : Type) (enc : TypeId × Value → H) (W : World) (base : Nat) (args : Array Value) (ds gs : List (DataW H)) (before : List MemPlace)
    (hval0 : ∀ (j : Nat) t v, Tryd.f6.params[j]? = some t → args[j]? = some v → Value.okWide Tryd.prog W .any base t v)
    (hW : DataW.Whole enc Tryd.prog Tryd.f6.params.toList Rows.tableFirstSpec.vars false W args.toList ds gs before) (hL : laidMetH Tryd.prog Rows.tableFirstRow.laid W) :
    Calls Tryd.prog 6 args W fun e W' => ∃ v, e = .returned v ∧ Rows.tableFirstSpec.post enc Tryd.prog Tryd.f6 false true false false W args v W' := by
  have hval : ∀ (j : Nat) t v, Tryd.f6.params[j]? = some t → args[j]? = some v → Value.okWide Tryd.prog W .any base t v := hval0
  have hW' := hW
  obtain ⟨p, q, hA0, hV, rfl, hfz, hnd⟩ := hW
  have hA : DataW.TrodAll enc Tryd.prog W 0 (fun _ => true) true Tryd.f6.params.toList args.toList ds p := hA0
  rw [Tryd.params6] at hA hval
  obtain ⟨v0, vs0, d0, ds0, p0, q0, hargs, rfl, rfl, h0, r0⟩ := trodAll_cons hA
  obtain ⟨v1, vs1, d1, ds1, p1, q1, rfl, rfl, rfl, h1, r1⟩ := trodAll_cons r0
  obtain ⟨v2, vs2, d2, ds2, p2, q2, rfl, rfl, rfl, h2, r2⟩ := trodAll_cons r1
  obtain ⟨rfl, rfl, rfl⟩ := trodAll_nil r2
  obtain rfl : args = #[v0, v1, v2] := by cases args; simp_all
  obtain ⟨rfl, rfl⟩ := trodVars_none hV
  have lt0 : ∀ x ∈ p0, x.block < W.heap.size := by obtain ⟨m, hm⟩ := h0; exact DataW.trod_lt m _ _ _ hm
  obtain ⟨t, rfl, b0_0⟩ := open_tab Tryd.underlying25 Tryd.underlying23 ⟨rfl, rfl⟩ ⟨rfl, rfl⟩ Tryd.underlying3 Tryd.underlying5 (by kernel_rfl) (by kernel_rfl) (by kernel_rfl) (by kernel_rfl) (hval 0 25 v0 rfl rfl) h0
  obtain ⟨key, rfl, rfl, rfl, b1_0⟩ := open_int Tryd.underlying5 (hval 1 5 v1 rfl rfl) h1
  obtain ⟨f, rfl, rfl, rfl, b2_0⟩ := open_int Tryd.underlying3 (hval 2 3 v2 rfl rfl) h2
  clear hA0 hval0
  refine (walk t key f W (lies hL)).mono fun e W' ⟨he, bel⟩ => ?_
  subst he
  exact ⟨_, rfl, _, _, _, [], _, [], hW', trodAll_mk1 (shut_bool Tryd.underlying4 _), (trodAll_cons_mk (Below.trod laidOut (by kernel_rfl) (of_decide_eq_true (by kernel_rfl)) h0 bel lt0) (trodAll_cons_mk (shut_int Tryd.underlying5 b1_0) (trodAll_cons_mk (shut_int Tryd.underlying3 b2_0) trodAll_mk0))), rfl, bel.frame _, fun h => by cases h⟩

/-- a world for the witness: the settled one, the table holding what its text lays. -/
noncomputable def laidWorld (os : Os) : World :=
  { World.holding Tryd.prog os ⟨#[], #[], []⟩ with heap := (World.holding Tryd.prog os ⟨#[], #[], []⟩).heap.modify 0 fun
      | .cells _ t frozen => .cells #[.int .u8 0, .int .u8 0, .int .u8 0, .int .u8 3, .int .u8 15, .int .u8 20, .int .u8 0, .int .u8 28, .int .u8 4, .int .u8 26, .int .u8 127, .int .u8 21, .int .u8 23, .int .u8 18, .int .u8 22, .int .u8 17, .int .u8 19, .int .u8 0, .int .u8 0, .int .u8 2, .int .u8 6, .int .u8 25, .int .u8 24, .int .u8 1, .int .u8 5, .int .u8 9, .int .u8 16, .int .u8 8, .int .u8 14, .int .u8 29, .int .u8 11] t frozen
      | o => o }
theorem laid_met (os : Os) : laidMet Tryd.prog Rows.tableFirstRow.laid ((laidWorld os).forCall (fun _ _ => 0) ⟨#[], #[.agg (tabA fun _ => (0, 0)), .int .u8 0, .int .i64 0], []⟩).memory :=
  laidMet_of_run' 8 (by kernel_rfl) (by kernel_rfl)
theorem reads (os : Os) {H : Type} (enc : TypeId × Value → H) : ∃ x, DataW.whole enc Tryd.prog ((laidWorld os).forCall (fun _ _ => 0) ⟨#[], #[.agg (tabA fun _ => (0, 0)), .int .u8 0, .int .i64 0], []⟩).memory Tryd.f6.params.toList Rows.tableFirstSpec.vars false (#[.agg (tabA fun _ => (0, 0)), .int .u8 0, .int .i64 0] : Array Value).toList 8 = some x :=
  Option.isSome_iff_exists.1 (by kernel_rfl)

set_option maxRecDepth 100000 in
theorem lifted (os : Os) (started : os.Started) (H : Type) (enc : TypeId × Value → H) (F : Stop.Interp) :
    ReturnsInHanded {} Tryd.checked os 6 .any ((OpenSpec.ofChange Rows.tableFirstSpec).preRow enc Tryd.prog Tryd.f6 Rows.tableFirstRow.domain false Rows.tableFirstRow.laid) (((OpenSpec.ofChange Rows.tableFirstSpec).at F).post enc Tryd.prog Tryd.f6 false true false false) := by
  obtain ⟨places, hx⟩ := reads os enc
  refine returnsInHanded_of_row (C := Tryd.checked) (s := OpenSpec.ofChange Rows.tableFirstSpec) own started (by kernel_rfl) Tryd.func6
    (witness_row_at (enc := enc) (C := Tryd.checked) false (laidWorld os) #[.agg (tabA fun _ => (0, 0)), .int .u8 0, .int .i64 0] rfl (by kernel_rfl) (by kernel_rfl) (by kernel_rfl)
      (OpenSpec.preRow_of_cond 8 hx rfl (fun k hk => by cases hk) (by kernel_rfl) (laid_met os))) ?_
  intro W base args ds gs before hval hW _ _ _ hL _ _
  exact contract H enc W base args ds gs before hval hW hL

theorem said : Rows.TableFirstSaid :=
  OpenClaim.holds_of_cond 6 Tryd.f6 rfl rfl rfl rfl rfl rfl rfl ⟨rfl, rfl, rfl, rfl, rfl⟩ rfl rfl rfl rfl rfl (by kernel_rfl) Tryd.func6 (by kernel_rfl)
    (of_decide_eq_true (by kernel_rfl)) (by unfold Func.isWrapper; first | (rw [if_pos (by decide +kernel)]; kernel_rfl) | (rw [if_neg (by decide +kernel)]; exact ⟨rfl, rfl⟩))
    (fun os started H enc _ F => by rw [OpenClaim.pre_eq_preRow]; exact lifted os started H enc F)

/-- no parameter wants a stand-in; the program's own looks are off. -/
theorem plain (f : FuncId) (fn : Func) (hf : Tryd.pinned.checked.prog.funcNamed "linnet/linnetlaw08.TableFirst" = some f) (hfn : Tryd.pinned.checked.prog.funcs[f]? = some fn) :
    false = Tryd.pinned.checked.prog.looks [] ∧ ∀ (j : Nat) t, fn.params[j]? = some t → Tryd.pinned.checked.prog.wantsStandIn t = false := by
  obtain rfl : f = 6 := Option.some.inj ((show Tryd.prog.funcNamed "linnet/linnetlaw08.TableFirst" = some 6 by kernel_rfl).symm.trans hf) |>.symm
  obtain rfl : fn = Tryd.f6 := (Option.some.inj (Tryd.func6.symm.trans hfn)).symm
  refine ⟨by kernel_rfl, fun j t ht => ?_⟩
  rw [Tryd.params6] at ht
  have hm := Array.mem_of_getElem? ht
  simp only [List.mem_toArray, List.mem_cons, List.not_mem_nil, or_false] at hm
  rcases hm with rfl | rfl | rfl
  all_goals first | exact (show Tryd.prog.wantsStandIn 25 = false by kernel_rfl) | kernel_rfl

/-- the card. -/
theorem card : Rows.TableFirstCardSaid :=
  Claim7.holds_tied_plain_at .later [] _ _ _ _ said (fun _ h => by cases h) (by kernel_rfl) (fun _ h => by cases h) tableFirst_row_tie rfl ⟨rfl, rfl⟩ (by kernel_rfl) rfl plain (by kernel_rfl)
end Go.Proofs.YtjghmgpmaallfaaDoor.tableFirst
#print axioms Go.Proofs.YtjghmgpmaallfaaDoor.tableFirst.card
