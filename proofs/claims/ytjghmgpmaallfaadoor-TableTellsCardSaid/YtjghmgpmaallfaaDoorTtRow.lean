/-
  TableTells: the tables, their keys and meanings, any table with another cell, and the standard one, are as the document says: for all tables, changes and keys the law returns true, and its arguments read as they did.
-/
import Derived.Test.YtjghmgpmaallfaaDoorTty
import Derived.Test.YtjghmgpmaallfaaDoorTtn
import Derived.Test.YtjghmgpmaallfaaDoorOpn
import Derived.Test.YtjghmgpmaallfaaDoorCards
import Derived.Test.YtjghmgpmaallfaaDoorTie
import Derived.ChangeOld
import Derived.Below
import Derived.Deep.DeepHandedRow
import Derived.Lib.LaidTab
namespace Go.Proofs.YtjghmgpmaallfaaDoor.tableTells
open Go.ChangeShapes Go.WideShapes Go.ChangeAt Go.RowKit
set_option linter.unusedVariables false
set_option linter.unusedSimpArgs false

/-- what Key answers, and the document's key. -/
theorem key_law (t : Tb) (f : Int) (hb : ∀ i, i < 31 → i64b (t i).1 ∧ u8b (t i).2) : ∃ (k : Int) (is : Bool) (r : Nat),
    (∀ W, Calls Tryd.prog 9 #[.agg (tabA t), .int .i64 f] W fun e w' => e = .returned (.tuple #[.int .u8 k, .bool is]) ∧ Below W.heap.size W w') ∧ lowKey t f r ∧
      ((is = true ∧ k = r ∧ (r : Int) < 256) ∨ (is = false ∧ k = 0 ∧ r = 256)) := by
  by_cases h1 : f < 1
  · exact ⟨0, false, 256, fun W => key_low t f h1 W, ⟨Nat.le_refl _, fun h => absurd h (by omega), fun k _ h => by omega⟩, .inr ⟨rfl, rfl, rfl⟩⟩
  by_cases h2 : 31 < f
  · refine ⟨0, false, 256, fun W => key_high t f h2 W, ⟨Nat.le_refl _, fun h => absurd h (by omega), fun k _ h => ?_⟩, .inr ⟨rfl, rfl, rfl⟩⟩
    rcases meaning_cases t k with ⟨_, h4⟩ | ⟨_, h4⟩ | ⟨_, n, c1, g1, g2, _, _, h4⟩ <;> rw [h4] at h <;> omega
  by_cases h3 : f = 31
  · subst h3
    refine ⟨13, true, 13, fun W => key_enter t W, ⟨by omega, fun _ => ⟨by omega, meaning_enter t⟩, fun k hk h => ?_⟩, .inl ⟨rfl, rfl, by omega⟩⟩
    rcases meaning_cases t k with ⟨h5, h4⟩ | ⟨_, h4⟩ | ⟨_, n, c1, g1, g2, _, _, h4⟩
    · omega
    · rw [h4] at h; omega
    · rw [h4] at h; omega
  obtain ⟨n, rfl⟩ : ∃ n : Nat, f = n := ⟨f.toNat, by omega⟩
  obtain ⟨c1, c2, hc⟩ : ∃ c1 c2, t n = (c1, c2) := ⟨_, _, rfl⟩
  have hB := (hb n (by omega)).2
  rw [hc] at hB
  unfold u8b at hB
  simp only at hB
  have key : ∀ k : Int, meaning t k = n → ¬ c1 = 0 ∧ k = c2 := by
    intro k h
    rcases meaning_cases t k with ⟨_, h4⟩ | ⟨_, h4⟩ | ⟨_, n', c1', g1, g2, hc', hn', h4⟩
    · rw [h4] at h; omega
    · rw [h4] at h; omega
    · rw [h4] at h
      obtain rfl : n' = n := by omega
      rw [hc] at hc'
      obtain ⟨e1, e2⟩ := Prod.mk.inj hc'
      exact ⟨by rw [e1]; exact hn', e2.symm⟩
  by_cases h4 : c1 = 0
  · subst h4
    exact ⟨0, false, 256, fun W => key_none t n (by omega) (by omega) c2 (hid hc) W, ⟨Nat.le_refl _, fun h => absurd h (by omega), fun k _ h => (key k h.2).1 rfl⟩, .inr ⟨rfl, rfl, rfl⟩⟩
  by_cases h5 : meaning t c2 = n
  · refine ⟨c2, true, c2.toNat, fun W => key_ok t n (by omega) (by omega) c1 c2 h4 (hid hc) (hid h5) W, ⟨by omega, fun _ => ⟨by omega, ?_⟩, fun k hk h => ?_⟩, .inl ⟨rfl, by omega, by omega⟩⟩
    · rw [show ((c2.toNat : Nat) : Int) = c2 by omega]; exact h5
    · have := (key k h.2).2; omega
  · exact ⟨0, false, 256, fun W => key_other t n (by omega) (by omega) c1 c2 _ h5 h4 (hid hc) (hid rfl) W, ⟨Nat.le_refl _, fun h => absurd h (by omega), fun k _ h => h5 (by rw [← (key k h.2).2]; exact h.2)⟩, .inr ⟨rfl, rfl, rfl⟩⟩
/-- the walk, whatever the table, the change and the key. -/
theorem walk (t : Tb) (f c1 c2 key : Int) (hb : ∀ i, i < 31 → i64b (t i).1 ∧ u8b (t i).2) (w : World) (hstd : StdLies w) :
    Calls Tryd.prog 3 #[.agg (tabA t), .agg #[.int .i64 f, .int .i64 c1, .int .u8 c2], .int .u8 key] w fun e w' => e = .returned (.bool true) ∧ Below w.heap.size w w' := by
  have heb : ((tabErr t : Int) == 0) = decide (tabOk t) := by
    unfold tabErr
    by_cases h : tabOk t
    · rw [if_pos h, decide_eq_true h]; rfl
    · rw [if_neg h, decide_eq_false h]; rfl
  obtain ⟨k, is, r, hk, hl, hi⟩ := key_law t f hb
  have hlow : f < 1 → withT t f c1 c2 = (t, 1) := fun h => by unfold withT; rw [if_neg (by omega)]
  have hhigh : 30 < f → withT t f c1 c2 = (t, 1) := fun h => by unfold withT; rw [if_neg (by omega)]
  rcases hi with ⟨rfl, rfl, hr⟩ | ⟨rfl, rfl, rfl⟩
  · have hf1 := (hl.2.1 (by omega)).1
    by_cases h2 : 30 < f
    · exact tt_yes_high t f c1 c2 key _ _ _ r hr (hid hk) (hid hl) (hid rfl) (hid rfl) heb (hid rfl) h2 (hid (hhigh h2)) w hstd
    · obtain ⟨n, rfl⟩ : ∃ n : Nat, f = n := ⟨f.toNat, by omega⟩
      by_cases hv : tabOk (upd t n (c1, c2))
      · exact tt_yes_ok t n c1 c2 key _ _ _ r hr (hid hk) (hid hl) (hid rfl) (hid rfl) heb (hid rfl) (by omega) (by omega) (hid (decide_eq_true hv)) (hid (by unfold withT; rw [Int.toNat_natCast, if_pos ⟨by omega, by omega, if_pos hv⟩])) w hstd
      · exact tt_yes_bad t n c1 c2 key _ _ _ r hr (hid hk) (hid hl) (hid rfl) (hid rfl) heb (hid rfl) (by omega) (by omega) (hid (decide_eq_false hv)) (hid (by unfold withT; rw [Int.toNat_natCast, if_neg (fun h => by have := h.2.2; unfold tabErr at this; rw [if_neg hv] at this; omega)])) w hstd
  · by_cases h1 : f < 1
    · exact tt_no_low t f c1 c2 key _ _ _ (hid hk) (hid hl) (hid rfl) (hid rfl) heb (hid rfl) h1 (hid (hlow h1)) w hstd
    by_cases h2 : 30 < f
    · exact tt_no_high t f c1 c2 key _ _ _ (hid hk) (hid hl) (hid rfl) (hid rfl) heb (hid rfl) h2 (hid (hhigh h2)) w hstd
    · obtain ⟨n, rfl⟩ : ∃ n : Nat, f = n := ⟨f.toNat, by omega⟩
      by_cases hv : tabOk (upd t n (c1, c2))
      · exact tt_no_ok t n c1 c2 key _ _ _ (hid hk) (hid hl) (hid rfl) (hid rfl) heb (hid rfl) (by omega) (by omega) (hid (decide_eq_true hv)) (hid (by unfold withT; rw [Int.toNat_natCast, if_pos ⟨by omega, by omega, if_pos hv⟩])) w hstd
      · exact tt_no_bad t n c1 c2 key _ _ _ (hid hk) (hid hl) (hid rfl) (hid rfl) heb (hid rfl) (by omega) (by omega) (hid (decide_eq_false hv)) (hid (by unfold withT; rw [Int.toNat_natCast, if_neg (fun h => by have := h.2.2; unfold tabErr at this; rw [if_neg hv] at this; omega)])) w hstd

theorem own : ownKnob Tryd.prog.godebug = none := by kernel_rfl
theorem laidOut : laidOutB Tryd.prog = true := by kernel_rfl
theorem gTab : Tryd.prog.globalNamed "linnet/table.standard" = some 0 := by kernel_rfl
theorem gTabType : (Tryd.prog.globals[0]?).map (·.type) = some 45 := by kernel_rfl
theorem cellsTab : Tryd.prog.cellsOf 45 = 31 := by kernel_rfl
theorem cellsByte : Tryd.prog.cellsOf 5 = 1 := by kernel_rfl
/-- what the row's list gives: the table's cells hold their numbers. -/
theorem table {W : World} (h : laidMetH Tryd.prog Rows.tableTellsRow.laid W) : Lib.TabIs Tryd.prog W "linnet/table.standard" .u8 [0, 0, 0, 3, 15, 20, 0, 28, 4, 26, 127, 21, 23, 18, 22, 17, 19, 0, 0, 2, 6, 25, 24, 1, 5, 9, 16, 8, 14, 29, 11] :=
  Lib.tabIs_of_head (rest := []) gTab gTabType Tryd.underlying45 Tryd.underlying5 cellsByte cellsTab h
theorem lies {W : World} (h : laidMetH Tryd.prog Rows.tableTellsRow.laid W) : StdLies W := fun i hi => (table h).cell gTab i hi

set_option maxRecDepth 100000 in
/-- what the walk gives, for every argument and every world that holds the table. -/
theorem contract (H : Type) (enc : TypeId × Value → H) (W : World) (base : Nat) (args : Array Value) (ds gs : List (DataW H)) (before : List MemPlace)
    (hval0 : ∀ (j : Nat) t v, Tryd.f3.params[j]? = some t → args[j]? = some v → Value.okWide Tryd.prog W .any base t v)
    (hW : DataW.Whole enc Tryd.prog Tryd.f3.params.toList Rows.tableTellsSpec.vars false W args.toList ds gs before) (hL : laidMetH Tryd.prog Rows.tableTellsRow.laid W) :
    Calls Tryd.prog 3 args W fun e W' => ∃ v, e = .returned v ∧ Rows.tableTellsSpec.post enc Tryd.prog Tryd.f3 false true false false W args v W' := by
  have hval : ∀ (j : Nat) t v, Tryd.f3.params[j]? = some t → args[j]? = some v → Value.okWide Tryd.prog W .any base t v := hval0
  have hW' := hW
  obtain ⟨p, q, hA0, hV, rfl, hfz, hnd⟩ := hW
  have hA : DataW.TrodAll enc Tryd.prog W 0 (fun _ => true) true Tryd.f3.params.toList args.toList ds p := hA0
  rw [Tryd.params3] at hA hval
  obtain ⟨v0, vs0, d0, ds0, p0, q0, hargs, rfl, rfl, h0, r0⟩ := trodAll_cons hA
  obtain ⟨v1, vs1, d1, ds1, p1, q1, rfl, rfl, rfl, h1, r1⟩ := trodAll_cons r0
  obtain ⟨v2, vs2, d2, ds2, p2, q2, rfl, rfl, rfl, h2, r2⟩ := trodAll_cons r1
  obtain ⟨rfl, rfl, rfl⟩ := trodAll_nil r2
  obtain rfl : args = #[v0, v1, v2] := by cases args; simp_all
  obtain ⟨rfl, rfl⟩ := trodVars_none hV
  have lt0 : ∀ x ∈ p0, x.block < W.heap.size := by obtain ⟨m, hm⟩ := h0; exact DataW.trod_lt m _ _ _ hm
  have lt1 : ∀ x ∈ p1, x.block < W.heap.size := by obtain ⟨m, hm⟩ := h1; exact DataW.trod_lt m _ _ _ hm
  obtain ⟨t, rfl, b0_0⟩ := open_tab Tryd.underlying25 Tryd.underlying23 ⟨rfl, rfl⟩ ⟨rfl, rfl⟩ Tryd.underlying3 Tryd.underlying5 (by kernel_rfl) (by kernel_rfl) (by kernel_rfl) (by kernel_rfl) (hval 0 25 v0 rfl rfl) h0
  obtain ⟨f, c1, c2, rfl, b1_0, b1_1, b1_2⟩ := open_change Tryd.underlying27 Tryd.underlying23 ⟨rfl, rfl⟩ ⟨rfl, rfl⟩ ⟨rfl, rfl⟩ ⟨rfl, rfl⟩ Tryd.underlying3 Tryd.underlying5 (by kernel_rfl) (by kernel_rfl) (by kernel_rfl) (by kernel_rfl) (hval 1 27 v1 rfl rfl) h1
  obtain ⟨key, rfl, rfl, rfl, b2_0⟩ := open_int Tryd.underlying5 (hval 2 5 v2 rfl rfl) h2
  clear hA0 hval0
  refine (walk t f c1 c2 key b0_0 W (lies hL)).mono fun e W' ⟨he, bel⟩ => ?_
  subst he
  exact ⟨_, rfl, _, _, _, [], _, [], hW', trodAll_mk1 (shut_bool Tryd.underlying4 _), (trodAll_cons_mk (Below.trod laidOut (by kernel_rfl) (of_decide_eq_true (by kernel_rfl)) h0 bel lt0) (trodAll_cons_mk (Below.trod laidOut (by kernel_rfl) (of_decide_eq_true (by kernel_rfl)) h1 bel lt1) (trodAll_cons_mk (shut_int Tryd.underlying5 b2_0) trodAll_mk0))), rfl, bel.frame _, fun h => by cases h⟩

/-- a world for the witness: the settled one, the table holding what its text lays. -/
noncomputable def laidWorld (os : Os) : World :=
  { World.holding Tryd.prog os ⟨#[], #[], []⟩ with heap := (World.holding Tryd.prog os ⟨#[], #[], []⟩).heap.modify 0 fun
      | .cells _ t frozen => .cells #[.int .u8 0, .int .u8 0, .int .u8 0, .int .u8 3, .int .u8 15, .int .u8 20, .int .u8 0, .int .u8 28, .int .u8 4, .int .u8 26, .int .u8 127, .int .u8 21, .int .u8 23, .int .u8 18, .int .u8 22, .int .u8 17, .int .u8 19, .int .u8 0, .int .u8 0, .int .u8 2, .int .u8 6, .int .u8 25, .int .u8 24, .int .u8 1, .int .u8 5, .int .u8 9, .int .u8 16, .int .u8 8, .int .u8 14, .int .u8 29, .int .u8 11] t frozen
      | o => o }
theorem laid_met (os : Os) : laidMet Tryd.prog Rows.tableTellsRow.laid ((laidWorld os).forCall (fun _ _ => 0) ⟨#[], #[.agg (tabA fun _ => (0, 0)), .agg #[.int .i64 0, .int .i64 0, .int .u8 0], .int .u8 0], []⟩).memory :=
  laidMet_of_run' 8 (by kernel_rfl) (by kernel_rfl)
theorem reads (os : Os) {H : Type} (enc : TypeId × Value → H) : ∃ x, DataW.whole enc Tryd.prog ((laidWorld os).forCall (fun _ _ => 0) ⟨#[], #[.agg (tabA fun _ => (0, 0)), .agg #[.int .i64 0, .int .i64 0, .int .u8 0], .int .u8 0], []⟩).memory Tryd.f3.params.toList Rows.tableTellsSpec.vars false (#[.agg (tabA fun _ => (0, 0)), .agg #[.int .i64 0, .int .i64 0, .int .u8 0], .int .u8 0] : Array Value).toList 8 = some x :=
  Option.isSome_iff_exists.1 (by kernel_rfl)

set_option maxRecDepth 100000 in
theorem lifted (os : Os) (started : os.Started) (H : Type) (enc : TypeId × Value → H) (F : Stop.Interp) :
    ReturnsInHanded {} Tryd.checked os 3 .any ((OpenSpec.ofChange Rows.tableTellsSpec).preRow enc Tryd.prog Tryd.f3 Rows.tableTellsRow.domain false Rows.tableTellsRow.laid) (((OpenSpec.ofChange Rows.tableTellsSpec).at F).post enc Tryd.prog Tryd.f3 false true false false) := by
  obtain ⟨places, hx⟩ := reads os enc
  refine returnsInHanded_of_row (C := Tryd.checked) (s := OpenSpec.ofChange Rows.tableTellsSpec) own started (by kernel_rfl) Tryd.func3
    (witness_row_at (enc := enc) (C := Tryd.checked) false (laidWorld os) #[.agg (tabA fun _ => (0, 0)), .agg #[.int .i64 0, .int .i64 0, .int .u8 0], .int .u8 0] rfl (by kernel_rfl) (by kernel_rfl) (by kernel_rfl)
      (OpenSpec.preRow_of_cond 8 hx rfl (fun k hk => by cases hk) (by kernel_rfl) (laid_met os))) ?_
  intro W base args ds gs before hval hW _ _ _ hL _ _
  exact contract H enc W base args ds gs before hval hW hL

theorem said : Rows.TableTellsSaid :=
  OpenClaim.holds_of_cond 3 Tryd.f3 rfl rfl rfl rfl rfl rfl rfl ⟨rfl, rfl, rfl, rfl, rfl⟩ rfl rfl rfl rfl rfl (by kernel_rfl) Tryd.func3 (by kernel_rfl)
    (of_decide_eq_true (by kernel_rfl)) (by unfold Func.isWrapper; first | (rw [if_pos (by decide +kernel)]; kernel_rfl) | (rw [if_neg (by decide +kernel)]; exact ⟨rfl, rfl⟩))
    (fun os started H enc _ F => by rw [OpenClaim.pre_eq_preRow]; exact lifted os started H enc F)

/-- no parameter wants a stand-in; the program's own looks are off. -/
theorem plain (f : FuncId) (fn : Func) (hf : Tryd.pinned.checked.prog.funcNamed "linnet/linnetlaw08.TableTells" = some f) (hfn : Tryd.pinned.checked.prog.funcs[f]? = some fn) :
    false = Tryd.pinned.checked.prog.looks [] ∧ ∀ (j : Nat) t, fn.params[j]? = some t → Tryd.pinned.checked.prog.wantsStandIn t = false := by
  obtain rfl : f = 3 := Option.some.inj ((show Tryd.prog.funcNamed "linnet/linnetlaw08.TableTells" = some 3 by kernel_rfl).symm.trans hf) |>.symm
  obtain rfl : fn = Tryd.f3 := (Option.some.inj (Tryd.func3.symm.trans hfn)).symm
  refine ⟨by kernel_rfl, fun j t ht => ?_⟩
  rw [Tryd.params3] at ht
  have hm := Array.mem_of_getElem? ht
  simp only [List.mem_toArray, List.mem_cons, List.not_mem_nil, or_false] at hm
  rcases hm with rfl | rfl | rfl
  all_goals first | exact (show Tryd.prog.wantsStandIn 25 = false by kernel_rfl) | kernel_rfl

/-- the card. -/
theorem card : Rows.TableTellsCardSaid :=
  Claim7.holds_tied_plain_at .later [] _ _ _ _ said (fun _ h => by cases h) (by kernel_rfl) (fun _ h => by cases h) tableTells_row_tie rfl ⟨rfl, rfl⟩ (by kernel_rfl) rfl plain (by kernel_rfl)
end Go.Proofs.YtjghmgpmaallfaaDoor.tableTells
#print axioms Go.Proofs.YtjghmgpmaallfaaDoor.tableTells.card
