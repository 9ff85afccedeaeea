/-
  TableWith: a cell that is changed changes what two keys mean at the most: for all tables, changes and keys the law returns true, and its arguments read as they did.
-/
import Derived.Test.YtjghmgpmaallfaaDoorTwi
import Derived.Test.YtjghmgpmaallfaaDoorOpn
import Derived.Test.YtjghmgpmaallfaaDoorCards
import Derived.Test.YtjghmgpmaallfaaDoorTie
import Derived.ChangeOld
import Derived.Below
import Derived.Deep.DeepHandedRow
import Derived.Lib.LaidTab
namespace Go.Proofs.YtjghmgpmaallfaaDoor.tableWith
open Go.ChangeShapes Go.WideShapes Go.ChangeAt Go.RowKit
set_option linter.unusedVariables false
set_option linter.unusedSimpArgs false

theorem mean_congr (t u : Tb) (key : Int) (h : ∀ k, 1 ≤ k → k < 31 → (hit u key k ↔ hit t key k)) : meaning u key = meaning t key := by
  have hn : ∀ n, n ≤ 30 → meanFrom u key n = meanFrom t key n := by
    intro n
    induction n with
    | zero => intro _; rfl
    | succ n ih =>
      intro hle
      unfold meanFrom
      have hk := h (30 - n) (by omega) (by omega)
      by_cases h1 : hit t key (30 - n)
      · rw [if_pos h1, if_pos (hk.2 h1)]
      · rw [if_neg h1, if_neg (fun h2 => h1 (hk.1 h2)), ih (by omega)]
  unfold meaning
  rw [hn 30 (Nat.le_refl _)]
theorem upd_back (t : Tb) (n : Nat) (c : Int × Int) : upd (upd t n c) n (t n) = t := by
  funext k
  unfold upd
  by_cases e : k = n
  · subst e; simp
  · simp [e]
/-- the walk, whatever With answers. -/
theorem walk (t : Tb) (f c1 c2 key : Int) (w : World) (hstd : StdLies w) :
    Calls Tryd.prog 5 #[.agg (tabA t), .agg #[.int .i64 f, .int .i64 c1, .int .u8 c2], .int .u8 key] w fun e w' => e = .returned (.bool true) ∧ Below w.heap.size w w' := by
  by_cases hc : 1 ≤ f ∧ f < 31 ∧ tabErr (upd t f.toNat (c1, c2)) = 0
  · obtain ⟨hf1, hf2, hu⟩ := hc
    obtain ⟨n, rfl⟩ : ∃ n : Nat, f = n := ⟨f.toNat, by omega⟩
    rw [Int.toNat_natCast] at hu
    have h1 : withT t n c1 c2 = (upd t n (c1, c2), 0) := by unfold withT; rw [Int.toNat_natCast, if_pos ⟨hf1, hf2, hu⟩]
    have hup : upd t n (c1, c2) n = (c1, c2) := if_pos rfl
    have hother : ∀ k, k ≠ n → upd t n (c1, c2) k = t k := fun k hk => if_neg hk
    obtain ⟨o1, o2, ho⟩ : ∃ o1 o2, t n = (o1, o2) := ⟨_, _, rfl⟩
    have hx : touched key c1 c2 o1 o2 = false → meaning (upd t n (c1, c2)) key = meaning t key := by
      intro ht
      apply mean_congr
      intro k _ _
      by_cases hk : k = n
      · subst hk
        unfold hit
        rw [hup, ho]
        unfold touched at ht
        simp only [Bool.or_eq_false_iff, Bool.and_eq_false_iff, beq_eq_false_iff_ne, bne_eq_false_iff_eq] at ht
        constructor
        · rintro ⟨a, b⟩; rcases ht.1 with q | q
          · exact absurd b.symm q
          · exact absurd q a
        · rintro ⟨a, b⟩; rcases ht.2 with q | q
          · exact absurd b.symm q
          · exact absurd q a
      · unfold hit
        rw [hother k hk]
    have hb := upd_back t n (c1, c2)
    rw [ho] at hb
    by_cases ht : tabErr t = 0
    · have h2 : withT (upd t n (c1, c2)) n o1 o2 = (t, 0) := by unfold withT; rw [Int.toNat_natCast, hb, if_pos ⟨hf1, hf2, ht⟩]
      exact tw_ok t _ t n (by omega) (by omega) key c1 c2 o1 o2 _ _ 0 _ true (hid h2) (hid h1) (hid hup) (hid ho) (hid hother) (hid rfl) (hid rfl) (hid rfl) (hid hx) (hid hu) (hid ht) (hid (sameTb_refl t)) rfl w hstd
    · have h2 : withT (upd t n (c1, c2)) n o1 o2 = (upd t n (c1, c2), 1) := by unfold withT; rw [Int.toNat_natCast, hb, if_neg (fun h => ht h.2.2)]
      have hs : sameTb (upd t n (c1, c2)) t = false := by
        cases h : sameTb (upd t n (c1, c2)) t
        · rfl
        · have hall := (sameTb_iff _ _).1 h
          refine absurd ?_ ht
          refine tabErr_good t fun i hi => ?_
          rw [← hall i hi]
          exact tabErr_ok hu i hi
      exact tw_ok t _ _ n (by omega) (by omega) key c1 c2 o1 o2 _ _ 1 _ false (hid h2) (hid h1) (hid hup) (hid ho) (hid hother) (hid rfl) (hid rfl) (hid rfl) (hid hx) (hid hu) (hid hu) (hid hs) rfl w hstd
  · exact tw_no t f c1 c2 key (hid (by unfold withT; rw [if_neg hc])) w hstd

theorem own : ownKnob Tryd.prog.godebug = none := by kernel_rfl
theorem laidOut : laidOutB Tryd.prog = true := by kernel_rfl
theorem gTab : Tryd.prog.globalNamed "linnet/table.standard" = some 0 := by kernel_rfl
theorem gTabType : (Tryd.prog.globals[0]?).map (·.type) = some 45 := by kernel_rfl
theorem cellsTab : Tryd.prog.cellsOf 45 = 31 := by kernel_rfl
theorem cellsByte : Tryd.prog.cellsOf 5 = 1 := by kernel_rfl
/-- what the row's list gives: the table's cells hold their numbers. -/
theorem table {W : World} (h : laidMetH Tryd.prog Rows.tableWithRow.laid W) : Lib.TabIs Tryd.prog W "linnet/table.standard" .u8 [0, 0, 0, 3, 15, 20, 0, 28, 4, 26, 127, 21, 23, 18, 22, 17, 19, 0, 0, 2, 6, 25, 24, 1, 5, 9, 16, 8, 14, 29, 11] :=
  Lib.tabIs_of_head (rest := []) gTab gTabType Tryd.underlying45 Tryd.underlying5 cellsByte cellsTab h
theorem lies {W : World} (h : laidMetH Tryd.prog Rows.tableWithRow.laid W) : StdLies W := fun i hi => (table h).cell gTab i hi

set_option maxRecDepth 100000 in
/-- what the walk gives, for every argument and every world that holds the table. -/
theorem contract (H : Type) (enc : TypeId × Value → H) (W : World) (base : Nat) (args : Array Value) (ds gs : List (DataW H)) (before : List MemPlace)
    (hval0 : ∀ (j : Nat) t v, Tryd.f5.params[j]? = some t → args[j]? = some v → Value.okWide Tryd.prog W .any base t v)
    (hW : DataW.Whole enc Tryd.prog Tryd.f5.params.toList Rows.tableWithSpec.vars false W args.toList ds gs before) (hL : laidMetH Tryd.prog Rows.tableWithRow.laid W) :
    Calls Tryd.prog 5 args W fun e W' => ∃ v, e = .returned v ∧ Rows.tableWithSpec.post enc Tryd.prog Tryd.f5 false true false false W args v W' := by
  have hval : ∀ (j : Nat) t v, Tryd.f5.params[j]? = some t → args[j]? = some v → Value.okWide Tryd.prog W .any base t v := hval0
  have hW' := hW
  obtain ⟨p, q, hA0, hV, rfl, hfz, hnd⟩ := hW
  have hA : DataW.TrodAll enc Tryd.prog W 0 (fun _ => true) true Tryd.f5.params.toList args.toList ds p := hA0
  rw [Tryd.params5] at hA hval
  obtain ⟨v0, vs0, d0, ds0, p0, q0, hargs, rfl, rfl, h0, r0⟩ := trodAll_cons hA
  obtain ⟨v1, vs1, d1, ds1, p1, q1, rfl, rfl, rfl, h1, r1⟩ := trodAll_cons r0
  obtain ⟨v2, vs2, d2, ds2, p2, q2, rfl, rfl, rfl, h2, r2⟩ := trodAll_cons r1
  obtain ⟨rfl, rfl, rfl⟩ := trodAll_nil r2
  obtain rfl : args = #[v0, v1, v2] := by cases args; simp_all
  obtain ⟨rfl, rfl⟩ := trodVars_none hV
  have lt0 : ∀ x ∈ p0, x.block < W.heap.size := by obtain ⟨m, hm⟩ := h0; exact DataW.trod_lt m _ _ _ hm
  have lt1 : ∀ x ∈ p1, x.block < W.heap.size := by obtain ⟨m, hm⟩ := h1; exact DataW.trod_lt m _ _ _ hm
  obtain ⟨t, rfl, b0_0⟩ := open_tab Tryd.underlying25 Tryd.underlying23 ⟨rfl, rfl⟩ ⟨rfl, rfl⟩ Tryd.underlying3 Tryd.underlying5 (by kernel_rfl) (by kernel_rfl) (by kernel_rfl) (by kernel_rfl) (hval 0 25 v0 rfl rfl) h0
  obtain ⟨f, c1, c2, rfl, b1_0, b1_1, b1_2⟩ := open_change Tryd.underlying27 Tryd.underlying23 ⟨rfl, rfl⟩ ⟨rfl, rfl⟩ ⟨rfl, rfl⟩ ⟨rfl, rfl⟩ Tryd.underlying3 Tryd.underlying5 (by kernel_rfl) (by kernel_rfl) (by kernel_rfl) (by kernel_rfl) (hval 1 27 v1 rfl rfl) h1
  obtain ⟨key, rfl, rfl, rfl, b2_0⟩ := open_int Tryd.underlying5 (hval 2 5 v2 rfl rfl) h2
  clear hA0 hval0
  refine (walk t f c1 c2 key W (lies hL)).mono fun e W' ⟨he, bel⟩ => ?_
  subst he
  exact ⟨_, rfl, _, _, _, [], _, [], hW', trodAll_mk1 (shut_bool Tryd.underlying4 _), (trodAll_cons_mk (Below.trod laidOut (by kernel_rfl) (of_decide_eq_true (by kernel_rfl)) h0 bel lt0) (trodAll_cons_mk (Below.trod laidOut (by kernel_rfl) (of_decide_eq_true (by kernel_rfl)) h1 bel lt1) (trodAll_cons_mk (shut_int Tryd.underlying5 b2_0) trodAll_mk0))), rfl, bel.frame _, fun h => by cases h⟩

/-- a world for the witness: the settled one, the table holding what its text lays. -/
noncomputable def laidWorld (os : Os) : World :=
  { World.holding Tryd.prog os ⟨#[], #[], []⟩ with heap := (World.holding Tryd.prog os ⟨#[], #[], []⟩).heap.modify 0 fun
      | .cells _ t frozen => .cells #[.int .u8 0, .int .u8 0, .int .u8 0, .int .u8 3, .int .u8 15, .int .u8 20, .int .u8 0, .int .u8 28, .int .u8 4, .int .u8 26, .int .u8 127, .int .u8 21, .int .u8 23, .int .u8 18, .int .u8 22, .int .u8 17, .int .u8 19, .int .u8 0, .int .u8 0, .int .u8 2, .int .u8 6, .int .u8 25, .int .u8 24, .int .u8 1, .int .u8 5, .int .u8 9, .int .u8 16, .int .u8 8, .int .u8 14, .int .u8 29, .int .u8 11] t frozen
      | o => o }
theorem laid_met (os : Os) : laidMet Tryd.prog Rows.tableWithRow.laid ((laidWorld os).forCall (fun _ _ => 0) ⟨#[], #[.agg (tabA fun _ => (0, 0)), .agg #[.int .i64 0, .int .i64 0, .int .u8 0], .int .u8 0], []⟩).memory :=
  laidMet_of_run' 8 (by kernel_rfl) (by kernel_rfl)
theorem reads (os : Os) {H : Type} (enc : TypeId × Value → H) : ∃ x, DataW.whole enc Tryd.prog ((laidWorld os).forCall (fun _ _ => 0) ⟨#[], #[.agg (tabA fun _ => (0, 0)), .agg #[.int .i64 0, .int .i64 0, .int .u8 0], .int .u8 0], []⟩).memory Tryd.f5.params.toList Rows.tableWithSpec.vars false (#[.agg (tabA fun _ => (0, 0)), .agg #[.int .i64 0, .int .i64 0, .int .u8 0], .int .u8 0] : Array Value).toList 8 = some x :=
  Option.isSome_iff_exists.1 (by kernel_rfl)

set_option maxRecDepth 100000 in
theorem lifted (os : Os) (started : os.Started) (H : Type) (enc : TypeId × Value → H) (F : Stop.Interp) :
    ReturnsInHanded {} Tryd.checked os 5 .any ((OpenSpec.ofChange Rows.tableWithSpec).preRow enc Tryd.prog Tryd.f5 Rows.tableWithRow.domain false Rows.tableWithRow.laid) (((OpenSpec.ofChange Rows.tableWithSpec).at F).post enc Tryd.prog Tryd.f5 false true false false) := by
  obtain ⟨places, hx⟩ := reads os enc
  refine returnsInHanded_of_row (C := Tryd.checked) (s := OpenSpec.ofChange Rows.tableWithSpec) own started (by kernel_rfl) Tryd.func5
    (witness_row_at (enc := enc) (C := Tryd.checked) false (laidWorld os) #[.agg (tabA fun _ => (0, 0)), .agg #[.int .i64 0, .int .i64 0, .int .u8 0], .int .u8 0] rfl (by kernel_rfl) (by kernel_rfl) (by kernel_rfl)
      (OpenSpec.preRow_of_cond 8 hx rfl (fun k hk => by cases hk) (by kernel_rfl) (laid_met os))) ?_
  intro W base args ds gs before hval hW _ _ _ hL _ _
  exact contract H enc W base args ds gs before hval hW hL

theorem said : Rows.TableWithSaid :=
  OpenClaim.holds_of_cond 5 Tryd.f5 rfl rfl rfl rfl rfl rfl rfl ⟨rfl, rfl, rfl, rfl, rfl⟩ rfl rfl rfl rfl rfl (by kernel_rfl) Tryd.func5 (by kernel_rfl)
    (of_decide_eq_true (by kernel_rfl)) (by unfold Func.isWrapper; first | (rw [if_pos (by decide +kernel)]; kernel_rfl) | (rw [if_neg (by decide +kernel)]; exact ⟨rfl, rfl⟩))
    (fun os started H enc _ F => by rw [OpenClaim.pre_eq_preRow]; exact lifted os started H enc F)

/-- no parameter wants a stand-in; the program's own looks are off. -/
theorem plain (f : FuncId) (fn : Func) (hf : Tryd.pinned.checked.prog.funcNamed "linnet/linnetlaw08.TableWith" = some f) (hfn : Tryd.pinned.checked.prog.funcs[f]? = some fn) :
    false = Tryd.pinned.checked.prog.looks [] ∧ ∀ (j : Nat) t, fn.params[j]? = some t → Tryd.pinned.checked.prog.wantsStandIn t = false := by
  obtain rfl : f = 5 := Option.some.inj ((show Tryd.prog.funcNamed "linnet/linnetlaw08.TableWith" = some 5 by kernel_rfl).symm.trans hf) |>.symm
  obtain rfl : fn = Tryd.f5 := (Option.some.inj (Tryd.func5.symm.trans hfn)).symm
  refine ⟨by kernel_rfl, fun j t ht => ?_⟩
  rw [Tryd.params5] at ht
  have hm := Array.mem_of_getElem? ht
  simp only [List.mem_toArray, List.mem_cons, List.not_mem_nil, or_false] at hm
  rcases hm with rfl | rfl | rfl
  all_goals first | exact (show Tryd.prog.wantsStandIn 25 = false by kernel_rfl) | kernel_rfl

/-- the card. -/
theorem card : Rows.TableWithCardSaid :=
  Claim7.holds_tied_plain_at .later [] _ _ _ _ said (fun _ h => by cases h) (by kernel_rfl) (fun _ h => by cases h) tableWith_row_tie rfl ⟨rfl, rfl⟩ (by kernel_rfl) rfl plain (by kernel_rfl)
end Go.Proofs.YtjghmgpmaallfaaDoor.tableWith
#print axioms Go.Proofs.YtjghmgpmaallfaaDoor.tableWith.card
