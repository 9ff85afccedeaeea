/-
  The contracts of linnetref08.cell, linnetref08.Standard.
-/
import Derived.Test.YtjghmgpmaallfaaDoorStd
import Derived.Test.YtjghmgpmaallfaaDoorLib2
import Derived.StillTailTactics
namespace Go.Proofs.YtjghmgpmaallfaaDoor
open Go.RowKit
set_option linter.unusedVariables false
set_option linter.unusedSimpArgs false

/-- one result that lies in a block. -/
theorem results_row1 {P : Program} {fn : Func} {p : Tmp} {ty : TypeId} (h : fn.results = #[.cell p ty]) (tmps : Array Value) (w : World) (g : Nat) (t : TypeId) (cs : Array Value) (fr : Nat × Nat) (d : TypeDesc)
    (hp : tmps.getD p undef = .pointer (some ⟨g, 0, none⟩)) (hg : w.heap[g]? = some (.cells cs t fr))
    (hu : P.underlying ty = some d) (hd : (match d with | .struct _ | .array _ _ => true | _ => false) = true) (hi : (P.info? ty).map (·.size) = some cs.size) :
    (results fn tmps).run P w = .ok (.agg cs) w := by
  have hp' : tmps[p]?.getD undef = .pointer (some ⟨g, 0, none⟩) := by simpa using hp
  simp [results, h, hp', asAddr, run_loadVar_row w g t ty cs fr d hg hu hd hi, Sem.run_bind, Result.andThen]

set_option maxHeartbeats 2000000 in
set_option maxRecDepth 100000 in
/-- linnetref08.cell -/
theorem refCell (t : Tb) (n : Nat) (h2 : n < 31) (c : Int) (w : World) :
    Calls Tryd.prog 19 #[.agg (tabA t), .int .i64 n, .int .u8 c] w fun e w' => e = .returned (.agg (tabA (upd t n (2, c)))) ∧ Below w.heap.size w w' := by
  go_enter Tryd.func19, Tryd.ntmps19
  go_wp2_with (refine wpList_store_mid rfl 23 (.tmp 10) (.tmp 9) rfl (w.heap.size) (n * 2) rfl 25 (tabA t) (show rowAt _ _ = _ from by rw [rowAt_old _ _ _ (by simp), rowAt_new _ _ _ rfl]) _ rfl sizeCell (by rw [tabA_size]; simp; omega) rfl (tabA (upd t n (2, c))) (lay_upd _ _ _ _ (by omega)) ?_)
  exact bodyPost_ret (v := .agg (tabA (upd t n (2, c)))) (results_row1 Tryd.results19 _ _ (w.heap.size + 1) 25 (tabA (upd t n (2, c))) (0, 0) _ rfl (heapNew _ _ _ (by simp)) Tryd.underlying25 rfl (by rw [tabA_size]; exact sizeTable)) rfl
    ⟨rfl, ((Below.refl _ _).alloc (Nat.le_refl _) _).alloc (by simp) _⟩

/-- the functions that the document lists, and their keys. -/
def refF : List Nat := [3, 4, 5, 7, 8, 9, 10, 11, 12, 13, 14, 15, 16, 19, 20, 21, 22, 23, 24, 25, 26, 27, 28, 29, 30]
def refK : List Int := [3, 15, 20, 28, 4, 26, 127, 21, 23, 18, 22, 17, 19, 2, 6, 25, 24, 1, 5, 9, 16, 8, 14, 29, 11]
def refPre : Nat → Tb
  | 0 => zeroT
  | k + 1 => upd (refPre k) (refF.getD k 0) (2, refK.getD k 0)
theorem refF_lt : ∀ k, k < 25 → refF.getD k 0 < 31 := by decide
theorem refPre_all : tabA (refPre 25) = tabA std := tabA_congr (by decide)

def fA : Array Value := (refF.map fun x : Nat => Value.int .i64 (x : Int)).toArray
def kA : Array Value := (refK.map fun x => Value.int .u8 x).toArray
theorem zero46 : (Tryd.prog.info? 46).map (·.zero) = some (some (.agg (Array.replicate 25 (.int .i64 0)))) := by kernel_rfl
theorem zero47 : (Tryd.prog.info? 47).map (·.zero) = some (some (.agg (Array.replicate 25 (.int .u8 0)))) := by kernel_rfl
theorem size46 : (Tryd.prog.info? 46).map (·.size) = some 25 := by kernel_rfl
theorem size47 : (Tryd.prog.info? 47).map (·.size) = some 25 := by kernel_rfl
theorem build46 (w : World) : (Instr.build 46 #[(0, .int .i64 3), (1, .int .i64 4), (2, .int .i64 5), (3, .int .i64 7), (4, .int .i64 8), (5, .int .i64 9), (6, .int .i64 10), (7, .int .i64 11), (8, .int .i64 12), (9, .int .i64 13), (10, .int .i64 14), (11, .int .i64 15), (12, .int .i64 16), (13, .int .i64 19), (14, .int .i64 20), (15, .int .i64 21), (16, .int .i64 22), (17, .int .i64 23), (18, .int .i64 24), (19, .int .i64 25), (20, .int .i64 26), (21, .int .i64 27), (22, .int .i64 28), (23, .int .i64 29), (24, .int .i64 30)]).run Tryd.prog w = .ok (.agg fA) w := by kernel_rfl
theorem build47 (w : World) : (Instr.build 47 #[(0, .int .u8 3), (1, .int .u8 15), (2, .int .u8 20), (3, .int .u8 28), (4, .int .u8 4), (5, .int .u8 26), (6, .int .u8 127), (7, .int .u8 21), (8, .int .u8 23), (9, .int .u8 18), (10, .int .u8 22), (11, .int .u8 17), (12, .int .u8 19), (13, .int .u8 2), (14, .int .u8 6), (15, .int .u8 25), (16, .int .u8 24), (17, .int .u8 1), (18, .int .u8 5), (19, .int .u8 9), (20, .int .u8 16), (21, .int .u8 8), (22, .int .u8 14), (23, .int .u8 29), (24, .int .u8 11)]).run Tryd.prog w = .ok (.agg kA) w := by kernel_rfl
theorem build25 (w : World) : (Instr.build 25 #[]).run Tryd.prog w = .ok (.agg (tabA zeroT)) w := by kernel_rfl
theorem nameAlloc46 (h : Bool) (v : Value) : Instr.alloc 46 h v = allocT 46 h v := rfl
theorem nameAlloc47 (h : Bool) (v : Value) : Instr.alloc 47 h v = allocT 47 h v := rfl
theorem nameStore46 (x v : Value) : Instr.storeAt 46 x v = storeT 46 x v := rfl
theorem nameStore47 (x v : Value) : Instr.storeAt 47 x v = storeT 47 x v := rfl
attribute [local go_sem ↓] nameAlloc46 nameAlloc47 nameStore46 nameStore47
theorem alloc46 (w : World) : (allocT 46 true (.tuple #[])).run Tryd.prog w = .ok (.pointer (some ⟨w.heap.size, 0, none⟩)) (w.alloc (.cells (Array.replicate 25 (.int .i64 0)) 46)) := run_allocT zero46 w
theorem alloc47 (w : World) : (allocT 47 true (.tuple #[])).run Tryd.prog w = .ok (.pointer (some ⟨w.heap.size, 0, none⟩)) (w.alloc (.cells (Array.replicate 25 (.int .u8 0)) 47)) := run_allocT zero47 w
theorem store46 (w : World) (g : Nat) : (storeT 46 (.pointer (some ⟨g, 0, none⟩)) (.agg fA)).run Tryd.prog w = match rowAt w g with
      | some (.cells cs ty fr) => if cs.size = 25 ∧ fr = (0, 0) then .ok () (putRow w g fA ty) else farStore' Tryd.prog 46 g fA w
      | _ => farStore' Tryd.prog 46 g fA w := run_storeT size46 w g fA (by decide) (by decide)
theorem store47 (w : World) (g : Nat) : (storeT 47 (.pointer (some ⟨g, 0, none⟩)) (.agg kA)).run Tryd.prog w = match rowAt w g with
      | some (.cells cs ty fr) => if cs.size = 25 ∧ fr = (0, 0) then .ok () (putRow w g kA ty) else farStore' Tryd.prog 47 g kA w
      | _ => farStore' Tryd.prog 47 g kA w := run_storeT size47 w g kA (by decide) (by decide)
theorem repl_size (v : Value) : (Array.replicate 25 v).size = 25 := by simp
attribute [local go_sem] alloc46 alloc47 store46 store47 repl_size

theorem fA_get (k : Nat) (h : k < 25) : fA[k]? = some (.int .i64 (refF.getD k 0 : Nat)) := by
  have : refF.length = 25 := rfl
  simp [fA, List.getD, show k < refF.length by omega]
theorem kA_get (k : Nat) (h : k < 25) : kA[k]? = some (.int .u8 (refK.getD k 0)) := by
  have : refK.length = 25 := rfl
  simp [kA, List.getD, show k < refK.length by omega]
set_option maxHeartbeats 4000000 in
set_option maxRecDepth 100000 in
/-- linnetref08.Standard -/
theorem refStandard (w : World) :
    Calls Tryd.prog 16 #[] w fun e w' => e = .returned (.agg (tabA std)) ∧ Below w.heap.size w w' := by
  go_enter Tryd.func16, Tryd.ntmps16
  go_wp2_with (first
    | (refine wpList_build_known rfl 46 #[(0, .const (.int .i64 3)), (1, .const (.int .i64 4)), (2, .const (.int .i64 5)), (3, .const (.int .i64 7)), (4, .const (.int .i64 8)), (5, .const (.int .i64 9)), (6, .const (.int .i64 10)), (7, .const (.int .i64 11)), (8, .const (.int .i64 12)), (9, .const (.int .i64 13)), (10, .const (.int .i64 14)), (11, .const (.int .i64 15)), (12, .const (.int .i64 16)), (13, .const (.int .i64 19)), (14, .const (.int .i64 20)), (15, .const (.int .i64 21)), (16, .const (.int .i64 22)), (17, .const (.int .i64 23)), (18, .const (.int .i64 24)), (19, .const (.int .i64 25)), (20, .const (.int .i64 26)), (21, .const (.int .i64 27)), (22, .const (.int .i64 28)), (23, .const (.int .i64 29)), (24, .const (.int .i64 30))] rfl #[(0, .int .i64 3), (1, .int .i64 4), (2, .int .i64 5), (3, .int .i64 7), (4, .int .i64 8), (5, .int .i64 9), (6, .int .i64 10), (7, .int .i64 11), (8, .int .i64 12), (9, .int .i64 13), (10, .int .i64 14), (11, .int .i64 15), (12, .int .i64 16), (13, .int .i64 19), (14, .int .i64 20), (15, .int .i64 21), (16, .int .i64 22), (17, .int .i64 23), (18, .int .i64 24), (19, .int .i64 25), (20, .int .i64 26), (21, .int .i64 27), (22, .int .i64 28), (23, .int .i64 29), (24, .int .i64 30)] (by simp [Act.eval]) (.agg fA) (build46 _) ?_)
    | (refine wpList_build_known rfl 47 #[(0, .const (.int .u8 3)), (1, .const (.int .u8 15)), (2, .const (.int .u8 20)), (3, .const (.int .u8 28)), (4, .const (.int .u8 4)), (5, .const (.int .u8 26)), (6, .const (.int .u8 127)), (7, .const (.int .u8 21)), (8, .const (.int .u8 23)), (9, .const (.int .u8 18)), (10, .const (.int .u8 22)), (11, .const (.int .u8 17)), (12, .const (.int .u8 19)), (13, .const (.int .u8 2)), (14, .const (.int .u8 6)), (15, .const (.int .u8 25)), (16, .const (.int .u8 24)), (17, .const (.int .u8 1)), (18, .const (.int .u8 5)), (19, .const (.int .u8 9)), (20, .const (.int .u8 16)), (21, .const (.int .u8 8)), (22, .const (.int .u8 14)), (23, .const (.int .u8 29)), (24, .const (.int .u8 11))] rfl #[(0, .int .u8 3), (1, .int .u8 15), (2, .int .u8 20), (3, .int .u8 28), (4, .int .u8 4), (5, .int .u8 26), (6, .int .u8 127), (7, .int .u8 21), (8, .int .u8 23), (9, .int .u8 18), (10, .int .u8 22), (11, .int .u8 17), (12, .int .u8 19), (13, .int .u8 2), (14, .int .u8 6), (15, .int .u8 25), (16, .int .u8 24), (17, .int .u8 1), (18, .int .u8 5), (19, .int .u8 9), (20, .int .u8 16), (21, .int .u8 8), (22, .int .u8 14), (23, .int .u8 29), (24, .int .u8 11)] (by simp [Act.eval]) (.agg kA) (build47 _) ?_)
    | (refine wpList_build_known rfl 25 #[] rfl #[] (by simp [Act.eval]) (.agg (tabA zeroT)) (build25 _) ?_))
  obtain ⟨W0, hW0⟩ : ∃ W0, W0 = (((w.alloc (.cells (tabA zeroT) 25)).alloc (.cells fA 46)).alloc (.cells kA 47)).alloc (.cells (tabA zeroT) 25) := ⟨_, rfl⟩
  have h0 : rowAt W0 w.heap.size = some (.cells (tabA zeroT) 25 (0, 0)) := by rw [hW0, rowAt_old _ _ _ (by simp; omega), rowAt_old _ _ _ (by simp; omega), rowAt_old _ _ _ (by simp), rowAt_new _ _ _ rfl]
  have h1 : rowAt W0 (w.heap.size + 1) = some (.cells fA 46 (0, 0)) := by rw [hW0, rowAt_old _ _ _ (by simp), rowAt_old _ _ _ (by simp), rowAt_new _ _ _ (by simp)]
  have h2 : rowAt W0 (w.heap.size + 1 + 1) = some (.cells kA 47 (0, 0)) := by rw [hW0, rowAt_old _ _ _ (by simp), rowAt_new _ _ _ (by simp)]
  have h3 : rowAt W0 (w.heap.size + 1 + 1 + 1) = some (.cells (tabA (refPre 0)) 25 (0, 0)) := by rw [hW0, rowAt_new _ _ _ (by simp)]; rfl
  have hb0 : Below w.heap.size w W0 := by rw [hW0]; exact ((((Below.refl _ _).alloc (Nat.le_refl _) _).alloc (by simp) _).alloc (by simp; omega) _).alloc (by simp; omega) _
  rw [← hW0]
  clear hW0
  have H0 := hid h0
  have H1 := hid h1
  have H2 := hid h2
  have H3 := hid h3
  have HB0 := hid hb0
  clear h0 h1 h2 h3 hb0
  go_loopw [4] (fun i wr => ∃ k : Nat, k ≤ 25 ∧ i = .int .i64 k ∧ rowAt wr (w.heap.size + 1 + 1 + 1) = some (.cells (tabA (refPre k)) 25 (0, 0)) ∧ Below (w.heap.size + 1 + 1 + 1) W0 wr) (fun i _ => 25 - (intOf i).toNat)
  case atStart => exact ⟨0, by omega, rfl, H3.out, Below.refl _ _⟩
  case round =>
    obtain ⟨k, hk, rfl, hr, hb⟩ := hrel
    have HB := hid hb
    have HR := hid hr
    have hlt3 := lt_of_some hr
    clear hb
    by_cases hlt : k < 25
    · have hf := refF_lt k hlt
      have hc1 : wr.cell? ⟨w.heap.size + 1, k, none⟩ = some (.int .i64 (refF.getD k 0 : Nat)) := by
        rw [HB.out.cell (p := ⟨w.heap.size + 1, k, none⟩) (by simp), cell_of_row _ _ _ _ _ _ H1.out]; exact fA_get k hlt
      have hc2 : wr.cell? ⟨w.heap.size + 1 + 1, k, none⟩ = some (.int .u8 (refK.getD k 0)) := by
        rw [HB.out.cell (p := ⟨w.heap.size + 1 + 1, k, none⟩) (by simp), cell_of_row _ _ _ _ _ _ H2.out]; exact kA_get k hlt
      obtain ⟨f, hfe⟩ : ∃ f, refF.getD k 0 = f := ⟨_, rfl⟩
      obtain ⟨c, hce⟩ : ∃ c, refK.getD k 0 = c := ⟨_, rfl⟩
      have HS : Hid (refPre (k + 1) = upd (refPre k) f (2, c)) := hid (by rw [refPre, hfe, hce])
      rw [hfe] at hc1 hf
      rw [hce] at hc2
      clear hfe hce
      obtain ⟨T, hT⟩ : ∃ T, refPre k = T := ⟨_, rfl⟩
      rw [hT] at hr HS
      clear hT HR
      go_wp2
      go_still_tail 7, (by kernel_rfl)
      go_wp2_with (first | (go_at_call 19; (with_reducible refine (refCell T f hf c _).mono ?_); rintro e w2 ⟨rfl, hb2⟩; have hr2 := rowNext' hb2 (show rowAt wr.drew _ = _ from hr); have hlt2 := lt_of_some hr2))
      go_roundw
      case rel => exact ⟨k + 1, by omega, by go_num, by rw [HS.out]; exact rowAt_put _ _ _ _ hlt2, below_putRow ((HB.out.drew).trans (hb2.mono (by simp; omega))) _ _ _ (Nat.le_refl _)⟩
      case measure => simp [intOf]; omega
    · obtain rfl : k = 25 := by omega
      have hr0 : rowAt wr w.heap.size = some (.cells (tabA zeroT) 25 (0, 0)) := (HB.out.block w.heap.size (by omega)).trans H0.out
      rw [refPre_all] at hr
      have hs0 := lt_of_some hr0
      clear HR
      go_wp2
      exact bodyPost_ret (v := .agg (tabA std)) (results_row1 Tryd.results16 _ _ w.heap.size 25 (tabA std) (0, 0) _ rfl (rowAt_put _ _ _ _ hs0) Tryd.underlying25 rfl (by rw [tabA_size]; exact sizeTable)) rfl
        ⟨rfl, below_putRow (HB0.out.trans (HB.out.mono (by omega))) _ _ _ (Nat.le_refl _)⟩
end Go.Proofs.YtjghmgpmaallfaaDoor
