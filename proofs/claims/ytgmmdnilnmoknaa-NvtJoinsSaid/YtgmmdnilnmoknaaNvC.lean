/-
  The contracts of nvt.laws and its closures.
-/
import Derived.Test.YtgmmdnilnmoknaaNvSim
namespace Go.Proofs.Ytgmmdnilnmoknaa
open Go.RowKit
set_option linter.unusedVariables false
set_option linter.unusedSimpArgs false

theorem nosome {ad : Addr} {p : Prop} (h : some ad = none) : p := by cases h
/-- one result that lies in a block. -/
theorem results_row1 {P : Program} {fn : Func} {p : Tmp} {ty : TypeId} (h : fn.results = #[.cell p ty]) (tmps : Array Value) (w : World) (g : Nat) (t : TypeId) (cs : Array Value) (fr : Nat × Nat) (d : TypeDesc)
    (hp : tmps.getD p undef = .pointer (some ⟨g, 0, none⟩)) (hg : w.heap[g]? = some (.cells cs t fr))
    (hu : P.underlying ty = some d) (hd : (match d with | .struct _ | .array _ _ => true | _ => false) = true) (hi : (P.info? ty).map (·.size) = some cs.size) :
    (results fn tmps).run P w = .ok (.agg cs) w := by
  have hp' : tmps[p]?.getD undef = .pointer (some ⟨g, 0, none⟩) := by simpa using hp
  simp [results, h, hp', asAddr, run_loadVar_row w g t ty cs fr d hg hu hd hi, Sem.run_bind, Result.andThen]
/-- nvt.laws$1: a function that lays more behind -/
theorem lawsWith (A : Option Addr) (n c : Nat) (w : World) : Calls Try.prog 20 #[.slice A n c] w fun e w' =>
    e = .returned (.func (.func 21) #[] #[.pointer (some ⟨w.heap.size, 0, none⟩)]) ∧ w' = w.alloc (.cells #[.slice A n c] 22) := by
  go_enter Try.func20, Try.ntmps20
  go_wp2
  go_ret
  exact ⟨rfl, rfl⟩

/-- nvt.laws$1$1: lays it behind what there is -/
theorem lawsClo (base g n c : Nat) (v : Value) (ad : Addr) (l more : List UInt8) (w : World) (hg : w.cell? ⟨g, 0, none⟩ = some (.slice (some ad) more.length c)) (hm : Oct w (some ad) more)
    (hown : w.ownsRow base 5 1 v n (cells l)) (hb : base ≤ w.heap.size) (hn : n + more.length ≤ 65536) :
    Calls Try.prog 21 #[v, .pointer (some ⟨g, 0, none⟩)] w fun e w' => ∃ v', e = .returned v' ∧ w'.ownsRow base 5 1 v' (n + more.length) (cells (l ++ more)) ∧ Below base w w' := by
  obtain ⟨i0, hi, hz, hs, hy⟩ := info_parts info5
  have HI := hid (And.intro hi (And.intro hz (And.intro hs hy)))
  clear hi hz hs hy
  have HM := hid hm
  clear hm
  go_enter Try.func21, Try.ntmps21
  go_wp2_with (first | (at_builtin; refine wpl_app (X := some ad) (m := more.length) (c := c) (news := more) (l := l) (n := n) (v := v) (base := base) rfl (.tmp 4) (.tmp 5) 22 5 rfl Try.underlying22 HI.out.1 HI.out.2.1 HI.out.2.2.1 HI.out.2.2.2 rfl hown rfl rfl nosome HM.out hn hb ?_; intro v' w' hown' hbel))
  go_ret
  exact ⟨_, rfl, hown', hbel⟩

/-- what the i-th function lays. -/
def FunAt (w : World) (lo : Nat) (b : Nat) (bs : List UInt8) : Prop :=
  lo < b ∧ ∃ a c, lo < a ∧ w.cell? ⟨b, 0, none⟩ = some (.slice (some ⟨a, 0, none⟩) bs.length c) ∧ Oct w (some ⟨a, 0, none⟩) bs
theorem FunAt.set_ {w : World} {lo b : Nat} {bs : List UInt8} (h : FunAt w lo b bs) (off : Nat) (v : Value) : FunAt (w.setCell ⟨lo, off, none⟩ v) lo b bs := by
  obtain ⟨h1, a, c, h2, h3, h4⟩ := h
  refine ⟨h1, a, c, h2, ?_, ?_⟩
  · rw [World.cell?_setCell_other _ _ _ _ (fun e => by injection e; omega)]; exact h3
  · rcases h4 with h4 | ⟨ad, ha, h4⟩
    · exact .inl h4
    · cases ha
      refine .inr ⟨_, rfl, fun i hi => ?_⟩
      rw [World.cell?_setCell_other _ _ _ _ (fun e => by have := congrArg Addr.block e; rw [blk_add] at this; simp at this; omega)]
      exact h4 i hi
theorem FunAt.below {w w' : World} {lo b : Nat} {bs : List UInt8} (h : FunAt w lo b bs) (hb : Below w.heap.size w w') : FunAt w' lo b bs := by
  obtain ⟨h1, a, c, h2, h3, h4⟩ := h
  exact ⟨h1, a, c, h2, (hb.cell (p := ⟨b, 0, none⟩) (World.block_lt_of_cell? w _ h3)).trans h3, h4.below hb⟩
/-- the table of all functions. -/
def Tab (w : World) (lo : Nat) (B : Nat → Nat) : Prop := ∀ i, i < 256 → FunAt w lo (B i) (one (UInt8.ofNat i))

theorem run_store_func (P : Program) (w : World) (a : Addr) (m : Mode) (f : Fn) (x y) : (store a (.func f x y) m).run P w = stored P w a (.func f x y) m := run_store P w a _ m rfl
attribute [local go_sem] run_store_func
def updN (B : Nat → Nat) (k b : Nat) : Nat → Nat := fun i => if i = k then b else B i
theorem clo_upd (B : Nat → Nat) (k b : Nat) : updF (clo B) k (.func (.func 21) #[] #[.pointer (some ⟨b, 0, none⟩)]) = clo (updN B k b) := by
  funext i
  unfold updF clo updN
  split <;> rfl
/-- the world behind a new function that lays these. -/
def newFun (w : World) (bs : List UInt8) : World := (w.alloc (.cells (cells bs).toArray 5)).alloc (.cells #[.slice (some ⟨w.heap.size, 0, none⟩) bs.length bs.length] 22)
theorem newFun_size (w : World) (bs : List UInt8) : (newFun w bs).heap.size = w.heap.size + 2 := by simp [newFun]
theorem newFun_below (w : World) (bs : List UInt8) : Below w.heap.size w (newFun w bs) := ((Below.refl _ _).alloc (Nat.le_refl _) _).alloc (by simp) _
theorem newFun_at (w : World) (lo : Nat) (bs : List UInt8) (h : lo < w.heap.size) : FunAt (newFun w bs) lo (w.heap.size + 1) bs := by
  refine ⟨by omega, w.heap.size, bs.length, h, ?_, .inr ⟨_, rfl, fun i hi => ?_⟩⟩
  · have hg : (newFun w bs).heap[w.heap.size + 1]? = some (.cells #[.slice (some ⟨w.heap.size, 0, none⟩) bs.length bs.length] 22) := heapNew _ _ _ (by simp)
    rw [cell_of_row _ _ 0 _ 22 (0, 0) hg]; rfl
  · have hg : (newFun w bs).heap[w.heap.size]? = some (.cells (cells bs).toArray 5) := by
      unfold newFun
      rw [heapOld _ _ _ (by simp)]
      exact heapNew _ _ _ rfl
    have ha : (⟨w.heap.size, 0, none⟩ : Addr).add i = ⟨w.heap.size, i, none⟩ := by unfold Addr.add; split <;> simp_all
    rw [ha, cell_of_row _ _ i _ 5 (0, 0) hg]
    simp [cells, hi]
/-- the table, as far as it is filled. -/
structure Inv (w wr : World) (F : Nat → Value) (B : Nat → Nat) (bs : Nat → List UInt8) (p : Nat → Prop) : Prop where
  row : rowAt wr (w.heap.size + 1) = some (.cells (funA F) 33 (0, 0))
  res : rowAt wr w.heap.size = some (.cells (funA fun _ => .nilFunc) 33 (0, 0))
  all : ∀ j, p j → F j = clo B j ∧ FunAt wr (w.heap.size + 1) (B j) (bs j)
  bel : Below w.heap.size w wr
abbrev fv (b : Nat) : Value := .func (.func 21) #[] #[.pointer (some ⟨b, 0, none⟩)]
theorem Inv.grow {w wr : World} {F : Nat → Value} {B : Nat → Nat} {bs : Nat → List UInt8} {p : Nat → Prop} (h : Inv w wr F B bs p) (c : List UInt8) : Inv w (newFun wr c) F B bs p := by
  have hn := newFun_below wr c
  exact ⟨rowNext hn h.row, rowNext hn h.res, fun j hj => ⟨(h.all j hj).1, (h.all j hj).2.below hn⟩, h.bel.trans (hn.mono h.bel.size)⟩
theorem Inv.put {w wr : World} {F : Nat → Value} {B : Nat → Nat} {bs : Nat → List UInt8} {p : Nat → Prop} (h : Inv w wr F B bs p) (k b : Nat) :
    Inv w (wr.setCell ⟨w.heap.size + 1, k, none⟩ (fv b)) (updF F k (fv b)) (updN B k b) bs (fun j => p j ∧ j ≠ k) := by
  refine ⟨?_, setCell_rowOther h.res k _ (by omega), ?_, h.bel.setCell (by simp) _⟩
  · rw [← funA_upd]
    exact setCell_rowSame h.row k _
  · intro j ⟨hj, e⟩
    obtain ⟨h1, h2⟩ := h.all j hj
    exact ⟨by simp [updF, clo, updN, e, h1], by rw [show updN B k b j = B j from if_neg e]; exact h2.set_ _ _⟩
theorem FunAt.put {w : World} {lo b : Nat} {bs : List UInt8} (h : FunAt w lo b bs) {R : Nat} (hR : R ≤ lo) (cs : Array Value) (t : TypeId) : FunAt (putRow w R cs t) lo b bs := by
  obtain ⟨h1, a, c, h2, h3, h4⟩ := h
  refine ⟨h1, a, c, h2, ?_, ?_⟩
  · rw [putRow_cellOther _ _ _ _ _ _ (by omega)]; exact h3
  · rcases h4 with h4 | ⟨ad, ha, h4⟩
    · exact .inl h4
    · cases ha
      refine .inr ⟨_, rfl, fun i hi => ?_⟩
      have hx : (⟨a, 0, none⟩ : Addr).add i = ⟨a, i, none⟩ := by unfold Addr.add; split <;> simp_all
      rw [hx, putRow_cellOther _ _ _ _ _ _ (by omega), ← hx]
      exact h4 i hi
theorem cells_u8 (k : Nat) (h : k < 256) : cells [UInt8.ofNat k] = [.int .u8 k] := by
  have : (UInt8.ofNat k).toNat = k := by simp; omega
  simp [cells, u8, this]
theorem one_of (j : Nat) (h : j < 256) (h1 : j ≠ 255) (h2 : j ≠ 13) : one (UInt8.ofNat j) = [UInt8.ofNat j] := by
  have hh : (UInt8.ofNat j).toNat = j := by simp; omega
  rcases one_cases (UInt8.ofNat j) with ⟨e, _⟩ | ⟨e, _⟩ | ⟨_, _, e⟩
  · exact absurd (by rw [← hh, e]; rfl) h1
  · exact absurd (by rw [← hh, e]; rfl) h2
  · exact e
theorem round_end {w wr : World} {F : Nat → Value} {B : Nat → Nat} {k : Nat} (h : Inv w wr F B (fun j => [UInt8.ofNat j]) (fun j => j < k)) (hk : k < 256) :
    Inv w (((wr.setCell ⟨w.heap.size + 1, k, none⟩ (fv (wr.heap.size + 1))).alloc (.cells #[.int .u8 k] 5)).alloc (.cells #[.slice (some ⟨wr.heap.size, 0, none⟩) 1 1] 22))
      (updF F k (fv (wr.heap.size + 1))) (updN B k (wr.heap.size + 1)) (fun j => [UInt8.ofNat j]) (fun j => j < k + 1) := by
  have h1 := (h.put k (wr.heap.size + 1)).grow [UInt8.ofNat k]
  have e : newFun (wr.setCell ⟨w.heap.size + 1, k, none⟩ (fv (wr.heap.size + 1))) [UInt8.ofNat k] = ((wr.setCell ⟨w.heap.size + 1, k, none⟩ (fv (wr.heap.size + 1))).alloc (.cells #[.int .u8 k] 5)).alloc (.cells #[.slice (some ⟨wr.heap.size, 0, none⟩) 1 1] 22) := by
    unfold newFun
    rw [cells_u8 k hk, setCell_size]; rfl
  rw [← e]
  refine ⟨h1.row, h1.res, fun j hj => ?_, h1.bel⟩
  by_cases ej : j = k
  · subst ej
    refine ⟨by simp [updF, clo, updN], ?_⟩
    rw [show updN B j (wr.heap.size + 1) j = wr.heap.size + 1 from if_pos rfl]
    have := newFun_at (wr.setCell ⟨w.heap.size + 1, j, none⟩ (fv (wr.heap.size + 1))) (w.heap.size + 1) [UInt8.ofNat j] (by rw [setCell_size]; exact lt_of_some h.row)
    rwa [setCell_size] at this
  · exact h1.all j ⟨by omega, ej⟩
theorem laws_end {w wr : World} {B : Nat → Nat} (h : Inv w wr (clo B) B (fun j => [UInt8.ofNat j]) (fun j => j < 256)) (D : Nat → Nat) (hD : D = updN (updN B 255 (wr.heap.size + 1)) 13 (wr.heap.size + 1 + 1 + 1)) (W : World)
    (hW : W = (((((putRow ((wr.setCell ⟨w.heap.size + 1, 255, none⟩ (fv (wr.heap.size + 1))).setCell ⟨w.heap.size + 1, 13, none⟩ (fv (wr.heap.size + 1 + 1 + 1))) w.heap.size (funA (clo D)) 33).alloc
      (.cells #[.int .u8 255, .int .u8 255] 5)).alloc (.cells #[.slice (some ⟨wr.heap.size, 0, none⟩) 2 2] 22)).alloc (.cells #[.int .u8 13, .int .u8 10] 5)).alloc (.cells #[.slice (some ⟨wr.heap.size + 1 + 1, 0, none⟩) 2 2] 22))) :
    Tab W (w.heap.size + 1) D ∧ Below w.heap.size w W ∧ W.heap[w.heap.size]? = some (.cells (funA (clo D)) 33 (0, 0)) := by
  have h1 := (h.put 255 (wr.heap.size + 1)).put 13 (wr.heap.size + 1 + 1 + 1)
  obtain ⟨X, hX⟩ : ∃ X, X = putRow ((wr.setCell ⟨w.heap.size + 1, 255, none⟩ (fv (wr.heap.size + 1))).setCell ⟨w.heap.size + 1, 13, none⟩ (fv (wr.heap.size + 1 + 1 + 1))) w.heap.size (funA (clo D)) 33 := ⟨_, rfl⟩
  have hXs : X.heap.size = wr.heap.size := by rw [hX, putRow_size, setCell_size, setCell_size]
  have e : W = newFun (newFun X [255, 255]) [13, 10] := by
    rw [hW, ← hX]
    simp [newFun, hXs, cells, u8]
  have hlt : w.heap.size + 1 < wr.heap.size := lt_of_some h.row
  have n1 := newFun_below X [255, 255]
  have n2 := newFun_below (newFun X [255, 255]) [13, 10]
  have n12 : Below X.heap.size X W := by rw [e]; exact n1.trans (n2.mono (by rw [newFun_size]; omega))
  refine ⟨fun i hi => ?_, ?_, ?_⟩
  · rw [hD]
    by_cases e13 : i = 13
    · subst e13
      rw [show updN (updN B 255 (wr.heap.size + 1)) 13 (wr.heap.size + 1 + 1 + 1) 13 = wr.heap.size + 1 + 1 + 1 from if_pos rfl]
      have := newFun_at (newFun X [255, 255]) (w.heap.size + 1) [13, 10] (by rw [newFun_size]; omega)
      rw [newFun_size, hXs] at this
      rw [e]; exact this
    · rw [show updN (updN B 255 (wr.heap.size + 1)) 13 (wr.heap.size + 1 + 1 + 1) i = updN B 255 (wr.heap.size + 1) i from if_neg e13]
      by_cases e255 : i = 255
      · subst e255
        rw [show updN B 255 (wr.heap.size + 1) 255 = wr.heap.size + 1 from if_pos rfl]
        have := (newFun_at X (w.heap.size + 1) [255, 255] (by omega)).below n2
        rw [hXs] at this
        rw [e]; exact this
      · rw [show updN B 255 (wr.heap.size + 1) i = B i from if_neg e255, one_of i hi e255 e13]
        have h2 := (h1.all i ⟨⟨hi, e255⟩, e13⟩).2
        rw [show updN (updN B 255 (wr.heap.size + 1)) 13 (wr.heap.size + 1 + 1 + 1) i = B i from (if_neg e13).trans (if_neg e255)] at h2
        have h3 := (h2.put (R := w.heap.size) (by omega) (funA (clo D)) 33)
        rw [← hX] at h3
        exact h3.below n12
  · exact (below_putRow h1.bel w.heap.size _ 33 (Nat.le_refl _)).trans (by rw [← hX]; exact n12.mono (by omega))
  · refine rowNext n12 ?_
    rw [hX]
    exact putRow_same _ _ _ _ (by rw [setCell_size, setCell_size]; omega)
theorem Inv.cell {w wr : World} {F : Nat → Value} {B : Nat → Nat} {bs : Nat → List UInt8} {p : Nat → Prop} (h : Inv w wr F B bs p) (k : Nat) (hk : k < 256) :
    wr.cell? ⟨w.heap.size + 1, k, none⟩ = some (F k) ∧ wr.frozen? ⟨w.heap.size + 1, k, none⟩ = false := by
  constructor
  · have hg : wr.heap[w.heap.size + 1]? = some (.cells (funA F) 33 (0, 0)) := h.row
    rw [cell_of_row wr _ k (funA F) 33 (0, 0) hg]; exact funA_get F k hk
  · exact frozenRow h.row k
theorem Inv.lt {w wr : World} {F : Nat → Value} {B : Nat → Nat} {bs : Nat → List UInt8} {p : Nat → Prop} (h : Inv w wr F B bs p) : w.heap.size + 1 < wr.heap.size := lt_of_some h.row
theorem Inv.whole {w wr : World} {F : Nat → Value} {B : Nat → Nat} {bs : Nat → List UInt8} {p : Nat → Prop} (h : Inv w wr F B bs p) (hp : ∀ j, j < 256 → p j) : Inv w wr (clo B) B bs p := by
  refine ⟨?_, h.res, fun j hj => ⟨rfl, (h.all j hj).2⟩, h.bel⟩
  rw [h.row]
  have : funA F = funA (clo B) := by
    apply Array.ext_getElem?
    intro j
    by_cases hj : j < 256
    · rw [funA_get _ _ hj, funA_get _ _ hj, (h.all j (hp j hj)).1]
    · rw [Array.getElem?_eq_none (by rw [funA_size]; omega), Array.getElem?_eq_none (by rw [funA_size]; omega)]
  rw [this]
def putAt (off : Nat) (v : Value) : Option Obj → Option Obj
  | some (.cells cs t fr) => some (.cells (cs.setIfInBounds off v) t fr)
  | x => x
theorem putAt_cells (off : Nat) (v : Value) (cs : Array Value) (t : TypeId) (fr : Nat × Nat) : putAt off v (some (.cells cs t fr)) = some (.cells (cs.setIfInBounds off v) t fr) := rfl
theorem rowAt_setSame (w : World) (b off : Nat) (v : Value) : rowAt (w.setCell ⟨b, off, none⟩ v) b = putAt off v (rowAt w b) := by
  unfold rowAt World.setCell
  simp only [Array.getElem?_modify, if_true]
  cases w.heap[b]? with
  | none => rfl
  | some o => cases o <;> rfl
theorem cell_old (w : World) (o : Obj) (b off : Nat) (h : b < w.heap.size) : (w.alloc o).cell? ⟨b, off, none⟩ = w.cell? ⟨b, off, none⟩ := World.cell?_of_block (heapOld w o b h)
theorem froz_old (w : World) (o : Obj) (b off : Nat) (h : b < w.heap.size) : (w.alloc o).frozen? ⟨b, off, none⟩ = w.frozen? ⟨b, off, none⟩ := World.frozen?_of_block (heapOld w o b h)
attribute [local go_sem] cell_old froz_old
attribute [local go_sem] putAt_cells rowAt_setSame funA_upd clo_upd

set_option maxHeartbeats 4000000 in
set_option maxRecDepth 100000 in
/-- nvt.laws -/
theorem nvtLaws (w : World) : Calls Try.prog 18 #[] w fun e w' => ∃ B, e = .returned (.agg (funA (clo B))) ∧ Tab w' (w.heap.size + 1) B ∧ Below w.heap.size w w' := by
  go_enter Try.func18, Try.ntmps18
  go_wp2
  go_loopw [3, 4] (fun _ i wr => ∃ (k : Nat) (F : Nat → Value), k ≤ 256 ∧ i = .int .i64 k ∧ ∃ B, Inv w wr F B (fun j => [UInt8.ofNat j]) (fun j => j < k))
    (fun _ i _ => 256 - (intOf i).toNat)
  case atStart => exact ⟨0, _, by omega, rfl, id, ⟨rowAt_new _ _ _ (by simp), by rw [rowAt_old _ _ _ (by simp)]; exact rowAt_new _ _ _ rfl, fun j hj => absurd hj (by omega), ((Below.refl _ _).alloc (Nat.le_refl _) _).alloc (by simp) _⟩⟩
  case round =>
    obtain ⟨k, F, hk, rfl, B, hI⟩ := hrel
    by_cases hlt : k < 256
    · obtain ⟨hcell, hfro⟩ := hI.cell k hlt
      have hsz := hI.lt
      have hs0 : w.heap.size < wr.heap.size := by omega
      have hs1 : w.heap.size < wr.heap.size + 1 := by omega
      have hs2 : w.heap.size < wr.heap.size + 1 + 1 := by omega
      go_wp2_with (first | (go_at_call 20; refine (lawsWith _ _ _ _).mono ?_; rintro e w' ⟨rfl, rfl⟩))
      go_roundw
      case rel => 
        exact ⟨k + 1, _, by omega, by go_num, _, round_end hI hlt⟩
      case measure => simp [intOf]; omega
    · obtain rfl : k = 256 := by omega
      have hJ := hI.whole fun j hj => hj
      have hsz := hI.lt
      have hs0 : w.heap.size < wr.heap.size := by omega
      have hs1 : w.heap.size < wr.heap.size + 1 := by omega
      have hs2 : w.heap.size < wr.heap.size + 1 + 1 := by omega
      obtain ⟨hc13, hf13⟩ := hJ.cell 13 (by omega)
      obtain ⟨hc255, hf255⟩ := hJ.cell 255 (by omega)
      have hL := hJ.row
      have hR := hJ.res
      go_wp2_with (first | (go_at_call 20; refine (lawsWith _ _ _ _).mono ?_; rintro e w' ⟨rfl, rfl⟩))
      obtain ⟨hT, hB, hg⟩ := laws_end hJ _ rfl _ rfl
      exact bodyPost_ret (v := .agg (funA (clo (updN (updN B 255 (wr.heap.size + 1)) 13 (wr.heap.size + 1 + 1 + 1))))) (results_row1 Try.results18 _ _ w.heap.size 33 _ (0, 0) _ rfl hg Try.underlying33 rfl (by rw [funA_size]; exact size33)) rfl ⟨_, rfl, hT, hB⟩
end Go.Proofs.Ytgmmdnilnmoknaa
