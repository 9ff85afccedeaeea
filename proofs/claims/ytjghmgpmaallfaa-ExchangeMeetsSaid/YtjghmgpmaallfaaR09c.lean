/-
  The contracts of linnetref09.First, linnetref09.Whole.
-/
import Derived.Test.YtjghmgpmaallfaaWho
import Derived.StillTailTactics
import Derived.Deep.RegionHeld3
namespace Go.Proofs.Ytjghmgpmaallfaa
open Go.RowKit
set_option linter.unusedVariables false
set_option linter.unusedSimpArgs false

theorem keep2 {w w' : World} {B b i j : Nat} {u v : Option Value} (hb : b < B) (h : w.cell? ⟨b, i, none⟩ = u ∧ w.cell? ⟨b, j, none⟩ = v) (hk : Below B w w') : w'.cell? ⟨b, i, none⟩ = u ∧ w'.cell? ⟨b, j, none⟩ = v :=
  ⟨(hk.cell (p := ⟨b, i, none⟩) hb).trans h.1, (hk.cell (p := ⟨b, j, none⟩) hb).trans h.2⟩
theorem step_own {P : Program} (w : World) {ops : Array Oper} {o : Oper} {a : Act} {K : Act → World → Prop} {Q : Exit → Act → World → Prop} {E : Prop} (hgd : o.guard = none) (s x : Operand) (t : TypeId)
    (ho : o.op = .call { callee := .builtin .append, args := #[s, x], argTypes := #[t, t] })
    (base : Nat) (e : TypeId) (i : TypeInfo) (z : Value) (size bytes : Nat) (ht : P.underlying t = some (.slice e)) (hi : P.info? e = some i) (hz : i.zero = some z)
    (hsize : i.size = size) (hby : i.bytes = bytes) (hzs : z.cells.size = size) (hsz : 0 < size)
    (v : Value) (n : Nat) (xs : List Value) (hs : a.eval s = v) (hown : w.ownsRow base e size v n xs)
    (ad : Addr) (m c : Nat) (news : List Value) (hx : a.eval x = .slice (some ad) m c) (hl : news.length = m * size) (hnews : ∀ j u, news[j]? = some u → w.cell? (ad.add j) = some u) (h1 : ∀ u ∈ news, u.oneCell' = true)
    (h63 : n + m ≤ maxLen) (hbytes : (n + m) * bytes ≤ 140737488355328) (hbase : base ≤ w.heap.size)
    (h : ∀ v' w', w'.ownsRow base e size v' (n + m) (xs ++ news) → w.grownBy w' v.ownBlock → (v' = .slice none 0 0 ↔ v = .slice none 0 0 ∧ m = 0) → K (a.put o.dst v') w') :
    if Region.wanted o (yielded ops a.tmps) = true then Oper.wp P o a w K Q else E := by
  have hw : Region.wanted o (yielded ops a.tmps) = true := by simp [Region.wanted, hgd]
  rw [if_pos hw]
  exact wp_append_own w s x t ho base e i z size bytes ht hi hz hsize hby hzs hsz v n xs hs hown ad m c news hx hl hnews h1 h63 hbytes hbase h
/-- one result that lies in a block. -/
theorem results_row1 {P : Program} {fn : Func} {p : Tmp} {ty : TypeId} (h : fn.results = #[.cell p ty]) (tmps : Array Value) (w : World) (g : Nat) (t : TypeId) (cs : Array Value) (fr : Nat × Nat) (d : TypeDesc)
    (hp : tmps.getD p undef = .pointer (some ⟨g, 0, none⟩)) (hg : w.heap[g]? = some (.cells cs t fr))
    (hu : P.underlying ty = some d) (hd : (match d with | .struct _ | .array _ _ => true | _ => false) = true) (hi : (P.info? ty).map (·.size) = some cs.size) :
    (results fn tmps).run P w = .ok (.agg cs) w := by
  have hp' : tmps[p]?.getD undef = .pointer (some ⟨g, 0, none⟩) := by simpa using hp
  simp [results, h, hp', asAddr, run_loadVar_row w g t ty cs fr d hg hu hd hi, Sem.run_bind, Result.andThen]
/-- the functions below k are as the prefs say. -/
def preF (p : Tb) (k : Nat) : Tb := fun i => if 1 ≤ i ∧ i < k then p i else (0, 0)
theorem preF_one (p : Tb) : tabA (preF p 1) = tabA zeroT := tabA_congr fun i hi => by unfold preF; rw [if_neg (by omega)]; rfl
theorem preF_succ (p : Tb) (k : Nat) (hk : 1 ≤ k) : preF p (k + 1) = upd (preF p k) k (p k) := by
  funext i
  unfold preF upd
  by_cases e : i = k
  · subst e; simp [hk]
  · have h : (1 ≤ i ∧ i < k + 1) ↔ (1 ≤ i ∧ i < k) := by omega
    simp [e, h]
theorem preF_all {p : Tb} (hp : tabOk p) : tabA (preF p 31) = tabA p := tabA_congr fun i hi => by
  unfold preF
  by_cases h : 1 ≤ i
  · rw [if_pos ⟨h, hi⟩]
  · obtain rfl : i = 0 := by omega
    rw [if_neg (by omega)]
    have := (hp 0 (by omega)).2.2.2 rfl
    exact (Prod.ext this.1 this.2).symm

set_option maxHeartbeats 4000000 in
set_option maxRecDepth 100000 in
/-- linnetref09.First, of what may be -/
theorem refFirst9 {p : Tb} (hp : tabOk p) (w : World) :
    Calls Try.prog 27 #[.agg (tabA p)] w fun e w' => e = .returned (.agg (tabA p)) ∧ Below w.heap.size w w' := by
  have HP := hid (preF_all hp)
  clear hp
  go_enter Try.func27, Try.ntmps27
  go_wp2_with (first | (refine wpList_build_known rfl 39 #[] rfl #[] (by simp [Act.eval]) (.agg (tabA zeroT)) (build39 _) ?_))
  obtain ⟨W0, hW0⟩ : ∃ W0, W0 = ((w.alloc (.cells (tabA p) 25)).alloc (.cells (tabA zeroT) 39)).alloc (.cells (tabA zeroT) 39) := ⟨_, rfl⟩
  have h0 : rowAt W0 w.heap.size = some (.cells (tabA p) 25 (0, 0)) := by rw [hW0, rowAt_old _ _ _ (by simp; omega), rowAt_old _ _ _ (by simp), rowAt_new _ _ _ rfl]
  have h1 : rowAt W0 (w.heap.size + 1) = some (.cells (tabA zeroT) 39 (0, 0)) := by rw [hW0, rowAt_old _ _ _ (by simp), rowAt_new _ _ _ (by simp)]
  have h2 : rowAt W0 (w.heap.size + 1 + 1) = some (.cells (tabA (preF p 1)) 39 (0, 0)) := by rw [preF_one, hW0, rowAt_new _ _ _ (by simp)]
  have hb0 : Below w.heap.size w W0 := by rw [hW0]; exact (((Below.refl _ _).alloc (Nat.le_refl _) _).alloc (by simp) _).alloc (by simp; omega) _
  rw [← hW0]
  clear hW0
  have H0 := hid h0
  have H1 := hid h1
  have H2 := hid h2
  have HB0 := hid hb0
  clear h0 h1 h2 hb0
  go_loopw [4] (fun i wr => ∃ k : Nat, 1 ≤ k ∧ k ≤ 31 ∧ i = .int .i64 k ∧ rowAt wr (w.heap.size + 1 + 1) = some (.cells (tabA (preF p k)) 39 (0, 0)) ∧ Below (w.heap.size + 1 + 1) W0 wr) (fun i _ => 31 - (intOf i).toNat)
  case atStart => exact ⟨1, by omega, by omega, rfl, H2.out, Below.refl _ _⟩
  case round =>
    obtain ⟨k, hk1, hk, rfl, hr, hb⟩ := hrel
    have HB := hid hb
    have hlt2 := lt_of_some hr
    clear hb
    by_cases hlt : k < 31
    · obtain ⟨c1, c2, hc⟩ : ∃ c1 c2, p k = (c1, c2) := ⟨_, _, rfl⟩
      have HS : Hid (preF p (k + 1) = upd (preF p k) k (c1, c2)) := hid (by rw [preF_succ p k hk1, hc])
      have rp := (HB.out.block w.heap.size (by omega)).trans H0.out
      have k0 : wr.cell? ⟨w.heap.size, k * 2, none⟩ = some (.int .i64 c1) := by rw [cell_of_row _ _ _ _ _ _ rp, tabA_cell0 p k hlt, hc]
      have k1 : wr.cell? ⟨w.heap.size, k * 2 + 1, none⟩ = some (.int .u8 c2) := by rw [cell_of_row _ _ _ _ _ _ rp, tabA_cell1 p k hlt, hc]
      clear hc rp
      obtain ⟨T, hT⟩ : ∃ T, preF p k = T := ⟨_, rfl⟩
      rw [hT] at hr HS
      clear hT
      have hk0 : (0 : Int) ≤ (k : Int) := by omega
      have hk30 : (k : Int) ≤ 30 := by omega
      have hk31 : (k : Int) < 31 := by omega
      go_wp2
      go_still_tail 11, (by kernel_rfl)
      go_wp2_with (refine wpList_store_mid rfl 29 (.tmp 20) (.tmp 19) rfl (w.heap.size + 1 + 1) (k * 2) rfl 39 (tabA T) hr _ rfl sizeCell (by rw [tabA_size]; simp; omega) rfl (tabA (upd T k (c1, c2))) (lay_upd _ _ _ _ (by omega)) ?_)
      go_roundw
      case rel => exact ⟨k + 1, by omega, by omega, by go_num, by rw [HS.out]; exact rowAt_put _ _ _ _ hlt2, below_putRow (HB.out.drew) _ _ _ (Nat.le_refl _)⟩
      case measure => simp [intOf]; omega
    · obtain rfl : k = 31 := by omega
      have hr1 : rowAt wr (w.heap.size + 1) = some (.cells (tabA zeroT) 39 (0, 0)) := (HB.out.block (w.heap.size + 1) (by omega)).trans H1.out
      rw [HP.out] at hr
      have hs1 := lt_of_some hr1
      go_wp2
      exact bodyPost_ret (v := .agg (tabA p)) (results_row1 Try.results27 _ _ (w.heap.size + 1) 39 (tabA p) (0, 0) _ rfl (rowAt_put _ _ _ _ hs1) Try.underlying39 rfl (by rw [tabA_size]; exact sizeTable)) rfl
        ⟨rfl, below_putRow (HB0.out.trans (HB.out.mono (by omega))) _ _ _ (by omega)⟩

set_option maxHeartbeats 4000000 in
set_option maxRecDepth 100000 in
/-- linnetref09.Whole -/
theorem refWhole9 (t : Tb) (w : World) :
    Calls Try.prog 30 #[.agg (tabA t)] w fun e w' => ∃ g c, e = .returned (.slice (some ⟨g, 0, none⟩) 30 c) ∧
      (∀ i j u, i < 30 → (tri t (i + 1))[j]? = some u → w'.cell? ⟨g, i * 6 + j, none⟩ = some u) ∧ Below w.heap.size w w' := by
  obtain ⟨i0, hi, hz, hs, hy⟩ := info_parts info27
  have HI := hid (And.intro hi (And.intro hz (And.intro hs hy)))
  clear hi hz hs hy
  go_enter Try.func30, Try.ntmps30
  go_wp2
  go_loopw [3, 4] (fun v i wr => ∃ k : Nat, 1 ≤ k ∧ k ≤ 31 ∧ i = .int .i64 k ∧ wr.ownsRow (w.heap.size + 1) 27 6 v (k - 1) (tris t (k - 1)) ∧ Below (w.heap.size + 1) (w.alloc (.cells (tabA t) 39)) wr) (fun v i _ => 31 - (intOf i).toNat)
  case atStart => exact ⟨1, by omega, by omega, rfl, World.ownsRow_nil _ _ _ _, Below.refl _ _⟩
  case round =>
    obtain ⟨k, hk1, hk, rfl, hown, hb⟩ := hrel
    have HN := hid hown
    have HB := hid hb
    have hsz : w.heap.size + 1 ≤ wr.heap.size := by have := hb.size; simpa using this
    clear hown hb
    by_cases hlt : k < 31
    · obtain ⟨c1, c2, hc⟩ : ∃ c1 c2, t k = (c1, c2) := ⟨_, _, rfl⟩
      have rp := (HB.out.block w.heap.size (by omega)).trans (heapNew w (.cells (tabA t) 39) _ rfl)
      have k0 : wr.cell? ⟨w.heap.size, k * 2, none⟩ = some (.int .i64 c1) := by rw [cell_of_row _ _ _ _ _ _ rp, tabA_cell0 t k hlt, hc]
      have k1 : wr.cell? ⟨w.heap.size, k * 2 + 1, none⟩ = some (.int .u8 c2) := by rw [cell_of_row _ _ _ _ _ _ rp, tabA_cell1 t k hlt, hc]
      have HT : Hid (tris t (k - 1 + 1) = tris t (k - 1) ++ [.int .i64 k, .int .i64 c1, .bool false, .bool false, .bool false, .int .u8 c2]) := hid (by
        rw [tris_succ, show k - 1 + 1 = k by omega, tri, hc])
      clear hc rp
      have hk0 : (0 : Int) ≤ (k : Int) := by omega
      have hk30 : (k : Int) ≤ 30 := by omega
      have hk31 : (k : Int) < 31 := by omega
      go_wp2
      have HND : Hid (wr.drew.ownsRow (w.heap.size + 1) 27 6 u3 (k - 1) (tris t (k - 1))) := hid HN.out
      have hszD : ∀ {o : Obj}, w.heap.size + 1 ≤ (wr.drew.alloc o).heap.size := by intro o; simp; omega
      have hq63 : k - 1 + 1 ≤ maxLen := by unfold maxLen; omega
      have hq47 : (k - 1 + 1) * 24 ≤ 140737488355328 := by omega
      have HKK := hid (And.intro k0 k1)
      have hkb : w.heap.size < wr.heap.size := by omega
      clear k0 k1
      go_region_held3 (fun w' => w'.cell? ⟨w.heap.size, k * 2, none⟩ = some (.int .i64 c1) ∧ w'.cell? ⟨w.heap.size, k * 2 + 1, none⟩ = some (.int .u8 c2))
        (first | exact HKK.out | exact keep2 hkb HKK.out ((Below.refl _ _).drew) | exact keep2 hkb HKK.out ((Below.refl _ _).drew.alloc (Nat.le_refl _) _) | exact hq2)
        (first | (refine step_own _ rfl (.tmp 9) (.tmp 20) 46 rfl (w.heap.size + 1) 27 i0 _ 6 24 Try.underlying46 HI.out.1 HI.out.2.1 HI.out.2.2.1 HI.out.2.2.2 rfl (by omega) u3 (k - 1) (tris t (k - 1)) rfl (HND.out.alloc _) ⟨wr.heap.size, 0, none⟩ 1 1 [.int .i64 k, .int .i64 c1, .bool false, .bool false, .bool false, .int .u8 c2] rfl rfl (lit_cell _ _ _ _ (by simp)) (one_lit _ _ _) hq63 hq47 hszD ?_; intro v2 w2 hown2 hg2 _; have HN2 := hid hown2; have HG2 := hid hg2; have hq2 := keep2 (Nat.lt_succ_self w.heap.size) HKK.out ((((Below.refl wr.heap.size wr).drew.alloc (Nat.le_refl _) _).mono hsz).grown hg2 hszD (fun j hj => (HN.out.lt j hj).1)); clear hown2 hg2))
      go_wp2
      go_roundw
      case rel => exact ⟨k + 1, by omega, by omega, by go_num, by rw [show k + 1 - 1 = k - 1 + 1 by omega, HT.out]; exact HN2.out,
        ((HB.out.drew.alloc hsz _).grown HG2.out (by simp; omega) (fun j hj => (HN.out.lt j hj).1))⟩
      case measure => simp [intOf]; omega
    · obtain rfl : k = 31 := by omega
      obtain ⟨g, cap, hv⟩ : ∃ g cap, u3 = .slice (some ⟨g, 0, none⟩) 30 cap := by
        rcases HN.out.2 with ⟨_, h0⟩ | ⟨g, cap, cur, hv, _⟩
        · omega
        · exact ⟨g, cap, hv⟩
      subst hv
      go_wp2
      go_ret
      have hc := HN.out.cells (g := g) rfl
      refine ⟨g, cap, rfl, fun i j u hi hu => ?_, ((Below.refl w.heap.size w).alloc (Nat.le_refl _) _).trans (HB.out.mono (by omega))⟩
      have hj : j < 6 := by
        rcases Nat.lt_or_ge j 6 with h | h
        · exact h
        · rw [List.getElem?_eq_none (by simpa [tri] using h)] at hu; cases hu
      have := hc (i * 6 + j) u (by rw [tris_get t 30 i j hi hj]; exact hu)
      rwa [show (⟨g, 0, none⟩ : Addr).add (i * 6 + j) = ⟨g, i * 6 + j, none⟩ by unfold Addr.add; split <;> simp_all] at this
end Go.Proofs.Ytjghmgpmaallfaa
