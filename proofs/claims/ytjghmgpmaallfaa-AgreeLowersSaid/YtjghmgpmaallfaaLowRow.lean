/-
  AgreeLowers: what is settled is no higher than what was proposed, nor than the end can, and a table with it may be: for all arguments the law returns true, and its arguments read as they did.
-/
import Derived.Test.YtjghmgpmaallfaaLow2
import Derived.Test.YtjghmgpmaallfaaLow3
import Derived.Test.YtjghmgpmaallfaaLow4
import Derived.Test.YtjghmgpmaallfaaLow5
import Derived.Test.YtjghmgpmaallfaaPla2
import Derived.Test.YtjghmgpmaallfaaOpn
import Derived.ChangeOld
import Derived.Below
namespace Go.Proofs.Ytjghmgpmaallfaa.agreeLowers
open Go.ChangeShapes Go.WideShapes Go.ChangeAt Go.RowKit
set_option linter.unusedVariables false
set_option linter.unusedSimpArgs false

/-- table.With, of a cell that may be: the table that may be with it, or why not. -/
theorem withTab (u : Tb) (n : Nat) (h1 : 1 ≤ n) (h2 : n < 31) (c1 c2 : Int) : ∃ (u9 : Tb) (e9 : Int), (∀ w : World, Calls Try.prog 18 #[.agg (tabA u), .int .i64 n, .agg #[.int .i64 c1, .int .u8 c2]] w fun e w' => e = .returned (.tuple #[.agg (tabA u9), .int .i64 e9]) ∧ Below w.heap.size w w') ∧
    (tabErr (upd u n (c1, c2)) = 0 → e9 = 0 ∧ u9 n = (c1, c2)) := by
  rcases tabErr_or (upd u n (c1, c2)) with ⟨e, _⟩ | ⟨e, _⟩
  · exact ⟨upd u n (c1, c2), 0, fun w => with_ok u n h1 h2 c1 c2 e w, fun _ => ⟨rfl, upd_same _ _ _⟩⟩
  · exact ⟨u, 1, fun w => with_bad u n h1 h2 c1 c2 e w, fun h => by rw [e] at h; simp at h⟩
theorem upd_ok {u : Tb} (hu : tabErr u = 0) (n : Nat) (h1 : 1 ≤ n) (c1 c2 : Int) (k1 : 0 ≤ c1) (k2 : c1 ≤ 2) (k3 : c1 = 0 → c2 = 0) : tabErr (upd u n (c1, c2)) = 0 := by
  have ho := tabErr_ok hu
  refine tabErr_good _ fun f hf => ?_
  by_cases e : f = n
  · subst e
    rw [upd_same]
    exact ⟨k1, k2, k3, fun h => by omega⟩
  · rw [upd_other _ _ _ _ e]; exact ho f hf
/-- the walk, whatever is settled. -/
theorem walk (p : Tb) (f l : Int) (a i o : Bool) (v : Int) (u : Tb) (w : World) :
    Calls Try.prog 6 #[.agg (tabA p), .agg #[.int .i64 f, .int .i64 l, .bool a, .bool i, .bool o, .int .u8 v], .agg (tabA u)] w fun e w' => e = .returned (.bool true) ∧ Below w.heap.size w w' := by
  obtain ⟨c1, c2, e0, h1⟩ : ∃ c1 c2 e0, settle p f l v = ((c1, c2), e0) := ⟨_, _, _, rfl⟩
  rcases settle_err h1 with rfl | rfl
  · obtain ⟨hp, ht⟩ := settle_ok h1
    by_cases hg : 31 ≤ f
    · rw [settle_of_out hp ht hg] at h1
      simp only [Prod.mk.injEq, and_true] at h1
      obtain ⟨rfl, rfl⟩ := h1
      exact low_high p u f l v a i o hg ht.2.2.1 (settle_of_out hp ht hg) w
    · obtain ⟨n, rfl⟩ := Int.eq_ofNat_of_zero_le ht.1
      have hn : n < 31 := by omega
      obtain ⟨m, pv, hm⟩ : ∃ m pv, p n = (m, pv) := ⟨_, _, rfl⟩
      obtain ⟨a1, a2, a3, a4⟩ := hp n hn
      rw [hm] at a1 a2 a3 a4
      dsimp only at a1 a2 a3 a4
      have hs := settle_of_in (v := v) hp ht hg
      rw [Int.toNat_natCast, hm, h1] at hs
      simp only [Prod.mk.injEq, and_true] at hs
      obtain ⟨k1, k2, k3, k4, k5, _⟩ := setl_range m pv l v c1 c2 a1 a2 a3 ht.2.2.1 ht.2.2.2 hs.symm
      by_cases hz : n = 0
      · subst hz
        have hm0 := a4 rfl
        obtain rfl : c1 = 0 := by omega
        obtain rfl : c2 = 0 := k5 rfl
        exact low_zero p u l v a i o ht.2.2.1 h1 w
      · obtain ⟨u9, e9, h9, hok⟩ := withTab u n (by omega) hn c1 c2
        by_cases hc : c1 = 0
        · subst hc
          obtain rfl : c2 = 0 := k5 rfl
          rcases tabErr_or u with ⟨hu, _⟩ | ⟨hu, _⟩
          · obtain ⟨rfl, hun⟩ := hok (upd_ok hu n (by omega) 0 0 (by omega) (by omega) (fun _ => rfl))
            exact low_in10 p u n (by omega) hn l v m pv a i o ht.2.2.1 a1 hm h1 hu u9 h9 hun w
          · exact low_in11 p u n (by omega) hn l v m pv a i o ht.2.2.1 a1 hm h1 hu e9 u9 h9 w
        · rcases tabErr_or u with ⟨hu, _⟩ | ⟨hu, _⟩
          · obtain ⟨rfl, hun⟩ := hok (upd_ok hu n (by omega) c1 c2 k1 k2 k5)
            exact low_in00 p u n (by omega) hn l v c1 c2 m pv a i o hc k1 k3 k2 k4 ht.2.2.1 a1 hm h1 hu u9 h9 hun w
          · exact low_in01 p u n (by omega) hn l v c1 c2 m pv a i o hc k1 k3 k2 k4 ht.2.2.1 a1 hm h1 hu e9 u9 h9 w
  · exact low_no p u f l v a i o c1 c2 h1 w

theorem own : ownKnob Try.prog.godebug = none := by kernel_rfl
theorem laidOut : laidOutB Try.prog = true := by kernel_rfl

set_option maxRecDepth 100000 in
theorem lifted (os : Os) (started : os.Started) (H : Type) (enc : TypeId × Value → H) :
    ReturnsInHanded {} Try.checked os 6 .any (Rows.agreeLowersSpec.pre6 enc Try.prog Try.f6 Rows.agreeLowersRow.domain false) (Rows.agreeLowersSpec.post enc Try.prog Try.f6 false true false false) := by
  refine returnsInHanded_of_change (C := Try.checked) own started (by kernel_rfl) Try.func6
    (ChangeSpec.witness6 (enc := enc) (C := Try.checked) false ⟨#[], #[.agg (tabA fun _ => (0, 0)), .agg #[.int .i64 0, .int .i64 0, .bool false, .bool false, .bool false, .int .u8 0], .agg (tabA fun _ => (0, 0))], []⟩ 8 (by kernel_rfl) (by kernel_rfl) (by kernel_rfl) (by kernel_rfl)) ?_
  intro W base args ds gs before hval0 hW hcnd _
  have hval : ∀ (j : Nat) t v, Try.f6.params[j]? = some t → args[j]? = some v → Value.okWide Try.prog W .any base t v := hval0
  have hW' := hW
  obtain ⟨p, q, hA0, hV, rfl, hfz, hnd⟩ := hW
  have hA : DataW.TrodAll enc Try.prog W 0 (fun _ => true) true Try.f6.params.toList args.toList ds p := hA0
  rw [Try.params6] at hA hval
  obtain ⟨v0, vs0, d0, ds0, p0, q0, hargs, rfl, rfl, h0, r0⟩ := trodAll_cons hA
  obtain ⟨v1, vs1, d1, ds1, p1, q1, rfl, rfl, rfl, h1, r1⟩ := trodAll_cons r0
  obtain ⟨v2, vs2, d2, ds2, p2, q2, rfl, rfl, rfl, h2, r2⟩ := trodAll_cons r1
  obtain ⟨rfl, rfl, rfl⟩ := trodAll_nil r2
  obtain rfl : args = #[v0, v1, v2] := by cases args; simp_all
  obtain ⟨rfl, rfl⟩ := trodVars_none hV
  have lt0 : ∀ x ∈ p0, x.block < W.heap.size := by obtain ⟨m, hm⟩ := h0; exact DataW.trod_lt m _ _ _ hm
  have lt1 : ∀ x ∈ p1, x.block < W.heap.size := by obtain ⟨m, hm⟩ := h1; exact DataW.trod_lt m _ _ _ hm
  have lt2 : ∀ x ∈ p2, x.block < W.heap.size := by obtain ⟨m, hm⟩ := h2; exact DataW.trod_lt m _ _ _ hm
  obtain ⟨t0, rfl, b0_0⟩ := open_tab Try.underlying25 Try.underlying23 ⟨rfl, rfl⟩ ⟨rfl, rfl⟩ Try.underlying3 Try.underlying5 (by kernel_rfl) (by kernel_rfl) (by kernel_rfl) (by kernel_rfl) (hval 0 25 v0 rfl rfl) h0
  obtain ⟨F, L, a, i, o, V, rfl, b1_0, b1_1, b1_2⟩ := open_triple Try.underlying27 ⟨rfl, rfl⟩ ⟨rfl, rfl⟩ ⟨rfl, rfl⟩ ⟨rfl, rfl⟩ ⟨rfl, rfl⟩ ⟨rfl, rfl⟩ Try.underlying3 Try.underlying4 Try.underlying5 (by kernel_rfl) (by kernel_rfl) (by kernel_rfl) (by kernel_rfl) (hval 1 27 v1 rfl rfl) h1
  obtain ⟨t2, rfl, b2_0⟩ := open_tab Try.underlying39 Try.underlying29 ⟨rfl, rfl⟩ ⟨rfl, rfl⟩ Try.underlying3 Try.underlying5 (by kernel_rfl) (by kernel_rfl) (by kernel_rfl) (by kernel_rfl) (hval 2 39 v2 rfl rfl) h2
  clear hA0 hval0
  refine (walk t0 F L a i o V t2 W).mono fun e W' ⟨he, bel⟩ => ?_
  subst he
  exact ⟨_, rfl, _, _, _, [], _, [], hW', trodAll_mk1 (shut_bool Try.underlying4 _), (trodAll_cons_mk (Below.trod laidOut (by kernel_rfl) (of_decide_eq_true (by kernel_rfl)) h0 bel lt0) (trodAll_cons_mk (Below.trod laidOut (by kernel_rfl) (of_decide_eq_true (by kernel_rfl)) h1 bel lt1) (trodAll_cons_mk (Below.trod laidOut (by kernel_rfl) (of_decide_eq_true (by kernel_rfl)) h2 bel lt2) trodAll_mk0))), rfl, bel.frame _, fun h => by cases h⟩

theorem proved : Rows.AgreeLowersSaid :=
  OpenClaim.holds_of_wide 6 Try.f6 rfl rfl rfl rfl rfl rfl rfl ⟨rfl, rfl, rfl, rfl, rfl⟩ rfl rfl rfl rfl rfl (by kernel_rfl) Try.func6 (by kernel_rfl)
    (of_decide_eq_true (by kernel_rfl)) (by unfold Func.isWrapper; first | (rw [if_pos (by decide +kernel)]; kernel_rfl) | (rw [if_neg (by decide +kernel)]; exact ⟨rfl, rfl⟩))
    (fun os started H enc _ => lifted os started H enc)
end Go.Proofs.Ytjghmgpmaallfaa.agreeLowers
#print axioms Go.Proofs.Ytjghmgpmaallfaa.agreeLowers.proved
