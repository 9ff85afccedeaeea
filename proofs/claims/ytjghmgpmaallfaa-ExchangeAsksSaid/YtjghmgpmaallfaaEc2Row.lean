/-
  ExchangeAsks: what is proposed is told as it is: for each Exch, whatever it is told and however often the law returns true, and its arguments read as they did.
-/
import Derived.Test.YtjghmgpmaallfaaExz
import Derived.Test.YtjghmgpmaallfaaExp
import Derived.Test.YtjghmgpmaallfaaEd2
import Derived.Test.YtjghmgpmaallfaaOpn
import Derived.ChangeOld
import Derived.Below
namespace Go.Proofs.Ytjghmgpmaallfaa.exchangeAsks
open Go.ChangeShapes Go.WideShapes Go.ChangeAt Go.RowKit
set_option linter.unusedVariables false
set_option linter.unusedSimpArgs false

/-- the walk, whatever the Exch, what it is told, and how often it asks. -/
theorem walk (t : Tb) (m : Wt) (p : Tb) (b : Bool) (f l : Int) (a i o : Bool) (v : Int) (u : Int) (hu : u8b u) (w : World) :
    Calls Try.prog 10 #[.agg (exA t m), .agg (tdA p b f l a i o v), .int .u8 u] w fun e w' => e = .returned (.bool true) ∧ Below w.heap.size w w' := by
  obtain ⟨hu0, hu1⟩ := hu
  rcases exErr_or t m with ⟨hx, hwt, htb⟩ | ⟨hx, _⟩
  · rcases tabErr_or p with ⟨hp, _⟩ | ⟨hp, _⟩
    · by_cases hlow : f < 1
      · exact asks_low t m p b f l a i o v u hu0 hu1 hx hp hlow w
      by_cases hhigh : 31 ≤ f
      · exact asks_high t m p b f l a i o v u hu0 hu1 hx hp hlow hhigh w
      obtain ⟨n, rfl, h1, h2⟩ : ∃ n : Nat, f = n ∧ 1 ≤ n ∧ n < 31 := ⟨f.toNat, by omega, by omega, by omega⟩
      obtain ⟨k0, k1, _⟩ := hwt n h2
      by_cases hc : 3 < m n
      · exact asks_many t m p b n h1 h2 l a i o v u hu0 hu1 (m n) rfl hc hx hp w
      have hf : isF (n : Int) = true := by unfold isF; simp; omega
      rcases trErr_or (n : Int) l with ⟨ht, _⟩ | ⟨ht, _⟩
      · cases a
        · exact asks_ok t m p b n h1 h2 l i o v u hu0 hu1 (m n) rfl k0 (by omega) hx hp ht w
        · exact asks_bad t m p b n h1 h2 l true i o v u hu0 hu1 (m n) rfl k0 (by omega) hx hp (fun W => ask_bada t m n l v i o hx ht hf W) w
      · exact asks_bad t m p b n h1 h2 l a i o v u hu0 hu1 (m n) rfl k0 (by omega) hx hp (fun W => ask_badt t m n l v a i o hx ht W) w
    · exact asks_badp t m p b f l a i o v u hu0 hu1 hx hp w
  · exact asks_badx t m p b f l a i o v u hu0 hu1 hx w

theorem own : ownKnob Try.prog.godebug = none := by kernel_rfl
theorem laidOut : laidOutB Try.prog = true := by kernel_rfl

set_option maxRecDepth 100000 in
theorem lifted (os : Os) (started : os.Started) (H : Type) (enc : TypeId × Value → H) :
    ReturnsInHanded {} Try.checked os 10 .any (Rows.exchangeAsksSpec.pre6 enc Try.prog Try.f10 Rows.exchangeAsksRow.domain false) (Rows.exchangeAsksSpec.post enc Try.prog Try.f10 false true false false) := by
  refine returnsInHanded_of_change (C := Try.checked) own started (by kernel_rfl) Try.func10
    (ChangeSpec.witness6 (enc := enc) (C := Try.checked) false ⟨#[], #[.agg (exA (fun _ => (0, 0)) (fun _ => 0)), .agg (tdA (fun _ => (0, 0)) false 0 0 false false false 0), .int .u8 0], []⟩ 8 (by kernel_rfl) (by kernel_rfl) (by kernel_rfl) (by kernel_rfl)) ?_
  intro W base args ds gs before hval0 hW hcnd _
  have hval : ∀ (j : Nat) t v, Try.f10.params[j]? = some t → args[j]? = some v → Value.okWide Try.prog W .any base t v := hval0
  have hW' := hW
  obtain ⟨p, q, hA0, hV, rfl, hfz, hnd⟩ := hW
  have hA : DataW.TrodAll enc Try.prog W 0 (fun _ => true) true Try.f10.params.toList args.toList ds p := hA0
  rw [Try.params10] at hA hval
  obtain ⟨v0, vs0, d0, ds0, p0, q0, hargs, rfl, rfl, h0, r0⟩ := trodAll_cons hA
  obtain ⟨v1, vs1, d1, ds1, p1, q1, rfl, rfl, rfl, h1, r1⟩ := trodAll_cons r0
  obtain ⟨v2, vs2, d2, ds2, p2, q2, rfl, rfl, rfl, h2, r2⟩ := trodAll_cons r1
  obtain ⟨rfl, rfl, rfl⟩ := trodAll_nil r2
  obtain rfl : args = #[v0, v1, v2] := by cases args; simp_all
  obtain ⟨rfl, rfl⟩ := trodVars_none hV
  have lt0 : ∀ x ∈ p0, x.block < W.heap.size := by obtain ⟨m, hm⟩ := h0; exact DataW.trod_lt m _ _ _ hm
  have lt1 : ∀ x ∈ p1, x.block < W.heap.size := by obtain ⟨m, hm⟩ := h1; exact DataW.trod_lt m _ _ _ hm
  obtain ⟨t0, m0, rfl, b0_0, b0_1⟩ := open_exch Try.underlying60 Try.underlying39 Try.underlying29 Try.underlying58 ⟨rfl, rfl⟩ ⟨rfl, rfl⟩ ⟨rfl, rfl⟩ ⟨rfl, rfl⟩ Try.underlying3 Try.underlying5 (by kernel_rfl) (by kernel_rfl) (by kernel_rfl) (by kernel_rfl) (by kernel_rfl) (by kernel_rfl) (hval 0 60 v0 rfl rfl) h0
  obtain ⟨p0, B, F, L, A, I, O, V, rfl, b1_0, b1_1, b1_2, b1_3⟩ := open_told Try.underlying62 Try.underlying25 Try.underlying23 Try.underlying27 ⟨rfl, rfl⟩ ⟨rfl, rfl⟩ ⟨rfl, rfl⟩ ⟨rfl, rfl⟩ ⟨rfl, rfl⟩ ⟨rfl, rfl⟩ ⟨rfl, rfl⟩ ⟨rfl, rfl⟩ ⟨rfl, rfl⟩ ⟨rfl, rfl⟩ ⟨rfl, rfl⟩ Try.underlying3 Try.underlying4 Try.underlying5 (by kernel_rfl) (by kernel_rfl) (by kernel_rfl) (by kernel_rfl) (by kernel_rfl) (by kernel_rfl) (by kernel_rfl) (hval 1 62 v1 rfl rfl) h1
  obtain ⟨U, rfl, rfl, rfl, b2_0⟩ := open_int Try.underlying5 (hval 2 5 v2 rfl rfl) h2
  clear hA0 hval0
  refine (walk t0 m0 p0 B F L A I O V U (bounds_u8 b2_0) W).mono fun e W' ⟨he, bel⟩ => ?_
  subst he
  exact ⟨_, rfl, _, _, _, [], _, [], hW', trodAll_mk1 (shut_bool Try.underlying4 _), (trodAll_cons_mk (Below.trod laidOut (by kernel_rfl) (of_decide_eq_true (by kernel_rfl)) h0 bel lt0) (trodAll_cons_mk (Below.trod laidOut (by kernel_rfl) (of_decide_eq_true (by kernel_rfl)) h1 bel lt1) (trodAll_cons_mk (shut_int Try.underlying5 b2_0) trodAll_mk0))), rfl, bel.frame _, fun h => by cases h⟩

theorem proved : Rows.ExchangeAsksSaid :=
  OpenClaim.holds_of_wide 10 Try.f10 rfl rfl rfl rfl rfl rfl rfl ⟨rfl, rfl, rfl, rfl, rfl⟩ rfl rfl rfl rfl rfl (by kernel_rfl) Try.func10 (by kernel_rfl)
    (of_decide_eq_true (by kernel_rfl)) (by unfold Func.isWrapper; first | (rw [if_pos (by decide +kernel)]; kernel_rfl) | (rw [if_neg (by decide +kernel)]; exact ⟨rfl, rfl⟩))
    (fun os started H enc _ => lifted os started H enc)
end Go.Proofs.Ytjghmgpmaallfaa.exchangeAsks
#print axioms Go.Proofs.Ytjghmgpmaallfaa.exchangeAsks.proved
