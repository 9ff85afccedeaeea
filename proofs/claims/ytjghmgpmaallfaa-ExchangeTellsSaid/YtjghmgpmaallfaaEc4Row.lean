/-
  ExchangeTells: exactly as the document says: for each Exch and whatever it is told the law returns true, and its arguments read as they did.
-/
import Derived.Test.YtjghmgpmaallfaaExz
import Derived.Test.YtjghmgpmaallfaaExp
import Derived.Test.YtjghmgpmaallfaaEb4
import Derived.Test.YtjghmgpmaallfaaOpn
import Derived.ChangeOld
import Derived.Below
namespace Go.Proofs.Ytjghmgpmaallfaa.exchangeTells
open Go.ChangeShapes Go.WideShapes Go.ChangeAt Go.RowKit
set_option linter.unusedVariables false
set_option linter.unusedSimpArgs false

/-- the walk, whatever the Exch and what it is told. -/
theorem walk (t : Tb) (m : Wt) (p : Tb) (b : Bool) (f l : Int) (a i o : Bool) (v : Int) (w : World) :
    Calls Try.prog 12 #[.agg (exA t m), .agg (tdA p b f l a i o v)] w fun e w' => e = .returned (.bool true) ∧ Below w.heap.size w w' := by
  obtain ⟨ta, ma, ea, xa, hA, hA2⟩ := ask_both t m f l a i o v
  obtain ⟨tg, mg, eg, xg, hG, hG2⟩ := got_both t m p b f l a i o v
  rcases exErr_or t m with ⟨hx, _⟩ | ⟨hx, _⟩ <;> by_cases hp : tabOk p
  · obtain ⟨hB, hB2⟩ := begin_both hp b
    exact tells_px t ta tg m ma mg p b f l a i o v ea eg (fun W L => HasSl W L xa) (fun W L => HasSl W L xg) (HasB p b) (fun _ _ _ h hb => HasSl.below h hb) (fun _ _ _ h h' => HasSl.same h h') (fun _ _ _ h hb => HasSl.below h hb) (fun _ _ _ h h' => HasSl.same h h') (fun _ _ _ h hb => HasB.below h hb) (fun _ _ _ h h' => HasB.same h h')
      hA hA2 hG hG2 (begW b) hB hB2 hx (.inl ⟨hx, rfl⟩) (decide_eq_true hp) w
  · exact tells_nx t ta tg m ma mg p b f l a i o v ea eg (fun W L => HasSl W L xa) (fun W L => HasSl W L xg) (HasB p b) (fun _ _ _ h hb => HasSl.below h hb) (fun _ _ _ h h' => HasSl.same h h') (fun _ _ _ h hb => HasSl.below h hb) (fun _ _ _ h h' => HasSl.same h h') (fun _ _ _ h hb => HasB.below h hb) (fun _ _ _ h h' => HasB.same h h')
      hA hA2 hG hG2 (if_neg hp) hx (.inl ⟨hx, rfl⟩) (decide_eq_false hp) w
  · obtain ⟨hB, hB2⟩ := begin_both hp b
    exact tells_py t ta tg m ma mg p b f l a i o v ea eg (fun W L => HasSl W L xa) (fun W L => HasSl W L xg) (HasB p b) (fun _ _ _ h hb => HasSl.below h hb) (fun _ _ _ h h' => HasSl.same h h') (fun _ _ _ h hb => HasSl.below h hb) (fun _ _ _ h h' => HasSl.same h h') (fun _ _ _ h hb => HasB.below h hb) (fun _ _ _ h h' => HasB.same h h')
      hA hA2 hG hG2 (begW b) hB hB2 hx (.inr ⟨hx, rfl⟩) (decide_eq_true hp) w
  · exact tells_ny t ta tg m ma mg p b f l a i o v ea eg (fun W L => HasSl W L xa) (fun W L => HasSl W L xg) (HasB p b) (fun _ _ _ h hb => HasSl.below h hb) (fun _ _ _ h h' => HasSl.same h h') (fun _ _ _ h hb => HasSl.below h hb) (fun _ _ _ h h' => HasSl.same h h') (fun _ _ _ h hb => HasB.below h hb) (fun _ _ _ h h' => HasB.same h h')
      hA hA2 hG hG2 (if_neg hp) hx (.inr ⟨hx, rfl⟩) (decide_eq_false hp) w

theorem own : ownKnob Try.prog.godebug = none := by kernel_rfl
theorem laidOut : laidOutB Try.prog = true := by kernel_rfl

set_option maxRecDepth 100000 in
theorem lifted (os : Os) (started : os.Started) (H : Type) (enc : TypeId × Value → H) :
    ReturnsInHanded {} Try.checked os 12 .any (Rows.exchangeTellsSpec.pre6 enc Try.prog Try.f12 Rows.exchangeTellsRow.domain false) (Rows.exchangeTellsSpec.post enc Try.prog Try.f12 false true false false) := by
  refine returnsInHanded_of_change (C := Try.checked) own started (by kernel_rfl) Try.func12
    (ChangeSpec.witness6 (enc := enc) (C := Try.checked) false ⟨#[], #[.agg (exA (fun _ => (0, 0)) (fun _ => 0)), .agg (tdA (fun _ => (0, 0)) false 0 0 false false false 0)], []⟩ 8 (by kernel_rfl) (by kernel_rfl) (by kernel_rfl) (by kernel_rfl)) ?_
  intro W base args ds gs before hval0 hW hcnd _
  have hval : ∀ (j : Nat) t v, Try.f12.params[j]? = some t → args[j]? = some v → Value.okWide Try.prog W .any base t v := hval0
  have hW' := hW
  obtain ⟨p, q, hA0, hV, rfl, hfz, hnd⟩ := hW
  have hA : DataW.TrodAll enc Try.prog W 0 (fun _ => true) true Try.f12.params.toList args.toList ds p := hA0
  rw [Try.params12] at hA hval
  obtain ⟨v0, vs0, d0, ds0, p0, q0, hargs, rfl, rfl, h0, r0⟩ := trodAll_cons hA
  obtain ⟨v1, vs1, d1, ds1, p1, q1, rfl, rfl, rfl, h1, r1⟩ := trodAll_cons r0
  obtain ⟨rfl, rfl, rfl⟩ := trodAll_nil r1
  obtain rfl : args = #[v0, v1] := by cases args; simp_all
  obtain ⟨rfl, rfl⟩ := trodVars_none hV
  have lt0 : ∀ x ∈ p0, x.block < W.heap.size := by obtain ⟨m, hm⟩ := h0; exact DataW.trod_lt m _ _ _ hm
  have lt1 : ∀ x ∈ p1, x.block < W.heap.size := by obtain ⟨m, hm⟩ := h1; exact DataW.trod_lt m _ _ _ hm
  obtain ⟨t0, m0, rfl, b0_0, b0_1⟩ := open_exch Try.underlying60 Try.underlying39 Try.underlying29 Try.underlying58 ⟨rfl, rfl⟩ ⟨rfl, rfl⟩ ⟨rfl, rfl⟩ ⟨rfl, rfl⟩ Try.underlying3 Try.underlying5 (by kernel_rfl) (by kernel_rfl) (by kernel_rfl) (by kernel_rfl) (by kernel_rfl) (by kernel_rfl) (hval 0 60 v0 rfl rfl) h0
  obtain ⟨p0, B, F, L, A, I, O, V, rfl, b1_0, b1_1, b1_2, b1_3⟩ := open_told Try.underlying62 Try.underlying25 Try.underlying23 Try.underlying27 ⟨rfl, rfl⟩ ⟨rfl, rfl⟩ ⟨rfl, rfl⟩ ⟨rfl, rfl⟩ ⟨rfl, rfl⟩ ⟨rfl, rfl⟩ ⟨rfl, rfl⟩ ⟨rfl, rfl⟩ ⟨rfl, rfl⟩ ⟨rfl, rfl⟩ ⟨rfl, rfl⟩ Try.underlying3 Try.underlying4 Try.underlying5 (by kernel_rfl) (by kernel_rfl) (by kernel_rfl) (by kernel_rfl) (by kernel_rfl) (by kernel_rfl) (by kernel_rfl) (hval 1 62 v1 rfl rfl) h1
  clear hA0 hval0
  refine (walk t0 m0 p0 B F L A I O V W).mono fun e W' ⟨he, bel⟩ => ?_
  subst he
  exact ⟨_, rfl, _, _, _, [], _, [], hW', trodAll_mk1 (shut_bool Try.underlying4 _), (trodAll_cons_mk (Below.trod laidOut (by kernel_rfl) (of_decide_eq_true (by kernel_rfl)) h0 bel lt0) (trodAll_cons_mk (Below.trod laidOut (by kernel_rfl) (of_decide_eq_true (by kernel_rfl)) h1 bel lt1) trodAll_mk0)), rfl, bel.frame _, fun h => by cases h⟩

theorem proved : Rows.ExchangeTellsSaid :=
  OpenClaim.holds_of_wide 12 Try.f12 rfl rfl rfl rfl rfl rfl rfl ⟨rfl, rfl, rfl, rfl, rfl⟩ rfl rfl rfl rfl rfl (by kernel_rfl) Try.func12 (by kernel_rfl)
    (of_decide_eq_true (by kernel_rfl)) (by unfold Func.isWrapper; first | (rw [if_pos (by decide +kernel)]; kernel_rfl) | (rw [if_neg (by decide +kernel)]; exact ⟨rfl, rfl⟩))
    (fun os started H enc _ => lifted os started H enc)
end Go.Proofs.Ytjghmgpmaallfaa.exchangeTells
#print axioms Go.Proofs.Ytjghmgpmaallfaa.exchangeTells.proved
