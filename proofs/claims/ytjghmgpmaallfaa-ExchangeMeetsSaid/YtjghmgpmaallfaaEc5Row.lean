/-
  ExchangeMeets: a server and a client, that begin, and then, whatever they ask, and however what they say is under way, come to one table: for all arguments the law returns true, and its argument reads as it did.
-/
import Derived.Test.YtjghmgpmaallfaaMw
import Derived.Test.YtjghmgpmaallfaaMx
import Derived.Test.YtjghmgpmaallfaaOpn
import Derived.ChangeOld
import Derived.Below
import Derived.SizedLaws
namespace Go.Proofs.Ytjghmgpmaallfaa.exchangeMeets
open Go.ChangeShapes Go.WideShapes Go.ChangeAt Go.RowKit
set_option linter.unusedVariables false
set_option linter.unusedSimpArgs false

/-- the walk, whatever the two ends' prefs, and whatever happens. -/
theorem walk (p0 p1 : Tb) (s : Value) (n : Nat) (hn : n ≤ 140737488355328) (W : World) (hA : Acts W s n) (h0 : ∀ i, i < 31 → i64b (p0 i).1 ∧ u8b (p0 i).2) (h1 : ∀ i, i < 31 → i64b (p1 i).1 ∧ u8b (p1 i).2) :
    Calls Try.prog 13 #[.agg (prA p0 p1 s)] W fun e w' => e = .returned (.bool true) ∧ Below W.heap.size W w' := by
  rcases tabErr_or p0 with ⟨a, _⟩ | ⟨a, _⟩
  · rcases tabErr_or p1 with ⟨b, _⟩ | ⟨b, _⟩
    · exact meets_ok p0 p1 s W (hid a) (hid b) n hn (hid hA) (hid fun i hi => (h0 i hi).2) (hid fun i hi => (h1 i hi).2)
    · exact meets_no1 p0 p1 s W (hid a) (hid b)
  · exact meets_no0 p0 p1 s W (hid a)

theorem own : ownKnob Try.prog.godebug = none := by kernel_rfl
theorem laidOut : laidOutB Try.prog = true := by kernel_rfl
theorem bytes83 : Try.prog.bytesOf 83 = 32 := by kernel_rfl

set_option maxRecDepth 100000 in
theorem lifted (os : Os) (started : os.Started) (H : Type) (enc : TypeId × Value → H) :
    ReturnsInHanded {} Try.checked os 13 .any (Rows.exchangeMeetsSpec.pre6 enc Try.prog Try.f13 Rows.exchangeMeetsRow.domain false) (Rows.exchangeMeetsSpec.post enc Try.prog Try.f13 false true false false) := by
  refine returnsInHanded_of_change_sized (C := Try.checked) own started (by kernel_rfl) Try.func13
    (ChangeSpec.witness6 (enc := enc) (C := Try.checked) false ⟨#[], #[.agg (prA (fun _ => (0, 0)) (fun _ => (0, 0)) (.slice none 0 0))], []⟩ 12 (by kernel_rfl) (by kernel_rfl) (by kernel_rfl) (by kernel_rfl)) ?_
  intro W base args ds gs before hval0 hW hcnd hsz0 _
  have hval : ∀ (j : Nat) t v, Try.f13.params[j]? = some t → args[j]? = some v → Value.okWide Try.prog W .any base t v := hval0
  have hW' := hW
  obtain ⟨p, q, hA0, hV, rfl, hfz, hnd⟩ := hW
  have hA : DataW.TrodAll enc Try.prog W 0 (fun _ => true) true Try.f13.params.toList args.toList ds p := hA0
  have hsz : (DataW.weightsEach Try.prog (Try.f13.params.toList ++ Rows.exchangeMeetsSpec.plain.varTypes Try.prog) (ds ++ gs)).all (· ≤ reachBytes) = true := hsz0
  rw [Try.params13] at hA hval hsz
  obtain ⟨v0, vs0, d0, ds0, p0, q0, hargs, rfl, rfl, h0, r0⟩ := trodAll_cons hA
  obtain ⟨rfl, rfl, rfl⟩ := trodAll_nil r0
  obtain rfl : args = #[v0] := by cases args; simp_all
  obtain ⟨rfl, rfl⟩ := trodVars_none hV
  have lt0 : ∀ x ∈ p0, x.block < W.heap.size := by obtain ⟨m, hm⟩ := h0; exact DataW.trod_lt m _ _ _ hm
  obtain ⟨t0, t1, s, n, rfl, b0, b1, hacts, hD⟩ := open_pair Try.underlying79 Try.underlying76 Try.underlying25 Try.underlying23 Try.underlying77 Try.underlying83 Try.underlying27 ⟨rfl, rfl⟩ ⟨rfl, rfl⟩ ⟨rfl, rfl⟩ ⟨rfl, rfl⟩ ⟨rfl, rfl⟩ ⟨rfl, rfl⟩ ⟨rfl, rfl⟩ ⟨rfl, rfl⟩ ⟨rfl, rfl⟩ ⟨rfl, rfl⟩ ⟨rfl, rfl⟩ ⟨rfl, rfl⟩ ⟨rfl, rfl⟩ Try.underlying3 Try.underlying4 Try.underlying5 (by kernel_rfl) (by kernel_rfl) (by kernel_rfl) (by kernel_rfl) (by kernel_rfl) (by kernel_rfl) (by kernel_rfl) (by kernel_rfl) (by kernel_rfl) (by kernel_rfl) (hval 0 79 v0 rfl rfl) h0
  have hn : n ≤ 140737488355328 := by
    rcases hD with rfl | ⟨D, es, sp, hd, rfl⟩
    · omega
    · have := List.all_eq_true.1 hsz _ (DataW.weights_mem_each (j := 0) (t := 79) rfl (show _ = some (DataW.agg [D, .slice es sp]) by rw [← hd]; rfl) ((es.length + sp.length) * Try.prog.bytesOf 83)
        (by simp [DataW.weights, DataW.weightsEach, Try.underlying79, Try.underlying77]))
      have h2 : (es.length + sp.length) * 32 ≤ reachBytes := by simpa [bytes83] using this
      simp only [reachBytes] at h2
      omega
  clear hA0 hval0 hsz0 hsz hD
  refine (walk t0 t1 s n hn W hacts b0 b1).mono fun e W' ⟨he, bel⟩ => ?_
  subst he
  exact ⟨_, rfl, _, _, _, [], _, [], hW', trodAll_mk1 (shut_bool Try.underlying4 _), (trodAll_cons_mk (Below.trod laidOut (by kernel_rfl) (of_decide_eq_true (by kernel_rfl)) h0 bel lt0) trodAll_mk0), rfl, bel.frame _, fun h => by cases h⟩

theorem proved : Rows.ExchangeMeetsSaid :=
  OpenClaim.holds_of_wide 13 Try.f13 rfl rfl rfl rfl rfl rfl rfl ⟨rfl, rfl, rfl, rfl, rfl⟩ rfl rfl rfl rfl rfl (by kernel_rfl) Try.func13 (by kernel_rfl)
    (of_decide_eq_true (by kernel_rfl)) (by unfold Func.isWrapper; first | (rw [if_pos (by decide +kernel)]; kernel_rfl) | (rw [if_neg (by decide +kernel)]; exact ⟨rfl, rfl⟩))
    (fun os started H enc _ => lifted os started H enc)
end Go.Proofs.Ytjghmgpmaallfaa.exchangeMeets
#print axioms Go.Proofs.Ytjghmgpmaallfaa.exchangeMeets.proved
