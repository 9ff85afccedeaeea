/-
  Two ends that ask and answer (linnetlaw17.ExchangeMeets), in plain Lean: what is true of one function, all the way.
-/
import Derived.Test.YtjghmgpmaallfaaExp
namespace Go.Proofs.Ytjghmgpmaallfaa
open Go.RowKit
set_option linter.unusedVariables false
set_option linter.unusedSimpArgs false

/-- a triple under way. -/
structure Msg where
  f : Int
  l : Int
  a : Bool
  i : Bool
  o : Bool
  v : Int
/-- the proposals, the answers of a queue. -/
def nP (q : List Msg) : Nat := q.countP fun x => !x.a
def nA (q : List Msg) : Nat := q.countP fun x => x.a
/-- the proposals behind the last answer. -/
def live (q : List Msg) : Nat := q.foldl (fun y x => if x.a = true then 0 else y + 1) 0
def lastA (q : List Msg) : Option Msg := q.foldl (fun r x => if x.a = true then some x else r) none
/-- answers first, then proposals. -/
def AP : List Msg → Prop
  | [] => True
  | x :: q => if x.a = true then AP q else nA q = 0
def tl (x : Msg) : Int × Int := toldC x.l x.v

theorem nP_cons (x : Msg) (q : List Msg) : nP (x :: q) = nP q + (if x.a = true then 0 else 1) := by
  unfold nP; rw [List.countP_cons]; cases x.a <;> simp
theorem nA_cons (x : Msg) (q : List Msg) : nA (x :: q) = nA q + (if x.a = true then 1 else 0) := by
  unfold nA; rw [List.countP_cons]
theorem nP_snoc (q : List Msg) (x : Msg) : nP (q ++ [x]) = nP q + (if x.a = true then 0 else 1) := by
  unfold nP; rw [List.countP_append, List.countP_cons, List.countP_nil]; cases x.a <;> simp
theorem nA_snoc (q : List Msg) (x : Msg) : nA (q ++ [x]) = nA q + (if x.a = true then 1 else 0) := by
  unfold nA; rw [List.countP_append, List.countP_cons, List.countP_nil]; cases x.a <;> simp
theorem live_snoc (q : List Msg) (x : Msg) : live (q ++ [x]) = if x.a = true then 0 else live q + 1 := by simp [live, List.foldl_append]
theorem lastA_snoc (q : List Msg) (x : Msg) : lastA (q ++ [x]) = if x.a = true then some x else lastA q := by simp [lastA, List.foldl_append]
theorem live_from (q : List Msg) : ∀ k, q.foldl (fun y (x : Msg) => if x.a = true then 0 else y + 1) k = if nA q = 0 then k + q.length else live q := by
  induction q with
  | nil => intro k; simp [nA]
  | cons x q ih =>
    intro k
    have h0 : live (x :: q) = q.foldl (fun y (x : Msg) => if x.a = true then 0 else y + 1) (if x.a = true then 0 else 0 + 1) := rfl
    rw [List.foldl_cons, ih, h0, ih, nA_cons]
    cases hx : x.a <;> by_cases hn : nA q = 0 <;> simp [hn] <;> omega
theorem live_none {q : List Msg} (h : nA q = 0) : live q = q.length := by
  have := live_from q 0
  rw [if_pos h] at this
  simpa [live] using this
theorem live_cons (x : Msg) (q : List Msg) : live (x :: q) = if x.a = false ∧ nA q = 0 then live q + 1 else live q := by
  have h0 : live (x :: q) = q.foldl (fun y (x : Msg) => if x.a = true then 0 else y + 1) (if x.a = true then 0 else 0 + 1) := rfl
  rw [h0, live_from]
  cases hx : x.a <;> by_cases hn : nA q = 0 <;> simp [hn, live_none] <;> omega
theorem lastA_from (q : List Msg) : ∀ r, q.foldl (fun r (x : Msg) => if x.a = true then some x else r) r = if nA q = 0 then r else lastA q := by
  induction q with
  | nil => intro r; simp [nA]
  | cons x q ih =>
    intro r
    have h0 : lastA (x :: q) = q.foldl (fun r (x : Msg) => if x.a = true then some x else r) (if x.a = true then some x else none) := rfl
    rw [List.foldl_cons, ih, h0, ih, nA_cons]
    cases hx : x.a <;> by_cases hn : nA q = 0 <;> simp [hn]
theorem lastA_cons (x : Msg) (q : List Msg) : lastA (x :: q) = if nA q = 0 then (if x.a = true then some x else none) else lastA q := by
  have h0 : lastA (x :: q) = q.foldl (fun r (x : Msg) => if x.a = true then some x else r) (if x.a = true then some x else none) := rfl
  rw [h0, lastA_from]
theorem lastA_none {q : List Msg} (h : nA q = 0) : lastA q = none := by
  have := lastA_from q none
  rw [if_pos h] at this
  exact this
theorem AP_P {q : List Msg} (h : nA q = 0) : AP q := by
  induction q with
  | nil => trivial
  | cons x q ih =>
    rw [nA_cons] at h
    cases hx : x.a
    · rw [hx] at h; simp [AP, hx]; simpa using h
    · rw [hx] at h; simp at h
theorem AP_tail {x : Msg} {q : List Msg} (h : AP (x :: q)) : AP q := by
  unfold AP at h
  split at h
  · exact h
  · exact AP_P h
theorem AP_snocP {q : List Msg} {x : Msg} (h : AP q) (hx : x.a = false) : AP (q ++ [x]) := by
  induction q with
  | nil => simp [AP, hx, nA]
  | cons y q ih =>
    unfold AP at h
    split at h
    · rename_i hy; simp only [List.cons_append, AP, hy, if_true]; exact ih h
    · rename_i hy; simp only [List.cons_append, AP, hy]; rw [nA_snoc, hx]; simpa using h
theorem AP_snocA {q : List Msg} {x : Msg} (h : nP q = 0) (hx : x.a = true) : AP (q ++ [x]) := by
  induction q with
  | nil => simp [AP, hx]
  | cons y q ih =>
    rw [nP_cons] at h
    cases hy : y.a
    · rw [hy] at h; simp at h
    · rw [hy] at h; simp only [List.cons_append, AP, hy, if_true]; exact ih (by simpa using h)

/-- one function: the server's cell and waits, the client's; what is under way to the client, and to the server; how much was asked. -/
structure Kn (s : Int × Int) (W : Int) (c : Int × Int) (V : Int) (C S : List Msg) (N : Int) : Prop where
  w : W = nP C + nA S
  ap : AP C
  v : nP C = 0 → V = nA C + live S
  b : nP C = 0 → 0 < nA S → nA C = 0 ∧ ∃ y, lastA S = some y ∧ tl y = c
  e : W = 0 → (nA C = 0 → c = s) ∧ ∀ y, lastA C = some y → tl y = s
  v0 : 0 ≤ V
  vN : V ≤ N
section
variable {s c : Int × Int} {W V N : Int} {C S : List Msg} {x : Msg}
theorem Kn.more (k : Kn s W c V C S N) {N' : Int} (h : N ≤ N') : Kn s W c V C S N' := ⟨k.w, k.ap, k.v, k.b, k.e, k.v0, by have := k.vN; omega⟩
theorem Kn.askS (k : Kn s W c V C S N) (hx : x.a = false) : Kn s (W + 1) c V (C ++ [x]) S N := by
  have hP : nP (C ++ [x]) = nP C + 1 := by rw [nP_snoc, hx]; rfl
  have hw := k.w
  exact ⟨by rw [hP]; omega, AP_snocP k.ap hx, fun h => by omega, fun h => by omega, fun h => by omega, k.v0, k.vN⟩
theorem Kn.askC (k : Kn s W c V C S N) (hx : x.a = false) : Kn s W c (V + 1) C (S ++ [x]) (N + 1) := by
  have hA : nA (S ++ [x]) = nA S := by rw [nA_snoc, hx]; rfl
  have hl : live (S ++ [x]) = live S + 1 := by rw [live_snoc, hx]; rfl
  have hq : lastA (S ++ [x]) = lastA S := by rw [lastA_snoc, hx]; rfl
  have h0 := k.v0
  have hN := k.vN
  exact ⟨by rw [hA]; exact k.w, k.ap, fun h => by have := k.v h; rw [hl]; omega, fun h h' => by rw [hA] at h'; rw [hq]; exact k.b h h', k.e, by omega, by omega⟩
/-- the server takes an answer. -/
theorem Kn.sAck (k : Kn s W c V C (x :: S) N) (hx : x.a = true) : 1 ≤ W ∧ Kn (tl x) (W - 1) c V C S N := by
  have hA : nA (x :: S) = nA S + 1 := by rw [nA_cons, hx]; rfl
  have hl : live (x :: S) = live S := by rw [live_cons, hx]; simp
  have hw := k.w
  rw [hA] at hw
  refine ⟨by omega, by omega, k.ap, fun h => by have := k.v h; rw [hl] at this; exact this, fun h h' => ?_, fun h => ?_, k.v0, k.vN⟩
  · obtain ⟨h1, y, h2, h3⟩ := k.b h (by omega)
    rw [lastA_cons, if_neg (by omega)] at h2
    exact ⟨h1, y, h2, h3⟩
  · obtain ⟨h1, y, h2, h3⟩ := k.b (by omega) (by omega)
    rw [lastA_cons, if_pos (by omega), hx] at h2
    simp at h2
    subst h2
    refine ⟨fun _ => h3.symm, fun y hy => ?_⟩
    rw [lastA_none h1] at hy; cases hy
/-- the server, waiting, hears no proposal. -/
theorem Kn.sDrop (k : Kn s W c V C (x :: S) N) (hx : x.a = false) (hW : ¬ W = 0) : Kn s W c V C S N := by
  have hA : nA (x :: S) = nA S := by rw [nA_cons, hx]; rfl
  have hw := k.w
  rw [hA] at hw
  refine ⟨hw, k.ap, fun h => ?_, fun h h' => ?_, fun h => absurd h hW, k.v0, k.vN⟩
  · have := k.v h
    rw [live_cons, if_neg (by omega)] at this
    exact this
  · obtain ⟨h1, y, h2, h3⟩ := k.b h (by omega)
    rw [lastA_cons, if_neg (by omega)] at h2
    exact ⟨h1, y, h2, h3⟩
/-- the server hears a proposal, and answers it. -/
theorem Kn.sHear (k : Kn s W c V C (x :: S) N) (hx : x.a = false) (hW : W = 0) {z : Msg} (hz : z.a = true) : Kn (tl z) 0 c V (C ++ [z]) S N := by
  have hA : nA (x :: S) = nA S := by rw [nA_cons, hx]; rfl
  have hw := k.w
  rw [hA] at hw
  have hPC : nP C = 0 := by omega
  have hAS : nA S = 0 := by omega
  have hP : nP (C ++ [z]) = nP C := by rw [nP_snoc, hz]; rfl
  have hAC : nA (C ++ [z]) = nA C + 1 := by rw [nA_snoc, hz]; rfl
  have hl : lastA (C ++ [z]) = some z := by rw [lastA_snoc, hz]; rfl
  have hv := k.v hPC
  rw [live_cons, if_pos ⟨hx, hAS⟩] at hv
  refine ⟨by omega, AP_snocA hPC hz, fun _ => by omega, fun _ h => by omega, fun _ => ⟨fun h => by omega, fun y hy => ?_⟩, k.v0, k.vN⟩
  rw [hl] at hy; cases hy; rfl
/-- the client takes an answer. -/
theorem Kn.cAck (k : Kn s W c V (x :: C) S N) (hx : x.a = true) (hV : 1 ≤ V) : Kn s W (tl x) (V - 1) C S N := by
  have hP : nP (x :: C) = nP C := by rw [nP_cons, hx]; rfl
  have hA : nA (x :: C) = nA C + 1 := by rw [nA_cons, hx]; rfl
  have hw := k.w
  rw [hP] at hw
  have hN := k.vN
  refine ⟨hw, AP_tail k.ap, fun h => ?_, fun h h' => ?_, fun h => ?_, by omega, by omega⟩
  · have := k.v (by omega); omega
  · obtain ⟨h1, _⟩ := k.b (by omega) h'; omega
  · obtain ⟨h1, h2⟩ := k.e h
    refine ⟨fun h3 => ?_, fun y hy => h2 y ?_⟩
    · exact h2 x (by rw [lastA_cons, if_pos h3, hx]; rfl)
    · rw [lastA_cons, if_neg]
      · exact hy
      · intro h4; rw [lastA_none h4] at hy; cases hy
/-- the client gets an answer that it does not wait for: a proposal is behind it. -/
theorem Kn.cErr (k : Kn s W c V (x :: C) S N) (hx : x.a = true) (hV : ¬ 1 ≤ V) : Kn s W c V C S N := by
  have hP : nP (x :: C) = nP C := by rw [nP_cons, hx]; rfl
  have hA : nA (x :: C) = nA C + 1 := by rw [nA_cons, hx]; rfl
  have hw := k.w
  rw [hP] at hw
  have hpos : ¬ nP C = 0 := by
    intro h
    have := k.v (by omega)
    omega
  exact ⟨hw, AP_tail k.ap, fun h => absurd h hpos, fun h => absurd h hpos, fun h => by omega, k.v0, k.vN⟩
/-- the client hears a proposal, and answers it. -/
theorem Kn.cHear (k : Kn s W c V (x :: C) S N) (hx : x.a = false) {z : Msg} (hz : z.a = true) (hN : 0 ≤ N) : Kn s W (tl z) 0 C (S ++ [z]) N := by
  have hap := k.ap
  unfold AP at hap
  rw [hx] at hap
  simp at hap
  have hP : nP (x :: C) = nP C + 1 := by rw [nP_cons, hx]; rfl
  have hA : nA (S ++ [z]) = nA S + 1 := by rw [nA_snoc, hz]; rfl
  have hw := k.w
  rw [hP] at hw
  refine ⟨by omega, AP_P hap, fun _ => ?_, fun _ _ => ⟨hap, z, by rw [lastA_snoc, hz]; rfl, rfl⟩, fun h => by omega, by omega, hN⟩
  rw [live_snoc, hz, hap]; rfl
/-- nothing is under way: both have the same, and wait for nothing. -/
theorem Kn.rest (k : Kn s W c V [] [] N) : c = s ∧ W = 0 ∧ V = 0 := by
  have hw := k.w
  have hv := k.v (by simp [nP])
  simp [nP, nA] at hw
  simp [nA, live] at hv
  exact ⟨(k.e hw).1 (by simp [nA]), hw, hv⟩
end
end Go.Proofs.Ytjghmgpmaallfaa
