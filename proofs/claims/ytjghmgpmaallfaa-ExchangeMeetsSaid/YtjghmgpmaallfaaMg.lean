/-
  Two ends that ask and answer (linnetlaw17.ExchangeMeets), in plain Lean: all functions, and both ends' steps.
-/
import Derived.Test.YtjghmgpmaallfaaMp
import Derived.Test.YtjghmgpmaallfaaExv
namespace Go.Proofs.Ytjghmgpmaallfaa
open Go.RowKit
set_option linter.unusedVariables false
set_option linter.unusedSimpArgs false

/-- what is under way of function n. -/
def ofF (n : Nat) (q : List Msg) : List Msg := q.filter fun x => x.f == (n : Int)
theorem ofF_cons (n : Nat) (x : Msg) (q : List Msg) : ofF n (x :: q) = if x.f = (n : Int) then x :: ofF n q else ofF n q := by
  unfold ofF; rw [List.filter_cons]; by_cases h : x.f = (n : Int) <;> simp [h]
theorem ofF_snoc (n : Nat) (q : List Msg) (x : Msg) : ofF n (q ++ [x]) = if x.f = (n : Int) then ofF n q ++ [x] else ofF n q := by
  unfold ofF; rw [List.filter_append, List.filter_cons]; by_cases h : x.f = (n : Int) <;> simp [h]
theorem ofF_length (n : Nat) (q : List Msg) : (ofF n q).length ≤ q.length := List.length_filter_le _ _
/-- how much is still to be done. -/
def phi (q : List Msg) : Nat := 2 * nP q + nA q
theorem phi_cons (x : Msg) (q : List Msg) : phi (x :: q) = phi q + (if x.a = true then 1 else 2) := by
  unfold phi; rw [nP_cons, nA_cons]; cases x.a <;> simp <;> omega
theorem phi_snoc (q : List Msg) (x : Msg) : phi (q ++ [x]) = phi q + (if x.a = true then 1 else 2) := by
  unfold phi; rw [nP_snoc, nA_snoc]; cases x.a <;> simp <;> omega
theorem nPA (q : List Msg) : nP q + nA q = q.length := by
  induction q with
  | nil => rfl
  | cons x q ih => rw [nP_cons, nA_cons, List.length_cons]; cases x.a <;> simp <;> omega
theorem phi_length (q : List Msg) : q.length ≤ phi q := by have := nPA q; unfold phi; omega
/-- a triple that may be under way. -/
def goodMsg (x : Msg) : Prop := 1 ≤ x.f ∧ x.f ≤ 30 ∧ 0 ≤ x.l ∧ x.l ≤ 3 ∧ u8v x.v
where u8v (v : Int) : Prop := 0 ≤ v ∧ v ≤ 255
/-- both ends, and what is under way (q0 to the server, q1 to the client). -/
structure Meet (t0 t1 : Tb) (m0 m1 : Wt) (q0 q1 : List Msg) (A s : Nat) : Prop where
  w0 : wtsOk m0
  w1 : wtsOk m1
  o0 : tabOk t0
  o1 : tabOk t1
  k : ∀ n : Nat, 1 ≤ n → n < 31 → Kn (t0 n) (m0 n) (t1 n) (m1 n) (ofF n q1) (ofF n q0) A
  g0 : ∀ x ∈ q0, goodMsg x
  g1 : ∀ x ∈ q1, goodMsg x
  c : s + nP q0 + nP q1 ≤ 2 * A
  d : q0.length + q1.length ≤ s
theorem Meet.x0 {t0 t1 : Tb} {m0 m1 : Wt} {q0 q1 : List Msg} {A s : Nat} (h : Meet t0 t1 m0 m1 q0 q1 A s) : exErr t0 m0 = 0 := ex_good h.w0 h.o0
theorem Meet.x1 {t0 t1 : Tb} {m0 m1 : Wt} {q0 q1 : List Msg} {A s : Nat} (h : Meet t0 t1 m0 m1 q0 q1 A s) : exErr t1 m1 = 0 := ex_good h.w1 h.o1
theorem Meet.W {t0 t1 : Tb} {m0 m1 : Wt} {q0 q1 : List Msg} {A s : Nat} (h : Meet t0 t1 m0 m1 q0 q1 A s) {n : Nat} (h1 : 1 ≤ n) (h2 : n < 31) : 0 ≤ m0 n ∧ m0 n ≤ 2 * A ∧ 0 ≤ m1 n ∧ m1 n ≤ A := by
  have hk := h.k n h1 h2
  have e1 := nPA (ofF n q1)
  have e0 := nPA (ofF n q0)
  have l1 := ofF_length n q1
  have l0 := ofF_length n q0
  have hc := h.c
  have hd := h.d
  have hw := hk.w
  exact ⟨by omega, by omega, hk.v0, hk.vN⟩
theorem gotR_known {t : Tb} {m : Wt} {p : Tb} {b : Bool} {n : Nat} {l v d1 d2 : Int} {a : Bool} (hx : exErr t m = 0) (h1 : 1 ≤ n) (h2 : n < 31) (hs : settle p n l v = ((d1, d2), 0)) :
    gotR t m p b n l v a = if a = true then (if 1 ≤ m n then ((upd t n (toldC l v), updW m n (m n - 1)), none, 0) else ((t, m), none, 5))
      else if b = true ∧ ¬ m n = 0 then ((t, m), none, 5) else ((upd t n (toldC d1 d2), updW m n 0), some (d1, d2), 0) := by
  have hf : isF (n : Int) = true := by unfold isF; simp; omega
  cases a <;> simp [gotR, hx, hs, hf]
section
variable {t0 t1 p : Tb} {m0 m1 : Wt} {q0 q1 r : List Msg} {A s : Nat} {x : Msg}
theorem good_nat (h : goodMsg x) : ∃ n : Nat, x.f = n ∧ 1 ≤ n ∧ n < 31 := by
  obtain ⟨h1, h2, _⟩ := h
  exact ⟨x.f.toNat, by omega, by omega, by omega⟩
theorem Meet.ask0 (h : Meet t0 t1 m0 m1 q0 q1 A s) (hA : A ≤ 1000) (hx : goodMsg x) (ha : x.a = false) {n : Nat} (hn : x.f = n) :
    Meet t0 t1 (updW m0 n (m0 n + 1)) m1 q0 (q1 ++ [x]) (A + 1) (s + 1) := by
  obtain ⟨h1, h2⟩ : 1 ≤ n ∧ n < 31 := by obtain ⟨a, b, _⟩ := hx; omega
  obtain ⟨w0, w1, w2, w3⟩ := h.W h1 h2
  have hP : nP (q1 ++ [x]) = nP q1 + 1 := by rw [nP_snoc, ha]; rfl
  have hc := h.c
  have hd := h.d
  refine ⟨wts_updW h.w0 h1 (by omega) (by omega), h.w1, h.o0, h.o1, fun n' h1' h2' => ?_, h.g0, fun y hy => ?_, by rw [hP]; omega, by rw [List.length_append]; simp; omega⟩
  · have hk := h.k n' h1' h2'
    rw [ofF_snoc]
    by_cases e : n' = n
    · subst e; rw [if_pos hn, updW_same]; exact (hk.askS ha).more (by omega)
    · rw [if_neg (by rw [hn]; omega), updW_other _ _ _ _ e]; exact hk.more (by omega)
  · rcases List.mem_append.1 hy with hy | hy
    · exact h.g1 y hy
    · rw [List.mem_singleton.1 hy]; exact hx
theorem Meet.ask1 (h : Meet t0 t1 m0 m1 q0 q1 A s) (hA : A ≤ 1000) (hx : goodMsg x) (ha : x.a = false) {n : Nat} (hn : x.f = n) :
    Meet t0 t1 m0 (updW m1 n (m1 n + 1)) (q0 ++ [x]) q1 (A + 1) (s + 1) := by
  obtain ⟨h1, h2⟩ : 1 ≤ n ∧ n < 31 := by obtain ⟨a, b, _⟩ := hx; omega
  obtain ⟨w0, w1, w2, w3⟩ := h.W h1 h2
  have hP : nP (q0 ++ [x]) = nP q0 + 1 := by rw [nP_snoc, ha]; rfl
  have hc := h.c
  have hd := h.d
  refine ⟨h.w0, wts_updW h.w1 h1 (by omega) (by omega), h.o0, h.o1, fun n' h1' h2' => ?_, fun y hy => ?_, h.g1, by rw [hP]; omega, by rw [List.length_append]; simp; omega⟩
  · have hk := h.k n' h1' h2'
    rw [ofF_snoc]
    by_cases e : n' = n
    · subst e; rw [if_pos hn, updW_same]; have := hk.askC ha; simpa using this
    · rw [if_neg (by rw [hn]; omega), updW_other _ _ _ _ e]; exact hk.more (by omega)
  · rcases List.mem_append.1 hy with hy | hy
    · exact h.g0 y hy
    · rw [List.mem_singleton.1 hy]; exact hx
/-- the answer to a triple. -/
def ansOf (x : Msg) (c1 c2 : Int) : Msg := ⟨x.f, c1, true, x.i, x.o, c2⟩
theorem settle_key {p : Tb} {f l v c1 c2 : Int} (h : settle p f l v = ((c1, c2), 0)) (hp : ∀ i, i < 31 → 0 ≤ (p i).2 ∧ (p i).2 ≤ 255) (hv : 0 ≤ v ∧ v ≤ 255) : 0 ≤ c2 ∧ c2 ≤ 255 := by
  obtain ⟨ho, ht⟩ := settle_ok h
  by_cases hf : 31 ≤ f
  · rw [settle_of_out ho ht hf] at h; simp at h; omega
  · rw [settle_of_in ho ht hf] at h
    have k := hp f.toNat (by unfold trOk at ht; omega)
    unfold setl at h
    split at h
    · simp at h; omega
    · split at h
      · simp at h; omega
      · split at h
        · simp at h; omega
        · simp at h; omega
theorem ans_good (hx : goodMsg x) {c1 c2 : Int} (h : settle p x.f x.l x.v = ((c1, c2), 0)) (hp : ∀ i, i < 31 → 0 ≤ (p i).2 ∧ (p i).2 ≤ 255) : goodMsg (ansOf x c1 c2) := by
  have r := settle_range h
  obtain ⟨a, b, _, _, hv⟩ := hx
  exact ⟨a, b, r.1, by show c1 ≤ 3; omega, settle_key h hp hv⟩
/-- what came to the server, and what is then. -/
theorem Meet.got0 (h : Meet t0 t1 m0 m1 (x :: r) q1 A s) (hA : A ≤ 1000) (hp : tabOk p) (hk8 : ∀ i, i < 31 → 0 ≤ (p i).2 ∧ (p i).2 ≤ 255) :
    ∃ t' m', (∃ e, gotR t0 m0 p true x.f x.l x.v x.a = ((t', m'), none, e) ∧ Meet t' t1 m' m1 r q1 A s) ∨
      (∃ c1 c2, gotR t0 m0 p true x.f x.l x.v x.a = ((t', m'), some (c1, c2), 0) ∧ Meet t' t1 m' m1 r (q1 ++ [ansOf x c1 c2]) A (s + 1) ∧ x.a = false) := by
  have hg := h.g0 x (by simp)
  obtain ⟨n, hn, h1, h2⟩ := good_nat hg
  have hk := h.k n h1 h2
  rw [ofF_cons, if_pos hn] at hk
  obtain ⟨w0, w1, w2, w3⟩ := h.W h1 h2
  obtain ⟨f1, f2, l1, l2, hv⟩ := hg
  obtain ⟨d1, d2, hs⟩ : ∃ d1 d2, settle p n x.l x.v = ((d1, d2), 0) := by unfold settle; rw [if_pos ⟨hp, by omega, by omega, l1, l2⟩]; exact ⟨_, _, rfl⟩
  have hr := settle_range hs
  have hR := gotR_known (b := true) (a := x.a) h.x0 h1 h2 hs
  have hc := h.c
  have hd := h.d
  have hlen : (x :: r).length = r.length + 1 := rfl
  have hP := nP_cons x r
  rw [hn]
  cases ha : x.a
  · rw [ha] at hR hP
    by_cases hm : m0 n = 0
    · rw [if_neg (by simp), if_neg (by simp [hm])] at hR
      refine ⟨_, _, .inr ⟨d1, d2, hR, ?_, rfl⟩⟩
      have hz : ansOf x d1 d2 = ansOf x d1 d2 := rfl
      have hP1 : nP (q1 ++ [ansOf x d1 d2]) = nP q1 := by rw [nP_snoc]; rfl
      refine ⟨wts_updW h.w0 h1 (by omega) (by omega), h.w1, tab_upd h.o0 h1 (toldC_range hr.1 (by omega)), h.o1, fun n' h1' h2' => ?_, fun y hy => h.g0 y (by simp [hy]), fun y hy => ?_, by rw [hP1]; simp at hP; omega, by rw [List.length_append]; simp; omega⟩
      · rw [ofF_snoc]
        by_cases e : n' = n
        · subst e; rw [if_pos (show (ansOf x d1 d2).f = _ from hn), updW_same, upd_same]; exact hk.sHear ha hm (z := ansOf x d1 d2) rfl
        · have := h.k n' h1' h2'
          rw [ofF_cons, if_neg (by rw [hn]; omega)] at this
          rw [if_neg (by show ¬ x.f = _; rw [hn]; omega), updW_other _ _ _ _ e, upd_other _ _ _ _ e]; exact this
      · rcases List.mem_append.1 hy with hy | hy
        · exact h.g1 y hy
        · rw [List.mem_singleton.1 hy]; exact ans_good ⟨f1, f2, l1, l2, hv⟩ (by rw [hn]; exact hs) hk8
    · rw [if_neg (by simp), if_pos ⟨rfl, hm⟩] at hR
      refine ⟨_, _, .inl ⟨5, hR, h.w0, h.w1, h.o0, h.o1, fun n' h1' h2' => ?_, fun y hy => h.g0 y (by simp [hy]), h.g1, by simp at hP; omega, by omega⟩⟩
      by_cases e : n' = n
      · subst e; exact hk.sDrop ha hm
      · have := h.k n' h1' h2'
        rw [ofF_cons, if_neg (by rw [hn]; omega)] at this
        exact this
  · rw [ha] at hR hP
    obtain ⟨hW, hk'⟩ := hk.sAck ha
    rw [if_pos rfl, if_pos hW] at hR
    refine ⟨_, _, .inl ⟨0, hR, wts_updW h.w0 h1 (by omega) (by omega), h.w1, tab_upd h.o0 h1 (toldC_range l1 l2), h.o1, fun n' h1' h2' => ?_, fun y hy => h.g0 y (by simp [hy]), h.g1, by simp at hP; omega, by omega⟩⟩
    by_cases e : n' = n
    · subst e; rw [updW_same, upd_same]; exact hk'
    · have := h.k n' h1' h2'
      rw [ofF_cons, if_neg (by rw [hn]; omega)] at this
      rw [updW_other _ _ _ _ e, upd_other _ _ _ _ e]; exact this
/-- what came to the client, and what is then. -/
theorem Meet.got1 (h : Meet t0 t1 m0 m1 q0 (x :: r) A s) (hA : A ≤ 1000) (hp : tabOk p) (hk8 : ∀ i, i < 31 → 0 ≤ (p i).2 ∧ (p i).2 ≤ 255) :
    ∃ t' m', (∃ e, gotR t1 m1 p false x.f x.l x.v x.a = ((t', m'), none, e) ∧ Meet t0 t' m0 m' q0 r A s) ∨
      (∃ c1 c2, gotR t1 m1 p false x.f x.l x.v x.a = ((t', m'), some (c1, c2), 0) ∧ Meet t0 t' m0 m' (q0 ++ [ansOf x c1 c2]) r A (s + 1) ∧ x.a = false) := by
  have hg := h.g1 x (by simp)
  obtain ⟨n, hn, h1, h2⟩ := good_nat hg
  have hk := h.k n h1 h2
  rw [ofF_cons, if_pos hn] at hk
  obtain ⟨w0, w1, w2, w3⟩ := h.W h1 h2
  obtain ⟨f1, f2, l1, l2, hv⟩ := hg
  obtain ⟨d1, d2, hs⟩ : ∃ d1 d2, settle p n x.l x.v = ((d1, d2), 0) := by unfold settle; rw [if_pos ⟨hp, by omega, by omega, l1, l2⟩]; exact ⟨_, _, rfl⟩
  have hr := settle_range hs
  have hR := gotR_known (b := false) (a := x.a) h.x1 h1 h2 hs
  have hc := h.c
  have hd := h.d
  have hlen : (x :: r).length = r.length + 1 := rfl
  have hP := nP_cons x r
  rw [hn]
  cases ha : x.a
  · rw [ha] at hR hP
    rw [if_neg (by simp), if_neg (by simp)] at hR
    refine ⟨_, _, .inr ⟨d1, d2, hR, ?_, rfl⟩⟩
    have hP1 : nP (q0 ++ [ansOf x d1 d2]) = nP q0 := by rw [nP_snoc]; rfl
    refine ⟨h.w0, wts_updW h.w1 h1 (by omega) (by omega), h.o0, tab_upd h.o1 h1 (toldC_range hr.1 (by omega)), fun n' h1' h2' => ?_, fun y hy => ?_, fun y hy => h.g1 y (by simp [hy]), by rw [hP1]; simp at hP; omega, by rw [List.length_append]; simp; omega⟩
    · rw [ofF_snoc]
      by_cases e : n' = n
      · subst e; rw [if_pos (show (ansOf x d1 d2).f = _ from hn), updW_same, upd_same]; exact hk.cHear ha (z := ansOf x d1 d2) rfl (by omega)
      · have := h.k n' h1' h2'
        rw [ofF_cons, if_neg (by rw [hn]; omega)] at this
        rw [if_neg (by show ¬ x.f = _; rw [hn]; omega), updW_other _ _ _ _ e, upd_other _ _ _ _ e]; exact this
    · rcases List.mem_append.1 hy with hy | hy
      · exact h.g0 y hy
      · rw [List.mem_singleton.1 hy]; exact ans_good ⟨f1, f2, l1, l2, hv⟩ (by rw [hn]; exact hs) hk8
  · rw [ha] at hR hP
    by_cases hV : 1 ≤ m1 n
    · rw [if_pos rfl, if_pos hV] at hR
      refine ⟨_, _, .inl ⟨0, hR, h.w0, wts_updW h.w1 h1 (by omega) (by omega), h.o0, tab_upd h.o1 h1 (toldC_range l1 l2), fun n' h1' h2' => ?_, h.g0, fun y hy => h.g1 y (by simp [hy]), by simp at hP; omega, by omega⟩⟩
      by_cases e : n' = n
      · subst e; rw [updW_same, upd_same]; exact hk.cAck ha hV
      · have := h.k n' h1' h2'
        rw [ofF_cons, if_neg (by rw [hn]; omega)] at this
        rw [updW_other _ _ _ _ e, upd_other _ _ _ _ e]; exact this
    · rw [if_pos rfl, if_neg hV] at hR
      refine ⟨_, _, .inl ⟨5, hR, h.w0, h.w1, h.o0, h.o1, fun n' h1' h2' => ?_, h.g0, fun y hy => h.g1 y (by simp [hy]), by simp at hP; omega, by omega⟩⟩
      by_cases e : n' = n
      · subst e; exact hk.cErr ha hV
      · have := h.k n' h1' h2'
        rw [ofF_cons, if_neg (by rw [hn]; omega)] at this
        exact this
/-- nothing is under way. -/
theorem Meet.rest (h : Meet t0 t1 m0 m1 [] [] A s) : sameTb t0 t1 = true ∧ wtA m0 = wtA zeroW ∧ wtA m1 = wtA zeroW ∧ s ≤ 2 * A := by
  have hk : ∀ i, i < 31 → t0 i = t1 i ∧ m0 i = 0 ∧ m1 i = 0 := by
    intro i hi
    by_cases h0 : i = 0
    · subst h0
      obtain ⟨a, _, b⟩ := h.w0 0 (by omega)
      obtain ⟨a', _, b'⟩ := h.w1 0 (by omega)
      have e0 := (h.o0 0 (by omega)).2.2.2 rfl
      have e1 := (h.o1 0 (by omega)).2.2.2 rfl
      exact ⟨Prod.ext (e0.1.trans e1.1.symm) (e0.2.trans e1.2.symm), by have := b rfl; omega, by have := b' rfl; omega⟩
    · obtain ⟨a, b, c⟩ := Kn.rest (h.k i (by omega) hi)
      exact ⟨a.symm, b, c⟩
  refine ⟨(sameTb_iff _ _).2 fun i hi => (hk i hi).1, wtA_congr fun i hi => (hk i hi).2.1, wtA_congr fun i hi => (hk i hi).2.2, ?_⟩
  have := h.c
  simp [nP] at this
  exact this
end
end Go.Proofs.Ytjghmgpmaallfaa
