/-
  What the walk of ExchangeMeets leans on.
-/
import Derived.Test.YtjghmgpmaallfaaMr
import Derived.Test.YtjghmgpmaallfaaExw
import Derived.Test.YtjghmgpmaallfaaExq
namespace Go.Proofs.Ytjghmgpmaallfaa
open Go.RowKit
set_option linter.unusedVariables false
set_option linter.unusedSimpArgs false

/-- append, behind a name of its own. -/
noncomputable def appendT (ty : TypeId) (args : Array Value) : Sem Value := Builtin.append_ #[46, 46] ty args
@[local go_sem ↓] theorem nameAppend (ty : TypeId) (args : Array Value) : Builtin.append_ #[46, 46] ty args = appendT ty args := rfl
theorem wzero_lit' : wtA zeroW = #[.int .i64 0, .int .i64 0, .int .i64 0, .int .i64 0, .int .i64 0, .int .i64 0, .int .i64 0, .int .i64 0, .int .i64 0, .int .i64 0, .int .i64 0, .int .i64 0, .int .i64 0, .int .i64 0, .int .i64 0, .int .i64 0, .int .i64 0, .int .i64 0, .int .i64 0, .int .i64 0, .int .i64 0, .int .i64 0, .int .i64 0, .int .i64 0, .int .i64 0, .int .i64 0, .int .i64 0, .int .i64 0, .int .i64 0, .int .i64 0, .int .i64 0] := by kernel_rfl
@[local go_sem ↓] theorem eqZeroW' (w : World) : (Op.equalIn 10000 58 (.agg (wtA zeroW)) (.agg #[.int .i64 0, .int .i64 0, .int .i64 0, .int .i64 0, .int .i64 0, .int .i64 0, .int .i64 0, .int .i64 0, .int .i64 0, .int .i64 0, .int .i64 0, .int .i64 0, .int .i64 0, .int .i64 0, .int .i64 0, .int .i64 0, .int .i64 0, .int .i64 0, .int .i64 0, .int .i64 0, .int .i64 0, .int .i64 0, .int .i64 0, .int .i64 0, .int .i64 0, .int .i64 0, .int .i64 0, .int .i64 0, .int .i64 0, .int .i64 0, .int .i64 0])).run Try.prog w = .ok true w := by
  rw [← wzero_lit', eqWt, sameW_refl]
theorem HasQ.put3 {w : World} {B : Nat} {v : Value} {q : List Msg} (h : HasQ w B v q) {b c : Nat} (hb : b < B) (hc : c < B) (cs : Array Value) (ty : TypeId) (off : Nat) (u : Value) (o : Obj) : HasQ (((putRow w b cs ty).setCell ⟨c, off, none⟩ u).alloc o) B v q := by
  refine h.kept fun k hk => ?_
  obtain ⟨h1, h2⟩ := h.lt hk
  rw [rowAt_old _ _ _ (by rw [setCell_size, putRow_size]; exact h2), rowAt_setCell _ _ _ _ _ (by omega), rowAt_putOther _ _ _ _ _ (by omega)]
theorem row_put3 {w : World} {b c : Nat} {cs cs' : Array Value} {ty ty' : TypeId} {off : Nat} {u : Value} (h : rowAt w c = some (.cells cs' ty' (0, 0))) (hne : c ≠ b) : rowAt ((putRow w b cs ty).setCell ⟨c, off, none⟩ u) c = some (.cells (cs'.setIfInBounds off u) ty' (0, 0)) :=
  setCell_rowSame (show rowAt (putRow w b cs ty) c = _ by rw [rowAt_putOther _ _ _ _ _ hne]; exact h) off u

theorem Acts.below' {w w1 w2 : World} {s : Value} {n : Nat} (h : Acts w s n) (h1 : Below w.heap.size w w1) (h2 : Below w1.heap.size w1 w2) : Acts w2 s n := (h.below h1).below h2
def MeetB (w wr : World) (p0 p1 : Tb) (sv : Value) (n A S k : Nat) (t0 t1 : Tb) (m0 m1 : Wt) (q0 q1 : List Msg) (v0 v1 : Value) : Prop :=
  rowAt wr w.heap.size = some (.cells (prA p0 p1 sv) 79 (0, 0)) ∧ rowAt wr (w.heap.size + 1) = some (.cells (xsA t0 t1 m0 m1) 80 (0, 0)) ∧ rowAt wr (w.heap.size + 1 + 1) = some (.cells #[v0, v1] 81 (0, 0)) ∧
  HasQ wr (w.heap.size + 1 + 1 + 1) v0 q0 ∧ HasQ wr (w.heap.size + 1 + 1 + 1) v1 q1 ∧ (∀ j, v0.ownBlock = some j → v1.ownBlock ≠ some j) ∧
  Meet t0 t1 m0 m1 q0 q1 A S ∧ A ≤ 30 + min k (min n 80) ∧ phi q0 + phi q1 + (k - min n 80) ≤ 60 + 2 * min k (min n 80) ∧ Acts wr sv n ∧ w.heap.size + 1 + 1 + 1 ≤ wr.heap.size ∧ Below w.heap.size w wr
def MeetAt (w wr : World) (p0 p1 : Tb) (sv : Value) (n A S k : Nat) : Prop := ∃ (t0 t1 : Tb) (m0 m1 : Wt) (q0 q1 : List Msg) (v0 v1 : Value), MeetB w wr p0 p1 sv n A S k t0 t1 m0 m1 q0 q1 v0 v1
/-- the program's code from region n on, up to the end of its sequence. -/
def codeAt (n : Nat) : Code → Option Code
  | .seq (.region m ops d) b => if m = n then some (.seq (.region m ops d) b) else codeAt n b
  | .seq a b => match codeAt n a with
    | some c => some c
    | none => codeAt n b
  | .block _ c => codeAt n c
  | .loop c => codeAt n c
  | .cond _ a b => match codeAt n a with
    | some c => some c
    | none => codeAt n b
  | _ => none
/-- an end at the foot of the code, and nowhere else. -/
def offEnd (K : Act → World → Prop) : Exit → Act → World → Prop
  | .normal, a, w => K a w
  | _, _, _ => False
/-- an end by the way out id, and nowhere else. -/
def outBy (id : Nat) (K : Act → World → Prop) : Exit → Act → World → Prop
  | .exit i, a, w => i = id ∧ K a w
  | _, _, _ => False
theorem wp_offEnd {P : Program} {c : Code} {Q : Exit → Act → World → Prop} {a : Act} {w : World} (h : c.wp P (offEnd (Q .normal)) a w) : c.wp P Q a w :=
  wp_mono h fun e a w hq => by cases e <;> first | exact hq | exact hq.elim
theorem wp_outBy {P : Program} {c : Code} {id : Nat} {Q : Exit → Act → World → Prop} {a : Act} {w : World} (h : c.wp P (outBy id (Q (.exit id))) a w) : c.wp P Q a w :=
  wp_mono h fun e a w hq => by
    cases e with
    | exit i => obtain ⟨rfl, hq⟩ := hq; exact hq
    | _ => exact hq.elim
noncomputable def code28 : Code := ((Try.f13.body.bind (codeAt 28)).getD .skip)
noncomputable def code20 : Code := ((Try.f13.body.bind (codeAt 20)).getD .skip)
theorem Acts.form {w : World} {s : Value} {n : Nat} (h : Acts w s n) : ∃ ad cap, s = .slice ad n cap := by
  rcases h with ⟨rfl, rfl⟩ | ⟨a, cap, h, _⟩
  · exact ⟨none, 0, rfl⟩
  · exact ⟨_, cap, h⟩
theorem MeetAt.len {w wr : World} {p0 p1 : Tb} {sv : Value} {n A S k : Nat} (h : MeetAt w wr p0 p1 sv n A S k) : A ≤ 110 := by
  obtain ⟨t0, t1, m0, m1, q0, q1, v0, v1, _, _, _, _, _, _, _, hA, _⟩ := h
  omega
/-- what Got says of a triple: nothing, or one answer, in memory. -/
def AnsIn (B : Nat) (W : World) (L : Value) : Option Msg → Prop
  | none => L = .slice none 0 0
  | some z => ∃ g, B ≤ g ∧ L = .slice (some ⟨g, 0, none⟩) 1 1 ∧ rowAt W g = some (.cells (msgC z).toArray 27 (0, 0))
theorem AnsIn.keep {B : Nat} {W W' : World} {L : Value} {o : Option Msg} (h : AnsIn B W L o) (hk : ∀ k x, B ≤ k → rowAt W k = some x → rowAt W' k = some x) : AnsIn B W' L o := by
  match o, h with
  | none, h => exact h
  | some z, ⟨g, h1, h2, h3⟩ => exact ⟨g, h1, h2, hk g _ h1 h3⟩
theorem AnsIn.lower {B B' : Nat} {W : World} {L : Value} {o : Option Msg} (h : AnsIn B W L o) (hB : B' ≤ B) : AnsIn B' W L o := by
  match o, h with
  | none, h => exact h
  | some z, ⟨g, h1, h2, h3⟩ => exact ⟨g, by omega, h2, h3⟩
theorem leftZ_call {w3 w9 : World} {Z cs : Array Value} {t : TypeId} {L : Value} {o : Option Msg} (hb : Below (w3.alloc (.cells Z t)).drew.heap.size (w3.alloc (.cells Z t)).drew w9) (ha : Hid (AnsIn (w3.alloc (.cells Z t)).drew.heap.size w9 L o)) :
    rowAt (putRow w9 w3.heap.size cs t) w3.heap.size = some (.cells cs t (0, 0)) ∧ AnsIn (w3.heap.size + 1) (putRow w9 w3.heap.size cs t) L o ∧ w3.heap.size ≤ w3.heap.size ∧ Below w3.heap.size w3 (putRow w9 w3.heap.size cs t) := by
  have he : (w3.alloc (.cells Z t)).drew.heap.size = w3.heap.size + 1 := by simp
  have ha' := ha.out
  rw [he] at ha'
  exact ⟨rowAt_put _ _ _ _ (lt_of_some (row_ahead hb)), ha'.keep fun k x hk hx => by rw [rowAt_putOther _ _ _ _ _ (by omega)]; exact hx, Nat.le_refl _, below_putRow (below9 hb) _ _ _ (Nat.le_refl _)⟩
theorem leftZ_new {w3 w9 : World} {t : TypeId} {cs : Array Value} {L : Value} {o : Option Msg} (hb : Below w3.heap.size w3 w9) (ha : Hid (AnsIn w3.heap.size w9 L o)) :
    rowAt (w9.alloc (.cells cs t)) w9.heap.size = some (.cells cs t (0, 0)) ∧ AnsIn w3.heap.size (w9.alloc (.cells cs t)) L o ∧ w3.heap.size ≤ w9.heap.size ∧ Below w3.heap.size w3 (w9.alloc (.cells cs t)) :=
  ⟨rowAt_new _ _ _ rfl, ha.out.keep fun k x hk hx => by rw [rowAt_old _ _ _ (lt_of_some hx)]; exact hx, hb.size, hb.alloc hb.size _⟩
theorem range_pr0 {w : World} {g : Nat} {p0 p1 : Tb} {s : Value} {ty : TypeId} {U : List Value} (h : rowAt w g = some (.cells (prA p0 p1 s) ty (0, 0))) (hU : tabA p0 = U.toArray) : w.rangeAt g 0 U := by
  intro j x hx
  have hj : j < 62 := by
    have := len_of_tab hU
    rcases Nat.lt_or_ge j U.length with h | h
    · omega
    · rw [List.getElem?_eq_none h] at hx; cases hx
  rw [cell_of_row w g (0 + j) _ ty (0, 0) h, Nat.zero_add]
  unfold prA
  rw [Array.getElem?_append_left (by simp [tabA_size]; omega), Array.getElem?_append_left (by rw [tabA_size]; exact hj), hU]
  simpa using hx
theorem range_pr1 {w : World} {g : Nat} {p0 p1 : Tb} {s : Value} {ty : TypeId} {U : List Value} (h : rowAt w g = some (.cells (prA p0 p1 s) ty (0, 0))) (hU : tabA p1 = U.toArray) : w.rangeAt g 62 U := by
  intro j x hx
  have hj : j < 62 := by
    have := len_of_tab hU
    rcases Nat.lt_or_ge j U.length with h | h
    · omega
    · rw [List.getElem?_eq_none h] at hx; cases hx
  rw [cell_of_row w g (62 + j) _ ty (0, 0) h]
  unfold prA
  rw [Array.getElem?_append_left (by simp [tabA_size]; omega), Array.getElem?_append_right (by rw [tabA_size]; omega), tabA_size, show 62 + j - 62 = j by omega, hU]
  simpa using hx
/-- Got, of one that comes: whatever it says. -/
theorem got_any {t t' : Tb} {m m' : Wt} {p : Tb} {b : Bool} {x : Msg} {c : Option (Int × Int)} {e : Int} (h : gotR t m p b x.f x.l x.v x.a = ((t', m'), c, e)) (W : World) :
    Calls Try.prog 31 #[.agg (exA t m), .agg (tabA p), .bool b, .agg #[.int .i64 x.f, .int .i64 x.l, .bool x.a, .bool x.i, .bool x.o, .int .u8 x.v]] W fun e' w' => ∃ L E, e' = .returned (.tuple #[.agg (exA t' m'), L, .int .i64 E]) ∧ AnsIn W.heap.size w' L (c.map fun c => ansOf x c.1 c.2) ∧ Below W.heap.size W w' := by
  cases c with
  | none => exact (got_quiet h x.i x.o W).mono fun e' w' ⟨he, hb⟩ => ⟨_, _, he, rfl, hb⟩
  | some c => exact (got_says (c1 := c.1) (c2 := c.2) h x.i x.o W).mono fun e' w' ⟨g, he, hr, hg, hb⟩ => ⟨_, _, he, ⟨g, hg, rfl, hr⟩, hb⟩
theorem HasQ.put4 {w : World} {B : Nat} {v : Value} {q : List Msg} (h : HasQ w B v q) {b c : Nat} (hb : b < B) (hc : c < B) (cs : Array Value) (ty : TypeId) (o1 o2 : Nat) (u1 u2 : Value) : HasQ (((putRow w b cs ty).setCell ⟨c, o1, none⟩ u1).setCell ⟨c, o2, none⟩ u2) B v q := by
  refine h.kept fun k hk => ?_
  obtain ⟨h1, h2⟩ := h.lt hk
  rw [rowAt_setCell _ _ _ _ _ (by omega), rowAt_setCell _ _ _ _ _ (by omega), rowAt_putOther _ _ _ _ _ (by omega)]
theorem HasQ.drew {w : World} {B : Nat} {v : Value} {q : List Msg} (h : HasQ w B v q) : HasQ w.drew B v q := h.kept fun k hk => rowAt_drew w k
theorem row_put4 {w : World} {b c : Nat} {cs cs' : Array Value} {ty ty' : TypeId} {o1 o2 : Nat} {u1 u2 : Value} (h : rowAt w c = some (.cells cs' ty' (0, 0))) (hne : c ≠ b) : rowAt (((putRow w b cs ty).setCell ⟨c, o1, none⟩ u1).setCell ⟨c, o2, none⟩ u2) c = some (.cells ((cs'.setIfInBounds o1 u1).setIfInBounds o2 u2) ty' (0, 0)) :=
  setCell_rowSame (row_put3 h hne) o2 u2
theorem phi_less (x : Msg) (q : List Msg) : phi q + 1 ≤ phi (x :: q) := by rw [phi_cons]; split <;> omega
theorem own_if {c : Prop} [Decidable c] {g o1 o2 n k : Nat} : (Value.slice (if c then some (⟨g, o1, none⟩ : Addr) else some ⟨g, o2, none⟩) n k).ownBlock = some g := by split <;> rfl
theorem heap_alloc_size' (w : World) (o : Obj) : (w.alloc o).heap.size = w.heap.size + 1 := by simp
theorem MeetAt.next {w wr : World} {p0 p1 : Tb} {sv : Value} {n A S k : Nat} (h : MeetAt w wr p0 p1 sv n A S k) (hk : k < n) (h8 : k < 80) : MeetAt w wr p0 p1 sv n A S (k + 1) := by
  obtain ⟨t0, t1, m0, m1, q0, q1, v0, v1, a1, a2, a3, a4, a5, a6, a7, hA, hp, a8, a9, a10⟩ := h
  exact ⟨t0, t1, m0, m1, q0, q1, v0, v1, a1, a2, a3, a4, a5, a6, a7, by omega, by omega, a8, a9, a10⟩
theorem MeetAt.below {w wr w' : World} {p0 p1 : Tb} {sv : Value} {n A S k : Nat} (h : MeetAt w wr p0 p1 sv n A S k) (hb : Below wr.heap.size wr w') : MeetAt w w' p0 p1 sv n A S k := by
  obtain ⟨t0, t1, m0, m1, q0, q1, v0, v1, a1, a2, a3, a4, a5, a6, a7, hA, hp, a8, a9, a10⟩ := h
  exact ⟨t0, t1, m0, m1, q0, q1, v0, v1, rowNext' hb a1, rowNext' hb a2, rowNext' hb a3, a4.below hb, a5.below hb, a6, a7, hA, hp, a8.below hb, by have := hb.size; omega, below_step a10 (by omega) hb⟩
/-- the act at k. -/
theorem Acts.nth {w : World} {s : Value} {n k : Nat} (h : Acts w s n) (hk : k < n) : ∃ ab ao cap who co, ∃ x : Msg, s = .slice (some ⟨ab, ao, none⟩) n cap ∧ n ≤ cap ∧ ab < w.heap.size ∧ 0 ≤ who ∧ who ≤ 255 ∧ 0 ≤ x.v ∧ x.v ≤ 255 ∧
    w.cell? ⟨ab, ao + k * 8, none⟩ = some (.int .u8 who) ∧ w.cell? ⟨ab, ao + k * 8 + 1, none⟩ = some (.bool co) ∧ ∀ j u, (msgC x)[j]? = some u → w.cell? ⟨ab, ao + k * 8 + 2 + j, none⟩ = some u := by
  rcases h with ⟨_, h⟩ | ⟨a, cap, h1, h2, h3, h4⟩
  · omega
  · obtain ⟨b, o, sp⟩ := a
    have hs : sp = none := by
      obtain ⟨who, co, x, _, _, _, _, c0, _⟩ := h4 0 (by omega)
      cases sp with
      | none => rfl
      | some s => simp [Addr.add, World.cell?] at c0; split at c0 <;> simp_all
    subst hs
    have ha : ∀ j, (⟨b, o, none⟩ : Addr).add j = ⟨b, o + j, none⟩ := by intro j; unfold Addr.add; split <;> simp_all
    obtain ⟨who, co, x, k1, k2, k3, k4, c0, c1, c2⟩ := h4 k hk
    rw [ha] at c0 c1
    refine ⟨b, o, cap, who, co, x, h1, h2, ?_, k1, k2, k3, k4, c0, by rw [Nat.add_assoc]; exact c1, fun j u hu => ?_⟩
    · exact World.block_lt_of_cell? w ⟨b, o + k * 8, none⟩ c0
    · have := c2 j u hu
      rw [ha] at this
      rw [Nat.add_assoc, Nat.add_assoc]; exact this
/-- Ask, of any triple: nothing, or it as it is. -/
theorem ask_any {t : Tb} {m : Wt} (hx : exErr t m = 0) (hw : wtsOk m) (x : Msg) (hv : 0 ≤ x.v ∧ x.v ≤ 255) :
    ∃ (m' : Wt) (o : Option Msg) (En : Int), ((o = none ∧ ¬ En = 0 ∧ m' = m) ∨ (o = some x ∧ En = 0 ∧ x.a = false ∧ goodMsg x ∧ ∃ n : Nat, x.f = n ∧ m' = updW m n (m n + 1))) ∧
      ∀ W, Calls Try.prog 34 #[.agg (exA t m), .agg #[.int .i64 x.f, .int .i64 x.l, .bool x.a, .bool x.i, .bool x.o, .int .u8 x.v]] W fun e' w' => ∃ L, e' = .returned (.tuple #[.agg (exA t m'), L, .int .i64 En]) ∧ AnsIn W.heap.size w' L o ∧ Below W.heap.size W w' := by
  have no : ∀ {En : Int} {W : World}, (Calls Try.prog 34 #[.agg (exA t m), .agg #[.int .i64 x.f, .int .i64 x.l, .bool x.a, .bool x.i, .bool x.o, .int .u8 x.v]] W fun e w' => e = .returned (.tuple #[.agg (exA t m), .slice none 0 0, .int .i64 En]) ∧ Below W.heap.size W w') →
      Calls Try.prog 34 #[.agg (exA t m), .agg #[.int .i64 x.f, .int .i64 x.l, .bool x.a, .bool x.i, .bool x.o, .int .u8 x.v]] W fun e' w' => ∃ L, e' = .returned (.tuple #[.agg (exA t m), L, .int .i64 En]) ∧ AnsIn W.heap.size w' L none ∧ Below W.heap.size W w' :=
    fun h => h.mono fun e w' ⟨he, hb⟩ => ⟨_, he, rfl, hb⟩
  rcases trErr_or x.f x.l with ⟨ht, htr⟩ | ⟨ht, _⟩
  · cases hf : isF x.f
    · exact ⟨m, none, 1, .inl ⟨rfl, by decide, rfl⟩, fun W => no (ask_badf t m x.f x.l x.v x.a x.i x.o hx ht hf W)⟩
    · cases ha : x.a
      · obtain ⟨n, hn, h1, h2⟩ := isF_nat hf
        obtain ⟨k0, k1, _⟩ := hw n h2
        rw [hn] at ht
        by_cases hm : m n = 65536
        · exact ⟨m, none, 6, .inl ⟨rfl, by decide, rfl⟩, fun W => by have := ask_full t m n h1 h2 x.l x.v x.i x.o hx ht hm W; rw [← hn, ← ha] at this; rw [← ha]; exact no this⟩
        · refine ⟨_, some x, 0, .inr ⟨rfl, rfl, rfl, ?_, n, hn, rfl⟩, fun W => ?_⟩
          · unfold trOk at htr
            exact ⟨by omega, by omega, htr.2.2.1, htr.2.2.2, hv⟩
          · rw [hn]
            refine (ask_ok t m n h1 h2 x.l x.v x.i x.o (m n) k0 (by omega) hx ht rfl W).mono ?_
            rintro e w' ⟨g, he, hr, hg, hb⟩
            refine ⟨_, he, ⟨g, hg, rfl, ?_⟩, hb⟩
            rw [hr]; simp [msgC, hn, ha]
      · rw [← ha]
        exact ⟨m, none, 1, .inl ⟨rfl, by decide, rfl⟩, fun W => by have := ask_bada t m x.f x.l x.v x.i x.o hx ht hf W; rw [← ha] at this; exact no this⟩
  · exact ⟨m, none, 1, .inl ⟨rfl, by decide, rfl⟩, fun W => no (ask_badt t m x.f x.l x.v x.a x.i x.o hx ht W)⟩
theorem HasQ.put2 {w : World} {B : Nat} {v : Value} {q : List Msg} (h : HasQ w B v q) {b c : Nat} (hb : b < B) (hc : c < B) (cs : Array Value) (ty : TypeId) (o1 : Nat) (u1 : Value) : HasQ ((putRow w b cs ty).setCell ⟨c, o1, none⟩ u1) B v q := by
  refine h.kept fun k hk => ?_
  obtain ⟨h1, h2⟩ := h.lt hk
  rw [rowAt_setCell _ _ _ _ _ (by omega), rowAt_putOther _ _ _ _ _ (by omega)]
end Go.Proofs.Ytjghmgpmaallfaa
