/-
  exchange and its reference say the same: Begin, Ask, Got.
-/
import Derived.Test.YtjghmgpmaallfaaEa4
import Derived.Test.YtjghmgpmaallfaaExp
namespace Go.Proofs.Ytjghmgpmaallfaa
open Go.RowKit
set_option linter.unusedVariables false
set_option linter.unusedSimpArgs false

/-- a slice of one triple, or none. -/
def HasSl (W : World) (L : Value) : Option (Int × Int × Bool × Bool × Bool × Int) → Prop
  | none => L = .slice none 0 0
  | some (f, l, a, i, o, v) => ∃ g, L = .slice (some ⟨g, 0, none⟩) 1 1 ∧ rowAt W g = some (.cells #[.int .i64 f, .int .i64 l, .bool a, .bool i, .bool o, .int .u8 v] 27 (0, 0))
theorem HasSl.below {W W' : World} {L : Value} {x : Option (Int × Int × Bool × Bool × Bool × Int)} (h : HasSl W L x) (hb : Below W.heap.size W W') : HasSl W' L x := by
  match x, h with
  | none, h => exact h
  | some (f, l, a, i, o, v), ⟨g, h1, h2⟩ => exact ⟨g, h1, rowNext' hb h2⟩
theorem HasSl.same {W : World} {L L' : Value} {x : Option (Int × Int × Bool × Bool × Bool × Int)} (h : HasSl W L x) (h' : HasSl W L' x) :
    Calls Try.prog 29 #[L, L'] W fun e w' => e = .returned (.bool true) ∧ Below W.heap.size W w' := by
  match x, h, h' with
  | none, h, h' => cases h; cases h'; exact refSame0 W
  | some (f, l, a, i, o, v), ⟨g, h1, h2⟩, ⟨g', h1', h2'⟩ => subst h1; subst h1'; exact refSame1 g g' 1 1 f l a i o v W h2 h2'
/-- what an end begins with: a server's thirty triples. -/
def HasB (p : Tb) (b : Bool) (W : World) (L : Value) : Prop := if b = true then ∃ g c, L = .slice (some ⟨g, 0, none⟩) 30 c ∧ Tris W g p else L = .slice none 0 0
theorem HasB.below {W W' : World} {L : Value} {p : Tb} {b : Bool} (h : HasB p b W L) (hb : Below W.heap.size W W') : HasB p b W' L := by
  cases b
  · exact h
  · obtain ⟨g, c, h1, h2⟩ : ∃ g c, L = .slice (some ⟨g, 0, none⟩) 30 c ∧ Tris W g p := h
    exact ⟨g, c, h1, h2.below hb⟩
theorem HasB.same {W : World} {L L' : Value} {p : Tb} {b : Bool} (h : HasB p b W L) (h' : HasB p b W L') :
    Calls Try.prog 29 #[L, L'] W fun e w' => e = .returned (.bool true) ∧ Below W.heap.size W w' := by
  cases b
  · have h : L = .slice none 0 0 := h
    have h' : L' = .slice none 0 0 := h'
    subst h; subst h'; exact refSame0 W
  · obtain ⟨g, c, h1, h2⟩ : ∃ g c, L = .slice (some ⟨g, 0, none⟩) 30 c ∧ Tris W g p := h
    obtain ⟨g', c', h1', h2'⟩ : ∃ g c, L' = .slice (some ⟨g, 0, none⟩) 30 c ∧ Tris W g p := h'
    subst h1; subst h1'; exact refSame p g g' c c' W h2 h2'
theorem no_sl {fn : Nat} {args : Array Value} {X E : Value} {W : World} (h : Calls Try.prog fn args W fun e w' => e = .returned (.tuple #[X, .slice none 0 0, E]) ∧ Below W.heap.size W w') :
    Calls Try.prog fn args W fun e w' => ∃ L, e = .returned (.tuple #[X, L, E]) ∧ HasSl w' L none ∧ Below W.heap.size W w' :=
  h.mono fun e w' ⟨he, hb⟩ => ⟨_, he, rfl, hb⟩
theorem has_sl {fn : Nat} {args : Array Value} {X E : Value} {W : World} {f l : Int} {a i o : Bool} {v : Int}
    (h : Calls Try.prog fn args W fun e w' => ∃ g, e = .returned (.tuple #[X, .slice (some ⟨g, 0, none⟩) 1 1, E]) ∧ rowAt w' g = some (.cells #[.int .i64 f, .int .i64 l, .bool a, .bool i, .bool o, .int .u8 v] 27 (0, 0)) ∧ W.heap.size ≤ g ∧ Below W.heap.size W w') :
    Calls Try.prog fn args W fun e w' => ∃ L, e = .returned (.tuple #[X, L, E]) ∧ HasSl w' L (some (f, l, a, i, o, v)) ∧ Below W.heap.size W w' :=
  h.mono fun e w' ⟨g, he, hr, _, hb⟩ => ⟨_, he, ⟨g, rfl, hr⟩, hb⟩
/-- both say the same. -/
def Both (f1 f2 : Nat) (args : Array Value) : Prop := ∃ (t' : Tb) (m' : Wt) (e' : Int) (x : Option (Int × Int × Bool × Bool × Bool × Int)),
  (∀ W, Calls Try.prog f1 args W fun e w' => ∃ L, e = .returned (.tuple #[.agg (exA t' m'), L, .int .i64 e']) ∧ HasSl w' L x ∧ Below W.heap.size W w') ∧
  (∀ W, Calls Try.prog f2 args W fun e w' => ∃ L, e = .returned (.tuple #[.agg (exA t' m'), L, .int .i64 e']) ∧ HasSl w' L x ∧ Below W.heap.size W w')
theorem ask_both (t : Tb) (m : Wt) (f l : Int) (a i o : Bool) (v : Int) : Both 34 37 #[.agg (exA t m), .agg #[.int .i64 f, .int .i64 l, .bool a, .bool i, .bool o, .int .u8 v]] := by
  rcases exErr_or t m with ⟨hx, hwt, htb⟩ | ⟨hx, _⟩
  · have hM : MayIs t m true := .inl ⟨hx, rfl⟩
    rcases trErr_or f l with ⟨ht, htr⟩ | ⟨ht, htr⟩
    · have hT := decide_eq_true htr
      by_cases hlow : f < 1
      · have hf : isF f = false := by unfold isF; simp; omega
        exact ⟨t, m, 1, none, fun W => no_sl (ask_badf t m f l v a i o hx ht hf W), fun W => no_sl (rask_low t m f l v a i o hM hT hlow W)⟩
      by_cases hhigh : 30 < f
      · have hf : isF f = false := by unfold isF; simp; omega
        exact ⟨t, m, 1, none, fun W => no_sl (ask_badf t m f l v a i o hx ht hf W), fun W => no_sl (rask_high t m f l v a i o hM hT hlow hhigh W)⟩
      have hf : isF f = true := by unfold isF; simp; omega
      obtain ⟨n, rfl, h1, h2⟩ := isF_nat hf
      cases a
      · obtain ⟨k0, k1, _⟩ := hwt n h2
        by_cases hm : m n = 65536
        · exact ⟨t, m, 6, none, fun W => no_sl (ask_full t m n h1 h2 l v i o hx ht hm W), fun W => no_sl (rask_full t m n h1 h2 l v i o hM hT hm W)⟩
        · exact ⟨t, updW m n (m n + 1), 0, some (n, l, false, i, o, v), fun W => has_sl (ask_ok t m n h1 h2 l v i o (m n) k0 (by omega) hx ht rfl W), fun W => has_sl (rask_ok t m n h1 h2 l v i o (m n) k0 (by omega) hM hT rfl W)⟩
      · exact ⟨t, m, 1, none, fun W => no_sl (ask_bada t m n l v i o hx ht hf W), fun W => no_sl (rask_ack t m n h1 h2 l v i o hM hT W)⟩
    · have hT := decide_eq_false htr
      exact ⟨t, m, 1, none, fun W => no_sl (ask_badt t m f l v a i o hx ht W), fun W => no_sl (rask_badt t m f l v a i o hM hT W)⟩
  · have hM : MayIs t m false := .inr ⟨hx, rfl⟩
    exact ⟨t, m, 1, none, fun W => no_sl (ask_badx t m f l v a i o hx W), fun W => no_sl (rask_badx t m f l v a i o hM W)⟩
theorem got_both (t : Tb) (m : Wt) (p : Tb) (b : Bool) (f l : Int) (a i o : Bool) (v : Int) : Both 31 38 #[.agg (exA t m), .agg (tabA p), .bool b, .agg #[.int .i64 f, .int .i64 l, .bool a, .bool i, .bool o, .int .u8 v]] := by
  rcases exErr_or t m with ⟨hx, hwt, htb⟩ | ⟨hx, _⟩
  · have hM : MayIs t m true := .inl ⟨hx, rfl⟩
    by_cases hp : tabOk p
    · have hP := decide_eq_true hp
      by_cases htr : trOk f l
      · have hT := decide_eq_true htr
        obtain ⟨c1, c2, hs⟩ : ∃ c1 c2, settle p f l v = ((c1, c2), 0) := by unfold settle; rw [if_pos ⟨hp, htr⟩]; exact ⟨_, _, rfl⟩
        have hr := settle_range hs
        by_cases hlow : f < 1
        · have hf : isF f = false := by unfold isF; simp; omega
          cases a
          · exact ⟨t, m, 0, some (f, c1, true, i, o, c2), fun W => has_sl (got_says (e0 := 0) (by simp [gotR, hx, hs, hf]) i o W), fun W => has_sl (rgot_low t m p b f l v i o c1 c2 hlow hM hP hT hs W)⟩
          · exact ⟨t, m, 5, none, fun W => no_sl (got_quiet (by simp [gotR, hx, hs, hf]) i o W), fun W => no_sl (rgot_acklow t m p b f l v i o hM hP hT hlow W)⟩
        by_cases hhigh : 30 < f
        · have hf : isF f = false := by unfold isF; simp; omega
          cases a
          · exact ⟨t, m, 0, some (f, c1, true, i, o, c2), fun W => has_sl (got_says (e0 := 0) (by simp [gotR, hx, hs, hf]) i o W), fun W => has_sl (rgot_high t m p b f l v i o c1 c2 hlow hhigh hM hP hT hs W)⟩
          · exact ⟨t, m, 5, none, fun W => no_sl (got_quiet (by simp [gotR, hx, hs, hf]) i o W), fun W => no_sl (rgot_ackhigh t m p b f l v i o hM hP hT hlow hhigh W)⟩
        have hf : isF f = true := by unfold isF; simp; omega
        obtain ⟨n, rfl, h1, h2⟩ := isF_nat hf
        obtain ⟨k0, k1, _⟩ := hwt n h2
        cases a
        · have e : toldC c1 c2 = (c1, c2) := toldC_same hr.2.1 hr.2.2
          cases b
          · exact ⟨upd t n (c1, c2), updW m n 0, 0, some (n, c1, true, i, o, c2), fun W => has_sl (got_says (e0 := 0) (by simp [gotR, hx, hs, hf, e]) i o W), fun W => has_sl (rgot_c t m p n h1 h2 l v i o c1 c2 hM hP hT hs W)⟩
          · by_cases hm : m n = 0
            · exact ⟨upd t n (c1, c2), updW m n 0, 0, some (n, c1, true, i, o, c2), fun W => has_sl (got_says (e0 := 0) (by simp [gotR, hx, hs, hf, e, hm]) i o W), fun W => has_sl (rgot_s t m p n h1 h2 l v i o c1 c2 hm hM hP hT hs W)⟩
            · exact ⟨t, m, 5, none, fun W => no_sl (got_quiet (by simp [gotR, hx, hs, hf, hm]) i o W), fun W => no_sl (rgot_deaf t m p n h1 h2 l v i o hM hP hT (m n) (by omega) rfl W)⟩
        · by_cases hm : m n = 0
          · exact ⟨t, m, 5, none, fun W => no_sl (got_quiet (by simp [gotR, hx, hs, hf, hm]) i o W), fun W => no_sl (rgot_acknone t m p b n h1 h2 l v i o hM hP hT hm W)⟩
          · have hm1 : 1 ≤ m n := by omega
            refine ⟨upd t n (toldC l v), updW m n (m n - 1), 0, none, fun W => no_sl (got_quiet (by simp [gotR, hx, hs, hf, hm1]) i o W), fun W => no_sl ?_⟩
            unfold trOk at htr
            by_cases hl0 : l = 0
            · subst hl0; exact rgot_ack0 t m p b n h1 h2 v i o (m n) hm1 k1 hM hP hT rfl W
            by_cases hl3 : l = 3
            · subst hl3; exact rgot_ack3 t m p b n h1 h2 v i o (m n) hm1 k1 hM hP hT rfl W
            · have e : toldC l v = (l, v) := toldC_same (by omega) (fun h => absurd h hl0)
              rw [e]; exact rgot_ack1 t m p b n h1 h2 l v i o (m n) hm1 k1 hl0 hl3 hM hP hT rfl W
      · have hT := decide_eq_false htr
        have hs := settle_of_bad (p := p) (f := f) (l := l) (v := v) (fun h => htr h.2)
        exact ⟨t, m, 1, none, fun W => no_sl (got_quiet (by simp [gotR, hx, hs]) i o W), fun W => no_sl (rgot_badt t m p b f l v a i o hM hP hT W)⟩
    · have hP := decide_eq_false hp
      have hs := settle_of_bad (p := p) (f := f) (l := l) (v := v) (fun h => hp h.1)
      exact ⟨t, m, 1, none, fun W => no_sl (got_quiet (by simp [gotR, hx, hs]) i o W), fun W => no_sl (rgot_badp t m p b f l v a i o hM hP W)⟩
  · have hM : MayIs t m false := .inr ⟨hx, rfl⟩
    exact ⟨t, m, 1, none, fun W => no_sl (got_quiet (by simp [gotR, hx]) i o W), fun W => no_sl (rgot_badx t m p b f l v a i o hM W)⟩
/-- how an end waits when it begins. -/
def begW (b : Bool) : Wt := if b = true then onesTo 31 else zeroW
theorem begin_both {p : Tb} (hp : tabOk p) (b : Bool) :
    (∀ W, Calls Try.prog 35 #[.agg (tabA p), .bool b] W fun e w' => ∃ L, e = .returned (.tuple #[.agg (exA p (begW b)), L, .int .i64 0]) ∧ HasB p b w' L ∧ Below W.heap.size W w') ∧
    (∀ W, Calls Try.prog 39 #[.agg (tabA p), .bool b] W fun e w' => ∃ L, e = .returned (.tuple #[.agg (exA p (begW b)), L]) ∧ HasB p b w' L ∧ Below W.heap.size W w') := by
  have hE : tabErr p = 0 := if_pos hp
  cases b
  · exact ⟨fun W => (begin_c p hE W).mono fun e w' ⟨he, hb⟩ => ⟨_, he, rfl, hb⟩, fun W => (rbegin_c p hp W).mono fun e w' ⟨he, hb⟩ => ⟨_, he, rfl, hb⟩⟩
  · exact ⟨fun W => (begin_s p hE W).mono fun e w' ⟨g, he, ht, _, _, hb⟩ => ⟨_, he, ⟨g, 31, rfl, ht⟩, hb⟩, fun W => (rbegin_s p hp W).mono fun e w' ⟨g, c, he, ht, hb⟩ => ⟨_, he, ⟨g, c, rfl, ht⟩, hb⟩⟩
end Go.Proofs.Ytjghmgpmaallfaa
