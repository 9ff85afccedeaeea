/-
  The contracts of layer 2 as the laws use them.
-/
import Derived.Test.YtgmmdnilnmoknaaNvH
import Derived.Test.YtgmmdnilnmoknaaNvF
namespace Go.Proofs.Ytgmmdnilnmoknaa
open Go.RowKit
set_option linter.unusedVariables false
set_option linter.unusedSimpArgs false

theorem few_any {v : Value} {l : List UInt8} {w : World} (h : Sl w v l) : Calls Try.prog 9 #[v] w fun e w' => ∃ b A c, e = .returned (.slice A b.length c) ∧ b.length ≤ 200 ∧ b.length ≤ c ∧ Sl w (.slice A b.length c) b ∧ w = w' := by
  refine (lawFew v l w h).mono ?_
  rintro e w' ⟨u, rfl, hu, rfl⟩
  have h0 := hu
  obtain ⟨A, c, rfl, hc, _⟩ := hu
  exact ⟨l.take 200, A, c, rfl, by simp; omega, hc, h0, rfl⟩
theorem few_is {v : Value} {l b : List UInt8} {w : World} (h : Sl w v l) (hb : b = l.take 200) : Calls Try.prog 9 #[v] w fun e w' => ∃ A c, e = .returned (.slice A b.length c) ∧ b.length ≤ c ∧ Sl w (.slice A b.length c) b ∧ w = w' := by
  subst hb
  refine (lawFew v l w h).mono ?_
  rintro e w' ⟨u, rfl, hu, rfl⟩
  have h0 := hu
  obtain ⟨A, c, rfl, hc, _⟩ := hu
  exact ⟨A, c, rfl, hc, h0, rfl⟩
/-- laid: y -/
theorem lay_any {v : Value} {b : List UInt8} {w : World} (h : Sl w v b) (hb : b.length ≤ 4096) : Calls Try.prog 14 #[v] w fun e w' =>
    ∃ y A c, e = .returned (.slice A y.length c) ∧ Hid (y = nlay b) ∧ y.length ≤ 2 * b.length ∧ y.length ≤ c ∧ Sl w' (.slice A y.length c) y ∧ Below w.heap.size w w' := by
  refine (nvtLay v b w h hb).mono ?_
  rintro e w' ⟨u, rfl, hu, hb⟩
  have h0 := hu
  obtain ⟨A, c, rfl, hc, _⟩ := hu
  exact ⟨nlay b, A, c, rfl, rfl, nlay_le b, hc, h0, hb⟩
/-- read: g, n -/
theorem read_any {v : Value} {b : List UInt8} {w : World} (h : Sl w v b) (hb : b.length ≤ 4096) : Calls Try.prog 10 #[v] w fun e w' =>
    ∃ g n A c, e = .returned (.tuple #[.slice A g.length c, .int .i64 ((n : Nat) : Int)]) ∧ Hid (read b = (g, n)) ∧ n ≤ b.length ∧ g.length ≤ n ∧ Sl w' (.slice A g.length c) g ∧ Below w.heap.size w w' := by
  refine (nvtRead v b w h hb).mono ?_
  rintro e w' ⟨u, rfl, hu, hb⟩
  have h0 := hu
  obtain ⟨A, c, rfl, _⟩ := hu
  have he := read_end b
  exact ⟨(read b).1, (read b).2, A, c, rfl, rfl, he.1, he.2.1, h0, hb⟩
/-- read, where it is known what is read. -/
theorem read_is {v : Value} {b g : List UInt8} {n : Nat} {w : World} (h : Sl w v b) (hb : b.length ≤ 4096) (hr : read b = (g, n)) : Calls Try.prog 10 #[v] w fun e w' =>
    ∃ A c, e = .returned (.tuple #[.slice A g.length c, .int .i64 (n : Int)]) ∧ Sl w' (.slice A g.length c) g ∧ Below w.heap.size w w' := by
  refine (nvtRead v b w h hb).mono ?_
  rintro e w' ⟨u, rfl, hu, hb⟩
  rw [hr] at hu ⊢
  have h0 := hu
  obtain ⟨A, c, rfl, _⟩ := hu
  exact ⟨A, c, rfl, h0, hb⟩
theorem octets_is {v u : Value} {l k : List UInt8} {w : World} (h : Sl w v l) (h' : Sl w u k) {b : Bool} (hb : (l == k) = b) : Calls Try.prog 13 #[v, u] w fun e w' => e = .returned (.bool b) ∧ w = w' := by
  subst hb; exact octets v u l k w h h'
theorem octets_eq {v u : Value} {l k : List UInt8} {w : World} (h : Sl w v l) (h' : Sl w u k) (hb : l = k) : Calls Try.prog 13 #[v, u] w fun e w' => e = .returned (.bool true) ∧ w = w' :=
  octets_is h h' (by simp [hb])
theorem size_is {v : Value} {b : List UInt8} {n : Nat} {w : World} (h : Sl w v b) (hb : b.length ≤ 4096) (hn : size b = n) : Calls Try.prog 15 #[v] w fun e w' => e = .returned (.int .i64 (n : Int)) ∧ w = w' := by
  subst hn; exact nvtSize v b w h (by omega)
theorem plain_is {v : Value} {b : List UInt8} {x : Bool} {w : World} (h : Sl w v b) (hb : b.length ≤ 4096) (hn : (nlay b == b) = x) : Calls Try.prog 16 #[v] w fun e w' => e = .returned (.bool x) ∧ w = w' := by
  subst hn; exact nvtPlain v b w h (by omega)
theorem Sl.cut {w : World} {A : Option Addr} {l : List UInt8} {c : Nat} (h : Sl w (.slice A l.length c) l) (k : Nat) (hk : k ≤ l.length) : Sl w (.slice A k c) (l.take k) := by
  obtain ⟨A', c', e, h1, h2, h3, h4⟩ := h
  cases e
  exact ⟨A, c, by rw [List.length_take]; congr 1; omega, by rw [List.length_take]; omega, h2, h3, h4.take k⟩
theorem Sl.pre {w : World} {A : Option Addr} {l g : List UInt8} {c : Nat} (h : Sl w (.slice A l.length c) l) (hp : g <+: l) : Sl w (.slice A g.length c) g := by
  have := h.cut g.length hp.length_le
  rwa [← List.prefix_iff_eq_take.1 hp] at this
theorem read_cut_is {A : Option Addr} {b y : List UInt8} {c j : Nat} {w : World} (h : Sl w (.slice A y.length c) y) (hy : y = nlay b) (hj : j ≤ y.length) (hb : y.length ≤ 4096) : Calls Try.prog 10 #[.slice A j c] w fun e w' =>
    ∃ g n A' c', e = .returned (.tuple #[.slice A' g.length c', .int .i64 ((n : Nat) : Int)]) ∧ Hid (g <+: b) ∧ n ≤ j ∧ j ≤ n + 1 ∧ g.length ≤ b.length ∧ Sl w' (.slice A' g.length c') g ∧ Below w.heap.size w w' := by
  subst hy
  refine (nvtRead _ _ w (h.cut j hj) (by rw [List.length_take]; omega)).mono ?_
  rintro e w' ⟨u, rfl, hu, hb⟩
  have h0 := hu
  obtain ⟨A, c, rfl, _⟩ := hu
  have hr := read_cut b j hj
  have he := (read_end ((nlay b).take j)).1
  rw [List.length_take] at he
  exact ⟨_, _, A, c, rfl, hr.1, by omega, by omega, hr.1.length_le, h0, hb⟩
/-- an empty literal is an owned row. -/
theorem own_nil (w : World) : (w.alloc (.cells #[] 5)).ownsRow w.heap.size 5 1 (.slice (some ⟨w.heap.size, 0, none⟩) 0 0) 0 (cells []) :=
  ⟨rfl, .inr ⟨_, 0, #[], rfl, Nat.le_refl _, heap_alloc_new w _, Nat.le_refl _, by unfold maxLen; omega, rfl, rfl⟩⟩
theorem oct_two (w : World) (c d : UInt8) (m n : Int) (h : (c.toNat : Int) = m) (h' : (d.toNat : Int) = n) : Oct (w.alloc (.cells #[.int .u8 m, .int .u8 n] 5)) (some ⟨w.heap.size, 0, none⟩) [c, d] := by
  subst h h'; exact oct_new w [c, d] 5
theorem Sl.oct {w : World} {A : Option Addr} {l : List UInt8} {n c : Nat} (h : Sl w (.slice A n c) l) : Oct w A l ∧ n = l.length ∧ (A = none → c = 0 ∧ n = 0) := by
  obtain ⟨A', c', e, hc, hm, hn, ho⟩ := h
  cases e
  exact ⟨ho, rfl, fun h => ⟨hn h, by have := hn h; omega⟩⟩
/-- append of octets, as the laws meet it. -/
theorem wpl_add {P : Program} {w : World} {ops : Array Oper} {rest : List Oper} {o : Oper} {a : Act} {Q : Exit → Act → World → Prop} (hgd : o.guard = none) (s x : Operand) (t e : TypeId)
    (ho : o.op = .call { callee := .builtin .append, args := #[s, x], argTypes := #[t, t] }) (ht : P.underlying t = some (.slice e)) (hi : (P.info? e).map (fun i => (i.zero, i.size, i.bytes)) = some (some (.int .u8 0), 1, 1))
    {base n m c : Nat} {v : Value} {X : Option Addr} {l news : List UInt8} (hv : a.eval s = v) (hown : w.ownsRow base e 1 v n (cells l))
    (hx : a.eval x = .slice X m c) (hr : Sl w (.slice X m c) news) (hn : n + m ≤ 65536) (hbase : base ≤ w.heap.size)
    (h : ∀ v' w', w'.ownsRow base e 1 v' (n + m) (cells (l ++ news)) → Below base w w' → wpList P ops Q rest (a.put o.dst v') w') : wpList P ops Q (o :: rest) a w := by
  obtain ⟨i, hi', hz, hs, hy⟩ := info_parts hi
  exact wpl_app hgd s x t e ho ht hi' hz hs hy hv hown hx hr.oct.2.1 hr.oct.2.2 hr.oct.1 hn hbase h
theorem sl_two (w : World) (c d : UInt8) (m n : Int) (h : (c.toNat : Int) = m) (h' : (d.toNat : Int) = n) : Sl (w.alloc (.cells #[.int .u8 m, .int .u8 n] 5)) (.slice (some ⟨w.heap.size, 0, none⟩) 2 2) [c, d] :=
  ⟨_, 2, rfl, by simp, by unfold maxLen; omega, (fun h => by cases h), oct_two w c d m n h h'⟩
end Go.Proofs.Ytgmmdnilnmoknaa
