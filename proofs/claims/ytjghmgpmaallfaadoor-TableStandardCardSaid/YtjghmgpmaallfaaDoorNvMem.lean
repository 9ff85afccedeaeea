/-
  Slices of octets in memory.
-/
import Derived.Test.YtjghmgpmaallfaaDoorLib
import Derived.Below
import Derived.Laws.OwnMore
import Derived.Laws.BytesArg
import Derived.Deep.Draws
import Derived.Deep.AppendLies
import Derived.Maps.AppendAt
import Derived.OwnWalk
import Derived.Laws.AppendOwnNone
import Derived.WalkKit
namespace Go.Proofs.YtjghmgpmaallfaaDoor
set_option linter.unusedVariables false
set_option linter.unusedSimpArgs false
open Go Go.RowKit

/-- An octet as a cell. -/
def u8 (c : UInt8) : Value := .int .u8 (c.toNat : Int)
def cells (l : List UInt8) : List Value := l.map u8
theorem cells_len (l : List UInt8) : (cells l).length = l.length := by simp [cells]
theorem cells_append (a b : List UInt8) : cells (a ++ b) = cells a ++ cells b := by simp [cells]
theorem cells_one (l : List UInt8) : ∀ u ∈ cells l, u.oneCell' = true := by
  intro u hu
  simp only [cells, List.mem_map] at hu
  obtain ⟨c, _, rfl⟩ := hu
  rfl

/-- What lies at an address reads as these octets. -/
def Oct (w : World) (A : Option Addr) (l : List UInt8) : Prop :=
  l = [] ∨ ∃ ad, A = some ad ∧ ∀ i (h : i < l.length), w.cell? (ad.add i) = some (u8 l[i])
/-- A slice that reads as these octets. -/
def Sl (w : World) (v : Value) (l : List UInt8) : Prop := ∃ A c, v = .slice A l.length c ∧ l.length ≤ c ∧ c ≤ maxLen ∧ (A = none → c = 0) ∧ Oct w A l

theorem blk_add (a : Addr) (n : Nat) : (a.add n).block = a.block := by unfold Addr.add; split <;> rfl
theorem add_add (a : Addr) (i j : Nat) : (a.add i).add j = a.add (i + j) := by
  unfold Addr.add
  by_cases hi : i = 0 <;> by_cases hj : j = 0 <;> simp [hi, hj, Nat.add_assoc]

variable {w w' : World}
theorem Oct.lt {ad : Addr} {l : List UInt8} (hl : l ≠ []) (h : ∀ i (h : i < l.length), w.cell? (ad.add i) = some (u8 l[i])) : ad.block < w.heap.size := by
  have hp := List.length_pos_iff.2 hl
  have := World.block_lt_of_cell? w _ (h 0 hp)
  rwa [blk_add] at this
theorem Oct.below {A : Option Addr} {l : List UInt8} (h : Oct w A l) (hb : Below w.heap.size w w') : Oct w' A l := by
  rcases h with h | ⟨ad, hA, h⟩
  · exact .inl h
  · by_cases hl : l = []
    · exact .inl hl
    · exact .inr ⟨ad, hA, fun i hi => (hb.cell (by rw [blk_add]; exact Oct.lt hl h)).trans (h i hi)⟩
theorem Sl.below {v : Value} {l : List UInt8} (h : Sl w v l) (hb : Below w.heap.size w w') : Sl w' v l := by
  obtain ⟨A, c, hv, hc, hm, hn, ho⟩ := h
  exact ⟨A, c, hv, hc, hm, hn, ho.below hb⟩
theorem Oct.drewN {A : Option Addr} {l : List UInt8} (h : Oct w A l) (n : Nat) : Oct (w.drewN n) A l := h
theorem Sl.drewN {v : Value} {l : List UInt8} (h : Sl w v l) (n : Nat) : Sl (w.drewN n) v l := h
/-- The address, where there is an octet. -/
theorem Oct.at_ {A : Option Addr} {l : List UInt8} (h : Oct w A l) {k : Nat} (hk : k < l.length) : ∃ ad, A = some ad ∧ ad.block < w.heap.size ∧ ∀ i (h : i < l.length), w.cell? (ad.add i) = some (u8 l[i]) := by
  rcases h with rfl | ⟨ad, hA, h⟩
  · simp at hk
  · exact ⟨ad, hA, Oct.lt (by rintro rfl; simp at hk) h, h⟩

/-- An owned row reads as its octets. -/
theorem Sl.own {base n : Nat} {e : TypeId} {v : Value} {l : List UInt8} (h : w.ownsRow base e 1 v n (cells l)) : Sl w v l := by
  have hn : l.length = n := by have := h.1; simpa [cells_len] using this
  rcases h.2 with ⟨rfl, h0⟩ | ⟨g, cap, cur, rfl, _, hg, hc, hm, hs, htake⟩
  · subst hn
    have : l = [] := List.eq_nil_of_length_eq_zero h0
    subst this
    exact ⟨none, 0, rfl, by simp, by simp, fun _ => rfl, .inl rfl⟩
  · subst hn
    refine ⟨_, cap, rfl, hc, hm, (fun h => by cases h), .inr ⟨⟨g, 0, none⟩, rfl, fun i hi => ?_⟩⟩
    have ha : (⟨g, 0, none⟩ : Addr).add i = ⟨g, i, none⟩ := by unfold Addr.add; split <;> simp_all
    rw [ha, cell_of_row w g i cur e (0, 0) hg]
    have h1 : (cur.toList.take (l.length * 1))[i]? = (cells l)[i]? := by rw [htake]
    rw [List.getElem?_take, if_pos (by omega)] at h1
    simpa [cells, hi] using h1

/-- Cut at the end, or at the front. -/
theorem Oct.take {A : Option Addr} {l : List UInt8} (h : Oct w A l) (k : Nat) : Oct w A (l.take k) := by
  rcases h with h | ⟨ad, hA, h⟩
  · left; simp [h]
  · right
    refine ⟨ad, hA, fun i hi => ?_⟩
    rw [h i (by simp at hi; omega)]
    simp
theorem Oct.drop {A : Option Addr} {l : List UInt8} (h : Oct w A l) (k c : Nat) (hk : k ≤ l.length) (hc : l.length ≤ c) : Oct w (if c = k then A else A.map (·.add k)) (l.drop k) := by
  by_cases hck : c = k
  · left
    apply List.drop_eq_nil_of_le; omega
  · rw [if_neg hck]
    rcases h with h | ⟨ad, rfl, h⟩
    · left; simp [h]
    · right
      refine ⟨ad.add k, rfl, fun i hi => ?_⟩
      rw [add_add, h (k + i) (by simp at hi; omega)]
      simp

/-- The text of octets. -/
def txt (l : List UInt8) : ByteArray := ⟨l.toArray⟩
theorem txt_inj {a b : List UInt8} : txt a = txt b ↔ a = b := by simp [txt]
theorem strOfNums_txt (l : List UInt8) : strOfNums (l.map fun c => (c.toNat : Int)) = txt l := by
  unfold strOfNums txt
  congr 1
  simp [Function.comp_def]
theorem convert_txt {P : Program} {A : Option Addr} {l : List UInt8} {c : Nat} (h : Oct w A l) (src e dst : TypeId) (hs : P.underlying src = some (.slice e)) (he : P.underlying e = some (.int .u8)) (hd : P.underlying dst = some .string) :
    (convert src dst (.slice A l.length c)).run P w = .ok (.string (txt l)) w := by
  rcases h with rfl | ⟨ad, rfl, h⟩
  · cases A with
    | none => exact run_convert_bytes_nil w src e hs he 0 c dst hd
    | some a =>
      have := run_convert_bytes_string (P := P) w src dst e (some a) 0 c hs he hd
      rw [show ([] : List UInt8).length = 0 from rfl, this, run_bytesToString w a 0 c [] (by simp [loadCells, loadCellsFrom, Sem.run_pure])]
      rfl
  · have hl : (loadCells ad l.length).run P w = .ok ((l.map fun c => (c.toNat : Int)).map (Value.int .u8)).toArray w := by
      have := run_loadCells_list (P := P) w ad ((l.map fun c => (c.toNat : Int)).map (Value.int .u8)) (fun j v hj => by
        have hjl : j < l.length := by
          rcases Nat.lt_or_ge j l.length with h | h
          · exact h
          · simp [List.getElem?_eq_none h] at hj
        rw [h j hjl]
        simp [hjl] at hj
        rw [← hj]; rfl)
      simpa using this
    rw [run_convert_bytes_string w src dst e _ l.length c hs he hd, run_bytesToString w _ l.length c _ hl, foldl_push_bytes, ← strOfNums_txt]
    simp [strOfNums, ByteArray.empty, ByteArray.emptyWithCapacity]
    rfl

/-- 'append' of octets onto an owned row. -/
theorem wpl_app {P : Program} {ops : Array Oper} {rest : List Oper} {o : Oper} {a : Act} {Q : Exit → Act → World → Prop} (hgd : o.guard = none) (s x : Operand) (t e : TypeId)
    (ho : o.op = .call { callee := .builtin .append, args := #[s, x], argTypes := #[t, t] }) {i : TypeInfo}
    (ht : P.underlying t = some (.slice e)) (hi : P.info? e = some i) (hz : i.zero = some (.int .u8 0)) (hs : i.size = 1) (hby : i.bytes = 1)
    {base n m c : Nat} {v : Value} {X : Option Addr} {l news : List UInt8} (hv : a.eval s = v) (hown : w.ownsRow base e 1 v n (cells l))
    (hx : a.eval x = .slice X m c) (hm : m = news.length) (hX : X = none → c = 0 ∧ m = 0) (hr : Oct w X news) (hn : n + m ≤ 65536) (hbase : base ≤ w.heap.size)
    (h : ∀ v' w', w'.ownsRow base e 1 v' (n + m) (cells (l ++ news)) → Below base w w' → wpList P ops Q rest (a.put o.dst v') w') : wpList P ops Q (o :: rest) a w := by
  have hlt : ∀ k, v.ownBlock = some k → base ≤ k := fun k hk => (hown.lt k hk).1
  cases X with
  | none =>
    obtain ⟨rfl, h0⟩ := hX rfl
    subst h0
    have : news = [] := List.eq_nil_of_length_eq_zero hm.symm
    subst this
    exact wpList_append_own_none hgd s x t ho base e i 1 ht hi v n (cells l) hv hown hx (h v w (by simpa using hown) (Below.refl _ _))
  | some ad =>
    subst hm
    refine wpList_append_own w hgd s x t ho base e i (.int .u8 0) 1 1 ht hi hz hs hby rfl (by omega) v n (cells l) hv hown ad news.length c (cells news) hx (by simp [cells_len]) ?_ (cells_one news) (by unfold maxLen; omega) (by omega) hbase ?_
    · intro j u hu
      have hj : j < news.length := by
        rcases Nat.lt_or_ge j news.length with h | h
        · exact h
        · rw [List.getElem?_eq_none (by simpa [cells_len] using h)] at hu; cases hu
      rcases hr with rfl | ⟨ad', ha, hc⟩
      · simp at hj
      · cases ha
        rw [hc j hj]
        simpa [cells, hj] using hu
    · intro v' w' h1 h2 _
      exact h v' w' (by simpa [cells_append] using h1) ((Below.refl base w).grown h2 hbase hlt)
end Go.Proofs.YtjghmgpmaallfaaDoor
