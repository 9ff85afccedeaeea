/-
  The contract of nvt.Read.
-/
import Derived.Test.YtgmmdnilnmoknaaNvA
import Derived.Test.YtgmmdnilnmoknaaLib2
namespace Go.Proofs.Ytgmmdnilnmoknaa
open Go.RowKit
set_option linter.unusedVariables false
set_option linter.unusedSimpArgs false

theorem nosome' {ad : Addr} {p : Prop} (h : some ad = none) : p := by cases h
theorem oct_new (w : World) (bs : List UInt8) (t : TypeId) : Oct (w.alloc (.cells (cells bs).toArray t)) (some ⟨w.heap.size, 0, none⟩) bs := by
  refine .inr ⟨_, rfl, fun i hi => ?_⟩
  have ha : (⟨w.heap.size, 0, none⟩ : Addr).add i = ⟨w.heap.size, i, none⟩ := by unfold Addr.add; split <;> simp_all
  rw [ha, cell_of_row _ _ i _ t (0, 0) (heapNew _ _ _ rfl)]
  simp [cells, hi]
theorem oct_one (w : World) (c : UInt8) : Oct (w.alloc (.cells #[.int .u8 (c.toNat : Int)] 5)) (some ⟨w.heap.size, 0, none⟩) [c] := oct_new w [c] 5
theorem toInt_ne {c d : UInt8} : (¬ (c.toNat : Int) = d.toNat) ↔ c ≠ d := by rw [ne_eq, ← UInt8.toNat_inj]; omega
theorem drop_one {l : List UInt8} {k : Nat} (h : k < l.length) : l.drop k = l[k] :: l.drop (k + 1) := by simp
theorem rd_stop {l : List UInt8} {k : Nat} (h : k < l.length) (h1 : l[k] = 255) (h2 : ∀ h : k + 1 < l.length, l[k + 1] ≠ 255) : read (l.drop k) = ([], 0) := by
  rw [drop_one h, h1]
  by_cases h3 : k + 1 < l.length
  · rw [drop_one h3]; simp [read, stop, h2 h3]
  · rw [List.drop_eq_nil_of_le (by omega)]; simp [read, stop]
theorem rd_pair {l : List UInt8} {k : Nat} (h : k + 1 < l.length) (h1 : l[k] = 255 ∧ l[k + 1] = 255 ∨ l[k] = 13 ∧ (l[k + 1] = 10 ∨ l[k + 1] = 0)) :
    read (l.drop k) = (l[k] :: (read (l.drop (k + 2))).1, (read (l.drop (k + 2))).2 + 2) := by
  rw [drop_one (by omega : k < l.length), drop_one h]
  rcases h1 with ⟨h1, h2⟩ | ⟨h1, h2 | h2⟩ <;> simp [read, stop, pair, h1, h2]
theorem rd_one {l : List UInt8} {k : Nat} (h : k < l.length) (h1 : l[k] ≠ 255) (h2 : l[k] = 13 → ∀ h : k + 1 < l.length, l[k + 1] ≠ 10 ∧ l[k + 1] ≠ 0) :
    read (l.drop k) = (l[k] :: (read (l.drop (k + 1))).1, (read (l.drop (k + 1))).2 + 1) := by
  rw [drop_one h]
  by_cases h3 : k + 1 < l.length
  · rw [drop_one h3]
    by_cases h4 : l[k] = 13
    · have := h2 h4 h3; simp [read, stop, pair, h4, this]
    · simp [read, stop, pair, h1, h4]
  · rw [List.drop_eq_nil_of_le (by omega)]; simp [read, stop, h1]
theorem keep_cell {w wr w' : World} {o : Obj} {b off : Nat} {v : Option Value} (h : Below w.heap.size (wr.alloc o) w') (hb : b < w.heap.size) (hs : w.heap.size ≤ wr.heap.size) (hc : wr.cell? ⟨b, off, none⟩ = v) :
    w'.cell? ⟨b, off, none⟩ = v := by
  rw [h.cell (p := ⟨b, off, none⟩) hb, World.cell?_of_block (heapOld wr o b (by omega))]; exact hc
/-- how far it has come. -/
def At (l g : List UInt8) (k : Nat) : Prop := g.length ≤ k ∧ read l = (g ++ (read (l.drop k)).1, k + (read (l.drop k)).2)
theorem At.step {l g : List UInt8} {k n : Nat} {c : UInt8} (h : At l g k) (hn : 1 ≤ n) (hr : read (l.drop k) = (c :: (read (l.drop (k + n))).1, (read (l.drop (k + n))).2 + n)) : At l (g ++ [c]) (k + n) := by
  obtain ⟨h1, h2⟩ := h
  rw [hr] at h2
  exact ⟨by simp; omega, by rw [h2]; simp; omega⟩
theorem At.stop {l g : List UInt8} {k : Nat} (h : At l g k) (hr : read (l.drop k) = ([], 0)) : read l = (g, k) := by
  obtain ⟨_, h2⟩ := h
  rw [h2, hr]; simp

set_option maxHeartbeats 8000000 in
set_option maxRecDepth 100000 in
/-- nvt.Read -/
theorem nvtRead (v : Value) (l : List UInt8) (w : World) (h : Sl w v l) (hb : l.length ≤ 4096) :
    Calls Try.prog 10 #[v] w fun e w' => ∃ u, e = .returned (.tuple #[u, .int .i64 ((read l).2 : Int)]) ∧ Sl w' u (read l).1 ∧ Below w.heap.size w w' := by
  obtain ⟨A, c, rfl, hc, hm, hn, ho⟩ := h
  clear hc hm hn
  have HO := hid ho
  clear ho
  obtain ⟨i0, hi, hz, hs, hy⟩ := info_parts info5
  have HI := hid (And.intro hi (And.intro hz (And.intro hs hy)))
  clear hi hz hs hy
  go_enter Try.func10, Try.ntmps10
  go_wp2
  go_loopw [4, 5] (fun v i wr => ∃ (k : Nat) (g : List UInt8), k ≤ l.length ∧ i = .int .i64 k ∧ At l g k ∧ wr.ownsRow w.heap.size 5 1 v g.length (cells g) ∧ Below w.heap.size w wr)
    (fun _ i _ => l.length - (intOf i).toNat)
  case atStart => exact ⟨0, [], Nat.zero_le _, rfl, ⟨by simp, by simp⟩, World.ownsRow_nil _ _ _ _, Below.refl _ _⟩
  case round =>
    obtain ⟨k, g, hk, rfl, hat, hown, hbel⟩ := hrel
    have HN := hid hown
    have HA := hid hat
    have hg := hat.1
    clear hown hat
    by_cases hlt : k < l.length
    · obtain ⟨ad0, e0, had0, _⟩ := HO.out.at_ hlt
      obtain ⟨ad, rfl, _, hc⟩ := (HO.out.below hbel).at_ hlt
      have had : ad.block < w.heap.size := by cases e0; exact had0
      clear e0 had0
      have hck : wr.cell? (ad.add k) = some (.int .u8 (l[k].toNat : Int)) := hc k hlt
      have hsz := hbel.size
      have hu : (l[k].toNat : Int) < 256 := u8_lt _
      by_cases hnx : k + 1 < l.length
      · have hdk : wr.cell? ⟨ad.block, ad.off + (k + 1), none⟩ = some (.int .u8 (l[k + 1].toNat : Int)) := by
          have := hc (k + 1) hnx
          simpa [Addr.add, Go.Proofs.Ytgmmdnilnmoknaa.u8] using this
        have hb1 : decide ((k : Int) + 1 < (l.length : Int)) = true := by simp; omega
        have hu' : (l[k + 1].toNat : Int) < 256 := u8_lt _
        clear hc
        by_cases c255 : l[k] = 255
        · have q1 : (l[k].toNat : Int) = 255 := by rw [c255]; rfl
          by_cases d255 : l[k + 1] = 255
          · have q2 : (l[k + 1].toNat : Int) = 255 := by rw [d255]; rfl
            have HR := hid (rd_pair hnx (.inl ⟨c255, d255⟩))
            have HX : Hid (Oct (wr.alloc (.cells #[.int .u8 255] 5)) (some ⟨wr.heap.size, 0, none⟩) [l[k]]) := hid (by have := oct_one wr l[k]; rw [q1] at this; exact this)
            go_wp2_with (first | (at_builtin; refine wpl_app (X := some ⟨wr.heap.size, 0, none⟩) (m := 1) (c := 1) (news := [l[k]]) (l := g) (n := g.length) (base := w.heap.size) rfl (.tmp 35) (.tmp 37) 22 5 rfl Try.underlying22 HI.out.1 HI.out.2.1 HI.out.2.2.1 HI.out.2.2.2 rfl (HN.out.alloc _) rfl rfl nosome' HX.out (by omega) (by simp; omega) ?_; intro v' w' hown' hbel'; have hdk2 := keep_cell hbel' had hsz hdk))
            go_roundw
            case rel => exact ⟨k + 2, g ++ [l[k]], by omega, by go_num, HA.out.step (by omega) HR.out, by simpa using hown', (hbel.alloc hsz _).trans hbel'⟩
            case measure => simp [intOf]; omega
          · have q2 : ¬ (l[k + 1].toNat : Int) = 255 := toInt_ne.2 d255
            have HR := hid (rd_stop hlt c255 fun _ => d255)
            go_wp2
            go_ret2
            rw [HA.out.stop HR.out]
            exact ⟨_, rfl, Sl.own HN.out, hbel⟩
        · have q1 : ¬ (l[k].toNat : Int) = 255 := toInt_ne.2 c255
          by_cases c13 : l[k] = 13
          · have q3 : (l[k].toNat : Int) = 13 := by rw [c13]; rfl
            by_cases d10 : l[k + 1] = 10
            · have q2 : (l[k + 1].toNat : Int) = 10 := by rw [d10]; rfl
              have HR := hid (rd_pair hnx (.inr ⟨c13, .inl d10⟩))
              have HX : Hid (Oct (wr.alloc (.cells #[.int .u8 13] 5)) (some ⟨wr.heap.size, 0, none⟩) [l[k]]) := hid (by have := oct_one wr l[k]; rw [q3] at this; exact this)
              go_wp2_with (first | (at_builtin; refine wpl_app (X := some ⟨wr.heap.size, 0, none⟩) (m := 1) (c := 1) (news := [l[k]]) (l := g) (n := g.length) (base := w.heap.size) rfl (.tmp 35) (.tmp 37) 22 5 rfl Try.underlying22 HI.out.1 HI.out.2.1 HI.out.2.2.1 HI.out.2.2.2 rfl (HN.out.alloc _) rfl rfl nosome' HX.out (by omega) (by simp; omega) ?_; intro v' w' hown' hbel'; have hdk2 := keep_cell hbel' had hsz hdk))
              go_roundw
              case rel => exact ⟨k + 2, g ++ [l[k]], by omega, by go_num, HA.out.step (by omega) HR.out, by simpa using hown', (hbel.alloc hsz _).trans hbel'⟩
              case measure => simp [intOf]; omega
            · have q2 : ¬ (l[k + 1].toNat : Int) = 10 := toInt_ne.2 d10
              by_cases d0 : l[k + 1] = 0
              · have q4 : (l[k + 1].toNat : Int) = 0 := by rw [d0]; rfl
                have HR := hid (rd_pair hnx (.inr ⟨c13, .inr d0⟩))
                have HX : Hid (Oct (wr.alloc (.cells #[.int .u8 13] 5)) (some ⟨wr.heap.size, 0, none⟩) [l[k]]) := hid (by have := oct_one wr l[k]; rw [q3] at this; exact this)
                go_wp2_with (first | (at_builtin; refine wpl_app (X := some ⟨wr.heap.size, 0, none⟩) (m := 1) (c := 1) (news := [l[k]]) (l := g) (n := g.length) (base := w.heap.size) rfl (.tmp 35) (.tmp 37) 22 5 rfl Try.underlying22 HI.out.1 HI.out.2.1 HI.out.2.2.1 HI.out.2.2.2 rfl (HN.out.alloc _) rfl rfl nosome' HX.out (by omega) (by simp; omega) ?_; intro v' w' hown' hbel'; have hdk2 := keep_cell hbel' had hsz hdk))
                go_roundw
                case rel => exact ⟨k + 2, g ++ [l[k]], by omega, by go_num, HA.out.step (by omega) HR.out, by simpa using hown', (hbel.alloc hsz _).trans hbel'⟩
                case measure => simp [intOf]; omega
              · have q4 : ¬ (l[k + 1].toNat : Int) = 0 := toInt_ne.2 d0
                have q5 : ((l[k + 1].toNat : Int) == 0) = false := beq_eq_false_iff_ne.2 q4
                have q6 : ¬ l[k + 1].toNat = 0 := by omega
                have HR := hid (rd_one hlt c255 fun _ _ => ⟨d10, d0⟩)
                have HX : Hid (Oct (wr.alloc (.cells #[.int .u8 13] 5)) (some ⟨wr.heap.size, 0, none⟩) [l[k]]) := hid (by have := oct_one wr l[k]; rw [q3] at this; exact this)
                go_wp2_with (first | (at_builtin; refine wpl_app (X := some ⟨wr.heap.size, 0, none⟩) (m := 1) (c := 1) (news := [l[k]]) (l := g) (n := g.length) (base := w.heap.size) rfl (.tmp 35) (.tmp 37) 22 5 rfl Try.underlying22 HI.out.1 HI.out.2.1 HI.out.2.2.1 HI.out.2.2.2 rfl (HN.out.alloc _) rfl rfl nosome' HX.out (by omega) (by simp; omega) ?_; intro v' w' hown' hbel'; have hdk2 := keep_cell hbel' had hsz hdk))
                go_roundw
                case rel => exact ⟨k + 1, g ++ [l[k]], by omega, by go_num, HA.out.step (by omega) HR.out, by simpa using hown', (hbel.alloc hsz _).trans hbel'⟩
                case measure => simp [intOf]; omega
          · have q3 : ¬ (l[k].toNat : Int) = 13 := toInt_ne.2 c13
            have HR := hid (rd_one hlt c255 fun h => absurd h c13)
            have HX := hid (oct_one wr l[k])
            go_wp2_with (first | (at_builtin; refine wpl_app (X := some ⟨wr.heap.size, 0, none⟩) (m := 1) (c := 1) (news := [l[k]]) (l := g) (n := g.length) (base := w.heap.size) rfl (.tmp 35) (.tmp 37) 22 5 rfl Try.underlying22 HI.out.1 HI.out.2.1 HI.out.2.2.1 HI.out.2.2.2 rfl (HN.out.alloc _) rfl rfl nosome' HX.out (by omega) (by simp; omega) ?_; intro v' w' hown' hbel'; have hdk2 := keep_cell hbel' had hsz hdk))
            go_roundw
            case rel => exact ⟨k + 1, g ++ [l[k]], by omega, by go_num, HA.out.step (by omega) HR.out, by simpa using hown', (hbel.alloc hsz _).trans hbel'⟩
            case measure => simp [intOf]; omega
      · clear hc
        have hb1 : decide ((k : Int) + 1 < (l.length : Int)) = false := by simp; omega
        by_cases c255 : l[k] = 255
        · have q1 : (l[k].toNat : Int) = 255 := by rw [c255]; rfl
          have HR := hid (rd_stop hlt c255 fun h => absurd h hnx)
          go_wp2
          go_ret2
          rw [HA.out.stop HR.out]
          exact ⟨_, rfl, Sl.own HN.out, hbel⟩
        · have q1 : ¬ (l[k].toNat : Int) = 255 := toInt_ne.2 c255
          have HR := hid (rd_one hlt c255 fun _ h => absurd h hnx)
          by_cases c13 : l[k] = 13
          · have q3 : (l[k].toNat : Int) = 13 := by rw [c13]; rfl
            have HX : Hid (Oct (wr.alloc (.cells #[.int .u8 13] 5)) (some ⟨wr.heap.size, 0, none⟩) [l[k]]) := hid (by have := oct_one wr l[k]; rw [q3] at this; exact this)
            go_wp2_with (first | (at_builtin; refine wpl_app (X := some ⟨wr.heap.size, 0, none⟩) (m := 1) (c := 1) (news := [l[k]]) (l := g) (n := g.length) (base := w.heap.size) rfl (.tmp 35) (.tmp 37) 22 5 rfl Try.underlying22 HI.out.1 HI.out.2.1 HI.out.2.2.1 HI.out.2.2.2 rfl (HN.out.alloc _) rfl rfl nosome' HX.out (by omega) (by simp; omega) ?_; intro v' w' hown' hbel'))
            go_roundw
            case rel => exact ⟨k + 1, g ++ [l[k]], by omega, by go_num, HA.out.step (by omega) HR.out, by simpa using hown', (hbel.alloc hsz _).trans hbel'⟩
            case measure => simp [intOf]; omega
          · have q3 : ¬ (l[k].toNat : Int) = 13 := toInt_ne.2 c13
            have HX := hid (oct_one wr l[k])
            go_wp2_with (first | (at_builtin; refine wpl_app (X := some ⟨wr.heap.size, 0, none⟩) (m := 1) (c := 1) (news := [l[k]]) (l := g) (n := g.length) (base := w.heap.size) rfl (.tmp 35) (.tmp 37) 22 5 rfl Try.underlying22 HI.out.1 HI.out.2.1 HI.out.2.2.1 HI.out.2.2.2 rfl (HN.out.alloc _) rfl rfl nosome' HX.out (by omega) (by simp; omega) ?_; intro v' w' hown' hbel'))
            go_roundw
            case rel => exact ⟨k + 1, g ++ [l[k]], by omega, by go_num, HA.out.step (by omega) HR.out, by simpa using hown', (hbel.alloc hsz _).trans hbel'⟩
            case measure => simp [intOf]; omega
    · obtain rfl : k = l.length := by omega
      go_wp2
      go_ret2
      have := HA.out.stop (by rw [List.drop_length]; exact read_nil)
      rw [this]
      exact ⟨_, rfl, Sl.own HN.out, hbel⟩
end Go.Proofs.Ytgmmdnilnmoknaa
