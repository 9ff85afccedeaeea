/-
  The contract of linnetref02.Lay.
-/
import Derived.Test.YtgmmdnilnmoknaaNvE
namespace Go.Proofs.Ytgmmdnilnmoknaa
open Go.RowKit
set_option linter.unusedVariables false
set_option linter.unusedSimpArgs false

theorem keep_at {w wr w' : World} {o : Obj} {p : Addr} {v : Option Value} (h : Below w.heap.size (wr.alloc o) w') (hb : p.block < w.heap.size) (hs : w.heap.size ≤ wr.heap.size) (hc : wr.cell? p = v) : w'.cell? p = v := by
  rw [h.cell hb, World.cell?_of_block (heapOld wr o p.block (by omega))]; exact hc
theorem one_255 : one 255 = [255] ++ [255] := by rfl
theorem one_13 : one 13 = [13] ++ [10] := by rfl
theorem one_other {c : UInt8} (h : c ≠ 255) (h1 : c ≠ 13) : one c = [c] := by simp [one, h, h1]
theorem take_step {l : List UInt8} {k : Nat} (hk : k < l.length) : nlay (l.take (k + 1)) = nlay (l.take k) ++ one l[k] := by
  rw [List.take_succ_eq_append_getElem hk, nlay_append, nlay_cons, nlay_nil, List.append_nil]
theorem take_le (l : List UInt8) (k : Nat) : (nlay (l.take k)).length ≤ 2 * l.length := by
  have := nlay_le (l.take k); simp at this; omega

theorem oct_val (w : World) (c : UInt8) (n : Int) (h : (c.toNat : Int) = n) : Oct (w.alloc (.cells #[.int .u8 n] 5)) (some ⟨w.heap.size, 0, none⟩) [c] := by
  subst h; exact oct_one w c

set_option maxHeartbeats 8000000 in
set_option maxRecDepth 100000 in
/-- linnetref02.Lay -/
theorem refLay (v : Value) (l : List UInt8) (w : World) (h : Sl w v l) (hb : l.length ≤ 4096) :
    Calls Try.prog 12 #[v] w fun e w' => ∃ u, e = .returned u ∧ Sl w' u (nlay l) ∧ Below w.heap.size w w' := by
  obtain ⟨A, c, rfl, hc, hm, hn, ho⟩ := h
  clear hc hm hn
  have HO := hid ho
  clear ho
  obtain ⟨i0, hi, hz, hs, hy⟩ := info_parts info5
  have HI := hid (And.intro hi (And.intro hz (And.intro hs hy)))
  clear hi hz hs hy
  go_enter Try.func12, Try.ntmps12
  go_wp2
  go_loopw [3, 4] (fun v i wr => ∃ (k : Nat) (g : List UInt8), k ≤ l.length ∧ i = .int .i64 k ∧ g = nlay (l.take k) ∧ wr.ownsRow w.heap.size 5 1 v g.length (cells g) ∧ Below w.heap.size w wr)
    (fun _ i _ => l.length - (intOf i).toNat)
  case atStart => exact ⟨0, [], Nat.zero_le _, rfl, by simp [nlay], World.ownsRow_nil _ _ _ _, Below.refl _ _⟩
  case round =>
    obtain ⟨k, g, hk, rfl, hgg, hown, hbel⟩ := hrel
    have HN := hid hown
    have HG := hid hgg
    have hg : g.length ≤ 2 * l.length := by rw [hgg]; exact take_le l k
    clear hown hgg
    by_cases hlt : k < l.length
    · obtain ⟨ad0, e0, had0, _⟩ := HO.out.at_ hlt
      obtain ⟨ad, rfl, _, hc⟩ := (HO.out.below hbel).at_ hlt
      have had : ad.block < w.heap.size := by cases e0; exact had0
      clear e0 had0
      have had' : (ad.add k).block < w.heap.size := by rw [blk_add]; exact had
      have hsz := hbel.size
      have hck : wr.cell? (ad.add k) = some (.int .u8 (l[k].toNat : Int)) := hc k hlt
      have hu : (l[k].toNat : Int) < 256 := u8_lt _
      clear hc
      by_cases c255 : l[k] = 255
      · have q1 : (l[k].toNat : Int) = 255 := by rw [c255]; rfl
        have HR : Hid (nlay (l.take (k + 1)) = (g ++ [l[k]]) ++ [255]) := hid (by rw [take_step hlt, HG.out, c255, one_255, List.append_assoc])
        clear c255
        go_wp2_with (first | (at_builtin; refine wpl_app (X := some ⟨wr.heap.size, 0, none⟩) (m := 1) (c := 1) (news := [l[k]]) (l := g) (n := g.length) (base := w.heap.size) rfl (.tmp 11) (.tmp 16) 22 5 rfl Try.underlying22 HI.out.1 HI.out.2.1 HI.out.2.2.1 HI.out.2.2.2 rfl (HN.out.alloc _) rfl rfl nosome' (oct_val wr l[k] 255 q1) (by omega) (by simp; omega) ?_; intro v1 w1 hown1 hbel1; have hc1 := keep_at hbel1 had' hsz hck; have hs1 : w.heap.size ≤ w1.heap.size := Nat.le_trans (by simp; omega) hbel1.size; have HN1 := hid hown1; clear hown1) | (at_builtin; refine wpl_app (X := some ⟨w1.heap.size, 0, none⟩) (m := 1) (c := 1) (news := [255]) (l := g ++ [l[k]]) (n := g.length + 1) (base := w.heap.size) rfl (.tmp 23) (.tmp 24) 22 5 rfl Try.underlying22 HI.out.1 HI.out.2.1 HI.out.2.2.1 HI.out.2.2.2 rfl (HN1.out.alloc _) rfl rfl nosome' (oct_val w1 255 255 rfl) (by omega) (by simp; omega) ?_; intro v2 w2 hown2 hbel2; have hc2 := keep_at hbel2 had' hs1 hc1; have HN2 := hid hown2; clear hown2))
        go_roundw
        case rel => exact ⟨k + 1, (g ++ [l[k]]) ++ [255], by omega, by go_num, HR.out.symm, by simpa using HN2.out, ((hbel.alloc hsz _).trans hbel1).alloc hs1 _ |>.trans hbel2⟩
        case measure => simp [intOf]; omega
      · have q1' : ¬ (l[k].toNat : Int) = 255 := toInt_ne.2 c255
        by_cases c13 : l[k] = 13
        · have q1 : (l[k].toNat : Int) = 13 := by rw [c13]; rfl
          have HR : Hid (nlay (l.take (k + 1)) = (g ++ [l[k]]) ++ [10]) := hid (by rw [take_step hlt, HG.out, c13, one_13, List.append_assoc])
          clear c13 c255
          go_wp2_with (first | (at_builtin; refine wpl_app (X := some ⟨wr.heap.size, 0, none⟩) (m := 1) (c := 1) (news := [l[k]]) (l := g) (n := g.length) (base := w.heap.size) rfl (.tmp 11) (.tmp 16) 22 5 rfl Try.underlying22 HI.out.1 HI.out.2.1 HI.out.2.2.1 HI.out.2.2.2 rfl (HN.out.alloc _) rfl rfl nosome' (oct_val wr l[k] 13 q1) (by omega) (by simp; omega) ?_; intro v1 w1 hown1 hbel1; have hc1 := keep_at hbel1 had' hsz hck; have hs1 : w.heap.size ≤ w1.heap.size := Nat.le_trans (by simp; omega) hbel1.size; have HN1 := hid hown1; clear hown1) | (at_builtin; refine wpl_app (X := some ⟨w1.heap.size, 0, none⟩) (m := 1) (c := 1) (news := [10]) (l := g ++ [l[k]]) (n := g.length + 1) (base := w.heap.size) rfl (.tmp 31) (.tmp 32) 22 5 rfl Try.underlying22 HI.out.1 HI.out.2.1 HI.out.2.2.1 HI.out.2.2.2 rfl (HN1.out.alloc _) rfl rfl nosome' (oct_val w1 10 10 rfl) (by omega) (by simp; omega) ?_; intro v2 w2 hown2 hbel2; have hc2 := keep_at hbel2 had' hs1 hc1; have HN2 := hid hown2; clear hown2))
          go_roundw
          case rel => exact ⟨k + 1, (g ++ [l[k]]) ++ [10], by omega, by go_num, HR.out.symm, by simpa using HN2.out, ((hbel.alloc hsz _).trans hbel1).alloc hs1 _ |>.trans hbel2⟩
          case measure => simp [intOf]; omega
        · have q2' : ¬ (l[k].toNat : Int) = 13 := toInt_ne.2 c13
          have HR : Hid (nlay (l.take (k + 1)) = g ++ [l[k]]) := hid (by rw [take_step hlt, HG.out, one_other c255 c13])
          clear c13 c255
          go_wp2_with (first | (at_builtin; refine wpl_app (X := some ⟨wr.heap.size, 0, none⟩) (m := 1) (c := 1) (news := [l[k]]) (l := g) (n := g.length) (base := w.heap.size) rfl (.tmp 11) (.tmp 16) 22 5 rfl Try.underlying22 HI.out.1 HI.out.2.1 HI.out.2.2.1 HI.out.2.2.2 rfl (HN.out.alloc _) rfl rfl nosome' (oct_val wr l[k] (l[k].toNat : Int) rfl) (by omega) (by simp; omega) ?_; intro v1 w1 hown1 hbel1; have hc1 := keep_at hbel1 had' hsz hck; have hs1 : w.heap.size ≤ w1.heap.size := Nat.le_trans (by simp; omega) hbel1.size; have HN1 := hid hown1; clear hown1))
          go_roundw
          case rel => exact ⟨k + 1, g ++ [l[k]], by omega, by go_num, HR.out.symm, by simpa using HN1.out, (hbel.alloc hsz _).trans hbel1⟩
          case measure => simp [intOf]; omega
    · obtain rfl : k = l.length := by omega
      go_wp2
      go_ret
      refine ⟨_, rfl, ?_, hbel⟩
      have := Sl.own HN.out
      rwa [HG.out, List.take_length] at this
end Go.Proofs.Ytgmmdnilnmoknaa
