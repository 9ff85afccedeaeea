/-
  NvtTells, walked.
-/
import Derived.Test.YtgmmdnilnmoknaaNvK
import Derived.Test.YtgmmdnilnmoknaaNvG
namespace Go.Proofs.Ytgmmdnilnmoknaa
open Go.RowKit
set_option linter.unusedVariables false
set_option linter.unusedSimpArgs false

theorem ref_any {v : Value} {b : List UInt8} {w : World} (h : Sl w v b) (hb : b.length ≤ 4096) : Calls Try.prog 11 #[v] w fun e w' =>
    ∃ A c A' c' k, e = .returned (.tuple #[.slice A (read b).1.length c, .slice A' k c']) ∧ Hid (k = b.length - (read b).2) ∧ Sl w' (.slice A (read b).1.length c) (read b).1 ∧ Below w.heap.size w w' := by
  refine (refRead 4096 b hb (Nat.le_refl _) v w h).mono ?_
  rintro e w' ⟨u, t, rfl, hu, ht, hb⟩
  have h0 := hu
  obtain ⟨A, c, rfl, _⟩ := hu
  obtain ⟨A', c', rfl, _⟩ := ht
  exact ⟨A, c, A', c', _, rfl, by rw [List.length_drop]; rfl, h0, hb⟩
theorem refLay_any {v : Value} {b : List UInt8} {w : World} (h : Sl w v b) (hb : b.length ≤ 4096) : Calls Try.prog 12 #[v] w fun e w' =>
    ∃ y A c, e = .returned (.slice A y.length c) ∧ Hid (y = nlay b) ∧ y.length ≤ 2 * b.length ∧ y.length ≤ c ∧ Sl w' (.slice A y.length c) y ∧ Below w.heap.size w w' := by
  refine (refLay v b w h hb).mono ?_
  rintro e w' ⟨u, rfl, hu, hb⟩
  have h0 := hu
  obtain ⟨A, c, rfl, hc, _⟩ := hu
  exact ⟨nlay b, A, c, rfl, rfl, nlay_le b, hc, h0, hb⟩

set_option maxHeartbeats 8000000 in
set_option maxRecDepth 100000 in
theorem tells_walk (v : Value) (l : List UInt8) (w : World) (h : Sl w v l) :
    Calls Try.prog 3 #[v] w fun e w' => e = .returned (.bool true) ∧ Below w.heap.size w w' := by
  have H := hid h
  clear h
  obtain ⟨b, hb⟩ : ∃ b, b = l.take 200 := ⟨_, rfl⟩
  have hbl : b.length ≤ 200 := by rw [hb]; simp; omega
  have HB := hid hb
  clear hb
  obtain ⟨g, n, hr⟩ : ∃ g n, read b = (g, n) := ⟨_, _, rfl⟩
  have hre := read_end b
  rw [hr] at hre
  obtain ⟨hn, hg, _⟩ := hre
  simp only at hn hg
  have HR := hid hr
  clear hr
  obtain ⟨d, hd⟩ : ∃ d, d = b.length - n := ⟨_, rfl⟩
  obtain rfl : n = b.length - d := by omega
  have hdl : d ≤ b.length := by omega
  clear hd hn
  have hq : (((b.length - d : Nat) : Int) == (b.length : Int) - (d : Int)) = true := beq_iff_eq.2 (by omega)
  cases hx : nlay b == b <;> have HX := hid hx <;> clear hx
  all_goals
    go_enter Try.func3, Try.ntmps3
    go_wp2_with (first
      | (go_at_call 9; (with_reducible refine (few_is H.out HB.out).mono ?_); rintro e w0 ⟨A0, c0, rfl, hc0, hs, rfl⟩; have B0 := hid hs; clear hs)
      | (go_at_call 10; (with_reducible refine (read_is (g := g) (n := b.length - d) B0.out (by omega) HR.out).mono ?_); rintro e w1 ⟨A1, c1, rfl, hs, bel1⟩; have G1 := hid hs; clear hs; have B1 := hid (B0.out.below bel1))
      | (go_at_call 11; (with_reducible refine (ref_any B1.out (by omega)).mono ?_); rintro e w2 ⟨A2, c2, A3, c3, k, rfl, hk, hs, bel2⟩; rw [HR.out] at hk hs ⊢; have W2 := hid hs; clear hs; obtain rfl : k = d := by (have := hk.out; simp only at this; omega)
         have B2 := hid (B1.out.below bel2); have G2 := hid (G1.out.below bel2); have t2 := bel1.trans (bel2.mono bel1.size))
      | (go_at_call 12; (with_reducible refine (refLay_any B2.out (by omega)).mono ?_); rintro e w3 ⟨y, A4, c4, rfl, hy, hyl, hc4, hs, bel3⟩; have Y3 := hid hs; clear hs; have B3 := hid (B2.out.below bel3); have G3 := hid (G2.out.below bel3); have W3 := hid (W2.out.below bel3); have t3 := t2.trans (bel3.mono t2.size))
      | (go_at_call 14; (with_reducible refine (lay_any B3.out (by omega)).mono ?_); rintro e w4 ⟨z, A5, c5, rfl, hz, hzl, hc5, hs, bel4⟩; have Z4 := hid hs; clear hs; have B4 := hid (B3.out.below bel4); have G4 := hid (G3.out.below bel4); have W4 := hid (W3.out.below bel4); have Y4 := hid (Y3.out.below bel4); have t4 := t3.trans (bel4.mono t3.size))
      | (go_at_call 13; (with_reducible refine (octets_eq Z4.out Y4.out (by rw [hz.out, hy.out])).mono ?_); rintro e w5 ⟨rfl, rfl⟩)
      | (go_at_call 15; (with_reducible refine (size_is (n := y.length) B4.out (by omega) (by rw [hy.out]; exact size_lay b)).mono ?_); rintro e w5 ⟨rfl, rfl⟩)
      | (go_at_call 16; (with_reducible refine (plain_is B4.out (by omega) HX.out).mono ?_); rintro e w5 ⟨rfl, rfl⟩)
      | (go_at_call 13; (with_reducible refine (octets_is Y4.out B4.out (by rw [hy.out, HX.out])).mono ?_); rintro e w5 ⟨rfl, rfl⟩)
      | (go_at_call 13; (with_reducible refine (octets_eq G4.out W4.out rfl).mono ?_); rintro e w5 ⟨rfl, rfl⟩)
      | (go_at_call 17; (with_reducible refine (awake02 _).mono ?_); rintro e w7 ⟨rfl, bel7⟩))
    go_ret
    exact ⟨rfl, t4.trans (bel7.mono t4.size)⟩
end Go.Proofs.Ytgmmdnilnmoknaa
