/-
  NvtAgain, walked.
-/
import Derived.Test.YtgmmdnilnmoknaaNvK
namespace Go.Proofs.Ytgmmdnilnmoknaa
open Go.RowKit
set_option linter.unusedVariables false
set_option linter.unusedSimpArgs false

theorem cell_at {w : World} {ad : Addr} {b : List UInt8} {n : Nat} {c : UInt8} (h : ∀ i (h : i < b.length), w.cell? (ad.add i) = some (u8 b[i])) (hc : b[n]? = some c) : w.cell? (ad.add n) = some (.int .u8 (c.toNat : Int)) := by
  obtain ⟨hn, hv⟩ := List.getElem?_eq_some_iff.1 hc
  rw [h n hn, hv]; rfl
theorem cell_far {w : World} {ad : Addr} {b : List UInt8} {n : Nat} {c : UInt8} (h : ∀ i (h : i < b.length), w.cell? (ad.add i) = some (u8 b[i])) (hc : b[n + 1]? = some c) : w.cell? ⟨ad.block, ad.off + (n + 1), none⟩ = some (.int .u8 (c.toNat : Int)) := by
  have := cell_at h hc
  simpa [Addr.add] using this

set_option maxHeartbeats 8000000 in
set_option maxRecDepth 100000 in
theorem again_walk (v : Value) (l : List UInt8) (w : World) (h : Sl w v l) :
    Calls Try.prog 6 #[v] w fun e w' => e = .returned (.bool true) ∧ Below w.heap.size w w' := by
  have H := hid h
  clear h
  obtain ⟨b, hb⟩ : ∃ b, b = l.take 200 := ⟨_, rfl⟩
  have hbl : b.length ≤ 200 := by rw [hb]; simp; omega
  have HB := hid hb
  clear hb
  obtain ⟨g, n, hr⟩ : ∃ g n, read b = (g, n) := ⟨_, _, rfl⟩
  have hre := read_end b
  rw [hr] at hre
  obtain ⟨hn, hg, hen⟩ := hre
  simp only at hn hg hen
  have HR := hid hr
  clear hr
  by_cases h1 : n = b.length
  · clear hen
    subst h1
    go_enter Try.func6, Try.ntmps6
    go_wp2_with (first
      | (go_at_call 9; (with_reducible refine (few_is H.out HB.out).mono ?_); rintro e w0 ⟨A0, c0, rfl, hc0, hs, rfl⟩; have B0 := hid hs; clear hs)
      | (go_at_call 10; (with_reducible refine (read_is (g := g) (n := b.length) B0.out (by omega) HR.out).mono ?_); rintro e w1 ⟨A1, c1, rfl, hs, bel1⟩; have G1 := hid hs; clear hs; have B1 := hid (B0.out.below bel1))
      | (go_at_call 14; (with_reducible refine (lay_any G1.out (by omega)).mono ?_); rintro e w2 ⟨y, A2, c2, rfl, hy, hyl, hc2, hs, bel2⟩; have Y2 := hid hs; clear hs; have B2 := hid (B1.out.below bel2); have G2 := hid (G1.out.below bel2); have t2 := bel1.trans (bel2.mono bel1.size))
      | (go_at_call 10; (with_reducible refine (read_is (g := g) (n := y.length) Y2.out (by omega) (by rw [hy.out]; exact read_lay g)).mono ?_); rintro e w3 ⟨A3, c3, rfl, hs, bel3⟩; have M3 := hid hs; clear hs; have B3 := hid (B2.out.below bel3); have G3 := hid (G2.out.below bel3); have t3 := t2.trans (bel3.mono t2.size))
      | (go_at_call 13; (with_reducible refine (octets_eq M3.out G3.out rfl).mono ?_); rintro e w6 ⟨rfl, rfl⟩)
      | (go_at_call 15; (with_reducible refine (size_is (n := y.length) G3.out (by omega) (by rw [hy.out]; exact size_lay g)).mono ?_); rintro e w6 ⟨rfl, rfl⟩)
      | (go_at_call 17; (with_reducible refine (awake02 _).mono ?_); rintro e w7 ⟨rfl, bel7⟩))
    go_ret
    exact ⟨rfl, t3.trans (bel7.mono t3.size)⟩
  · have hlt : n < b.length := by omega
    obtain ⟨h255, hen⟩ := hen.resolve_left h1
    have hb0 : ((n : Int) == (b.length : Int)) = false := beq_eq_false_iff_ne.2 (by omega)
    by_cases h2 : n + 1 = b.length
    · have hb1 : ((n : Int) + 1 == (b.length : Int)) = true := beq_iff_eq.2 (by omega)
      clear hen
      go_enter Try.func6, Try.ntmps6
      go_wp2_with (first
        | (go_at_call 9; (with_reducible refine (few_is H.out HB.out).mono ?_); rintro e w0 ⟨A0, c0, rfl, hc0, hs, rfl⟩; have B0 := hid hs; clear hs)
        | (go_at_call 10; (with_reducible refine (read_is (g := g) (n := n) B0.out (by omega) HR.out).mono ?_); rintro e w1 ⟨A1, c1, rfl, hs, bel1⟩; have G1 := hid hs; clear hs; have B1 := hid (B0.out.below bel1))
        | (go_at_call 14; (with_reducible refine (lay_any G1.out (by omega)).mono ?_); rintro e w2 ⟨y, A2, c2, rfl, hy, hyl, hc2, hs, bel2⟩; have Y2 := hid hs; clear hs; have B2 := hid (B1.out.below bel2); have G2 := hid (G1.out.below bel2); have t2 := bel1.trans (bel2.mono bel1.size))
        | (go_at_call 10; (with_reducible refine (read_is (g := g) (n := y.length) Y2.out (by omega) (by rw [hy.out]; exact read_lay g)).mono ?_); rintro e w3 ⟨A3, c3, rfl, hs, bel3⟩; have M3 := hid hs; clear hs; have B3 := hid (B2.out.below bel3); have G3 := hid (G2.out.below bel3); have t3 := t2.trans (bel3.mono t2.size); obtain ⟨ad, rfl, _, hcx⟩ := B3.out.oct.1.at_ hlt; have hcell := cell_at hcx h255; clear hcx)
        | (go_at_call 13; (with_reducible refine (octets_eq M3.out G3.out rfl).mono ?_); rintro e w6 ⟨rfl, rfl⟩)
        | (go_at_call 15; (with_reducible refine (size_is (n := y.length) G3.out (by omega) (by rw [hy.out]; exact size_lay g)).mono ?_); rintro e w6 ⟨rfl, rfl⟩)
        | (go_at_call 17; (with_reducible refine (awake02 _).mono ?_); rintro e w7 ⟨rfl, bel7⟩))
      go_ret
      exact ⟨rfl, t3.trans (bel7.mono t3.size)⟩
    · have hb1 : ((n : Int) + 1 == (b.length : Int)) = false := beq_eq_false_iff_ne.2 (by omega)
      obtain ⟨d, hd, hne⟩ := hen.resolve_left h2
      have hlt2 : n + 1 < b.length := by omega
      have q2 : ¬ (d.toNat : Int) = 255 := toInt_ne.2 hne
      have q3 : ((d.toNat : Int) != 255) = true := bne_iff_ne.2 q2
      have hud := u8_lt d
      clear hne
      go_enter Try.func6, Try.ntmps6
      go_wp2_with (first
        | (go_at_call 9; (with_reducible refine (few_is H.out HB.out).mono ?_); rintro e w0 ⟨A0, c0, rfl, hc0, hs, rfl⟩; have B0 := hid hs; clear hs)
        | (go_at_call 10; (with_reducible refine (read_is (g := g) (n := n) B0.out (by omega) HR.out).mono ?_); rintro e w1 ⟨A1, c1, rfl, hs, bel1⟩; have G1 := hid hs; clear hs; have B1 := hid (B0.out.below bel1))
        | (go_at_call 14; (with_reducible refine (lay_any G1.out (by omega)).mono ?_); rintro e w2 ⟨y, A2, c2, rfl, hy, hyl, hc2, hs, bel2⟩; have Y2 := hid hs; clear hs; have B2 := hid (B1.out.below bel2); have G2 := hid (G1.out.below bel2); have t2 := bel1.trans (bel2.mono bel1.size))
        | (go_at_call 10; (with_reducible refine (read_is (g := g) (n := y.length) Y2.out (by omega) (by rw [hy.out]; exact read_lay g)).mono ?_); rintro e w3 ⟨A3, c3, rfl, hs, bel3⟩; have M3 := hid hs; clear hs; have B3 := hid (B2.out.below bel3); have G3 := hid (G2.out.below bel3); have t3 := t2.trans (bel3.mono t2.size); obtain ⟨ad, rfl, _, hcx⟩ := B3.out.oct.1.at_ hlt; have hcell := cell_at hcx h255; have hcell2 := cell_far hcx hd; clear hcx)
        | (go_at_call 13; (with_reducible refine (octets_eq M3.out G3.out rfl).mono ?_); rintro e w6 ⟨rfl, rfl⟩)
        | (go_at_call 15; (with_reducible refine (size_is (n := y.length) G3.out (by omega) (by rw [hy.out]; exact size_lay g)).mono ?_); rintro e w6 ⟨rfl, rfl⟩)
        | (go_at_call 17; (with_reducible refine (awake02 _).mono ?_); rintro e w7 ⟨rfl, bel7⟩))
      go_ret
      exact ⟨rfl, t3.trans (bel7.mono t3.size)⟩
end Go.Proofs.Ytgmmdnilnmoknaa
