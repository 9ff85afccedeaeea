/-
  NvtCut, walked.
-/
import Derived.Test.YtgmmdnilnmoknaaNvK
namespace Go.Proofs.Ytgmmdnilnmoknaa
open Go.RowKit
set_option linter.unusedVariables false
set_option linter.unusedSimpArgs false

set_option maxHeartbeats 8000000 in
set_option maxRecDepth 100000 in
theorem cut_walk (v : Value) (l : List UInt8) (cut : UInt8) (w : World) (h : Sl w v l) :
    Calls Try.prog 8 #[v, .int .u8 (cut.toNat : Int)] w fun e w' => e = .returned (.bool true) ∧ Below w.heap.size w w' := by
  have H := hid h
  clear h
  have hu := u8_lt cut
  obtain ⟨k, hk⟩ : ∃ k : Nat, k = cut.toNat := ⟨_, rfl⟩
  rw [← hk] at hu ⊢
  clear hk
  go_enter Try.func8, Try.ntmps8
  go_wp2_with (first
    | (go_at_call 9; (with_reducible refine (few_any H.out).mono ?_); rintro e w0 ⟨b, A0, c0, rfl, hb, hc0, hs, rfl⟩; have B0 := hid hs; clear hs)
    | (go_at_call 14; (with_reducible refine (lay_any B0.out (by omega)).mono ?_); rintro e w1 ⟨y, A1, c1, rfl, hy, hyl, hc1, hs, bel1⟩; have Y1 := hid hs; clear hs; have B1 := hid (B0.out.below bel1))
    | (go_at_call 10; (with_reducible refine (read_cut_is Y1.out hy.out (by omega) (by omega)).mono ?_); rintro e w2 ⟨g, n, A2, c2, rfl, hp, hn1, hn2, hg, hs, bel2⟩; have G2 := hid hs; clear hs; have B2 := hid ((B1.out.below bel2).pre hp.out); have t2 := bel1.trans (bel2.mono bel1.size))
    | (go_at_call 13; (with_reducible refine (octets_eq G2.out B2.out rfl).mono ?_); rintro e w6 ⟨rfl, rfl⟩)
    | (go_at_call 17; (with_reducible refine (awake02 _).mono ?_); rintro e w7 ⟨rfl, bel7⟩))
  all_goals go_ret
  all_goals exact ⟨rfl, t2.trans (bel7.mono t2.size)⟩
end Go.Proofs.Ytgmmdnilnmoknaa
