/-
  NvtBack, walked.
-/
import Derived.Test.YtgmmdnilnmoknaaNvK
namespace Go.Proofs.Ytgmmdnilnmoknaa
open Go.RowKit
set_option linter.unusedVariables false
set_option linter.unusedSimpArgs false

set_option maxHeartbeats 8000000 in
set_option maxRecDepth 100000 in
theorem back_walk (v : Value) (l : List UInt8) (cmd : UInt8) (w : World) (h : Sl w v l) :
    Calls Try.prog 4 #[v, .int .u8 (cmd.toNat : Int)] w fun e w' => e = .returned (.bool true) ∧ Below w.heap.size w w' := by
  have H := hid h
  clear h
  have hu := u8_lt cmd
  by_cases c255 : cmd = 255
  · have q1 : (cmd.toNat : Int) = 255 := by rw [c255]; rfl
    clear c255
    have HD : Hid ((254 : UInt8) ≠ 255) := hid (by decide)
    go_enter Try.func4, Try.ntmps4
    go_wp2_with (first
      | (go_at_call 9; (with_reducible refine (few_any H.out).mono ?_); rintro e w0 ⟨b, A0, c0, rfl, hb, hs, rfl⟩; have B0 := hid hs; clear hs)
      | (go_at_call 14; (with_reducible refine (lay_any B0.out (by omega)).mono ?_); rintro e w1 ⟨y, A1, c1, rfl, hy, hyl, hs, bel1⟩; have Y1 := hid hs; clear hs; have B1 := hid (B0.out.below bel1))
      | (go_at_call 10; (with_reducible refine (read_is (g := b) (n := y.length) Y1.out (by omega) (by rw [hy.out]; exact read_lay b)).mono ?_); rintro e w2 ⟨A2, c2, rfl, hs, bel2⟩; have G2 := hid hs; clear hs; have B2 := hid (B1.out.below bel2); have Y2 := hid (Y1.out.below bel2); have t2 := bel1.trans (bel2.mono bel1.size))
      | (at_builtin; refine wpl_add rfl (.tmp 22) (.tmp 23) 22 5 rfl Try.underlying22 info5 rfl (own_nil w2) rfl (Y2.out.below ((Below.refl _ _).alloc (Nat.le_refl _) _)) (by omega) (by simp) ?_; intro v3 w3 hown3 bel3; have O3 := hid hown3; clear hown3; have t3 := ((Below.refl _ w2).alloc (Nat.le_refl _) _).trans bel3)
      | (at_builtin; refine wpl_add rfl (.tmp 24) (.tmp 26) 22 5 rfl Try.underlying22 info5 rfl (O3.out.alloc _) rfl (sl_two w3 255 254 255 254 rfl rfl) (by omega) (Nat.le_trans (by simp) (Nat.le_trans bel3.size (by simp))) ?_; intro v4 w4 hown4 bel4; have O4 := hid hown4; clear hown4; have t4 := (t3.alloc t3.size _).trans bel4)
      | (go_at_call 10; (with_reducible refine (read_is (g := b) (n := y.length) (Sl.own O4.out) (by simp; omega) (by rw [hy.out, List.nil_append]; exact read_cmd b _ HD.out)).mono ?_); rintro e w5 ⟨A5, c5, rfl, hs, bel5⟩; have t5 := t4.trans (bel5.mono t4.size); have M5 := hid hs; clear hs; have B5 := hid (B2.out.below t5); have G5 := hid (G2.out.below t5))
      | (go_at_call 13; (with_reducible refine (octets_eq G5.out B5.out rfl).mono ?_); rintro e w6 ⟨rfl, rfl⟩)
      | (go_at_call 13; (with_reducible refine (octets_eq M5.out B5.out rfl).mono ?_); rintro e w6 ⟨rfl, rfl⟩)
      | (go_at_call 17; (with_reducible refine (awake02 _).mono ?_); rintro e w7 ⟨rfl, bel7⟩))
    go_ret
    exact ⟨rfl, (t2.trans (t5.mono t2.size)).trans (bel7.mono (t2.trans (t5.mono t2.size)).size)⟩
  · have q1 : ¬ (cmd.toNat : Int) = 255 := toInt_ne.2 c255
    have HD := hid c255
    clear c255
    go_enter Try.func4, Try.ntmps4
    go_wp2_with (first
      | (go_at_call 9; (with_reducible refine (few_any H.out).mono ?_); rintro e w0 ⟨b, A0, c0, rfl, hb, hs, rfl⟩; have B0 := hid hs; clear hs)
      | (go_at_call 14; (with_reducible refine (lay_any B0.out (by omega)).mono ?_); rintro e w1 ⟨y, A1, c1, rfl, hy, hyl, hs, bel1⟩; have Y1 := hid hs; clear hs; have B1 := hid (B0.out.below bel1))
      | (go_at_call 10; (with_reducible refine (read_is (g := b) (n := y.length) Y1.out (by omega) (by rw [hy.out]; exact read_lay b)).mono ?_); rintro e w2 ⟨A2, c2, rfl, hs, bel2⟩; have G2 := hid hs; clear hs; have B2 := hid (B1.out.below bel2); have Y2 := hid (Y1.out.below bel2); have t2 := bel1.trans (bel2.mono bel1.size))
      | (at_builtin; refine wpl_add rfl (.tmp 22) (.tmp 23) 22 5 rfl Try.underlying22 info5 rfl (own_nil w2) rfl (Y2.out.below ((Below.refl _ _).alloc (Nat.le_refl _) _)) (by omega) (by simp) ?_; intro v3 w3 hown3 bel3; have O3 := hid hown3; clear hown3; have t3 := ((Below.refl _ w2).alloc (Nat.le_refl _) _).trans bel3)
      | (at_builtin; refine wpl_add rfl (.tmp 24) (.tmp 26) 22 5 rfl Try.underlying22 info5 rfl (O3.out.alloc _) rfl (sl_two w3 255 cmd 255 (cmd.toNat : Int) rfl rfl) (by omega) (Nat.le_trans (by simp) (Nat.le_trans bel3.size (by simp))) ?_; intro v4 w4 hown4 bel4; have O4 := hid hown4; clear hown4; have t4 := (t3.alloc t3.size _).trans bel4)
      | (go_at_call 10; (with_reducible refine (read_is (g := b) (n := y.length) (Sl.own O4.out) (by simp; omega) (by rw [hy.out, List.nil_append]; exact read_cmd b _ HD.out)).mono ?_); rintro e w5 ⟨A5, c5, rfl, hs, bel5⟩; have t5 := t4.trans (bel5.mono t4.size); have M5 := hid hs; clear hs; have B5 := hid (B2.out.below t5); have G5 := hid (G2.out.below t5))
      | (go_at_call 13; (with_reducible refine (octets_eq G5.out B5.out rfl).mono ?_); rintro e w6 ⟨rfl, rfl⟩)
      | (go_at_call 13; (with_reducible refine (octets_eq M5.out B5.out rfl).mono ?_); rintro e w6 ⟨rfl, rfl⟩)
      | (go_at_call 17; (with_reducible refine (awake02 _).mono ?_); rintro e w7 ⟨rfl, bel7⟩))
    go_ret
    exact ⟨rfl, (t2.trans (t5.mono t2.size)).trans (bel7.mono (t2.trans (t5.mono t2.size)).size)⟩
end Go.Proofs.Ytgmmdnilnmoknaa
