/-
  NvtJoins, walked.
-/
import Derived.Test.YtgmmdnilnmoknaaNvK
namespace Go.Proofs.Ytgmmdnilnmoknaa
open Go.RowKit
set_option linter.unusedVariables false
set_option linter.unusedSimpArgs false

theorem read_z {v : Value} {b g : List UInt8} {n : Nat} {z : Int} {w : World} (h : Sl w v b) (hb : b.length ≤ 4096) (hr : read b = (g, n)) (hz : (n : Int) = z) : Calls Try.prog 10 #[v] w fun e w' =>
    ∃ A c, e = .returned (.tuple #[.slice A g.length c, .int .i64 z]) ∧ Sl w' (.slice A g.length c) g ∧ Below w.heap.size w w' := by
  subst hz; exact read_is h hb hr
theorem size_z {v : Value} {b : List UInt8} {n : Nat} {z : Int} {w : World} (h : Sl w v b) (hb : b.length ≤ 4096) (hn : size b = n) (hz : (n : Int) = z) : Calls Try.prog 15 #[v] w fun e w' => e = .returned (.int .i64 z) ∧ w = w' := by
  subst hz; exact size_is h hb hn
theorem both_read (a b : List UInt8) : read ([] ++ nlay a ++ nlay b) = (a ++ b, (nlay a).length + (nlay b).length) := by
  rw [List.nil_append, read_lay_append, read_lay]
theorem both_lay (a b : List UInt8) : nlay ([] ++ a ++ b) = [] ++ nlay a ++ nlay b := by rw [List.nil_append, List.nil_append, nlay_append]
theorem both_size (a b : List UInt8) : size ([] ++ a ++ b) = (nlay a).length + (nlay b).length := by rw [List.nil_append, size_append, size_lay, size_lay]

set_option maxHeartbeats 8000000 in
set_option maxRecDepth 100000 in
theorem joins_walk (v : Value) (l : List UInt8) (u : Value) (m : List UInt8) (w : World) (h : Sl w v l) (h' : Sl w u m) :
    Calls Try.prog 5 #[v, u] w fun e w' => e = .returned (.bool true) ∧ Below w.heap.size w w' := by
  have H := hid h
  have H' := hid h'
  clear h h'
  obtain ⟨a, ha⟩ : ∃ b, b = l.take 200 := ⟨_, rfl⟩
  have hal : a.length ≤ 200 := by rw [ha]; simp; omega
  have HA := hid ha
  clear ha
  obtain ⟨b, hb⟩ : ∃ b, b = m.take 200 := ⟨_, rfl⟩
  have hbl : b.length ≤ 200 := by rw [hb]; simp; omega
  have HB := hid hb
  clear hb
  go_enter Try.func5, Try.ntmps5
  go_wp2_with (first
    | (go_at_call 9; (with_reducible refine (few_is H.out HA.out).mono ?_); rintro e w0 ⟨A0, c0, rfl, hc0, hs, rfl⟩; have A00 := hid hs; clear hs)
    | (go_at_call 9; (with_reducible refine (few_is H'.out HB.out).mono ?_); rintro e w0 ⟨A1, c1, rfl, hc1, hs, rfl⟩; have B0 := hid hs; clear hs)
    | (at_builtin; refine wpl_add rfl (.tmp 14) (.tmp 15) 22 5 rfl Try.underlying22 info5 rfl (own_nil w) rfl (A00.out.below ((Below.refl _ _).alloc (Nat.le_refl _) _)) (by omega) (by simp) ?_; intro v1 w1 hown1 bel1; have O1 := hid hown1; clear hown1; have t1 := ((Below.refl _ w).alloc (Nat.le_refl _) _).trans bel1)
    | (at_builtin; refine wpl_add rfl (.tmp 16) (.tmp 17) 22 5 rfl Try.underlying22 info5 rfl O1.out rfl (B0.out.below t1) (by omega) t1.size ?_; intro v2 w2 hown2 bel2; have O2 := hid hown2; clear hown2; have t2 := t1.trans bel2; have J2 := hid (Sl.own O2.out); have A02 := hid (A00.out.below t2); have B02 := hid (B0.out.below t2))
    | (go_at_call 14; (with_reducible refine (lay_any A02.out (by omega)).mono ?_); rintro e w3 ⟨x, A3, c3, rfl, hx, hxl, hc3, hs, bel3⟩; have X3 := hid hs; clear hs; have t3 := t2.trans (bel3.mono t2.size); have A03 := hid (A02.out.below bel3); have B03 := hid (B02.out.below bel3); have J3 := hid (J2.out.below bel3); have hxa : a.length ≤ x.length := (by rw [hx.out]; exact le_lay a))
    | (go_at_call 14; (with_reducible refine (lay_any B03.out (by omega)).mono ?_); rintro e w4 ⟨y, A4, c4, rfl, hy, hyl, hc4, hs, bel4⟩; have Y4 := hid hs; clear hs; have t4 := t3.trans (bel4.mono t3.size); have A04 := hid (A03.out.below bel4); have B04 := hid (B03.out.below bel4); have J4 := hid (J3.out.below bel4); have X4 := hid (X3.out.below bel4))
    | (at_builtin; refine wpl_add rfl (.tmp 24) (.tmp 25) 22 5 rfl Try.underlying22 info5 rfl (own_nil w4) rfl (X4.out.below ((Below.refl _ _).alloc (Nat.le_refl _) _)) (by omega) (by simp) ?_; intro v5 w5 hown5 bel5; have O5 := hid hown5; clear hown5; have s5 := ((Below.refl _ w4).alloc (Nat.le_refl _) _).trans bel5)
    | (at_builtin; refine wpl_add rfl (.tmp 26) (.tmp 27) 22 5 rfl Try.underlying22 info5 rfl O5.out rfl (Y4.out.below s5) (by omega) s5.size ?_; intro v6 w6 hown6 bel6; have O6 := hid hown6; clear hown6; have s6 := s5.trans bel6)
    | (go_at_call 10; (with_reducible refine (read_z (g := a ++ b) (n := x.length + y.length) (z := (x.length : Int) + y.length) (Sl.own O6.out) (by simp; omega) (by rw [hx.out, hy.out]; exact both_read a b) (by simp)).mono ?_); rintro e w7 ⟨A7, c7, rfl, hs, bel7⟩; have s7 := s6.trans (bel7.mono s6.size); have t7 := t4.trans (s7.mono t4.size); have G7 : Hid (Sl w7 (.slice A7 (a.length + b.length) c7) (a ++ b)) := hid (by rw [← List.length_append]; exact hs); clear hs; have A07 := hid (A04.out.below s7); have B07 := hid (B04.out.below s7); have J7 := hid (J4.out.below s7); have X7 := hid (X4.out.below s7); have Y7 := hid (Y4.out.below s7))
    | (go_at_call 14; (with_reducible refine (lay_any J7.out (by simp; omega)).mono ?_); rintro e w8 ⟨z, A8, c8, rfl, hz, hzl, hc8, hs, bel8⟩; have Z8 := hid hs; clear hs; have t8 := t7.trans (bel8.mono t7.size); have A08 := hid (A07.out.below bel8); have B08 := hid (B07.out.below bel8); have J8 := hid (J7.out.below bel8); have X8 := hid (X7.out.below bel8); have Y8 := hid (Y7.out.below bel8); have G8 := hid (G7.out.below bel8))
    | (at_builtin; refine wpl_add rfl (.tmp 34) (.tmp 35) 22 5 rfl Try.underlying22 info5 rfl (own_nil w8) rfl (X8.out.below ((Below.refl _ _).alloc (Nat.le_refl _) _)) (by omega) (by simp) ?_; intro v9 w9 hown9 bel9; have O9 := hid hown9; clear hown9; have s9 := ((Below.refl _ w8).alloc (Nat.le_refl _) _).trans bel9)
    | (at_builtin; refine wpl_add rfl (.tmp 36) (.tmp 37) 22 5 rfl Try.underlying22 info5 rfl O9.out rfl (Y8.out.below s9) (by omega) s9.size ?_; intro v10 w10 hown10 bel10; have O10 := hid hown10; clear hown10; have s10 := s9.trans bel10; have t10 := t8.trans (s10.mono t8.size); have A10 := hid (A08.out.below s10); have B10 := hid (B08.out.below s10); have J10 := hid (J8.out.below s10); have Z10 := hid (Z8.out.below s10); have G10 := hid (G8.out.below s10))
    | (go_at_call 13; (with_reducible refine (octets_eq Z10.out (Sl.own O10.out) (by rw [hz.out, hx.out, hy.out]; exact both_lay a b)).mono ?_); rintro e w11 ⟨rfl, rfl⟩)
    | (go_at_call 13; (with_reducible refine (octets_eq G10.out J10.out (by simp)).mono ?_); rintro e w11 ⟨rfl, rfl⟩)
    | (go_at_call 15; (with_reducible refine (size_z (n := x.length + y.length) (z := (x.length : Int) + y.length) J10.out (by simp; omega) (by rw [hx.out, hy.out]; exact both_size a b) (by simp)).mono ?_); rintro e w11 ⟨rfl, rfl⟩)
    | (go_at_call 15; (with_reducible refine (size_is (n := x.length) A10.out (by omega) (by rw [hx.out]; exact size_lay a)).mono ?_); rintro e w11 ⟨rfl, rfl⟩)
    | (go_at_call 15; (with_reducible refine (size_is (n := y.length) B10.out (by omega) (by rw [hy.out]; exact size_lay b)).mono ?_); rintro e w11 ⟨rfl, rfl⟩)
    | (go_at_call 17; (with_reducible refine (awake02 _).mono ?_); rintro e w12 ⟨rfl, bel12⟩))
  go_ret
  exact ⟨rfl, t10.trans (bel12.mono t10.size)⟩
end Go.Proofs.Ytgmmdnilnmoknaa
