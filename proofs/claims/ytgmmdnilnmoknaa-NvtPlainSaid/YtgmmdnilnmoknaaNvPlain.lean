/-
  NvtPlain, walked.
-/
import Derived.Test.YtgmmdnilnmoknaaNvK
namespace Go.Proofs.Ytgmmdnilnmoknaa
open Go.RowKit
set_option linter.unusedVariables false
set_option linter.unusedSimpArgs false

theorem odd_snoc (l : List UInt8) (k : Nat) (hk : k < l.length) : odd (l.take (k + 1)) = (odd (l.take k) || two l[k]) := by
  rw [List.take_succ_eq_append_getElem hk]; unfold odd; rw [List.any_append]; simp
theorem two_255 {c : UInt8} (h : (c.toNat : Int) = 255) : two c = true := by rw [two_int]; simp [h]
theorem two_13 {c : UInt8} (h : (c.toNat : Int) = 13) : two c = true := by rw [two_int]; simp [h]
theorem two_no {c : UInt8} (h : ¬ (c.toNat : Int) = 255) (h1 : ¬ (c.toNat : Int) = 13) : two c = false := by rw [two_int]; simp [h, h1]
theorem lay_beq (a b : List UInt8) : (nlay a == nlay b) = (a == b) := by
  rw [Bool.eq_iff_iff, beq_iff_eq, beq_iff_eq]; exact ⟨nlay_inj, fun h => by rw [h]⟩

set_option maxHeartbeats 8000000 in
set_option maxRecDepth 100000 in
theorem plain_walk (v : Value) (l : List UInt8) (u : Value) (m : List UInt8) (w : World) (h : Sl w v l) (h' : Sl w u m) :
    Calls Try.prog 7 #[v, u] w fun e w' => e = .returned (.bool true) ∧ Below w.heap.size w w' := by
  have H := hid h
  have H' := hid h'
  clear h h'
  obtain ⟨a, ha⟩ : ∃ b, b = l.take 200 := ⟨_, rfl⟩
  have hal : a.length ≤ 200 := by rw [ha]; simp; omega
  have HA := hid ha
  clear ha
  obtain ⟨b, hb⟩ : ∃ b, b = m.take 200 := ⟨_, rfl⟩
  have hbl : b.length ≤ 200 := by rw [hb]; simp; omega
  have HB := hid hb
  clear hb
  go_enter Try.func7, Try.ntmps7
  go_wp2_with (first
    | (go_at_call 9; (with_reducible refine (few_is H.out HA.out).mono ?_); rintro e w0 ⟨A0, c0, rfl, hc0, hs, rfl⟩; have A00 := hid hs; clear hs)
    | (go_at_call 9; (with_reducible refine (few_is H'.out HB.out).mono ?_); rintro e w0 ⟨A1, c1, rfl, hc1, hs, rfl⟩; have B0 := hid hs; clear hs))
  go_loop [5, 6] (fun o i => ∃ k : Nat, k ≤ a.length ∧ i = .int .i64 k ∧ o = .bool (odd (a.take k))) (fun _ i => a.length - (intOf i).toNat)
  case atStart => exact ⟨0, Nat.zero_le _, rfl, rfl⟩
  case round =>
    obtain ⟨k, hk, rfl, rfl⟩ := hrel
    by_cases hlt : k < a.length
    · obtain ⟨ad, rfl, _, hc⟩ := A00.out.oct.1.at_ hlt
      have hck : w.cell? (ad.add k) = some (.int .u8 (a[k].toNat : Int)) := hc k hlt
      clear hc
      have hu : (a[k].toNat : Int) < 256 := u8_lt _
      have HS := hid (odd_snoc a k hlt)
      cases ho : odd (a.take k) <;> have HO := hid ho <;> clear ho
      · by_cases q1 : (a[k].toNat : Int) = 255
        · have HT := hid (two_255 q1)
          go_wp2
          go_round
          case rel => exact ⟨k + 1, by omega, by go_num, by rw [HS.out, HO.out, HT.out]; rfl⟩
          case measure => simp [intOf]; omega
        · by_cases q2 : (a[k].toNat : Int) = 13
          · have HT := hid (two_13 q2)
            go_wp2
            go_round
            case rel => exact ⟨k + 1, by omega, by go_num, by rw [HS.out, HO.out, HT.out]; rfl⟩
            case measure => simp [intOf]; omega
          · have HT := hid (two_no q1 q2)
            go_wp2
            go_round
            case rel => exact ⟨k + 1, by omega, by go_num, by rw [HS.out, HO.out, HT.out]; simp [q1, q2]⟩
            case measure => simp [intOf]; omega
      · go_wp2
        go_round
        case rel => exact ⟨k + 1, by omega, by go_num, by rw [HS.out, HO.out]; rfl⟩
        case measure => simp [intOf]; omega
    · obtain rfl : k = a.length := by omega
      have ho : odd (a.take a.length) = odd a := by rw [List.take_length]
      rw [ho]
      clear ho
      have HP : Hid ((nlay a == a) = !odd a) := hid (by rw [← plain_lay]; exact plain_odd a)
      have HL := hid (lay_beq a b)
      cases hx : odd a <;> cases hy : a == b <;> have HX := hid hx <;> have HY := hid hy <;> clear hx hy
      all_goals go_wp2_with (first
        | (go_at_call 16; (with_reducible refine (plain_is A00.out (by omega) HP.out).mono ?_); rw [HX.out]; rintro e w1 ⟨rfl, rfl⟩)
        | (go_at_call 14; (with_reducible refine (lay_any A00.out (by omega)).mono ?_); rintro e w1 ⟨x, A2, c2, rfl, hx, hxl, hc2, hs, bel1⟩; have X1 := hid hs; clear hs; have A01 := hid (A00.out.below bel1); have B1 := hid (B0.out.below bel1))
        | (go_at_call 14; (with_reducible refine (lay_any B1.out (by omega)).mono ?_); rintro e w2 ⟨y, A3, c3, rfl, hy, hyl, hc3, hs, bel2⟩; have Y2 := hid hs; clear hs; have A02 := hid (A01.out.below bel2); have B2 := hid (B1.out.below bel2); have X2 := hid (X1.out.below bel2); have t2 := bel1.trans (bel2.mono bel1.size))
        | (go_at_call 13; (with_reducible refine (octets_is X2.out Y2.out (by rw [hx.out, hy.out, HL.out, HY.out])).mono ?_); rintro e w3 ⟨rfl, rfl⟩)
        | (go_at_call 13; (with_reducible refine (octets_is A02.out B2.out HY.out).mono ?_); rintro e w3 ⟨rfl, rfl⟩)
        | (go_at_call 17; (with_reducible refine (awake02 _).mono ?_); rintro e w7 ⟨rfl, bel7⟩))
      all_goals go_ret
      all_goals exact ⟨rfl, t2.trans (bel7.mono t2.size)⟩
end Go.Proofs.Ytgmmdnilnmoknaa
