/-
  The contracts of nvt.Size, nvt.Plain.
-/
import Derived.Test.YtgmmdnilnmoknaaNvA
namespace Go.Proofs.Ytgmmdnilnmoknaa
open Go.RowKit
set_option linter.unusedVariables false
set_option linter.unusedSimpArgs false

theorem count_snoc (l : List UInt8) (k : Nat) (hk : k < l.length) : (l.take (k + 1)).countP two = (l.take k).countP two + if two l[k] then 1 else 0 := by
  rw [List.take_succ_eq_append_getElem hk, List.countP_append]; simp [List.countP_cons]
theorem count_le (l : List UInt8) (k : Nat) : (l.take k).countP two ≤ l.length := by
  have := List.countP_le_length (p := two) (l := l.take k); simp at this; omega

theorem ret_inj {k : IntKind} {a b : Int} (h : a = b) : Value.int k a = .int k b := by rw [h]
theorem nvtTwo_is (c : UInt8) {b : Bool} (h : two c = b) (w : World) : Calls Try.prog 19 #[.int .u8 (c.toNat : Int)] w fun e w' => e = .returned (.bool b) ∧ w = w' := by
  subst h
  exact nvtTwo c w

set_option maxHeartbeats 1600000 in
/-- nvt.Size -/
theorem nvtSize (v : Value) (l : List UInt8) (w : World) (h : Sl w v l) (hb : l.length ≤ 65536) : Calls Try.prog 15 #[v] w fun e w' => e = .returned (.int .i64 (size l)) ∧ w = w' := by
  obtain ⟨A, c, rfl, hc, hm, hn, ho⟩ := h
  clear hc hm hn
  have HO := hid ho
  clear ho
  go_enter Try.func15, Try.ntmps15
  go_wp2
  go_loop [3, 10] (fun n i => ∃ k : Nat, k ≤ l.length ∧ i = .int .i64 k ∧ n = .int .i64 ((l.length + (l.take k).countP two : Nat) : Int)) (fun _ i => l.length - (intOf i).toNat)
  case atStart => exact ⟨0, Nat.zero_le _, rfl, by simp⟩
  case round =>
    obtain ⟨k, hk, rfl, rfl⟩ := hrel
    have hle := count_le l k
    by_cases hlt : k < l.length
    · obtain ⟨ad, rfl, _, hc⟩ := HO.out.at_ hlt
      have hck := hc k hlt
      unfold u8 at hck
      clear hc
      have hsn := hid (count_snoc l k hlt)
      cases ht : two l[k] <;> have ht' := hid ht <;> clear ht
      all_goals go_wp2_with (first | (go_at_call 19; refine (nvtTwo_is l[k] ht'.out _).mono ?_; rintro e w' ⟨rfl, rfl⟩))
      all_goals
        go_round
        case rel => exact ⟨k + 1, by omega, by go_num, ret_inj (by rw [hsn.out, ht'.out]; simp <;> omega)⟩
        case measure => simp [intOf]; omega
    · obtain rfl : k = l.length := by omega
      go_wp2
      go_ret
      exact ⟨ret_int (by simp [size]), rfl⟩

/-- nvt.Plain -/
theorem nvtPlain (v : Value) (l : List UInt8) (w : World) (h : Sl w v l) (hb : l.length ≤ 65536) : Calls Try.prog 16 #[v] w fun e w' => e = .returned (.bool (nlay l == l)) ∧ w = w' := by
  have hq := hid (plain_lay l)
  have H := hid h
  obtain ⟨A, c, rfl, hc, hm, hn, ho⟩ := h
  clear hc hm hn ho
  go_enter Try.func16, Try.ntmps16
  go_wp2_with (first | (go_at_call 15; refine (nvtSize _ l _ H.out (by omega)).mono ?_; rintro e w' ⟨rfl, rfl⟩))
  go_ret
  exact ⟨ret_bool (by rw [← hq.out, Bool.eq_iff_iff, beq_iff_eq, beq_iff_eq]; omega), rfl⟩
end Go.Proofs.Ytgmmdnilnmoknaa
