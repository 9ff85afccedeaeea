/-
  The contracts of nvt.two, linnetlaw01.Few, linnetref01.Octets.
-/
import Derived.Test.YtgmmdnilnmoknaaProg
import Derived.Test.YtgmmdnilnmoknaaNvLaw
import Derived.Test.YtgmmdnilnmoknaaNvMem
namespace Go.Proofs.Ytgmmdnilnmoknaa
open Go.RowKit
set_option linter.unusedVariables false
set_option linter.unusedSimpArgs false

theorem info5 : (Try.prog.info? 5).map (fun i => (i.zero, i.size, i.bytes)) = some (some (.int .u8 0), 1, 1) := by kernel_rfl
theorem u8_lt (c : UInt8) : (c.toNat : Int) < 256 := by have := c.toNat_lt; omega
theorem two_int (c : UInt8) : two c = decide ((c.toNat : Int) = 255 ∨ (c.toNat : Int) = 13) := by
  rw [Bool.eq_iff_iff]; simp [two, UInt8.toNat_inj.symm]; omega

/-- nvt.two -/
theorem nvtTwo (c : UInt8) (w : World) : Calls Try.prog 19 #[u8 c] w fun e w' => e = .returned (.bool (two c)) ∧ w = w' := by
  have hx := two_int c
  have HX := hid hx
  clear hx
  unfold u8
  go_enter Try.func19, Try.ntmps19
  go_wp2
  all_goals go_ret
  all_goals exact ⟨ret_bool (by rw [HX.out]; by_cases h13 : (c.toNat : Int) = 13 <;> simp [*]), rfl⟩

/-- linnetlaw01.Few -/
theorem lawFew (v : Value) (l : List UInt8) (w : World) (h : Sl w v l) : Calls Try.prog 9 #[v] w fun e w' => ∃ u, e = .returned u ∧ Sl w u (l.take 200) ∧ w = w' := by
  obtain ⟨A, c, rfl, hc, hm, hn, ho⟩ := h
  unfold maxLen at hm
  by_cases hl : 200 < l.length
  · have hp : (l.take 200).length = 200 := by simp; omega
    have HP := hid hp
    have HN := hid hn
    clear hp hn
    go_enter Try.func9, Try.ntmps9
    go_wp2
    go_ret
    exact ⟨_, rfl, ⟨A, c, by rw [HP.out]; rfl, by rw [HP.out]; omega, by unfold maxLen; omega, HN.out, ho.take 200⟩, rfl⟩
  · have hp : l.take 200 = l := List.take_of_length_le (by omega)
    have HP := hid hp
    have HN := hid hn
    clear hp hn
    go_enter Try.func9, Try.ntmps9
    go_wp2
    go_ret
    exact ⟨_, rfl, ⟨A, c, by rw [HP.out]; rfl, by rw [HP.out]; omega, by unfold maxLen; omega, HN.out, by rw [HP.out]; exact ho⟩, rfl⟩

/-- linnetref01.Octets -/
theorem octets (v u : Value) (l k : List UInt8) (w : World) (h : Sl w v l) (h' : Sl w u k) : Calls Try.prog 13 #[v, u] w fun e w' => e = .returned (.bool (l == k)) ∧ w = w' := by
  obtain ⟨A, c, rfl, hc, hm, hn, ho⟩ := h
  obtain ⟨A', c', rfl, hc', hm', hn', ho'⟩ := h'
  have h1 := convert_txt (P := Try.prog) (c := c) ho 22 5 9 Try.underlying22 Try.underlying5 Try.underlying9
  have h2 := convert_txt (P := Try.prog) (c := c') ho' 22 5 9 Try.underlying22 Try.underlying5 Try.underlying9
  clear hc hm hn hc' hm' hn'
  have hq : ((txt l).toList == (txt k).toList) = (l == k) := by rw [ByteArray.toList_eq, ByteArray.toList_eq]; rfl
  have HQ := hid hq
  clear hq
  go_enter Try.func13, Try.ntmps13
  go_wp2
  go_ret
  exact ⟨ret_bool HQ.out, rfl⟩
end Go.Proofs.Ytgmmdnilnmoknaa
