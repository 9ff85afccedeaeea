/-
  The contract of linnetlaw02.awake.
-/
import Derived.Test.YtgmmdnilnmoknaaNvD
import Derived.Test.YtgmmdnilnmoknaaNvE
import Derived.Lib.SlBytesConst
namespace Go.Proofs.Ytgmmdnilnmoknaa
open Go.RowKit
set_option linter.unusedVariables false
set_option linter.unusedSimpArgs false

theorem sl_lit (w : World) (bs : List UInt8) (h : bs.length ≤ 4096) {arr : Array Value} (ha : (cells bs).toArray = arr) : Sl (w.alloc (.cells arr 5)) (.slice (some ⟨w.heap.size, 0, none⟩) bs.length bs.length) bs := by
  subst ha
  exact ⟨_, _, rfl, Nat.le_refl _, by unfold maxLen; omega, (fun h => by cases h), oct_new w bs 5⟩
theorem below_lit {w w' : World} {o : Obj} (h : Below (w.alloc o).heap.size (w.alloc o) w') : Below w.heap.size w w' := ((Below.refl _ _).alloc (Nat.le_refl _) o).trans (h.mono (by simp))
/-- a literal, read. -/
theorem readLit (w : World) (bs got : List UInt8) (n : Nat) (arr : Array Value) (k : Nat) (hk : bs.length = k) (ha : (cells bs).toArray = arr) (hr : read bs = (got, n)) (h : bs.length ≤ 4096) :
    Calls Try.prog 10 #[.slice (some ⟨w.heap.size, 0, none⟩) k k] (w.alloc (.cells arr 5)) fun e w' => ∃ A c, e = .returned (.tuple #[.slice A got.length c, .int .i64 (n : Int)]) ∧ Oct w' A got ∧ Below w.heap.size w w' := by
  subst hk
  refine (nvtRead _ bs _ (sl_lit w bs h ha) h).mono ?_
  rintro e w' ⟨u, rfl, hu, hb⟩
  rw [hr] at hu
  obtain ⟨A, c, rfl, _, _, _, ho⟩ := hu
  exact ⟨A, c, by rw [hr], ho, below_lit hb⟩
theorem layLit (w : World) (bs got : List UInt8) (arr : Array Value) (k : Nat) (hk : bs.length = k) (ha : (cells bs).toArray = arr) (hr : nlay bs = got) (h : bs.length ≤ 4096) :
    Calls Try.prog 14 #[.slice (some ⟨w.heap.size, 0, none⟩) k k] (w.alloc (.cells arr 5)) fun e w' => ∃ A c, e = .returned (.slice A got.length c) ∧ Oct w' A got ∧ Below w.heap.size w w' := by
  subst hk
  refine (nvtLay _ bs _ (sl_lit w bs h ha) h).mono ?_
  rintro e w' ⟨u, rfl, hu, hb⟩
  rw [hr] at hu
  obtain ⟨A, c, rfl, _, _, _, ho⟩ := hu
  exact ⟨A, c, rfl, ho, below_lit hb⟩
theorem sizeLit (w : World) (bs : List UInt8) (n : Nat) (arr : Array Value) (k : Nat) (hk : bs.length = k) (ha : (cells bs).toArray = arr) (hr : size bs = n) (h : bs.length ≤ 4096) :
    Calls Try.prog 15 #[.slice (some ⟨w.heap.size, 0, none⟩) k k] (w.alloc (.cells arr 5)) fun e w' => e = .returned (.int .i64 (n : Int)) ∧ w.alloc (.cells arr 5) = w' := by
  subst hk
  have := nvtSize _ bs _ (sl_lit w bs h ha) (by omega)
  rwa [hr] at this
theorem plainLit (w : World) (bs : List UInt8) (b : Bool) (arr : Array Value) (k : Nat) (hk : bs.length = k) (ha : (cells bs).toArray = arr) (hr : (nlay bs == bs) = b) (h : bs.length ≤ 4096) :
    Calls Try.prog 16 #[.slice (some ⟨w.heap.size, 0, none⟩) k k] (w.alloc (.cells arr 5)) fun e w' => e = .returned (.bool b) ∧ w.alloc (.cells arr 5) = w' := by
  subst hk
  have := nvtPlain _ bs _ (sl_lit w bs h ha) (by omega)
  rwa [hr] at this
theorem cv {w : World} {A : Option Addr} {l : List UInt8} {c : Nat} (h : Oct w A l) : (convert 22 9 (.slice A l.length c)).run Try.prog w = .ok (.string ⟨l.toArray⟩) w := convert_txt h 22 5 9 Try.underlying22 Try.underlying5 Try.underlying9

theorem read1 (w : World) : Calls Try.prog 10 #[.slice (some ⟨w.heap.size, 0, none⟩) 5 5] (w.alloc (.cells #[.int .u8 13, .int .u8 0, .int .u8 10, .int .u8 255, .int .u8 1] 5)) fun e w' => ∃ A c, e = .returned (.tuple #[.slice A 2 c, .int .i64 3]) ∧ Oct w' A [13, 10] ∧ Below w.heap.size w w' :=
  readLit w [13, 0, 10, 255, 1] [13, 10] 3 _ 5 rfl rfl (by decide +kernel) (by decide)
theorem read2 (w : World) : Calls Try.prog 10 #[.slice (some ⟨w.heap.size, 0, none⟩) 1 1] (w.alloc (.cells #[.int .u8 13] 5)) fun e w' => ∃ A c, e = .returned (.tuple #[.slice A 1 c, .int .i64 1]) ∧ Oct w' A [13] ∧ Below w.heap.size w w' :=
  readLit w [13] [13] 1 _ 1 rfl rfl (by decide +kernel) (by decide)
theorem lay1 (w : World) : Calls Try.prog 14 #[.slice (some ⟨w.heap.size, 0, none⟩) 3 3] (w.alloc (.cells #[.int .u8 1, .int .u8 255, .int .u8 13] 5)) fun e w' => ∃ A c, e = .returned (.slice A 5 c) ∧ Oct w' A [1, 255, 255, 13, 10] ∧ Below w.heap.size w w' :=
  layLit w [1, 255, 13] [1, 255, 255, 13, 10] _ 3 rfl rfl (by decide +kernel) (by decide)
theorem size1 (w : World) (g : Nat) (hg : g = w.heap.size) : Calls Try.prog 15 #[.slice (some ⟨g, 0, none⟩) 1 1] (w.alloc (.cells #[.int .u8 255] 5)) fun e w' => e = .returned (.int .i64 2) ∧ w.alloc (.cells #[.int .u8 255] 5) = w' := by
  subst hg
  exact sizeLit w [255] 2 _ 1 rfl rfl (by decide +kernel) (by decide)
theorem oct_marked (w : World) (bs : List UInt8) (fr : Nat × Nat) : Oct (w.alloc (.cells (cells bs).toArray 5 fr)) (some ⟨w.heap.size, 0, none⟩) bs := by
  refine .inr ⟨_, rfl, fun i hi => ?_⟩
  have ha : (⟨w.heap.size, 0, none⟩ : Addr).add i = ⟨w.heap.size, i, none⟩ := by unfold Addr.add; split <;> simp_all
  rw [ha, cell_of_row _ _ i _ 5 fr (heapNew _ _ _ rfl)]
  simp [cells, hi]
theorem plain1 (w : World) (fr : Nat × Nat) : Calls Try.prog 16 #[.slice (some ⟨w.heap.size, 0, none⟩) 2 2] (w.alloc (.cells #[.int .u8 97, .int .u8 98] 5 fr)) fun e w' => e = .returned (.bool true) ∧ w.alloc (.cells #[.int .u8 97, .int .u8 98] 5 fr) = w' := by
  have h : Sl (w.alloc (.cells #[.int .u8 97, .int .u8 98] 5 fr)) (.slice (some ⟨w.heap.size, 0, none⟩) 2 2) [97, 98] :=
    ⟨_, _, rfl, by decide, by unfold maxLen; omega, (fun h => by cases h), oct_marked w [97, 98] fr⟩
  have := nvtPlain _ [97, 98] _ h (by decide)
  rwa [show (nlay [97, 98] == [97, 98]) = true by decide +kernel] at this
theorem cv5 {w : World} {A : Option Addr} {c : Nat} (h : Oct w A [1, 255, 255, 13, 10]) : (convert 22 9 (.slice A 5 c)).run Try.prog w = .ok (.string ⟨#[1, 255, 255, 13, 10]⟩) w := cv h
theorem cv2 {w : World} {A : Option Addr} {c : Nat} (h : Oct w A [13, 10]) : (convert 22 9 (.slice A 2 c)).run Try.prog w = .ok (.string ⟨#[13, 10]⟩) w := cv h
theorem cv1 {w : World} {A : Option Addr} {c : Nat} (h : Oct w A [13]) : (convert 22 9 (.slice A 1 c)).run Try.prog w = .ok (.string ⟨#[13]⟩) w := cv h

set_option maxHeartbeats 8000000 in
set_option maxRecDepth 100000 in
/-- linnetlaw02.awake -/
theorem awake02 (w : World) : Calls Try.prog 17 #[] w fun e w' => e = .returned (.bool true) ∧ Below w.heap.size w w' := by
  have hcc := fun W C n c => Lib.run_convert_bytes_const (P := Try.prog) W 22 5 C n c Try.underlying22 Try.underlying5
  go_enter Try.func17, Try.ntmps17
  go_wp2_with (first
    | (go_at_call 10; (with_reducible refine (read1 _).mono ?_); rintro e w1 ⟨A1, c1, rfl, ho1, hb1⟩; have HO1 := hid ho1; clear ho1)
    | (go_at_call 10; (with_reducible refine (read2 _).mono ?_); rintro e w2 ⟨A2, c2, rfl, ho2, hb2⟩; have HO2 := hid ho2; clear ho2)
    | (go_at_call 14; (with_reducible refine (lay1 _).mono ?_); rintro e w3 ⟨A3, c3, rfl, ho3, hb3⟩; have v5 := cv5 (c := c3) ho3; have v1 := cv1 (c := c2) (HO2.out.below hb3); have v2 := cv2 (c := c1) ((HO1.out.below hb2).below hb3); clear ho3)
    | (go_at_call 15; (with_reducible refine (size1 _ _ (by simp)).mono ?_); rintro e w4 ⟨rfl, rfl⟩)
    | (go_at_call 16; (with_reducible refine (plain1 _ _).mono ?_); rintro e w5 ⟨rfl, rfl⟩))
  go_ret
  exact ⟨rfl, ((hb1.trans (hb2.mono hb1.size)).trans (hb3.mono (hb1.trans (hb2.mono hb1.size)).size)).trans ((((Below.refl _ _).alloc (Nat.le_refl _) _).alloc (by simp) _).mono (((hb1.trans (hb2.mono hb1.size)).trans (hb3.mono (hb1.trans (hb2.mono hb1.size)).size)).size))⟩
end Go.Proofs.Ytgmmdnilnmoknaa
