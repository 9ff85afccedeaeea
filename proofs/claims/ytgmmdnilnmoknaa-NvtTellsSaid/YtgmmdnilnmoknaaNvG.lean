/-
  The contract of linnetref02.Read.
-/
import Derived.Test.YtgmmdnilnmoknaaNvF
namespace Go.Proofs.Ytgmmdnilnmoknaa
open Go.RowKit
set_option linter.unusedVariables false
set_option linter.unusedSimpArgs false

theorem rd0_nil : read [] = ([], 0) := read_nil
theorem Sl.drop {w : World} {ad : Addr} {l : List UInt8} {c k : Nat} (h : Sl w (.slice (some ad) l.length c) l) (hk : k ≤ l.length) :
    Sl w (.slice (if c = k then some ad else (some ad).map (·.add k)) (l.length - k) (c - k)) (l.drop k) := by
  obtain ⟨A, c', e, h1, h2, h3, h4⟩ := h
  cases e
  exact ⟨_, _, by rw [List.length_drop], by rw [List.length_drop]; omega, by omega, by split <;> simp, h4.drop k c hk h1⟩
theorem Sl.drop_all {w : World} {ad : Addr} {l : List UInt8} {k : Nat} (h : Sl w (.slice (some ad) l.length k) l) (hk : k ≤ l.length) : Sl w (.slice (some ad) 0 0) (l.drop k) := by
  have hc : l.length ≤ k := by obtain ⟨A, c', e, h1, h2, h3, h4⟩ := h; cases e; exact h1
  have := h.drop hk
  rwa [if_pos rfl, Nat.sub_self, Nat.sub_eq_zero_of_le hc] at this
theorem Sl.drop_some {w : World} {ad : Addr} {l : List UInt8} {c k : Nat} (h : Sl w (.slice (some ad) l.length c) l) (hk0 : 0 < k) (hk : k ≤ l.length) (hc : c ≠ k) :
    Sl w (.slice (some ⟨ad.block, ad.off + k, none⟩) (l.length - k) (c - k)) (l.drop k) := by
  have := h.drop hk
  rw [if_neg hc] at this
  simp only [Option.map_some, Addr.add, if_neg (Nat.pos_iff_ne_zero.1 hk0)] at this
  exact this
theorem own_lit (w : World) (c : UInt8) (n : Int) (h : (c.toNat : Int) = n) : (w.alloc (.cells #[.int .u8 n] 5)).ownsRow w.heap.size 5 1 (.slice (some ⟨w.heap.size, 0, none⟩) 1 1) 1 (cells [c]) := by
  subst h
  exact ⟨rfl, .inr ⟨_, 1, _, rfl, Nat.le_refl _, heap_alloc_new w _, Nat.le_refl _, by unfold maxLen; omega, rfl, rfl⟩⟩
theorem rd_len (l : List UInt8) : (read l).1.length ≤ l.length := by
  have := read_end l; omega
theorem nonil {A : Option Addr} {n c : Nat} (h : A = none → c = 0) (hc : n ≤ c) : A = none → c = 0 ∧ n = 0 := fun e => ⟨h e, by have := h e; omega⟩
/-- what the document's reader answers. -/
def RefAns (w : World) (l : List UInt8) (e : Ending) (w' : World) : Prop :=
  ∃ u t, e = .returned (.tuple #[u, t]) ∧ Sl w' u (read l).1 ∧ Sl w' t (l.drop (read l).2) ∧ Below w.heap.size w w'

theorem RefAns.nil {w : World} {l : List UInt8} {v : Value} (h : Sl w v l) (hr : read (l.drop 0) = ([], 0)) : RefAns w l (.returned (.tuple #[.slice none 0 0, v])) w := by
  rw [List.drop_zero] at hr
  exact ⟨_, _, rfl, ⟨none, 0, by rw [hr]; rfl, by simp [hr], by simp, fun _ => rfl, .inl (by rw [hr])⟩, by rw [hr]; exact h, Below.refl _ _⟩
theorem RefAns.more {w w1 w2 : World} {l : List UInt8} {k n : Nat} {x : Value} {c : UInt8} {u t : Value} (hr : read (l.drop 0) = (c :: (read (l.drop (0 + k))).1, (read (l.drop (0 + k))).2 + k))
    (hb1 : Below w.heap.size w w1) (ht : Sl w1 t ((l.drop k).drop (read (l.drop k)).2)) (hu : w2.ownsRow w1.heap.size 5 1 u n (cells ([c] ++ (read (l.drop k)).1)))
    (hb2 : Below w1.heap.size (w1.alloc (.cells #[x] 5)) w2) : RefAns w l (.returned (.tuple #[u, t])) w2 := by
  rw [List.drop_zero, Nat.zero_add] at hr
  have hb3 : Below w1.heap.size w1 w2 := ((Below.refl _ _).alloc (Nat.le_refl _) _).trans hb2
  refine ⟨_, _, rfl, ?_, ?_, hb1.trans (hb3.mono hb1.size)⟩
  · rw [hr]; exact Sl.own hu
  · rw [hr]
    have := ht.below hb3
    rwa [List.drop_drop, Nat.add_comm] at this

set_option maxHeartbeats 16000000 in
set_option maxRecDepth 100000 in
/-- linnetref02.Read -/
theorem refRead : ∀ (n : Nat) (l : List UInt8), l.length ≤ n → n ≤ 4096 → ∀ (v : Value) (w : World), Sl w v l → Calls Try.prog 11 #[v] w (RefAns w l) := by
  intro n
  induction n with
  | zero =>
    intro l hl _ v w h
    obtain rfl : l = [] := List.eq_nil_of_length_eq_zero (by omega)
    have H := hid h
    obtain ⟨A, c, rfl, hc, hm, hn, ho⟩ := h
    clear hc hm hn ho
    try clear c255
    try clear c13
    try clear d255
    try clear d10
    try clear d0
    go_enter Try.func11, Try.ntmps11
    go_wp2
    go_ret2
    exact RefAns.nil H.out read_nil
  | succ n ih =>
    intro l hl hb v w h
    have H := hid h
    obtain ⟨A, c, rfl, hc, hm, hn, ho⟩ := h
    have IH := hid ih
    clear ih
    obtain ⟨i0, hi, hz, hs, hy⟩ := info_parts info5
    have HI := hid (And.intro hi (And.intro hz (And.intro hs hy)))
    clear hi hz hs hy
    by_cases h0 : 0 < l.length
    · obtain ⟨ad, rfl, had, hcx⟩ := ho.at_ h0
      clear ho hn hm
      have hck : w.cell? ad = some (.int .u8 (l[0].toNat : Int)) := by
        have := hcx 0 h0
        simpa [Addr.add, Go.Proofs.Ytgmmdnilnmoknaa.u8] using this
      have hu : (l[0].toNat : Int) < 256 := u8_lt _
      have hz0 : ((l.length : Int) == 0) = false := beq_eq_false_iff_ne.2 (by omega)
      by_cases hnx : 1 < l.length
      · have hdk : w.cell? ⟨ad.block, ad.off + 1, none⟩ = some (.int .u8 (l[1].toNat : Int)) := by
          have := hcx 1 hnx
          simpa [Addr.add, Go.Proofs.Ytgmmdnilnmoknaa.u8] using this
        have hu' : (l[1].toNat : Int) < 256 := u8_lt _
        have hz1 : ((l.length : Int) == 1) = false := beq_eq_false_iff_ne.2 (by omega)
        have hg1 : decide (1 < (l.length : Int)) = true := by simp; omega
        clear hcx
        by_cases c255 : l[0] = 255
        · have q1 : (l[0].toNat : Int) = 255 := by rw [c255]; rfl
          by_cases d255 : l[1] = 255
          · have q2 : (l[1].toNat : Int) = 255 := by rw [d255]; rfl
            have HR := hid (rd_pair (k := 0) hnx (.inl ⟨c255, d255⟩))
            by_cases hck2 : c = 2
            · subst hck2
              have HS := hid (H.out.drop_all (by omega : 2 ≤ l.length))
              have HC0 := hid (IH.out (l.drop 2) (by rw [List.length_drop]; omega) (by omega) _ _ HS.out)
              obtain ⟨l1, E1⟩ : ∃ l1, l1 = l.drop 2 := ⟨_, rfl⟩
              rw [← E1] at HC0
              have HC := hid HC0.out
              have HE := hid E1
              clear E1 HC0 HS
              try clear c255
              try clear c13
              try clear d255
              try clear d10
              try clear d0
              go_enter Try.func11, Try.ntmps11
              go_wp2_with (first | (go_at_call 11; (with_reducible refine HC.out.mono ?_); rintro e w1 ⟨u, t, rfl, hu1, ht1, hb1⟩; obtain ⟨A1, c1, rfl, hc1, hm1, hn1, ho1⟩ := hu1; have hk1 := (hb1.cell had).trans hck; have HT := hid ht1; have HO1 := hid ho1; have HN1 := hid hn1; have hrl := rd_len l1; have hrd : l1.length ≤ l.length := (by rw [HE.out]; simp); clear ht1 ho1 hn1 hm1) | (at_builtin; refine wpl_app (X := A1) (m := (read l1).1.length) (c := c1) (news := (read l1).1) (l := [l[0]]) (n := 1) (base := w1.heap.size) rfl (.tmp 65) (.tmp 66) 22 5 rfl Try.underlying22 HI.out.1 HI.out.2.1 HI.out.2.2.1 HI.out.2.2.2 rfl (own_lit w1 l[0] 255 q1) rfl rfl (nonil HN1.out hc1) (HO1.out.below ((Below.refl _ _).alloc (Nat.le_refl _) _)) (by omega) (by simp) ?_; intro v' w' hown' hbel'; have HW := hid hown'; clear hown'))
              go_ret2
              have e1 := HE.out
              subst e1
              exact RefAns.more HR.out hb1 HT.out HW.out hbel'
            · have hck3 : ¬ c = 2 := hck2
              have HS := hid (H.out.drop_some (k := 2) (by omega) (by omega) hck2)
              have HC0 := hid (IH.out (l.drop 2) (by rw [List.length_drop]; omega) (by omega) _ _ HS.out)
              obtain ⟨l1, E1⟩ : ∃ l1, l1 = l.drop 2 := ⟨_, rfl⟩
              rw [← E1] at HC0
              have HC := hid HC0.out
              have HE := hid E1
              clear E1 HC0 HS
              try clear c255
              try clear c13
              try clear d255
              try clear d10
              try clear d0
              go_enter Try.func11, Try.ntmps11
              go_wp2_with (first | (go_at_call 11; (with_reducible refine HC.out.mono ?_); rintro e w1 ⟨u, t, rfl, hu1, ht1, hb1⟩; obtain ⟨A1, c1, rfl, hc1, hm1, hn1, ho1⟩ := hu1; have hk1 := (hb1.cell had).trans hck; have HT := hid ht1; have HO1 := hid ho1; have HN1 := hid hn1; have hrl := rd_len l1; have hrd : l1.length ≤ l.length := (by rw [HE.out]; simp); clear ht1 ho1 hn1 hm1) | (at_builtin; refine wpl_app (X := A1) (m := (read l1).1.length) (c := c1) (news := (read l1).1) (l := [l[0]]) (n := 1) (base := w1.heap.size) rfl (.tmp 65) (.tmp 66) 22 5 rfl Try.underlying22 HI.out.1 HI.out.2.1 HI.out.2.2.1 HI.out.2.2.2 rfl (own_lit w1 l[0] 255 q1) rfl rfl (nonil HN1.out hc1) (HO1.out.below ((Below.refl _ _).alloc (Nat.le_refl _) _)) (by omega) (by simp) ?_; intro v' w' hown' hbel'; have HW := hid hown'; clear hown'))
              go_ret2
              have e1 := HE.out
              subst e1
              exact RefAns.more HR.out hb1 HT.out HW.out hbel'
          · have q2 : ¬ (l[1].toNat : Int) = 255 := toInt_ne.2 d255
            have HR := hid (rd_stop (k := 0) h0 c255 fun _ => d255)
            try clear c255
            try clear c13
            try clear d255
            try clear d10
            try clear d0
            go_enter Try.func11, Try.ntmps11
            go_wp2
            go_ret2
            exact RefAns.nil H.out HR.out
        · have q1 : ¬ (l[0].toNat : Int) = 255 := toInt_ne.2 c255
          by_cases c13 : l[0] = 13
          · have q3 : (l[0].toNat : Int) = 13 := by rw [c13]; rfl
            by_cases d10 : l[1] = 10
            · have q2 : (l[1].toNat : Int) = 10 := by rw [d10]; rfl
              have HR := hid (rd_pair (k := 0) hnx (.inr ⟨c13, .inl d10⟩))
              by_cases hck2 : c = 2
              · subst hck2
                have HS := hid (H.out.drop_all (by omega : 2 ≤ l.length))
                have HC0 := hid (IH.out (l.drop 2) (by rw [List.length_drop]; omega) (by omega) _ _ HS.out)
                obtain ⟨l1, E1⟩ : ∃ l1, l1 = l.drop 2 := ⟨_, rfl⟩
                rw [← E1] at HC0
                have HC := hid HC0.out
                have HE := hid E1
                clear E1 HC0 HS
                try clear c255
                try clear c13
                try clear d255
                try clear d10
                try clear d0
                go_enter Try.func11, Try.ntmps11
                go_wp2_with (first | (go_at_call 11; (with_reducible refine HC.out.mono ?_); rintro e w1 ⟨u, t, rfl, hu1, ht1, hb1⟩; obtain ⟨A1, c1, rfl, hc1, hm1, hn1, ho1⟩ := hu1; have hk1 := (hb1.cell had).trans hck; have HT := hid ht1; have HO1 := hid ho1; have HN1 := hid hn1; have hrl := rd_len l1; have hrd : l1.length ≤ l.length := (by rw [HE.out]; simp); clear ht1 ho1 hn1 hm1) | (at_builtin; refine wpl_app (X := A1) (m := (read l1).1.length) (c := c1) (news := (read l1).1) (l := [l[0]]) (n := 1) (base := w1.heap.size) rfl (.tmp 65) (.tmp 66) 22 5 rfl Try.underlying22 HI.out.1 HI.out.2.1 HI.out.2.2.1 HI.out.2.2.2 rfl (own_lit w1 l[0] 13 q3) rfl rfl (nonil HN1.out hc1) (HO1.out.below ((Below.refl _ _).alloc (Nat.le_refl _) _)) (by omega) (by simp) ?_; intro v' w' hown' hbel'; have HW := hid hown'; clear hown'))
                go_ret2
                have e1 := HE.out
                subst e1
                exact RefAns.more HR.out hb1 HT.out HW.out hbel'
              · have hck3 : ¬ c = 2 := hck2
                have HS := hid (H.out.drop_some (k := 2) (by omega) (by omega) hck2)
                have HC0 := hid (IH.out (l.drop 2) (by rw [List.length_drop]; omega) (by omega) _ _ HS.out)
                obtain ⟨l1, E1⟩ : ∃ l1, l1 = l.drop 2 := ⟨_, rfl⟩
                rw [← E1] at HC0
                have HC := hid HC0.out
                have HE := hid E1
                clear E1 HC0 HS
                try clear c255
                try clear c13
                try clear d255
                try clear d10
                try clear d0
                go_enter Try.func11, Try.ntmps11
                go_wp2_with (first | (go_at_call 11; (with_reducible refine HC.out.mono ?_); rintro e w1 ⟨u, t, rfl, hu1, ht1, hb1⟩; obtain ⟨A1, c1, rfl, hc1, hm1, hn1, ho1⟩ := hu1; have hk1 := (hb1.cell had).trans hck; have HT := hid ht1; have HO1 := hid ho1; have HN1 := hid hn1; have hrl := rd_len l1; have hrd : l1.length ≤ l.length := (by rw [HE.out]; simp); clear ht1 ho1 hn1 hm1) | (at_builtin; refine wpl_app (X := A1) (m := (read l1).1.length) (c := c1) (news := (read l1).1) (l := [l[0]]) (n := 1) (base := w1.heap.size) rfl (.tmp 65) (.tmp 66) 22 5 rfl Try.underlying22 HI.out.1 HI.out.2.1 HI.out.2.2.1 HI.out.2.2.2 rfl (own_lit w1 l[0] 13 q3) rfl rfl (nonil HN1.out hc1) (HO1.out.below ((Below.refl _ _).alloc (Nat.le_refl _) _)) (by omega) (by simp) ?_; intro v' w' hown' hbel'; have HW := hid hown'; clear hown'))
                go_ret2
                have e1 := HE.out
                subst e1
                exact RefAns.more HR.out hb1 HT.out HW.out hbel'
            · have q2 : ¬ (l[1].toNat : Int) = 10 := toInt_ne.2 d10
              by_cases d0 : l[1] = 0
              · have q4 : (l[1].toNat : Int) = 0 := by rw [d0]; rfl
                have HR := hid (rd_pair (k := 0) hnx (.inr ⟨c13, .inr d0⟩))
                by_cases hck2 : c = 2
                · subst hck2
                  have HS := hid (H.out.drop_all (by omega : 2 ≤ l.length))
                  have HC0 := hid (IH.out (l.drop 2) (by rw [List.length_drop]; omega) (by omega) _ _ HS.out)
                  obtain ⟨l1, E1⟩ : ∃ l1, l1 = l.drop 2 := ⟨_, rfl⟩
                  rw [← E1] at HC0
                  have HC := hid HC0.out
                  have HE := hid E1
                  clear E1 HC0 HS
                  try clear c255
                  try clear c13
                  try clear d255
                  try clear d10
                  try clear d0
                  go_enter Try.func11, Try.ntmps11
                  go_wp2_with (first | (go_at_call 11; (with_reducible refine HC.out.mono ?_); rintro e w1 ⟨u, t, rfl, hu1, ht1, hb1⟩; obtain ⟨A1, c1, rfl, hc1, hm1, hn1, ho1⟩ := hu1; have hk1 := (hb1.cell had).trans hck; have HT := hid ht1; have HO1 := hid ho1; have HN1 := hid hn1; have hrl := rd_len l1; have hrd : l1.length ≤ l.length := (by rw [HE.out]; simp); clear ht1 ho1 hn1 hm1) | (at_builtin; refine wpl_app (X := A1) (m := (read l1).1.length) (c := c1) (news := (read l1).1) (l := [l[0]]) (n := 1) (base := w1.heap.size) rfl (.tmp 65) (.tmp 66) 22 5 rfl Try.underlying22 HI.out.1 HI.out.2.1 HI.out.2.2.1 HI.out.2.2.2 rfl (own_lit w1 l[0] 13 q3) rfl rfl (nonil HN1.out hc1) (HO1.out.below ((Below.refl _ _).alloc (Nat.le_refl _) _)) (by omega) (by simp) ?_; intro v' w' hown' hbel'; have HW := hid hown'; clear hown'))
                  go_ret2
                  have e1 := HE.out
                  subst e1
                  exact RefAns.more HR.out hb1 HT.out HW.out hbel'
                · have hck3 : ¬ c = 2 := hck2
                  have HS := hid (H.out.drop_some (k := 2) (by omega) (by omega) hck2)
                  have HC0 := hid (IH.out (l.drop 2) (by rw [List.length_drop]; omega) (by omega) _ _ HS.out)
                  obtain ⟨l1, E1⟩ : ∃ l1, l1 = l.drop 2 := ⟨_, rfl⟩
                  rw [← E1] at HC0
                  have HC := hid HC0.out
                  have HE := hid E1
                  clear E1 HC0 HS
                  try clear c255
                  try clear c13
                  try clear d255
                  try clear d10
                  try clear d0
                  go_enter Try.func11, Try.ntmps11
                  go_wp2_with (first | (go_at_call 11; (with_reducible refine HC.out.mono ?_); rintro e w1 ⟨u, t, rfl, hu1, ht1, hb1⟩; obtain ⟨A1, c1, rfl, hc1, hm1, hn1, ho1⟩ := hu1; have hk1 := (hb1.cell had).trans hck; have HT := hid ht1; have HO1 := hid ho1; have HN1 := hid hn1; have hrl := rd_len l1; have hrd : l1.length ≤ l.length := (by rw [HE.out]; simp); clear ht1 ho1 hn1 hm1) | (at_builtin; refine wpl_app (X := A1) (m := (read l1).1.length) (c := c1) (news := (read l1).1) (l := [l[0]]) (n := 1) (base := w1.heap.size) rfl (.tmp 65) (.tmp 66) 22 5 rfl Try.underlying22 HI.out.1 HI.out.2.1 HI.out.2.2.1 HI.out.2.2.2 rfl (own_lit w1 l[0] 13 q3) rfl rfl (nonil HN1.out hc1) (HO1.out.below ((Below.refl _ _).alloc (Nat.le_refl _) _)) (by omega) (by simp) ?_; intro v' w' hown' hbel'; have HW := hid hown'; clear hown'))
                  go_ret2
                  have e1 := HE.out
                  subst e1
                  exact RefAns.more HR.out hb1 HT.out HW.out hbel'
              · have q4 : ¬ (l[1].toNat : Int) = 0 := toInt_ne.2 d0
                have q5 : ((l[1].toNat : Int) == 0) = false := beq_eq_false_iff_ne.2 q4
                have q6 : ¬ l[1].toNat = 0 := by omega
                have HR := hid (rd_one (k := 0) h0 c255 fun _ _ => ⟨d10, d0⟩)
                have hck2 : c ≠ 1 := by omega
                have hck3 : ¬ c = 1 := hck2
                have HS := hid (H.out.drop_some (k := 1) (by omega) (by omega) hck2)
                have HC0 := hid (IH.out (l.drop 1) (by rw [List.length_drop]; omega) (by omega) _ _ HS.out)
                obtain ⟨l1, E1⟩ : ∃ l1, l1 = l.drop 1 := ⟨_, rfl⟩
                rw [← E1] at HC0
                have HC := hid HC0.out
                have HE := hid E1
                clear E1 HC0 HS
                try clear c255
                try clear c13
                try clear d255
                try clear d10
                try clear d0
                go_enter Try.func11, Try.ntmps11
                go_wp2_with (first | (go_at_call 11; (with_reducible refine HC.out.mono ?_); rintro e w1 ⟨u, t, rfl, hu1, ht1, hb1⟩; obtain ⟨A1, c1, rfl, hc1, hm1, hn1, ho1⟩ := hu1; have hk1 := (hb1.cell had).trans hck; have HT := hid ht1; have HO1 := hid ho1; have HN1 := hid hn1; have hrl := rd_len l1; have hrd : l1.length ≤ l.length := (by rw [HE.out]; simp); clear ht1 ho1 hn1 hm1) | (at_builtin; refine wpl_app (X := A1) (m := (read l1).1.length) (c := c1) (news := (read l1).1) (l := [l[0]]) (n := 1) (base := w1.heap.size) rfl (.tmp 65) (.tmp 66) 22 5 rfl Try.underlying22 HI.out.1 HI.out.2.1 HI.out.2.2.1 HI.out.2.2.2 rfl (own_lit w1 l[0] 13 q3) rfl rfl (nonil HN1.out hc1) (HO1.out.below ((Below.refl _ _).alloc (Nat.le_refl _) _)) (by omega) (by simp) ?_; intro v' w' hown' hbel'; have HW := hid hown'; clear hown'))
                go_ret2
                have e1 := HE.out
                subst e1
                exact RefAns.more HR.out hb1 HT.out HW.out hbel'
          · have q3 : ¬ (l[0].toNat : Int) = 13 := toInt_ne.2 c13
            have HR := hid (rd_one (k := 0) h0 c255 fun h => absurd h c13)
            have hck2 : c ≠ 1 := by omega
            have hck3 : ¬ c = 1 := hck2
            have HS := hid (H.out.drop_some (k := 1) (by omega) (by omega) hck2)
            have HC0 := hid (IH.out (l.drop 1) (by rw [List.length_drop]; omega) (by omega) _ _ HS.out)
            obtain ⟨l1, E1⟩ : ∃ l1, l1 = l.drop 1 := ⟨_, rfl⟩
            rw [← E1] at HC0
            have HC := hid HC0.out
            have HE := hid E1
            clear E1 HC0 HS
            try clear c255
            try clear c13
            try clear d255
            try clear d10
            try clear d0
            go_enter Try.func11, Try.ntmps11
            go_wp2_with (first | (go_at_call 11; (with_reducible refine HC.out.mono ?_); rintro e w1 ⟨u, t, rfl, hu1, ht1, hb1⟩; obtain ⟨A1, c1, rfl, hc1, hm1, hn1, ho1⟩ := hu1; have hk1 := (hb1.cell had).trans hck; have HT := hid ht1; have HO1 := hid ho1; have HN1 := hid hn1; have hrl := rd_len l1; have hrd : l1.length ≤ l.length := (by rw [HE.out]; simp); clear ht1 ho1 hn1 hm1) | (at_builtin; refine wpl_app (X := A1) (m := (read l1).1.length) (c := c1) (news := (read l1).1) (l := [l[0]]) (n := 1) (base := w1.heap.size) rfl (.tmp 65) (.tmp 66) 22 5 rfl Try.underlying22 HI.out.1 HI.out.2.1 HI.out.2.2.1 HI.out.2.2.2 rfl (own_lit w1 l[0] (l[0].toNat : Int) rfl) rfl rfl (nonil HN1.out hc1) (HO1.out.below ((Below.refl _ _).alloc (Nat.le_refl _) _)) (by omega) (by simp) ?_; intro v' w' hown' hbel'; have HW := hid hown'; clear hown'))
            go_ret2
            have e1 := HE.out
            subst e1
            exact RefAns.more HR.out hb1 HT.out HW.out hbel'
      · have hz1 : ((l.length : Int) == 1) = true := beq_iff_eq.2 (by omega)
        have hg1 : decide (1 < (l.length : Int)) = false := by simp; omega
        clear hcx
        by_cases c255 : l[0] = 255
        · have q1 : (l[0].toNat : Int) = 255 := by rw [c255]; rfl
          have HR := hid (rd_stop (k := 0) h0 c255 fun h => absurd h hnx)
          try clear c255
          try clear c13
          try clear d255
          try clear d10
          try clear d0
          go_enter Try.func11, Try.ntmps11
          go_wp2
          go_ret2
          exact RefAns.nil H.out HR.out
        · have q1 : ¬ (l[0].toNat : Int) = 255 := toInt_ne.2 c255
          have HR := hid (rd_one (k := 0) h0 c255 fun _ h => absurd h hnx)
          by_cases c13 : l[0] = 13
          · have q3 : (l[0].toNat : Int) = 13 := by rw [c13]; rfl
            by_cases hck2 : c = 1
            · subst hck2
              have HS := hid (H.out.drop_all (by omega : 1 ≤ l.length))
              have HC0 := hid (IH.out (l.drop 1) (by rw [List.length_drop]; omega) (by omega) _ _ HS.out)
              obtain ⟨l1, E1⟩ : ∃ l1, l1 = l.drop 1 := ⟨_, rfl⟩
              rw [← E1] at HC0
              have HC := hid HC0.out
              have HE := hid E1
              clear E1 HC0 HS
              try clear c255
              try clear c13
              try clear d255
              try clear d10
              try clear d0
              go_enter Try.func11, Try.ntmps11
              go_wp2_with (first | (go_at_call 11; (with_reducible refine HC.out.mono ?_); rintro e w1 ⟨u, t, rfl, hu1, ht1, hb1⟩; obtain ⟨A1, c1, rfl, hc1, hm1, hn1, ho1⟩ := hu1; have hk1 := (hb1.cell had).trans hck; have HT := hid ht1; have HO1 := hid ho1; have HN1 := hid hn1; have hrl := rd_len l1; have hrd : l1.length ≤ l.length := (by rw [HE.out]; simp); clear ht1 ho1 hn1 hm1) | (at_builtin; refine wpl_app (X := A1) (m := (read l1).1.length) (c := c1) (news := (read l1).1) (l := [l[0]]) (n := 1) (base := w1.heap.size) rfl (.tmp 65) (.tmp 66) 22 5 rfl Try.underlying22 HI.out.1 HI.out.2.1 HI.out.2.2.1 HI.out.2.2.2 rfl (own_lit w1 l[0] 13 q3) rfl rfl (nonil HN1.out hc1) (HO1.out.below ((Below.refl _ _).alloc (Nat.le_refl _) _)) (by omega) (by simp) ?_; intro v' w' hown' hbel'; have HW := hid hown'; clear hown'))
              go_ret2
              have e1 := HE.out
              subst e1
              exact RefAns.more HR.out hb1 HT.out HW.out hbel'
            · have hck3 : ¬ c = 1 := hck2
              have HS := hid (H.out.drop_some (k := 1) (by omega) (by omega) hck2)
              have HC0 := hid (IH.out (l.drop 1) (by rw [List.length_drop]; omega) (by omega) _ _ HS.out)
              obtain ⟨l1, E1⟩ : ∃ l1, l1 = l.drop 1 := ⟨_, rfl⟩
              rw [← E1] at HC0
              have HC := hid HC0.out
              have HE := hid E1
              clear E1 HC0 HS
              try clear c255
              try clear c13
              try clear d255
              try clear d10
              try clear d0
              go_enter Try.func11, Try.ntmps11
              go_wp2_with (first | (go_at_call 11; (with_reducible refine HC.out.mono ?_); rintro e w1 ⟨u, t, rfl, hu1, ht1, hb1⟩; obtain ⟨A1, c1, rfl, hc1, hm1, hn1, ho1⟩ := hu1; have hk1 := (hb1.cell had).trans hck; have HT := hid ht1; have HO1 := hid ho1; have HN1 := hid hn1; have hrl := rd_len l1; have hrd : l1.length ≤ l.length := (by rw [HE.out]; simp); clear ht1 ho1 hn1 hm1) | (at_builtin; refine wpl_app (X := A1) (m := (read l1).1.length) (c := c1) (news := (read l1).1) (l := [l[0]]) (n := 1) (base := w1.heap.size) rfl (.tmp 65) (.tmp 66) 22 5 rfl Try.underlying22 HI.out.1 HI.out.2.1 HI.out.2.2.1 HI.out.2.2.2 rfl (own_lit w1 l[0] 13 q3) rfl rfl (nonil HN1.out hc1) (HO1.out.below ((Below.refl _ _).alloc (Nat.le_refl _) _)) (by omega) (by simp) ?_; intro v' w' hown' hbel'; have HW := hid hown'; clear hown'))
              go_ret2
              have e1 := HE.out
              subst e1
              exact RefAns.more HR.out hb1 HT.out HW.out hbel'
          · have q3 : ¬ (l[0].toNat : Int) = 13 := toInt_ne.2 c13
            by_cases hck2 : c = 1
            · subst hck2
              have HS := hid (H.out.drop_all (by omega : 1 ≤ l.length))
              have HC0 := hid (IH.out (l.drop 1) (by rw [List.length_drop]; omega) (by omega) _ _ HS.out)
              obtain ⟨l1, E1⟩ : ∃ l1, l1 = l.drop 1 := ⟨_, rfl⟩
              rw [← E1] at HC0
              have HC := hid HC0.out
              have HE := hid E1
              clear E1 HC0 HS
              try clear c255
              try clear c13
              try clear d255
              try clear d10
              try clear d0
              go_enter Try.func11, Try.ntmps11
              go_wp2_with (first | (go_at_call 11; (with_reducible refine HC.out.mono ?_); rintro e w1 ⟨u, t, rfl, hu1, ht1, hb1⟩; obtain ⟨A1, c1, rfl, hc1, hm1, hn1, ho1⟩ := hu1; have hk1 := (hb1.cell had).trans hck; have HT := hid ht1; have HO1 := hid ho1; have HN1 := hid hn1; have hrl := rd_len l1; have hrd : l1.length ≤ l.length := (by rw [HE.out]; simp); clear ht1 ho1 hn1 hm1) | (at_builtin; refine wpl_app (X := A1) (m := (read l1).1.length) (c := c1) (news := (read l1).1) (l := [l[0]]) (n := 1) (base := w1.heap.size) rfl (.tmp 65) (.tmp 66) 22 5 rfl Try.underlying22 HI.out.1 HI.out.2.1 HI.out.2.2.1 HI.out.2.2.2 rfl (own_lit w1 l[0] (l[0].toNat : Int) rfl) rfl rfl (nonil HN1.out hc1) (HO1.out.below ((Below.refl _ _).alloc (Nat.le_refl _) _)) (by omega) (by simp) ?_; intro v' w' hown' hbel'; have HW := hid hown'; clear hown'))
              go_ret2
              have e1 := HE.out
              subst e1
              exact RefAns.more HR.out hb1 HT.out HW.out hbel'
            · have hck3 : ¬ c = 1 := hck2
              have HS := hid (H.out.drop_some (k := 1) (by omega) (by omega) hck2)
              have HC0 := hid (IH.out (l.drop 1) (by rw [List.length_drop]; omega) (by omega) _ _ HS.out)
              obtain ⟨l1, E1⟩ : ∃ l1, l1 = l.drop 1 := ⟨_, rfl⟩
              rw [← E1] at HC0
              have HC := hid HC0.out
              have HE := hid E1
              clear E1 HC0 HS
              try clear c255
              try clear c13
              try clear d255
              try clear d10
              try clear d0
              go_enter Try.func11, Try.ntmps11
              go_wp2_with (first | (go_at_call 11; (with_reducible refine HC.out.mono ?_); rintro e w1 ⟨u, t, rfl, hu1, ht1, hb1⟩; obtain ⟨A1, c1, rfl, hc1, hm1, hn1, ho1⟩ := hu1; have hk1 := (hb1.cell had).trans hck; have HT := hid ht1; have HO1 := hid ho1; have HN1 := hid hn1; have hrl := rd_len l1; have hrd : l1.length ≤ l.length := (by rw [HE.out]; simp); clear ht1 ho1 hn1 hm1) | (at_builtin; refine wpl_app (X := A1) (m := (read l1).1.length) (c := c1) (news := (read l1).1) (l := [l[0]]) (n := 1) (base := w1.heap.size) rfl (.tmp 65) (.tmp 66) 22 5 rfl Try.underlying22 HI.out.1 HI.out.2.1 HI.out.2.2.1 HI.out.2.2.2 rfl (own_lit w1 l[0] (l[0].toNat : Int) rfl) rfl rfl (nonil HN1.out hc1) (HO1.out.below ((Below.refl _ _).alloc (Nat.le_refl _) _)) (by omega) (by simp) ?_; intro v' w' hown' hbel'; have HW := hid hown'; clear hown'))
              go_ret2
              have e1 := HE.out
              subst e1
              exact RefAns.more HR.out hb1 HT.out HW.out hbel'
    · obtain rfl : l = [] := List.eq_nil_of_length_eq_zero (by omega)
      clear hc hm hn ho
      try clear c255
      try clear c13
      try clear d255
      try clear d10
      try clear d0
      go_enter Try.func11, Try.ntmps11
      go_wp2
      go_ret2
      exact RefAns.nil H.out read_nil
end Go.Proofs.Ytgmmdnilnmoknaa
