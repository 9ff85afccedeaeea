/-
  The walk of TableStandard.
-/
import Derived.Test.YtjghmgpmaallfaaDoorTsl
import Derived.Test.YtjghmgpmaallfaaDoorDrg
import Derived.Test.YtjghmgpmaallfaaDoorNvMem
import Derived.Test.YtjghmgpmaallfaaDoorAw8
namespace Go.Proofs.YtjghmgpmaallfaaDoor
open Go.RowKit
set_option linter.unusedVariables false
set_option linter.unusedSimpArgs false

theorem wrap_rem (c n : Nat) (hc : c < 256) (hn : n = 1 + c % 30) : IntKind.i64.wrap (1 + IntKind.i64.wrap ((c : Int).tmod 30)) = (n : Int) := by
  have h1 : (c : Int).tmod 30 = ((c % 30 : Nat) : Int) := (Int.ofNat_tmod c 30).symm
  rw [h1, IntKind.wrap_i64, IntKind.wrap_i64]
  omega
theorem cnt_bound (t : Tb) : ∀ m, m ≤ 31 → cnt t m ≤ m
  | 0, _ => Nat.le_refl _
  | m + 1, h => by have := cnt_bound t m (by omega); unfold cnt; split <;> omega
theorem keep_cell5 {w w' : World} {b off : Nat} {v : Value} (h : Below w.heap.size w w') (hb : b < w.heap.size) (hc : w.cell? ⟨b, off, none⟩ = some v) : w'.cell? ⟨b, off, none⟩ = some v := (h.cell (p := ⟨b, off, none⟩) hb).trans hc
set_option maxHeartbeats 8000000 in
set_option maxRecDepth 100000 in
theorem ts_walk (v : Value) (l : List UInt8) (a b : Int) (w : World) (h : Sl w v l) (hstd : StdLies w) :
    Calls Tryd.prog 7 #[v, .int .u8 a, .int .u8 b] w fun e w' => e = .returned (.bool true) ∧ Below w.heap.size w w' := by
  have hsz := hstd.size
  have HSTD := hid hstd
  obtain ⟨A, c, rfl, hc, hm, hn, ho⟩ := h
  clear hstd hc hm hn
  have HO := hid ho
  clear ho
  go_enter Tryd.func7, Tryd.ntmps7
  go_wp2_with (first
    | (go_at_call 15; (with_reducible refine (tableStandard _ HSTD.out).mono ?_); rintro e w1 ⟨rfl, hb1⟩; have hlt1 : w1.heap.size < w1.heap.size + 1 := Nat.lt_succ_self _)
    | (go_at_call 11; (with_reducible refine (tableCheck_eq (sub_ok sub_std) _).mono ?_); rintro e w2 ⟨rfl, hb2⟩; have r2 := rowNext' hb2 (rowAt_new _ _ _ rfl)))
  have HR2 := hid r2
  have HB1 := hid hb1
  have HB2 := hid hb2
  clear r2 hb1 hb2
  go_loopw [8] (fun i wr => ∃ (k : Nat) (T : Tb), k ≤ l.length ∧ k ≤ 40 ∧ i = .int .i64 k ∧ sub T ∧ (k = 0 → T = std) ∧ rowAt wr w1.heap.size = some (.cells (tabA T) 25 (0, 0)) ∧ Below w1.heap.size w2 wr) (fun i _ => 40 - (intOf i).toNat)
  case atStart => exact ⟨0, std, by omega, by omega, rfl, sub_std, fun _ => rfl, HR2.out, Below.refl _ _⟩
  case round =>
    obtain ⟨k, T, hk, hk40, rfl, hT, hT0, hr, hb⟩ := hrel
    have HT := hid hT
    have HB := hid hb
    have HR := hid hr
    have hlt := lt_of_some hr
    clear hT hb hr
    by_cases hend : k < l.length ∧ k < 40
    · obtain ⟨e1, e2⟩ := hend
      clear hT0
      have HO1 := hid (HO.out.below HB1.out)
      obtain ⟨ad, rfl, had, hcx⟩ := HO1.out.at_ e1
      have hck1 : w1.cell? (ad.add k) = some (.int .u8 (l[k].toNat : Int)) := hcx k e1
      have hbw : Below w1.heap.size w1 wr := ((Below.refl _ _).alloc (Nat.le_refl _) _).trans ((HB2.out.mono (by simp)).trans HB.out)
      have hck : wr.cell? (ad.add k) = some (.int .u8 (l[k].toNat : Int)) := (hbw.cell (by rw [blk_add]; exact had)).trans hck1
      have hadr : (ad.add k).block < wr.heap.size := by rw [blk_add]; have := hbw.size; omega
      have HBW := hid hbw
      clear hcx hck1 hbw
      have hu : l[k].toNat < 256 := l[k].toNat_lt
      obtain ⟨c0, hc0⟩ : ∃ c0 : Nat, l[k].toNat = c0 := ⟨_, rfl⟩
      rw [hc0] at hck hu
      obtain ⟨n, hn⟩ : ∃ n : Nat, n = 1 + c0 % 30 := ⟨_, rfl⟩
      have hn1 : 1 ≤ n := by omega
      have hn2 : n < 31 := by omega
      have g1 : decide ((k : Int) < (l.length : Int)) = true := by simp; omega
      have g2 : decide ((k : Int) < 40) = true := by simp; omega
      go_wp2
      go_cut [9, 10] from 21 to 46 (fun p e wc => ∃ g, p = .pointer (some ⟨g, 0, none⟩) ∧ e = .int .i64 0 ∧ rowAt wc g = some (.cells (tabA (upd T n (0, 0))) 25 (0, 0)) ∧ wr.heap.size ≤ g ∧ Below wr.heap.size wr wc)
      case first =>
        obtain ⟨U, hU⟩ : ∃ U : List Value, tabA T = U.toArray := ⟨rows2 31 T, rfl⟩
        obtain ⟨V, hV⟩ : ∃ V : List Value, tabA (upd T n (0, 0)) = V.toArray := ⟨rows2 31 (upd T n (0, 0)), rfl⟩
        have hu25 := Tryd.underlying25
        have hiU : (Tryd.prog.info? 25).map (·.size) = some U.length := by rw [sizeTable, len_of_tab hU]
        have hiV : (Tryd.prog.info? 25).map (·.size) = some V.length := by rw [sizeTable, len_of_tab hV]
        have HN := hid (len_of_tab hV)
        have hone : ∀ x ∈ V, x.oneCell' = true := one_of_tab hV
        have he := wrap_rem c0 n hu hn
        have HC : ∀ W, Calls Tryd.prog 17 #[.agg U.toArray, .int .i64 (IntKind.i64.wrap (1 + IntKind.i64.wrap ((c0 : Int).tmod 30))), .agg #[.int .i64 0, .int .u8 0]] W fun e w' => e = .returned (.tuple #[.agg V.toArray, .int .i64 0]) ∧ Below W.heap.size W w' := by
          intro W; rw [← hU, ← hV, he]; exact with_eq (sub_with HT.out n hn1 hn2) W
        have HC := hid HC
        have q : ∀ x : Good wr, x.u.rangeAt w1.heap.size 0 U ∧ x.u.cell? (ad.add k) = some (.int .u8 (c0 : Int)) :=
          fun x => ⟨range_of_row (rowNext' x.b HR.out) hU, (x.b.cell hadr).trans hck⟩
        have HQ := hid q
        have HV := hid hV
        have HE := hid hn
        clear q hck hU hV hn hc0 he
        go_region_held3 (fun w' => w'.rangeAt w1.heap.size 0 U ∧ w'.cell? (ad.add k) = some (.int .u8 (c0 : Int)))
          (exact HQ.out ⟨_, by first | exact Below.refl _ _ | exact (Below.refl _ _).drew | exact hb9' | exact hb9'.alloc hb9'.size _ | exact ((Below.refl _ _).drew).alloc (Nat.le_refl _) _ | exact ((Below.refl _ _).alloc (Nat.le_refl _) _).drew | exact below_set hb9' (Nat.le_refl _) | exact below_set (hb9'.alloc hb9'.size _) hb9'.size⟩)
          (first | (go_at_call 17; (with_reducible refine (HC.out _).mono ?_); rintro e w9 ⟨rfl, hb9⟩; have hb9' := below9 (w3 := wr) hb9; (first | (have r9 := there_call HN hb9; have hL := hid (left_call HN HV hb9)) | (have r9 := there_new (w9 := w9) HN; have hL := hid (left_new HN HV hb9')))))
        all_goals go_wp2_with fail
        all_goals go_meet
        all_goals exact ⟨_, rfl, rfl, hL.out⟩
      case rest =>
        obtain ⟨g, rfl, rfl, rv, hg, hb4⟩ := hcut
        have r1 := rowNext' hb4 HR.out
        have hl1 := lt_of_some r1
        have hlg := lt_of_some rv
        have HB4 := hid hb4
        have hsb := HB.out.size
        clear hb4 hck hn hc0
        go_wp2
        go_roundw
        case rel => exact ⟨k + 1, upd T n (0, 0), by omega, by omega, by go_num, sub_upd HT.out n, fun h => by omega, rowAt_put _ _ _ _ hl1, below_putRow (HB.out.trans (HB4.out.mono (by omega))) _ _ _ (Nat.le_refl _)⟩
        case measure => simp [intOf]; omega
    · have HL : Hid (l.length = 0 → T = std) := hid fun h => hT0 (by omega)
      have hw2 : w1.heap.size < w2.heap.size := lt_of_some HR2.out
      have HW : Hid (Below w.heap.size w wr) := hid (((HB1.out.alloc HB1.out.size _).trans (HB2.out.mono (by have := HB1.out.size; simp; omega))).trans (HB.out.mono HB1.out.size))
      have hswr : w.heap.size ≤ wr.heap.size := HW.out.size
      clear hT0 HR2
      obtain ⟨wz, rfl⟩ : ∃ x, x = wr := ⟨_, rfl⟩
      have hgo : l.length ≤ k ∨ (k < l.length ∧ 40 ≤ k) := by omega
      rcases hgo with hgo | ⟨hgo, hgo2⟩
      · go_wp2
        go_loopw [11, 12] (fun nn i wr => ∃ f : Nat, 1 ≤ f ∧ f ≤ 31 ∧ i = .int .i64 f ∧ nn = .int .i64 (cnt T f : Nat) ∧ Below wz.heap.size wz wr) (fun nn i _ => 31 - (intOf i).toNat)
        case atStart => exact ⟨1, by omega, by omega, rfl, by rw [cnt_one]; rfl, Below.refl _ _⟩
        case round =>
          obtain ⟨f, hf1, hf31, rfl, rfl, hx⟩ := hrel
          have HX := hid hx
          have hsx := hx.size
          have rx := rowNext' hx HR.out
          have RX := hid rx
          have hlx := lt_of_some rx
          have hc25 : cnt T f ≤ f := cnt_bound T f hf31
          clear hx
          by_cases hfl : f < 31
          · obtain ⟨c1, c2, hc⟩ : ∃ c1 c2, T f = (c1, c2) := ⟨_, _, rfl⟩
            have HC := hid hc
            have k0 : wr.cell? ⟨w1.heap.size, f * 2, none⟩ = some (.int .i64 c1) := by rw [cell_of_row _ _ _ _ _ _ rx, tabA_cell0 T f hfl, hc]
            clear hc
            by_cases h0 : c1 = 0
            · subst h0
              have HS := hid (cnt_step T f hf1 (b := 0) (by rw [HC.out]; rfl))
              generalize hcn : cnt T f = cn at *
              go_wp2_with (first | (go_at_call 9; (with_reducible refine (key_none T f hf1 hfl c2 HC _).mono ?_); rintro e w5 ⟨rfl, hb5⟩; have r5 := rowNext' hb5 rx; have k5 := keep_cell5 hb5 hlx k0))
              go_roundw
              case rel => exact ⟨f + 1, by omega, by omega, by go_num, by rw [HS.out]; rfl, HX.out.trans (hb5.mono hsx)⟩
              case measure => simp [intOf]; omega
            · have hs := sub_cell HT.out f (by rw [HC.out]; exact h0)
              obtain rfl : c1 = 2 := by
                have h2 := std_two f hfl (by rw [← hs, HC.out]; exact h0)
                rw [← hs, HC.out] at h2; exact h2
              have HM := hid (sub_mean HT.out f hf1 hfl 2 c2 HC.out h0)
              have HS := hid (cnt_step T f hf1 (b := 1) (by rw [HC.out]; rfl))
              clear hs
              generalize hcn : cnt T f = cn at *
              go_wp2_with (first
                | (go_at_call 9; (with_reducible refine (key_ok T f hf1 hfl 2 c2 h0 HC HM _).mono ?_); rintro e w5 ⟨rfl, hb5⟩; have r5 := rowNext' hb5 rx; have hl5 := lt_of_some r5; have k5 := keep_cell5 hb5 hlx k0)
                | (go_at_call 13; (with_reducible refine (tableMeaning_eq HM.out _).mono ?_); rintro e w6 ⟨rfl, hb6⟩))
              go_roundw
              case rel => exact ⟨f + 1, by omega, by omega, by go_num, by rw [HS.out]; go_num, (HX.out.trans (hb5.mono hsx)).trans (hb6.mono (by have := hb5.size; omega))⟩
              case measure => simp [intOf]; omega
          · obtain rfl : f = 31 := by omega
            have hN : cnt T 31 ≤ 25 := by have := cnt_le HT.out 31; rw [cnt_std] at this; exact this
            have HC0 : Hid (l.length = 0 → cnt T 31 = 25) := hid fun h => by rw [HL.out h, cnt_std]
            generalize cnt T 31 = N at *
            obtain ⟨x, hx⟩ : ∃ x, meaning T a = x := ⟨_, rfl⟩
            obtain ⟨y, hy⟩ : ∃ y, meaning T b = y := ⟨_, rfl⟩
            have HMa := hid hx
            have HMb := hid hy
            have HXY : Hid (¬ a = b → ¬ x = 0 → ¬ x = y) := hid fun h1 h2 => by rw [← hx, ← hy]; exact sub_two a b h1 (by rw [hx]; exact h2)
            have q1 : decide ((N : Int) ≤ 25) = true := decide_eq_true (by omega)
            have HBx := hid (HW.out.trans (HX.out.mono hswr))
            clear hx hy rx hc25 hgo
            go_wp2_with fail
            refine wp_region_goodw (by kernel_rfl) (by kernel_rfl) ?_
            intro W6 hW6
            subst hW6
            have g0 := goodRow RX.out
            have c0 := fun x => lt_of_some (g0 x)
            iterate 2 (go_big_quiet_step (fail))
            go_big_quiet_step ((go_at_call 13; exact Calls.good (tableMeaning_eq HMa.out _)))
            iterate 2 (go_big_quiet_step (fail))
            go_big_quiet_step ((go_at_call 13; exact Calls.good (tableMeaning_eq HMb.out _)))
            iterate 2 (go_big_quiet_step (fail))
            refine wpQuiet_nil ?_
            rintro w6 ⟨⟨_, hb6⟩, rfl⟩
            have HB6 := hid (HBx.out.trans (hb6.mono HBx.out.size))
            clear g0 c0 hb6
            generalize l.length = L at *
            have hlen : 0 < L ∨ (L = 0 ∧ N = 25) := by
              by_cases h : L = 0
              · right; exact ⟨h, HC0.out h⟩
              · left; omega
            clear HC0
            have hxy : ((a == b) = true) ∨ ((a == b) = false ∧ (x == 0) = true) ∨ ((a == b) = false ∧ (x == 0) = false ∧ (x != y) = true) := by
              by_cases h1 : a = b
              · left; simpa using h1
              · right
                by_cases h2 : x = 0
                · left; exact ⟨by simpa using h1, by simpa using h2⟩
                · right; exact ⟨by simpa using h1, by simpa using h2, by simpa using HXY.out h1 h2⟩
            rcases hlen with l1 | ⟨rfl, rfl⟩ <;> rcases hxy with x1 | ⟨x1, x2⟩ | ⟨x1, x2, x3⟩
            all_goals go_wp2_with (first | (go_at_call 18; (with_reducible refine (awake8 _ (HSTD.out.below HB6.out hsz)).mono ?_); rintro e w7 ⟨rfl, hb7⟩))
            all_goals go_ret
            all_goals exact ⟨rfl, HB6.out.trans (hb7.mono HB6.out.size)⟩
      · go_wp2
        go_loopw [11, 12] (fun nn i wr => ∃ f : Nat, 1 ≤ f ∧ f ≤ 31 ∧ i = .int .i64 f ∧ nn = .int .i64 (cnt T f : Nat) ∧ Below wz.heap.size wz wr) (fun nn i _ => 31 - (intOf i).toNat)
        case atStart => exact ⟨1, by omega, by omega, rfl, by rw [cnt_one]; rfl, Below.refl _ _⟩
        case round =>
          obtain ⟨f, hf1, hf31, rfl, rfl, hx⟩ := hrel
          have HX := hid hx
          have hsx := hx.size
          have rx := rowNext' hx HR.out
          have RX := hid rx
          have hlx := lt_of_some rx
          have hc25 : cnt T f ≤ f := cnt_bound T f hf31
          clear hx
          by_cases hfl : f < 31
          · obtain ⟨c1, c2, hc⟩ : ∃ c1 c2, T f = (c1, c2) := ⟨_, _, rfl⟩
            have HC := hid hc
            have k0 : wr.cell? ⟨w1.heap.size, f * 2, none⟩ = some (.int .i64 c1) := by rw [cell_of_row _ _ _ _ _ _ rx, tabA_cell0 T f hfl, hc]
            clear hc
            by_cases h0 : c1 = 0
            · subst h0
              have HS := hid (cnt_step T f hf1 (b := 0) (by rw [HC.out]; rfl))
              generalize hcn : cnt T f = cn at *
              go_wp2_with (first | (go_at_call 9; (with_reducible refine (key_none T f hf1 hfl c2 HC _).mono ?_); rintro e w5 ⟨rfl, hb5⟩; have r5 := rowNext' hb5 rx; have k5 := keep_cell5 hb5 hlx k0))
              go_roundw
              case rel => exact ⟨f + 1, by omega, by omega, by go_num, by rw [HS.out]; rfl, HX.out.trans (hb5.mono hsx)⟩
              case measure => simp [intOf]; omega
            · have hs := sub_cell HT.out f (by rw [HC.out]; exact h0)
              obtain rfl : c1 = 2 := by
                have h2 := std_two f hfl (by rw [← hs, HC.out]; exact h0)
                rw [← hs, HC.out] at h2; exact h2
              have HM := hid (sub_mean HT.out f hf1 hfl 2 c2 HC.out h0)
              have HS := hid (cnt_step T f hf1 (b := 1) (by rw [HC.out]; rfl))
              clear hs
              generalize hcn : cnt T f = cn at *
              go_wp2_with (first
                | (go_at_call 9; (with_reducible refine (key_ok T f hf1 hfl 2 c2 h0 HC HM _).mono ?_); rintro e w5 ⟨rfl, hb5⟩; have r5 := rowNext' hb5 rx; have hl5 := lt_of_some r5; have k5 := keep_cell5 hb5 hlx k0)
                | (go_at_call 13; (with_reducible refine (tableMeaning_eq HM.out _).mono ?_); rintro e w6 ⟨rfl, hb6⟩))
              go_roundw
              case rel => exact ⟨f + 1, by omega, by omega, by go_num, by rw [HS.out]; go_num, (HX.out.trans (hb5.mono hsx)).trans (hb6.mono (by have := hb5.size; omega))⟩
              case measure => simp [intOf]; omega
          · obtain rfl : f = 31 := by omega
            have hN : cnt T 31 ≤ 25 := by have := cnt_le HT.out 31; rw [cnt_std] at this; exact this
            have HC0 : Hid (l.length = 0 → cnt T 31 = 25) := hid fun h => by rw [HL.out h, cnt_std]
            generalize cnt T 31 = N at *
            obtain ⟨x, hx⟩ : ∃ x, meaning T a = x := ⟨_, rfl⟩
            obtain ⟨y, hy⟩ : ∃ y, meaning T b = y := ⟨_, rfl⟩
            have HMa := hid hx
            have HMb := hid hy
            have HXY : Hid (¬ a = b → ¬ x = 0 → ¬ x = y) := hid fun h1 h2 => by rw [← hx, ← hy]; exact sub_two a b h1 (by rw [hx]; exact h2)
            have q1 : decide ((N : Int) ≤ 25) = true := decide_eq_true (by omega)
            have HBx := hid (HW.out.trans (HX.out.mono hswr))
            clear hx hy rx hc25 hgo
            go_wp2_with fail
            refine wp_region_goodw (by kernel_rfl) (by kernel_rfl) ?_
            intro W6 hW6
            subst hW6
            have g0 := goodRow RX.out
            have c0 := fun x => lt_of_some (g0 x)
            iterate 2 (go_big_quiet_step (fail))
            go_big_quiet_step ((go_at_call 13; exact Calls.good (tableMeaning_eq HMa.out _)))
            iterate 2 (go_big_quiet_step (fail))
            go_big_quiet_step ((go_at_call 13; exact Calls.good (tableMeaning_eq HMb.out _)))
            iterate 2 (go_big_quiet_step (fail))
            refine wpQuiet_nil ?_
            rintro w6 ⟨⟨_, hb6⟩, rfl⟩
            have HB6 := hid (HBx.out.trans (hb6.mono HBx.out.size))
            clear g0 c0 hb6
            generalize l.length = L at *
            have hlen : 0 < L ∨ (L = 0 ∧ N = 25) := by
              by_cases h : L = 0
              · right; exact ⟨h, HC0.out h⟩
              · left; omega
            clear HC0
            have hxy : ((a == b) = true) ∨ ((a == b) = false ∧ (x == 0) = true) ∨ ((a == b) = false ∧ (x == 0) = false ∧ (x != y) = true) := by
              by_cases h1 : a = b
              · left; simpa using h1
              · right
                by_cases h2 : x = 0
                · left; exact ⟨by simpa using h1, by simpa using h2⟩
                · right; exact ⟨by simpa using h1, by simpa using h2, by simpa using HXY.out h1 h2⟩
            rcases hlen with l1 | ⟨rfl, rfl⟩ <;> rcases hxy with x1 | ⟨x1, x2⟩ | ⟨x1, x2, x3⟩
            all_goals go_wp2_with (first | (go_at_call 18; (with_reducible refine (awake8 _ (HSTD.out.below HB6.out hsz)).mono ?_); rintro e w7 ⟨rfl, hb7⟩))
            all_goals go_ret
            all_goals exact ⟨rfl, HB6.out.trans (hb7.mono HB6.out.size)⟩
end Go.Proofs.YtjghmgpmaallfaaDoor
