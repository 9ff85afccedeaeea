/-
  The walk of ExchangeMeets.
-/
import Derived.Test.YtjghmgpmaallfaaMga
import Derived.Test.YtjghmgpmaallfaaMgb
import Derived.Test.YtjghmgpmaallfaaMaa
import Derived.Test.YtjghmgpmaallfaaMab
import Derived.Deep.QuietTactic
import Derived.BigQuiet
import Derived.Deep.CutRange
import Derived.Deep.RegionHeld3
import Derived.BigRegion
namespace Go.Proofs.Ytjghmgpmaallfaa
open Go.RowKit
set_option linter.unusedVariables false
set_option linter.unusedSimpArgs false

attribute [local go_sem ↓] nameAppend eqZeroW'
set_option maxHeartbeats 40000000 in
set_option maxRecDepth 100000 in
theorem meets_ok (p0 p1 : Tb) (sv : Value) (w : World) (H0 : Hid (tabErr p0 = 0)) (H1 : Hid (tabErr p1 = 0)) (n : Nat) (hn : n ≤ 140737488355328) (HA : Hid (Acts w sv n)) (HK0 : Hid (∀ i, i < 31 → 0 ≤ (p0 i).2 ∧ (p0 i).2 ≤ 255)) (HK1 : Hid (∀ i, i < 31 → 0 ≤ (p1 i).2 ∧ (p1 i).2 ≤ 255)) :
    Calls Try.prog 13 #[.agg (prA p0 p1 sv)] w fun e w' => e = .returned (.bool true) ∧ Below w.heap.size w w' := by
  go_enter Try.func13, Try.ntmps13
  go_wp2_with fail
  have s0 : rowAt (((w.alloc (.cells (prA p0 p1 sv) 79)).alloc (.cells (xsA zeroT zeroT zeroW zeroW) 80)).alloc (.cells #[.slice none 0 0, .slice none 0 0] 81)) (w.heap.size) = some (.cells (prA p0 p1 sv) 79 (0, 0)) ∧ rowAt (((w.alloc (.cells (prA p0 p1 sv) 79)).alloc (.cells (xsA zeroT zeroT zeroW zeroW) 80)).alloc (.cells #[.slice none 0 0, .slice none 0 0] 81)) (w.heap.size + 1) = some (.cells (xsA zeroT zeroT zeroW zeroW) 80 (0, 0)) ∧ rowAt (((w.alloc (.cells (prA p0 p1 sv) 79)).alloc (.cells (xsA zeroT zeroT zeroW zeroW) 80)).alloc (.cells #[.slice none 0 0, .slice none 0 0] 81)) (w.heap.size + 1 + 1) = some (.cells #[.slice none 0 0, .slice none 0 0] 81 (0, 0)) := ⟨by rw [rowAt_old _ _ _ (by simp <;> omega), rowAt_old _ _ _ (by simp), rowAt_new _ _ _ rfl], by rw [rowAt_old _ _ _ (by simp), rowAt_new _ _ _ (by simp)], rowAt_new _ _ _ (by simp)⟩
  have HBA : Hid (Below w.heap.size w (((w.alloc (.cells (prA p0 p1 sv) 79)).alloc (.cells (xsA zeroT zeroT zeroW zeroW) 80)).alloc (.cells #[.slice none 0 0, .slice none 0 0] 81))) := hid ((((Below.refl _ _).alloc (Nat.le_refl _) _).alloc (by simp) _).alloc (by simp; omega) _)
  have hsz : (((w.alloc (.cells (prA p0 p1 sv) 79)).alloc (.cells (xsA zeroT zeroT zeroW zeroW) 80)).alloc (.cells #[.slice none 0 0, .slice none 0 0] 81)).heap.size = w.heap.size + 1 + 1 + 1 := by simp
  generalize (((w.alloc (.cells (prA p0 p1 sv) 79)).alloc (.cells (xsA zeroT zeroT zeroW zeroW) 80)).alloc (.cells #[.slice none 0 0, .slice none 0 0] 81)) = wA at *
  have S0 := hid s0
  clear s0
  go_loopw [5] (fun i' wr => ∃ k : Nat, i' = .int .i64 k ∧ ((k = 0 ∧ rowAt wr (w.heap.size) = some (.cells (prA p0 p1 sv) 79 (0, 0)) ∧ rowAt wr (w.heap.size + 1) = some (.cells (xsA zeroT zeroT zeroW zeroW) 80 (0, 0)) ∧ rowAt wr (w.heap.size + 1 + 1) = some (.cells #[.slice none 0 0, .slice none 0 0] 81 (0, 0))) ∨ (k = 1 ∧ ∃ g, rowAt wr (w.heap.size) = some (.cells (prA p0 p1 sv) 79 (0, 0)) ∧ rowAt wr (w.heap.size + 1) = some (.cells (xsA p0 zeroT (onesTo 31) zeroW) 80 (0, 0)) ∧ rowAt wr (w.heap.size + 1 + 1) = some (.cells #[.slice none 0 0, .slice (some ⟨g, 0, none⟩) 30 31] 81 (0, 0)) ∧ HasQ wr (w.heap.size + 1 + 1 + 1) (.slice (some ⟨g, 0, none⟩) 30 31) (props p0)) ∨ (k = 2 ∧ ∃ g, rowAt wr (w.heap.size) = some (.cells (prA p0 p1 sv) 79 (0, 0)) ∧ rowAt wr (w.heap.size + 1) = some (.cells (xsA p0 p1 (onesTo 31) zeroW) 80 (0, 0)) ∧ rowAt wr (w.heap.size + 1 + 1) = some (.cells #[.slice none 0 0, .slice (some ⟨g, 0, none⟩) 30 31] 81 (0, 0)) ∧ HasQ wr (w.heap.size + 1 + 1 + 1) (.slice (some ⟨g, 0, none⟩) 30 31) (props p0))) ∧ w.heap.size + 1 + 1 + 1 ≤ wr.heap.size ∧ Below w.heap.size w wr) (fun i' _ => 2 - (intOf i').toNat)
  case atStart => exact ⟨0, rfl, .inl ⟨rfl, S0.out⟩, by omega, HBA.out⟩
  case round =>
    clear S0 HBA hsz
    obtain ⟨k, rfl, hst, hsz, hbr⟩ := hrel
    have HBR := hid hbr
    clear hbr
    rcases hst with ⟨rfl, rp, rx, rt⟩ | ⟨rfl, g, rp, rx, rt, hq⟩ | ⟨rfl, g, rp, rx, rt, hq⟩
    · have lx := lt_of_some rx
      have ct := cells2 rt
      go_wp2_with fail
      refine (begin_q p0 H0.out _).mono ?_
      rintro e w3 ⟨g, rfl, ⟨cur, hg1, hg2, hg3⟩, hgl, hgu, hb3⟩
      have r3p := rowNext' hb3 rp
      have r3x := rowNext' hb3 rx
      have r3t := rowNext' hb3 rt
      have HQ3 := hid (props_q (B := w.heap.size + 1 + 1 + 1) (by omega) hg1 hg2 hg3)
      have HB3 := hid (below_step HBR.out (by omega) hb3)
      have hs3 : w.heap.size + 1 + 1 + 1 ≤ w3.heap.size := by have := hb3.size; omega
      have c3x := lt_of_some r3x
      have c3t := cells2 r3t
      clear rp rx rt lx ct hb3 hg1 hg2 hg3
      go_wp2_with fail
      go_roundw
      case rel => exact ⟨1, rfl, .inr (.inl ⟨rfl, g, by rw [rowAt_old _ _ _ (by rw [setCell_size, putRow_size]; omega), rowAt_setCell _ _ _ _ _ (by omega), rowAt_putOther _ _ _ _ _ (by omega)]; exact r3p, by rw [rowAt_old _ _ _ (by rw [setCell_size, putRow_size]; omega), rowAt_setCell _ _ _ _ _ (by omega), rowAt_put _ _ _ _ c3x], by rw [rowAt_old _ _ _ (by rw [setCell_size, putRow_size]; omega)]; exact row_put3 r3t (by omega), HQ3.out.put3 (by omega) (by omega) _ _ _ _ _⟩), by rw [heap_alloc_size', setCell_size, putRow_size]; omega, (((below_putRow HB3.out _ _ _ (by omega)).setCell (p := ⟨w.heap.size + 1 + 1, 1, none⟩) (show w.heap.size ≤ w.heap.size + 1 + 1 by omega) _).alloc (by rw [setCell_size, putRow_size]; omega) _)⟩
      case measure => simp [intOf]
    · have lx := lt_of_some rx
      have ct := cells2 rt
      have HQ := hid hq
      clear hq
      go_wp2_with fail
      refine (begin_c p1 H1.out _).mono ?_
      rintro e w3 ⟨rfl, hb3⟩
      have r3p := rowNext' hb3 rp
      have r3x := rowNext' hb3 rx
      have r3t := rowNext' hb3 rt
      have HQ3 := hid (HQ.out.below hb3)
      have HB3 := hid (below_step HBR.out (by omega) hb3)
      have hs3 : w.heap.size + 1 + 1 + 1 ≤ w3.heap.size := by have := hb3.size; omega
      have c3x := lt_of_some r3x
      have c3t := cells2 r3t
      clear rp rx rt lx ct hb3
      go_wp2_with fail
      go_roundw
      case rel => exact ⟨2, rfl, .inr (.inr ⟨rfl, g, by rw [rowAt_old _ _ _ (by rw [setCell_size, putRow_size]; omega), rowAt_setCell _ _ _ _ _ (by omega), rowAt_putOther _ _ _ _ _ (by omega)]; exact r3p, by rw [rowAt_old _ _ _ (by rw [setCell_size, putRow_size]; omega), rowAt_setCell _ _ _ _ _ (by omega), rowAt_put _ _ _ _ c3x], by rw [rowAt_old _ _ _ (by rw [setCell_size, putRow_size]; omega)]; exact row_put3 r3t (by omega), HQ3.out.put3 (by omega) (by omega) _ _ _ _ _⟩), by rw [heap_alloc_size', setCell_size, putRow_size]; omega, (((below_putRow HB3.out _ _ _ (by omega)).setCell (p := ⟨w.heap.size + 1 + 1, 0, none⟩) (show w.heap.size ≤ w.heap.size + 1 + 1 by omega) _).alloc (by rw [setCell_size, putRow_size]; omega) _)⟩
      case measure => simp [intOf]
    · have ct := cells2 rt
      have HQ := hid hq
      clear hq
      go_upto_region 11 with fail
      have gt := fun x => cells2 (goodRow rt x)
      refine wp_region_goodw (by kernel_rfl) (by kernel_rfl) ?_
      intro W6 hW6
      subst hW6
      iterate 8 (go_big_quiet_step (fail))
      refine wpQuiet_nil ?_
      rintro w6 ⟨⟨_, hb6⟩, rfl⟩
      have HM : Hid (MeetAt w w6 p0 p1 sv n 30 30 0) := hid ⟨p0, p1, onesTo 31, zeroW, [], props p0, .slice none 0 0, .slice (some ⟨g, 0, none⟩) 30 31, rowNext' hb6 rp, rowNext' hb6 rx, rowNext' hb6 rt, .inl ⟨rfl, rfl⟩, HQ.out.below hb6, (fun j hj => by cases hj), Meet.begin (tabErr_ok H0.out) (tabErr_ok H1.out) HK0.out, by omega, (by have := phi_begin p0; omega), HA.out.below' HBR.out hb6, (by have := hb6.size; omega), below_step HBR.out (by omega) hb6⟩
      clear rp rx rt ct gt HQ hb6
      go_wp2_with fail
      go_loopw [9, 10, 11] (fun a' s' i' wr => ∃ A S k : Nat, a' = .int .i64 A ∧ s' = .int .i64 S ∧ i' = .int .i64 k ∧ MeetAt w wr p0 p1 sv n A S k) (fun a' s' i' _ => n + 401 - (intOf i').toNat)
      case atStart => exact ⟨30, 30, 0, rfl, rfl, rfl, HM.out⟩
      case round =>
        clear HM
        obtain ⟨A, S, k, rfl, rfl, rfl, hm⟩ := hrel
        obtain ⟨t0, t1, m0, m1, q0, q1, v0, v1, hm⟩ := hm
        have HMB := hid hm
        obtain ⟨rp, rx, rt, hq0, hq1, hdis, hmeet, hA, hphi, hacts, hsz, hbr⟩ := hm
        obtain ⟨ad, cap, hsv⟩ := hacts.form
        obtain ⟨ad0, cap0, hv0⟩ := hq0.form
        obtain ⟨ad1, cap1, hv1⟩ := hq1.form
        have HSV := hid hsv
        have HV0 := hid hv0
        have HV1 := hid hv1
        have HQ0 := hid hq0
        have HQ1 := hid hq1
        have HDIS := hid hdis
        have HMEET := hid hmeet
        have HPHI := hid hphi
        have HACTS := hid hacts
        have HBW := hid hbr
        have hl0 := phi_length q0
        have hl1 := phi_length q1
        have hq0l : q0.length ≤ 220 := by omega
        have hq1l : q1.length ≤ 220 := by omega
        have ks := cell_of_row _ _ 124 _ _ _ rp
        rw [prA_s, hsv] at ks
        have ct := cells2 rt
        rw [hv0, hv1] at ct
        have cp := lt_of_some rp
        have cx := lt_of_some rx
        have RP := hid rp
        have RT := hid rt
        have RX := hid rx
        clear hsv hv0 hv1 hq0 hq1 hdis hmeet hacts hbr hphi rp rt rx
        have hn0 : IntKind.i64.wrap ((n : Int) + 400) = (n : Int) + 400 := by rw [IntKind.wrap_i64]; omega
        have hw0 : IntKind.i64.wrap ((q0.length : Int) + (q1.length : Int)) = (q0.length : Int) + (q1.length : Int) := by rw [IntKind.wrap_i64]; omega
        have hc1 : decide ((k : Int) < (n : Int) + 400) = true := by have := HPHI.out; simp; omega
        have HMA := hid (show MeetAt w wr p0 p1 sv n A S k from ⟨t0, t1, m0, m1, q0, q1, v0, v1, HMB.out⟩)
        by_cases hgo : 0 < q0.length + q1.length ∨ (k < n ∧ k < 80)
        · go_upto_region 13 with fail
          go_cut [77] from 51 to 194 (fun c wx => c = .bool true ∧ wx = wr)
          case first =>
            clear HSV HV0 HV1 HQ0 HQ1 HDIS HMEET HACTS HBW HMA
            as_aux_lemma =>
              by_cases hkn : k < n
              · have hb2 : decide ((k : Int) < (n : Int)) = true := decide_eq_true (by omega)
                by_cases hk8 : k < 80
                · have hb3 : decide ((k : Int) < 80) = true := decide_eq_true (by omega)
                  clear hgo
                  go_wp2_with fail
                  go_meet
                  exact ⟨rfl, rfl⟩
                · have hb3 : decide ((k : Int) < 80) = false := decide_eq_false (by omega)
                  have hd4 : decide ((0 : Int) < (q0.length : Int) + (q1.length : Int)) = true := decide_eq_true (by omega)
                  clear hgo
                  go_wp2_with fail
                  go_meet
                  exact ⟨rfl, rfl⟩
              · have hb2 : decide ((k : Int) < (n : Int)) = false := decide_eq_false (by omega)
                have hd4 : decide ((0 : Int) < (q0.length : Int) + (q1.length : Int)) = true := decide_eq_true (by omega)
                clear hgo
                go_wp2_with fail
                go_meet
                exact ⟨rfl, rfl⟩
          case rest =>
            obtain ⟨hc77, hwc⟩ := hcut
            subst hc77
            obtain rfl : wr = wc := hwc.symm
            obtain ⟨R, hR⟩ : ∃ R : Bool, (R = true ∧ ¬ (k < n ∧ k < 80)) ∨ (R = false ∧ k < n ∧ k < 80) := by
              by_cases h : k < n ∧ k < 80
              · exact ⟨false, .inr ⟨rfl, h⟩⟩
              · exact ⟨true, .inl ⟨rfl, h⟩⟩
            go_upto_region 15 with fail
            go_cut [12] from 51 to 194 (fun c wx => c = .bool R ∧ wx = wr)
            case first =>
              clear HSV HV0 HV1 HQ0 HQ1 HDIS HMEET HACTS HBW HMA
              as_aux_lemma =>
                clear hgo
                rcases hR with ⟨rfl, hr⟩ | ⟨rfl, hkn, hk8⟩
                · by_cases hkn : k < n
                  · have hb2 : decide ((n : Int) ≤ (k : Int)) = false := decide_eq_false (by omega)
                    have hb3 : decide (80 ≤ (k : Int)) = true := decide_eq_true (by omega)
                    have hb2n : decide (n ≤ k) = false := decide_eq_false (by omega)
                    have hb3n : decide (80 ≤ k) = true := decide_eq_true (by omega)
                    clear hr
                    go_wp2_with fail
                    go_meet
                    exact ⟨rfl, rfl⟩
                  · have hb2 : decide ((n : Int) ≤ (k : Int)) = true := decide_eq_true (by omega)
                    have hb2n : decide (n ≤ k) = true := decide_eq_true (by omega)
                    clear hr
                    go_wp2_with fail
                    go_meet
                    exact ⟨rfl, rfl⟩
                · have hb2 : decide ((n : Int) ≤ (k : Int)) = false := decide_eq_false (by omega)
                  have hb3 : decide (80 ≤ (k : Int)) = false := decide_eq_false (by omega)
                  have hb2n : decide (n ≤ k) = false := decide_eq_false (by omega)
                  have hb3n : decide (80 ≤ k) = false := decide_eq_false (by omega)
                  go_wp2_with fail
                  go_meet
                  exact ⟨rfl, rfl⟩
            case rest =>
              obtain ⟨hc12, hwc⟩ := hcut
              subst hc12
              obtain rfl : wr = wc := hwc.symm
              go_upto_if 90 with fail
              go_cut [13] from 51 to 194 (fun c wx => ∃ e : Int, (e = 0 ∨ e = 1) ∧ c = .int .i64 e ∧ wx = wr)
              case first =>
                clear HV0 HV1 HQ0 HQ1 HDIS HMEET HBW HMA
                as_aux_lemma =>
                  clear hgo
                  rcases hR with ⟨rfl, hr⟩ | ⟨rfl, hkn, hk8⟩
                  · go_wp2_with fail
                    go_meet
                    exact ⟨0, .inl rfl, rfl, rfl⟩
                  · obtain ⟨ab, ao, capA, who, co, x, hsA, hnc, hab, hw0', hw1', hx0, hx1, cw, cc, cm⟩ := HACTS.out.nth hkn
                    obtain ⟨rfl, rfl⟩ : ad = some ⟨ab, ao, none⟩ ∧ cap = capA := by have := HSV.out.symm.trans hsA; injection this with h1 h2 h3; exact ⟨h1, h3⟩
                    have hk0 : (0 : Int) ≤ (k : Int) := by omega
                    have hkn' : (k : Int) < (n : Int) := by omega
                    clear HACTS HSV hsA
                    obtain ⟨e, he, hpar⟩ : ∃ e : Int, (e = 0 ∨ e = 1) ∧ Int.tmod who 2 = e := ⟨_, by rw [Int.tmod_eq_emod_of_nonneg hw0']; omega, rfl⟩
                    go_wp2_with fail
                    go_meet
                    exact ⟨e, he, rfl, rfl⟩
              case rest =>
                obtain ⟨e, he, hc13, hwc⟩ := hcut
                subst hc13
                obtain rfl : wr = wc := hwc.symm
                go_upto_region 19 with fail
                go_cut [109] from 51 to 194 (fun c wx => ∃ b : Bool, (b = true → R = false) ∧ c = .bool b ∧ wx = wr)
                case first =>
                  clear HV0 HV1 HQ0 HQ1 HDIS HMEET HBW HMA
                  as_aux_lemma =>
                    clear hgo
                    rcases hR with ⟨rfl, hr⟩ | ⟨rfl, hkn, hk8⟩
                    · go_wp2_with fail
                      go_meet
                      exact ⟨false, by simp, rfl, rfl⟩
                    · obtain ⟨ab, ao, capA, who, co, x, hsA, hnc, hab, hw0', hw1', hx0, hx1, cw, cc, cm⟩ := HACTS.out.nth hkn
                      obtain ⟨rfl, rfl⟩ : ad = some ⟨ab, ao, none⟩ ∧ cap = capA := by have := HSV.out.symm.trans hsA; injection this with h1 h2 h3; exact ⟨h1, h3⟩
                      have hk0 : (0 : Int) ≤ (k : Int) := by omega
                      have hkn' : (k : Int) < (n : Int) := by omega
                      clear HACTS HSV hsA
                      go_wp2_with fail
                      go_meet
                      exact ⟨!co, by simp, rfl, rfl⟩
                case rest =>
                  obtain ⟨b, hb, hc109, hwc⟩ := hcut
                  subst hc109
                  obtain rfl : wr = wc := hwc.symm
                  cases b with
                  | true =>
                    obtain ⟨hkn, hk8⟩ : k < n ∧ k < 80 := by
                      have h9 := hb rfl
                      rcases hR with ⟨h, _⟩ | ⟨_, h⟩
                      · rw [h] at h9; cases h9
                      · exact h
                    clear hb hR hgo
                    go_upto_if 109 with fail
                    refine wp_cond_true rfl ?_
                    rcases he with rfl | rfl
                    · as_aux_lemma =>
                        refine wp_outBy (meets_a0 H0 H1 hn HA HK0 HK1 HMB.out hkn hk8 (hid ?_))
                        intro a9 w' h9
                        obtain ⟨u14, h9⟩ := h9
                        obtain ⟨u15, h9⟩ := h9
                        obtain ⟨u16, h9⟩ := h9
                        obtain ⟨u51, h9⟩ := h9
                        obtain ⟨u52, h9⟩ := h9
                        obtain ⟨u53, h9⟩ := h9
                        obtain ⟨u54, h9⟩ := h9
                        obtain ⟨u55, h9⟩ := h9
                        obtain ⟨u56, h9⟩ := h9
                        obtain ⟨u57, h9⟩ := h9
                        obtain ⟨u58, h9⟩ := h9
                        obtain ⟨u59, h9⟩ := h9
                        obtain ⟨u60, h9⟩ := h9
                        obtain ⟨u61, h9⟩ := h9
                        obtain ⟨u62, h9⟩ := h9
                        obtain ⟨u63, h9⟩ := h9
                        obtain ⟨u64, h9⟩ := h9
                        obtain ⟨u65, h9⟩ := h9
                        obtain ⟨u66, h9⟩ := h9
                        obtain ⟨u67, h9⟩ := h9
                        obtain ⟨u68, h9⟩ := h9
                        obtain ⟨u69, h9⟩ := h9
                        obtain ⟨u70, h9⟩ := h9
                        obtain ⟨u71, h9⟩ := h9
                        obtain ⟨u72, h9⟩ := h9
                        obtain ⟨u73, h9⟩ := h9
                        obtain ⟨u74, h9⟩ := h9
                        obtain ⟨u75, h9⟩ := h9
                        obtain ⟨u76, h9⟩ := h9
                        obtain ⟨u77, h9⟩ := h9
                        obtain ⟨u78, h9⟩ := h9
                        obtain ⟨u79, h9⟩ := h9
                        obtain ⟨u80, h9⟩ := h9
                        obtain ⟨u81, h9⟩ := h9
                        obtain ⟨u82, h9⟩ := h9
                        obtain ⟨u83, h9⟩ := h9
                        obtain ⟨u84, h9⟩ := h9
                        obtain ⟨u85, h9⟩ := h9
                        obtain ⟨u86, h9⟩ := h9
                        obtain ⟨u87, h9⟩ := h9
                        obtain ⟨u88, h9⟩ := h9
                        obtain ⟨u89, h9⟩ := h9
                        obtain ⟨u90, h9⟩ := h9
                        obtain ⟨u91, h9⟩ := h9
                        obtain ⟨u92, h9⟩ := h9
                        obtain ⟨u93, h9⟩ := h9
                        obtain ⟨u94, h9⟩ := h9
                        obtain ⟨u95, h9⟩ := h9
                        obtain ⟨u96, h9⟩ := h9
                        obtain ⟨u97, h9⟩ := h9
                        obtain ⟨u98, h9⟩ := h9
                        obtain ⟨u99, h9⟩ := h9
                        obtain ⟨u100, h9⟩ := h9
                        obtain ⟨u101, h9⟩ := h9
                        obtain ⟨u102, h9⟩ := h9
                        obtain ⟨u103, h9⟩ := h9
                        obtain ⟨u104, h9⟩ := h9
                        obtain ⟨u105, h9⟩ := h9
                        obtain ⟨u106, h9⟩ := h9
                        obtain ⟨u107, h9⟩ := h9
                        obtain ⟨u108, h9⟩ := h9
                        obtain ⟨u109, h9⟩ := h9
                        obtain ⟨u110, h9⟩ := h9
                        obtain ⟨u111, h9⟩ := h9
                        obtain ⟨u112, h9⟩ := h9
                        obtain ⟨u113, h9⟩ := h9
                        obtain ⟨u114, h9⟩ := h9
                        obtain ⟨u115, h9⟩ := h9
                        obtain ⟨u116, h9⟩ := h9
                        obtain ⟨u117, h9⟩ := h9
                        obtain ⟨u118, h9⟩ := h9
                        obtain ⟨u119, h9⟩ := h9
                        obtain ⟨u120, h9⟩ := h9
                        obtain ⟨u121, h9⟩ := h9
                        obtain ⟨u122, h9⟩ := h9
                        obtain ⟨u123, h9⟩ := h9
                        obtain ⟨u124, h9⟩ := h9
                        obtain ⟨u125, h9⟩ := h9
                        obtain ⟨u126, h9⟩ := h9
                        obtain ⟨u127, h9⟩ := h9
                        obtain ⟨u128, h9⟩ := h9
                        obtain ⟨u129, h9⟩ := h9
                        obtain ⟨u130, h9⟩ := h9
                        obtain ⟨u131, h9⟩ := h9
                        obtain ⟨u132, h9⟩ := h9
                        obtain ⟨u133, h9⟩ := h9
                        obtain ⟨u134, h9⟩ := h9
                        obtain ⟨u135, h9⟩ := h9
                        obtain ⟨u136, h9⟩ := h9
                        obtain ⟨u137, h9⟩ := h9
                        obtain ⟨u138, h9⟩ := h9
                        obtain ⟨u139, h9⟩ := h9
                        obtain ⟨u140, h9⟩ := h9
                        obtain ⟨u141, h9⟩ := h9
                        obtain ⟨u142, h9⟩ := h9
                        obtain ⟨u143, h9⟩ := h9
                        obtain ⟨u144, h9⟩ := h9
                        obtain ⟨u145, h9⟩ := h9
                        obtain ⟨u146, h9⟩ := h9
                        obtain ⟨u147, h9⟩ := h9
                        obtain ⟨u148, h9⟩ := h9
                        obtain ⟨u149, h9⟩ := h9
                        obtain ⟨u150, h9⟩ := h9
                        obtain ⟨u151, h9⟩ := h9
                        obtain ⟨u152, h9⟩ := h9
                        obtain ⟨u153, h9⟩ := h9
                        obtain ⟨u154, h9⟩ := h9
                        obtain ⟨u155, h9⟩ := h9
                        obtain ⟨u156, h9⟩ := h9
                        obtain ⟨u157, h9⟩ := h9
                        obtain ⟨u158, h9⟩ := h9
                        obtain ⟨u159, h9⟩ := h9
                        obtain ⟨u160, h9⟩ := h9
                        obtain ⟨u161, h9⟩ := h9
                        obtain ⟨u162, h9⟩ := h9
                        obtain ⟨u163, h9⟩ := h9
                        obtain ⟨u164, h9⟩ := h9
                        obtain ⟨u165, h9⟩ := h9
                        obtain ⟨u166, h9⟩ := h9
                        obtain ⟨u167, h9⟩ := h9
                        obtain ⟨u168, h9⟩ := h9
                        obtain ⟨u169, h9⟩ := h9
                        obtain ⟨u170, h9⟩ := h9
                        obtain ⟨u171, h9⟩ := h9
                        obtain ⟨u172, h9⟩ := h9
                        obtain ⟨u173, h9⟩ := h9
                        obtain ⟨u174, h9⟩ := h9
                        obtain ⟨u175, h9⟩ := h9
                        obtain ⟨u176, h9⟩ := h9
                        obtain ⟨u177, h9⟩ := h9
                        obtain ⟨u178, h9⟩ := h9
                        obtain ⟨u179, h9⟩ := h9
                        obtain ⟨u180, h9⟩ := h9
                        obtain ⟨u181, h9⟩ := h9
                        obtain ⟨u182, h9⟩ := h9
                        obtain ⟨u183, h9⟩ := h9
                        obtain ⟨u184, h9⟩ := h9
                        obtain ⟨u185, h9⟩ := h9
                        obtain ⟨u186, h9⟩ := h9
                        obtain ⟨u187, h9⟩ := h9
                        obtain ⟨u188, h9⟩ := h9
                        obtain ⟨u189, h9⟩ := h9
                        obtain ⟨u190, h9⟩ := h9
                        obtain ⟨u191, h9⟩ := h9
                        obtain ⟨u192, h9⟩ := h9
                        obtain ⟨u193, h9⟩ := h9
                        obtain ⟨u194, h9⟩ := h9
                        obtain ⟨A9, S9, ⟨A', S', hA9, hS9, hM9⟩, ha9⟩ := h9
                        subst ha9
                        subst hA9
                        subst hS9
                        have HM9 := hid hM9
                        have hk9 := of_decide_eq_true hc1
                        have hwk : IntKind.i64.wrap ((k : Int) + 1) = (k : Int) + 1 := by rw [IntKind.wrap_i64]; omega
                        clear hM9 HSV HV0 HV1 HQ0 HQ1 HDIS HMEET HACTS HBW HMB HPHI RP RT RX ct ks
                        go_wp2_with fail
                        go_roundw
                        case rel => exact ⟨A', S', k + 1, rfl, rfl, by go_num, HM9.out⟩
                        case measure =>
                          simp [intOf]
                          omega
                    · as_aux_lemma =>
                        refine wp_outBy (meets_a1 H0 H1 hn HA HK0 HK1 HMB.out hkn hk8 (hid ?_))
                        intro a9 w' h9
                        obtain ⟨u14, h9⟩ := h9
                        obtain ⟨u15, h9⟩ := h9
                        obtain ⟨u16, h9⟩ := h9
                        obtain ⟨u51, h9⟩ := h9
                        obtain ⟨u52, h9⟩ := h9
                        obtain ⟨u53, h9⟩ := h9
                        obtain ⟨u54, h9⟩ := h9
                        obtain ⟨u55, h9⟩ := h9
                        obtain ⟨u56, h9⟩ := h9
                        obtain ⟨u57, h9⟩ := h9
                        obtain ⟨u58, h9⟩ := h9
                        obtain ⟨u59, h9⟩ := h9
                        obtain ⟨u60, h9⟩ := h9
                        obtain ⟨u61, h9⟩ := h9
                        obtain ⟨u62, h9⟩ := h9
                        obtain ⟨u63, h9⟩ := h9
                        obtain ⟨u64, h9⟩ := h9
                        obtain ⟨u65, h9⟩ := h9
                        obtain ⟨u66, h9⟩ := h9
                        obtain ⟨u67, h9⟩ := h9
                        obtain ⟨u68, h9⟩ := h9
                        obtain ⟨u69, h9⟩ := h9
                        obtain ⟨u70, h9⟩ := h9
                        obtain ⟨u71, h9⟩ := h9
                        obtain ⟨u72, h9⟩ := h9
                        obtain ⟨u73, h9⟩ := h9
                        obtain ⟨u74, h9⟩ := h9
                        obtain ⟨u75, h9⟩ := h9
                        obtain ⟨u76, h9⟩ := h9
                        obtain ⟨u77, h9⟩ := h9
                        obtain ⟨u78, h9⟩ := h9
                        obtain ⟨u79, h9⟩ := h9
                        obtain ⟨u80, h9⟩ := h9
                        obtain ⟨u81, h9⟩ := h9
                        obtain ⟨u82, h9⟩ := h9
                        obtain ⟨u83, h9⟩ := h9
                        obtain ⟨u84, h9⟩ := h9
                        obtain ⟨u85, h9⟩ := h9
                        obtain ⟨u86, h9⟩ := h9
                        obtain ⟨u87, h9⟩ := h9
                        obtain ⟨u88, h9⟩ := h9
                        obtain ⟨u89, h9⟩ := h9
                        obtain ⟨u90, h9⟩ := h9
                        obtain ⟨u91, h9⟩ := h9
                        obtain ⟨u92, h9⟩ := h9
                        obtain ⟨u93, h9⟩ := h9
                        obtain ⟨u94, h9⟩ := h9
                        obtain ⟨u95, h9⟩ := h9
                        obtain ⟨u96, h9⟩ := h9
                        obtain ⟨u97, h9⟩ := h9
                        obtain ⟨u98, h9⟩ := h9
                        obtain ⟨u99, h9⟩ := h9
                        obtain ⟨u100, h9⟩ := h9
                        obtain ⟨u101, h9⟩ := h9
                        obtain ⟨u102, h9⟩ := h9
                        obtain ⟨u103, h9⟩ := h9
                        obtain ⟨u104, h9⟩ := h9
                        obtain ⟨u105, h9⟩ := h9
                        obtain ⟨u106, h9⟩ := h9
                        obtain ⟨u107, h9⟩ := h9
                        obtain ⟨u108, h9⟩ := h9
                        obtain ⟨u109, h9⟩ := h9
                        obtain ⟨u110, h9⟩ := h9
                        obtain ⟨u111, h9⟩ := h9
                        obtain ⟨u112, h9⟩ := h9
                        obtain ⟨u113, h9⟩ := h9
                        obtain ⟨u114, h9⟩ := h9
                        obtain ⟨u115, h9⟩ := h9
                        obtain ⟨u116, h9⟩ := h9
                        obtain ⟨u117, h9⟩ := h9
                        obtain ⟨u118, h9⟩ := h9
                        obtain ⟨u119, h9⟩ := h9
                        obtain ⟨u120, h9⟩ := h9
                        obtain ⟨u121, h9⟩ := h9
                        obtain ⟨u122, h9⟩ := h9
                        obtain ⟨u123, h9⟩ := h9
                        obtain ⟨u124, h9⟩ := h9
                        obtain ⟨u125, h9⟩ := h9
                        obtain ⟨u126, h9⟩ := h9
                        obtain ⟨u127, h9⟩ := h9
                        obtain ⟨u128, h9⟩ := h9
                        obtain ⟨u129, h9⟩ := h9
                        obtain ⟨u130, h9⟩ := h9
                        obtain ⟨u131, h9⟩ := h9
                        obtain ⟨u132, h9⟩ := h9
                        obtain ⟨u133, h9⟩ := h9
                        obtain ⟨u134, h9⟩ := h9
                        obtain ⟨u135, h9⟩ := h9
                        obtain ⟨u136, h9⟩ := h9
                        obtain ⟨u137, h9⟩ := h9
                        obtain ⟨u138, h9⟩ := h9
                        obtain ⟨u139, h9⟩ := h9
                        obtain ⟨u140, h9⟩ := h9
                        obtain ⟨u141, h9⟩ := h9
                        obtain ⟨u142, h9⟩ := h9
                        obtain ⟨u143, h9⟩ := h9
                        obtain ⟨u144, h9⟩ := h9
                        obtain ⟨u145, h9⟩ := h9
                        obtain ⟨u146, h9⟩ := h9
                        obtain ⟨u147, h9⟩ := h9
                        obtain ⟨u148, h9⟩ := h9
                        obtain ⟨u149, h9⟩ := h9
                        obtain ⟨u150, h9⟩ := h9
                        obtain ⟨u151, h9⟩ := h9
                        obtain ⟨u152, h9⟩ := h9
                        obtain ⟨u153, h9⟩ := h9
                        obtain ⟨u154, h9⟩ := h9
                        obtain ⟨u155, h9⟩ := h9
                        obtain ⟨u156, h9⟩ := h9
                        obtain ⟨u157, h9⟩ := h9
                        obtain ⟨u158, h9⟩ := h9
                        obtain ⟨u159, h9⟩ := h9
                        obtain ⟨u160, h9⟩ := h9
                        obtain ⟨u161, h9⟩ := h9
                        obtain ⟨u162, h9⟩ := h9
                        obtain ⟨u163, h9⟩ := h9
                        obtain ⟨u164, h9⟩ := h9
                        obtain ⟨u165, h9⟩ := h9
                        obtain ⟨u166, h9⟩ := h9
                        obtain ⟨u167, h9⟩ := h9
                        obtain ⟨u168, h9⟩ := h9
                        obtain ⟨u169, h9⟩ := h9
                        obtain ⟨u170, h9⟩ := h9
                        obtain ⟨u171, h9⟩ := h9
                        obtain ⟨u172, h9⟩ := h9
                        obtain ⟨u173, h9⟩ := h9
                        obtain ⟨u174, h9⟩ := h9
                        obtain ⟨u175, h9⟩ := h9
                        obtain ⟨u176, h9⟩ := h9
                        obtain ⟨u177, h9⟩ := h9
                        obtain ⟨u178, h9⟩ := h9
                        obtain ⟨u179, h9⟩ := h9
                        obtain ⟨u180, h9⟩ := h9
                        obtain ⟨u181, h9⟩ := h9
                        obtain ⟨u182, h9⟩ := h9
                        obtain ⟨u183, h9⟩ := h9
                        obtain ⟨u184, h9⟩ := h9
                        obtain ⟨u185, h9⟩ := h9
                        obtain ⟨u186, h9⟩ := h9
                        obtain ⟨u187, h9⟩ := h9
                        obtain ⟨u188, h9⟩ := h9
                        obtain ⟨u189, h9⟩ := h9
                        obtain ⟨u190, h9⟩ := h9
                        obtain ⟨u191, h9⟩ := h9
                        obtain ⟨u192, h9⟩ := h9
                        obtain ⟨u193, h9⟩ := h9
                        obtain ⟨u194, h9⟩ := h9
                        obtain ⟨A9, S9, ⟨A', S', hA9, hS9, hM9⟩, ha9⟩ := h9
                        subst ha9
                        subst hA9
                        subst hS9
                        have HM9 := hid hM9
                        have hk9 := of_decide_eq_true hc1
                        have hwk : IntKind.i64.wrap ((k : Int) + 1) = (k : Int) + 1 := by rw [IntKind.wrap_i64]; omega
                        clear hM9 HSV HV0 HV1 HQ0 HQ1 HDIS HMEET HACTS HBW HMB HPHI RP RT RX ct ks
                        go_wp2_with fail
                        go_roundw
                        case rel => exact ⟨A', S', k + 1, rfl, rfl, by go_num, HM9.out⟩
                        case measure =>
                          simp [intOf]
                          omega
                  | false =>
                    clear hb
                    obtain ⟨ade, le, cape, hce, hle⟩ : ∃ (ade : Option Addr) (le cape : Nat), wr.cell? ⟨w.heap.size + 1 + 1, e.toNat, none⟩ = some (.slice ade le cape) ∧ ((e = 0 ∧ le = q0.length) ∨ (e = 1 ∧ le = q1.length)) := by
                      rcases he with rfl | rfl
                      · exact ⟨_, _, _, ct.1, .inl ⟨rfl, rfl⟩⟩
                      · exact ⟨_, _, _, ct.2.1, .inr ⟨rfl, rfl⟩⟩
                    have he2 : e < 2 := by omega
                    have he0 : 0 ≤ e := by omega
                    go_upto_if 146 with fail
                    go_cut [13] from 51 to 194 (fun c wx => wx = wr ∧ ∃ e' : Int, c = .int .i64 e' ∧ ((e' = 0 ∧ 0 < q0.length) ∨ (e' = 1 ∧ 0 < q1.length) ∨ ((e' = 0 ∨ e' = 1) ∧ q0.length = 0 ∧ q1.length = 0)))
                    case first =>
                      clear HSV HV0 HV1 HQ0 HQ1 HDIS HMEET HACTS HBW HMA hgo hR
                      as_aux_lemma =>
                        by_cases hl9 : le = 0
                        · have hl8 : ((le : Int) == 0) = true := beq_iff_eq.2 (by omega)
                          rcases hle with ⟨rfl, hl⟩ | ⟨rfl, hl⟩
                          · go_wp2_with fail
                            go_meet
                            exact ⟨rfl, 1, rfl, by omega⟩
                          · go_wp2_with fail
                            go_meet
                            exact ⟨rfl, 0, rfl, by omega⟩
                        · have hl8 : ((le : Int) == 0) = false := beq_eq_false_iff_ne.2 (by omega)
                          go_wp2_with fail
                          go_meet
                          exact ⟨rfl, e, rfl, by omega⟩
                    case rest =>
                      obtain ⟨hwc, e2, hc13, h2⟩ := hcut
                      subst hc13
                      obtain rfl : wr = wc := hwc.symm
                      clear hle hce he he2 he0
                      rcases h2 with ⟨rfl, hne⟩ | ⟨rfl, hne⟩ | ⟨he2, hz0l, hz1l⟩
                      · clear hgo hR HMA
                        have hz0 : ((q0.length : Int) == 0) = false := beq_eq_false_iff_ne.2 (by omega)
                        go_upto_if 153 with fail
                        refine wp_cond_false rfl (wp_skip ?_)
                        go_step
                        go_step
                        as_aux_lemma =>
                          refine wp_offEnd (meets_g0 H0 H1 hn HA HK0 HK1 HMB.out hne (hid ?_))
                          intro a9 w' h9
                          obtain ⟨u17, h9⟩ := h9
                          obtain ⟨u18, h9⟩ := h9
                          obtain ⟨u19, h9⟩ := h9
                          obtain ⟨u51, h9⟩ := h9
                          obtain ⟨u52, h9⟩ := h9
                          obtain ⟨u53, h9⟩ := h9
                          obtain ⟨u54, h9⟩ := h9
                          obtain ⟨u55, h9⟩ := h9
                          obtain ⟨u56, h9⟩ := h9
                          obtain ⟨u57, h9⟩ := h9
                          obtain ⟨u58, h9⟩ := h9
                          obtain ⟨u59, h9⟩ := h9
                          obtain ⟨u60, h9⟩ := h9
                          obtain ⟨u61, h9⟩ := h9
                          obtain ⟨u62, h9⟩ := h9
                          obtain ⟨u63, h9⟩ := h9
                          obtain ⟨u64, h9⟩ := h9
                          obtain ⟨u65, h9⟩ := h9
                          obtain ⟨u66, h9⟩ := h9
                          obtain ⟨u67, h9⟩ := h9
                          obtain ⟨u68, h9⟩ := h9
                          obtain ⟨u69, h9⟩ := h9
                          obtain ⟨u70, h9⟩ := h9
                          obtain ⟨u71, h9⟩ := h9
                          obtain ⟨u72, h9⟩ := h9
                          obtain ⟨u73, h9⟩ := h9
                          obtain ⟨u74, h9⟩ := h9
                          obtain ⟨u75, h9⟩ := h9
                          obtain ⟨u76, h9⟩ := h9
                          obtain ⟨u77, h9⟩ := h9
                          obtain ⟨u78, h9⟩ := h9
                          obtain ⟨u79, h9⟩ := h9
                          obtain ⟨u80, h9⟩ := h9
                          obtain ⟨u81, h9⟩ := h9
                          obtain ⟨u82, h9⟩ := h9
                          obtain ⟨u83, h9⟩ := h9
                          obtain ⟨u84, h9⟩ := h9
                          obtain ⟨u85, h9⟩ := h9
                          obtain ⟨u86, h9⟩ := h9
                          obtain ⟨u87, h9⟩ := h9
                          obtain ⟨u88, h9⟩ := h9
                          obtain ⟨u89, h9⟩ := h9
                          obtain ⟨u90, h9⟩ := h9
                          obtain ⟨u91, h9⟩ := h9
                          obtain ⟨u92, h9⟩ := h9
                          obtain ⟨u93, h9⟩ := h9
                          obtain ⟨u94, h9⟩ := h9
                          obtain ⟨u95, h9⟩ := h9
                          obtain ⟨u96, h9⟩ := h9
                          obtain ⟨u97, h9⟩ := h9
                          obtain ⟨u98, h9⟩ := h9
                          obtain ⟨u99, h9⟩ := h9
                          obtain ⟨u100, h9⟩ := h9
                          obtain ⟨u101, h9⟩ := h9
                          obtain ⟨u102, h9⟩ := h9
                          obtain ⟨u103, h9⟩ := h9
                          obtain ⟨u104, h9⟩ := h9
                          obtain ⟨u105, h9⟩ := h9
                          obtain ⟨u106, h9⟩ := h9
                          obtain ⟨u107, h9⟩ := h9
                          obtain ⟨u108, h9⟩ := h9
                          obtain ⟨u109, h9⟩ := h9
                          obtain ⟨u110, h9⟩ := h9
                          obtain ⟨u111, h9⟩ := h9
                          obtain ⟨u112, h9⟩ := h9
                          obtain ⟨u113, h9⟩ := h9
                          obtain ⟨u114, h9⟩ := h9
                          obtain ⟨u115, h9⟩ := h9
                          obtain ⟨u116, h9⟩ := h9
                          obtain ⟨u117, h9⟩ := h9
                          obtain ⟨u118, h9⟩ := h9
                          obtain ⟨u119, h9⟩ := h9
                          obtain ⟨u120, h9⟩ := h9
                          obtain ⟨u121, h9⟩ := h9
                          obtain ⟨u122, h9⟩ := h9
                          obtain ⟨u123, h9⟩ := h9
                          obtain ⟨u124, h9⟩ := h9
                          obtain ⟨u125, h9⟩ := h9
                          obtain ⟨u126, h9⟩ := h9
                          obtain ⟨u127, h9⟩ := h9
                          obtain ⟨u128, h9⟩ := h9
                          obtain ⟨u129, h9⟩ := h9
                          obtain ⟨u130, h9⟩ := h9
                          obtain ⟨u131, h9⟩ := h9
                          obtain ⟨u132, h9⟩ := h9
                          obtain ⟨u133, h9⟩ := h9
                          obtain ⟨u134, h9⟩ := h9
                          obtain ⟨u135, h9⟩ := h9
                          obtain ⟨u136, h9⟩ := h9
                          obtain ⟨u137, h9⟩ := h9
                          obtain ⟨u138, h9⟩ := h9
                          obtain ⟨u139, h9⟩ := h9
                          obtain ⟨u140, h9⟩ := h9
                          obtain ⟨u141, h9⟩ := h9
                          obtain ⟨u142, h9⟩ := h9
                          obtain ⟨u143, h9⟩ := h9
                          obtain ⟨u144, h9⟩ := h9
                          obtain ⟨u145, h9⟩ := h9
                          obtain ⟨u146, h9⟩ := h9
                          obtain ⟨u147, h9⟩ := h9
                          obtain ⟨u148, h9⟩ := h9
                          obtain ⟨u149, h9⟩ := h9
                          obtain ⟨u150, h9⟩ := h9
                          obtain ⟨u151, h9⟩ := h9
                          obtain ⟨u152, h9⟩ := h9
                          obtain ⟨u153, h9⟩ := h9
                          obtain ⟨u154, h9⟩ := h9
                          obtain ⟨u155, h9⟩ := h9
                          obtain ⟨u156, h9⟩ := h9
                          obtain ⟨u157, h9⟩ := h9
                          obtain ⟨u158, h9⟩ := h9
                          obtain ⟨u159, h9⟩ := h9
                          obtain ⟨u160, h9⟩ := h9
                          obtain ⟨u161, h9⟩ := h9
                          obtain ⟨u162, h9⟩ := h9
                          obtain ⟨u163, h9⟩ := h9
                          obtain ⟨u164, h9⟩ := h9
                          obtain ⟨u165, h9⟩ := h9
                          obtain ⟨u166, h9⟩ := h9
                          obtain ⟨u167, h9⟩ := h9
                          obtain ⟨u168, h9⟩ := h9
                          obtain ⟨u169, h9⟩ := h9
                          obtain ⟨u170, h9⟩ := h9
                          obtain ⟨u171, h9⟩ := h9
                          obtain ⟨u172, h9⟩ := h9
                          obtain ⟨u173, h9⟩ := h9
                          obtain ⟨u174, h9⟩ := h9
                          obtain ⟨u175, h9⟩ := h9
                          obtain ⟨u176, h9⟩ := h9
                          obtain ⟨u177, h9⟩ := h9
                          obtain ⟨u178, h9⟩ := h9
                          obtain ⟨u179, h9⟩ := h9
                          obtain ⟨u180, h9⟩ := h9
                          obtain ⟨u181, h9⟩ := h9
                          obtain ⟨u182, h9⟩ := h9
                          obtain ⟨u183, h9⟩ := h9
                          obtain ⟨u184, h9⟩ := h9
                          obtain ⟨u185, h9⟩ := h9
                          obtain ⟨u186, h9⟩ := h9
                          obtain ⟨u187, h9⟩ := h9
                          obtain ⟨u188, h9⟩ := h9
                          obtain ⟨u189, h9⟩ := h9
                          obtain ⟨u190, h9⟩ := h9
                          obtain ⟨u191, h9⟩ := h9
                          obtain ⟨u192, h9⟩ := h9
                          obtain ⟨u193, h9⟩ := h9
                          obtain ⟨u194, h9⟩ := h9
                          obtain ⟨A9, S9, ⟨A', S', hA9, hS9, hM9⟩, ha9⟩ := h9
                          subst ha9
                          subst hA9
                          subst hS9
                          have HM9 := hid hM9
                          have hk9 := of_decide_eq_true hc1
                          have hwk : IntKind.i64.wrap ((k : Int) + 1) = (k : Int) + 1 := by rw [IntKind.wrap_i64]; omega
                          clear hM9 HSV HV0 HV1 HQ0 HQ1 HDIS HMEET HACTS HBW HMB HPHI RP RT RX ct ks
                          go_wp2_with fail
                          go_roundw
                          case rel => exact ⟨A', S', k + 1, rfl, rfl, by go_num, HM9.out⟩
                          case measure =>
                            simp [intOf]
                            omega
                      · clear hgo hR HMA
                        have hz1 : ((q1.length : Int) == 0) = false := beq_eq_false_iff_ne.2 (by omega)
                        go_upto_if 153 with fail
                        refine wp_cond_false rfl (wp_skip ?_)
                        go_step
                        go_step
                        as_aux_lemma =>
                          refine wp_offEnd (meets_g1 H0 H1 hn HA HK0 HK1 HMB.out hne (hid ?_))
                          intro a9 w' h9
                          obtain ⟨u17, h9⟩ := h9
                          obtain ⟨u18, h9⟩ := h9
                          obtain ⟨u19, h9⟩ := h9
                          obtain ⟨u51, h9⟩ := h9
                          obtain ⟨u52, h9⟩ := h9
                          obtain ⟨u53, h9⟩ := h9
                          obtain ⟨u54, h9⟩ := h9
                          obtain ⟨u55, h9⟩ := h9
                          obtain ⟨u56, h9⟩ := h9
                          obtain ⟨u57, h9⟩ := h9
                          obtain ⟨u58, h9⟩ := h9
                          obtain ⟨u59, h9⟩ := h9
                          obtain ⟨u60, h9⟩ := h9
                          obtain ⟨u61, h9⟩ := h9
                          obtain ⟨u62, h9⟩ := h9
                          obtain ⟨u63, h9⟩ := h9
                          obtain ⟨u64, h9⟩ := h9
                          obtain ⟨u65, h9⟩ := h9
                          obtain ⟨u66, h9⟩ := h9
                          obtain ⟨u67, h9⟩ := h9
                          obtain ⟨u68, h9⟩ := h9
                          obtain ⟨u69, h9⟩ := h9
                          obtain ⟨u70, h9⟩ := h9
                          obtain ⟨u71, h9⟩ := h9
                          obtain ⟨u72, h9⟩ := h9
                          obtain ⟨u73, h9⟩ := h9
                          obtain ⟨u74, h9⟩ := h9
                          obtain ⟨u75, h9⟩ := h9
                          obtain ⟨u76, h9⟩ := h9
                          obtain ⟨u77, h9⟩ := h9
                          obtain ⟨u78, h9⟩ := h9
                          obtain ⟨u79, h9⟩ := h9
                          obtain ⟨u80, h9⟩ := h9
                          obtain ⟨u81, h9⟩ := h9
                          obtain ⟨u82, h9⟩ := h9
                          obtain ⟨u83, h9⟩ := h9
                          obtain ⟨u84, h9⟩ := h9
                          obtain ⟨u85, h9⟩ := h9
                          obtain ⟨u86, h9⟩ := h9
                          obtain ⟨u87, h9⟩ := h9
                          obtain ⟨u88, h9⟩ := h9
                          obtain ⟨u89, h9⟩ := h9
                          obtain ⟨u90, h9⟩ := h9
                          obtain ⟨u91, h9⟩ := h9
                          obtain ⟨u92, h9⟩ := h9
                          obtain ⟨u93, h9⟩ := h9
                          obtain ⟨u94, h9⟩ := h9
                          obtain ⟨u95, h9⟩ := h9
                          obtain ⟨u96, h9⟩ := h9
                          obtain ⟨u97, h9⟩ := h9
                          obtain ⟨u98, h9⟩ := h9
                          obtain ⟨u99, h9⟩ := h9
                          obtain ⟨u100, h9⟩ := h9
                          obtain ⟨u101, h9⟩ := h9
                          obtain ⟨u102, h9⟩ := h9
                          obtain ⟨u103, h9⟩ := h9
                          obtain ⟨u104, h9⟩ := h9
                          obtain ⟨u105, h9⟩ := h9
                          obtain ⟨u106, h9⟩ := h9
                          obtain ⟨u107, h9⟩ := h9
                          obtain ⟨u108, h9⟩ := h9
                          obtain ⟨u109, h9⟩ := h9
                          obtain ⟨u110, h9⟩ := h9
                          obtain ⟨u111, h9⟩ := h9
                          obtain ⟨u112, h9⟩ := h9
                          obtain ⟨u113, h9⟩ := h9
                          obtain ⟨u114, h9⟩ := h9
                          obtain ⟨u115, h9⟩ := h9
                          obtain ⟨u116, h9⟩ := h9
                          obtain ⟨u117, h9⟩ := h9
                          obtain ⟨u118, h9⟩ := h9
                          obtain ⟨u119, h9⟩ := h9
                          obtain ⟨u120, h9⟩ := h9
                          obtain ⟨u121, h9⟩ := h9
                          obtain ⟨u122, h9⟩ := h9
                          obtain ⟨u123, h9⟩ := h9
                          obtain ⟨u124, h9⟩ := h9
                          obtain ⟨u125, h9⟩ := h9
                          obtain ⟨u126, h9⟩ := h9
                          obtain ⟨u127, h9⟩ := h9
                          obtain ⟨u128, h9⟩ := h9
                          obtain ⟨u129, h9⟩ := h9
                          obtain ⟨u130, h9⟩ := h9
                          obtain ⟨u131, h9⟩ := h9
                          obtain ⟨u132, h9⟩ := h9
                          obtain ⟨u133, h9⟩ := h9
                          obtain ⟨u134, h9⟩ := h9
                          obtain ⟨u135, h9⟩ := h9
                          obtain ⟨u136, h9⟩ := h9
                          obtain ⟨u137, h9⟩ := h9
                          obtain ⟨u138, h9⟩ := h9
                          obtain ⟨u139, h9⟩ := h9
                          obtain ⟨u140, h9⟩ := h9
                          obtain ⟨u141, h9⟩ := h9
                          obtain ⟨u142, h9⟩ := h9
                          obtain ⟨u143, h9⟩ := h9
                          obtain ⟨u144, h9⟩ := h9
                          obtain ⟨u145, h9⟩ := h9
                          obtain ⟨u146, h9⟩ := h9
                          obtain ⟨u147, h9⟩ := h9
                          obtain ⟨u148, h9⟩ := h9
                          obtain ⟨u149, h9⟩ := h9
                          obtain ⟨u150, h9⟩ := h9
                          obtain ⟨u151, h9⟩ := h9
                          obtain ⟨u152, h9⟩ := h9
                          obtain ⟨u153, h9⟩ := h9
                          obtain ⟨u154, h9⟩ := h9
                          obtain ⟨u155, h9⟩ := h9
                          obtain ⟨u156, h9⟩ := h9
                          obtain ⟨u157, h9⟩ := h9
                          obtain ⟨u158, h9⟩ := h9
                          obtain ⟨u159, h9⟩ := h9
                          obtain ⟨u160, h9⟩ := h9
                          obtain ⟨u161, h9⟩ := h9
                          obtain ⟨u162, h9⟩ := h9
                          obtain ⟨u163, h9⟩ := h9
                          obtain ⟨u164, h9⟩ := h9
                          obtain ⟨u165, h9⟩ := h9
                          obtain ⟨u166, h9⟩ := h9
                          obtain ⟨u167, h9⟩ := h9
                          obtain ⟨u168, h9⟩ := h9
                          obtain ⟨u169, h9⟩ := h9
                          obtain ⟨u170, h9⟩ := h9
                          obtain ⟨u171, h9⟩ := h9
                          obtain ⟨u172, h9⟩ := h9
                          obtain ⟨u173, h9⟩ := h9
                          obtain ⟨u174, h9⟩ := h9
                          obtain ⟨u175, h9⟩ := h9
                          obtain ⟨u176, h9⟩ := h9
                          obtain ⟨u177, h9⟩ := h9
                          obtain ⟨u178, h9⟩ := h9
                          obtain ⟨u179, h9⟩ := h9
                          obtain ⟨u180, h9⟩ := h9
                          obtain ⟨u181, h9⟩ := h9
                          obtain ⟨u182, h9⟩ := h9
                          obtain ⟨u183, h9⟩ := h9
                          obtain ⟨u184, h9⟩ := h9
                          obtain ⟨u185, h9⟩ := h9
                          obtain ⟨u186, h9⟩ := h9
                          obtain ⟨u187, h9⟩ := h9
                          obtain ⟨u188, h9⟩ := h9
                          obtain ⟨u189, h9⟩ := h9
                          obtain ⟨u190, h9⟩ := h9
                          obtain ⟨u191, h9⟩ := h9
                          obtain ⟨u192, h9⟩ := h9
                          obtain ⟨u193, h9⟩ := h9
                          obtain ⟨u194, h9⟩ := h9
                          obtain ⟨A9, S9, ⟨A', S', hA9, hS9, hM9⟩, ha9⟩ := h9
                          subst ha9
                          subst hA9
                          subst hS9
                          have HM9 := hid hM9
                          have hk9 := of_decide_eq_true hc1
                          have hwk : IntKind.i64.wrap ((k : Int) + 1) = (k : Int) + 1 := by rw [IntKind.wrap_i64]; omega
                          clear hM9 HSV HV0 HV1 HQ0 HQ1 HDIS HMEET HACTS HBW HMB HPHI RP RT RX ct ks
                          go_wp2_with fail
                          go_roundw
                          case rel => exact ⟨A', S', k + 1, rfl, rfl, by go_num, HM9.out⟩
                          case measure =>
                            simp [intOf]
                            omega
                      · as_aux_lemma =>
                          obtain ⟨hkn, hk8⟩ : k < n ∧ k < 80 := by omega
                          have HMX := hid (HMA.out.next hkn hk8)
                          have hz0 : ((q0.length : Int) == 0) = true := beq_iff_eq.2 (by omega)
                          have hz1 : ((q1.length : Int) == 0) = true := beq_iff_eq.2 (by omega)
                          have hwk : IntKind.i64.wrap ((k : Int) + 1) = (k : Int) + 1 := by rw [IntKind.wrap_i64]; omega
                          clear hgo hR HMA HSV HV0 HV1 HQ0 HQ1 HDIS HMEET HACTS HBW
                          have hk9 := of_decide_eq_true hc1
                          rcases he2 with rfl | rfl
                          · go_wp2_with fail
                            go_roundw
                            case rel =>
                              exact ⟨A, S, k + 1, rfl, rfl, by go_num, HMX.out⟩
                            case measure =>
                              simp [intOf]
                              omega
                          · go_wp2_with fail
                            go_roundw
                            case rel =>
                              exact ⟨A, S, k + 1, rfl, rfl, by go_num, HMX.out⟩
                            case measure =>
                              simp [intOf]
                              omega
        · as_aux_lemma =>
            have htot : q0.length + q1.length = 0 := by omega
            have hnk : ¬ (k < n ∧ k < 80) := fun h => hgo (.inr h)
            clear hgo HMA
            have hd4 : decide ((0 : Int) < (q0.length : Int) + (q1.length : Int)) = false := by simp; omega
            obtain rfl : q0 = [] := List.eq_nil_of_length_eq_zero (by omega)
            obtain rfl : q1 = [] := List.eq_nil_of_length_eq_zero (by omega)
            obtain ⟨hE, hW0, hW1, hS⟩ := HMEET.out.rest
            have hxs : xsA t0 t1 m0 m1 = xsA t0 t1 zeroW zeroW := by unfold xsA exA; rw [hW0, hW1]
            have rx := RX.out
            rw [hxs] at rx
            have hw2 : IntKind.i64.wrap (2 * (A : Int)) = 2 * (A : Int) := by rw [IntKind.wrap_i64]; omega
            have hd5 : decide (2 * (A : Int) < (S : Int)) = false := by simp; omega
            clear hxs hW0 hW1
            by_cases hkn : (k : Int) < n
            · have hb2 : decide ((k : Int) < (n : Int)) = true := by simpa using hkn
              have hb3 : decide ((k : Int) < 80) = false := by simp; omega
              go_wp2_with fail
              refine (awake17 _).mono ?_
              rintro e w7 ⟨rfl, hb7⟩
              have HB7 := hid (below_step HBW.out (by omega) hb7)
              go_wp2_with fail
              go_ret
              exact ⟨rfl, HB7.out⟩
            · have hb2 : decide ((k : Int) < (n : Int)) = false := by simp; omega
              go_wp2_with fail
              refine (awake17 _).mono ?_
              rintro e w7 ⟨rfl, hb7⟩
              have HB7 := hid (below_step HBW.out (by omega) hb7)
              go_wp2_with fail
              go_ret
              exact ⟨rfl, HB7.out⟩
end Go.Proofs.Ytjghmgpmaallfaa
