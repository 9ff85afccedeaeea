/-
  exchange.Got, whole; linnetlaw17.awake.
-/
import Derived.Test.YtjghmgpmaallfaaExq
import Derived.Test.YtjghmgpmaallfaaExg
import Derived.Test.YtjghmgpmaallfaaExh
namespace Go.Proofs.Ytjghmgpmaallfaa
open Go.RowKit
set_option linter.unusedVariables false
set_option linter.unusedSimpArgs false

/-- what Got answers: the new Exch, the answer's level and key, the error. -/
noncomputable def gotR (t : Tb) (m : Wt) (p : Tb) (b : Bool) (f l v : Int) (a : Bool) : (Tb × Wt) × Option (Int × Int) × Int :=
  if exErr t m = 0 ∧ (settle p f l v).2 = 0 then
    if a = true then (if isF f = true ∧ 1 ≤ m f.toNat then ((upd t f.toNat (toldC l v), updW m f.toNat (m f.toNat - 1)), none, 0) else ((t, m), none, 5))
    else if isF f = true then
      (if b = true ∧ ¬ m f.toNat = 0 then ((t, m), none, 5) else ((upd t f.toNat (toldC (settle p f l v).1.1 (settle p f l v).1.2), updW m f.toNat 0), some (settle p f l v).1, 0))
    else ((t, m), some (settle p f l v).1, 0)
  else ((t, m), none, 1)
theorem exErr_or (t : Tb) (m : Wt) : (exErr t m = 0 ∧ wtsOk m ∧ tabOk t) ∨ (exErr t m = 1 ∧ ¬ (wtsOk m ∧ tabOk t)) := by
  unfold exErr
  split
  · rename_i h
    rcases tabErr_or t with ⟨h1, h2⟩ | ⟨h1, h2⟩
    · exact .inl ⟨h1, h, h2⟩
    · exact .inr ⟨h1, fun k => h2 k.2⟩
  · rename_i h
    exact .inr ⟨rfl, fun k => h k.1⟩
theorem settle_or (p : Tb) (f l v : Int) : (∃ c1 c2, settle p f l v = ((c1, c2), 0) ∧ tabOk p ∧ trOk f l) ∨ settle p f l v = ((0, 0), 1) := by
  unfold settle
  split
  · exact .inl ⟨_, _, rfl, by assumption⟩
  · exact .inr rfl
theorem isF_nat {f : Int} (h : isF f = true) : ∃ n : Nat, f = n ∧ 1 ≤ n ∧ n < 31 := by
  unfold isF at h; simp at h; exact ⟨f.toNat, by omega, by omega, by omega⟩
theorem got_quiet {t t' : Tb} {m m' : Wt} {p : Tb} {b : Bool} {f l v : Int} {a : Bool} {e0 : Int} (h : gotR t m p b f l v a = ((t', m'), none, e0)) (i o : Bool) (w : World) :
    Calls Try.prog 31 #[.agg (exA t m), .agg (tabA p), .bool b, .agg #[.int .i64 f, .int .i64 l, .bool a, .bool i, .bool o, .int .u8 v]] w fun e w' => e = .returned (.tuple #[.agg (exA t' m'), .slice none 0 0, .int .i64 e0]) ∧ Below w.heap.size w w' := by
  rcases exErr_or t m with ⟨hx, hwt, htb⟩ | ⟨hx, _⟩
  · rcases settle_or p f l v with ⟨c1, c2, hs, _⟩ | hs
    · cases a
      · cases hf : isF f
        · simp [gotR, hx, hs, hf] at h
        · obtain ⟨n, rfl, h1, h2⟩ := isF_nat hf
          by_cases hb : b = true ∧ ¬ m n = 0
          · simp [gotR, hx, hs, hf, hb] at h
            obtain ⟨⟨rfl, rfl⟩, rfl⟩ := h
            obtain ⟨rfl, hm⟩ := hb
            exact got_deaf t m p n h1 h2 l v i o c1 c2 (m n) (hid hs) (hid hx) (hid rfl) (by have := (hwt n h2).1; omega) w
          · simp [gotR, hx, hs, hf, hb] at h
      · cases hf : isF f
        · simp [gotR, hx, hs, hf] at h
          obtain ⟨⟨rfl, rfl⟩, rfl⟩ := h
          exact got_ack_no t m p b f l v i o c1 c2 (hid hs) (hid hx) (hid hf) w
        · obtain ⟨n, rfl, h1, h2⟩ := isF_nat hf
          by_cases hm : 1 ≤ m n
          · simp [gotR, hx, hs, hf, hm] at h
            obtain ⟨⟨rfl, rfl⟩, rfl⟩ := h
            exact got_ack_ok t m p b n l v i o c1 c2 h1 h2 (hid hs) (hid hx) (m n) hm (hwt n h2).2.1 (hid rfl) w
          · simp [gotR, hx, hs, hf, hm] at h
            obtain ⟨⟨rfl, rfl⟩, rfl⟩ := h
            exact got_ack_none t m p b n l v i o c1 c2 h1 h2 (hid hs) (hid hx) (hid (by have := (hwt n h2).1; omega)) w
    · simp [gotR, hx, hs] at h
      obtain ⟨⟨rfl, rfl⟩, rfl⟩ := h
      exact got_bad t m p b f l v a i o (hid hs) (hid hx) w
  · simp [gotR, hx] at h
    obtain ⟨⟨rfl, rfl⟩, rfl⟩ := h
    rcases settle_or p f l v with ⟨c1, c2, hs, _⟩ | hs
    · exact got_badx t m p b f l v a i o c1 c2 (hid hs) (hid hx) w
    · exact got_badboth t m p b f l v a i o (hid hs) (hid hx) w
theorem got_says {t t' : Tb} {m m' : Wt} {p : Tb} {b : Bool} {f l v : Int} {a : Bool} {c1 c2 e0 : Int} (h : gotR t m p b f l v a = ((t', m'), some (c1, c2), e0)) (i o : Bool) (w : World) :
    Calls Try.prog 31 #[.agg (exA t m), .agg (tabA p), .bool b, .agg #[.int .i64 f, .int .i64 l, .bool a, .bool i, .bool o, .int .u8 v]] w fun e w' => ∃ g, e = .returned (.tuple #[.agg (exA t' m'), .slice (some ⟨g, 0, none⟩) 1 1, .int .i64 0]) ∧ rowAt w' g = some (.cells #[.int .i64 f, .int .i64 c1, .bool true, .bool i, .bool o, .int .u8 c2] 27 (0, 0)) ∧ w.heap.size ≤ g ∧ Below w.heap.size w w' := by
  rcases exErr_or t m with ⟨hx, hwt, htb⟩ | ⟨hx, _⟩
  · rcases settle_or p f l v with ⟨d1, d2, hs, _⟩ | hs
    · cases a
      · cases hf : isF f
        · simp [gotR, hx, hs, hf] at h
          obtain ⟨⟨rfl, rfl⟩, ⟨rfl, rfl⟩, rfl⟩ := h
          exact got_away t m p b f l v i o d1 d2 (hid hs) (hid hx) (hid hf) w
        · obtain ⟨n, rfl, h1, h2⟩ := isF_nat hf
          by_cases hb : b = true ∧ ¬ m n = 0
          · simp [gotR, hx, hs, hf, hb] at h
          · simp [gotR, hx, hs, hf, hb] at h
            obtain ⟨⟨rfl, rfl⟩, ⟨rfl, rfl⟩, rfl⟩ := h
            cases b
            · exact got_heard_c t m p n h1 h2 l v i o d1 d2 _ _ (m n) (hid hs) (hid hx) (hid rfl) (hid rfl) w
            · exact got_heard_s t m p n h1 h2 l v i o d1 d2 _ _ (hid hs) (hid hx) (hid (by simpa using hb)) (hid rfl) w
      · cases hf : isF f
        · simp [gotR, hx, hs, hf] at h
        · obtain ⟨n, rfl, h1, h2⟩ := isF_nat hf
          by_cases hm : 1 ≤ m n <;> simp [gotR, hx, hs, hf, hm] at h
    · simp [gotR, hx, hs] at h
  · simp [gotR, hx] at h
def awX : Tb := fun i => if i = 3 then (2, 3) else (0, 0)
def awT : Tb := upd zeroT 3 (2, 9)
def awW : Wt := updW zeroW 3 1
theorem buildAwX (w : World) : (Instr.build 25 #[(3, .agg #[.int .i64 2, .int .u8 3])]).run Try.prog w = .ok (.agg (tabA awX)) w := by kernel_rfl
theorem wts_zero : wtsOk zeroW := by intro f hf; unfold wtOk zeroW; omega
theorem wts_updW {m : Wt} (h : wtsOk m) {k : Nat} {c : Int} (hk : 1 ≤ k) (h0 : 0 ≤ c) (h1 : c ≤ 65536) : wtsOk (updW m k c) := by
  intro f hf
  by_cases hfk : f = k
  · subst hfk; rw [updW_same]; exact ⟨h0, h1, by omega⟩
  · rw [updW_other _ _ _ _ hfk]; exact h f hf
theorem ex_zz : exErr zeroT zeroW = 0 := by rw [exErr_good _ _ wts_zero]; decide +kernel
theorem wts_awW : wtsOk awW := wts_updW wts_zero (by omega) (by omega) (by omega)
theorem ex_zw : exErr zeroT awW = 0 := by rw [exErr_good _ _ wts_awW]; decide +kernel
theorem ex_tz : exErr awT (updW awW 3 0) = 0 := by rw [exErr_good _ _ (wts_updW wts_awW (by omega) (by omega) (by omega))]; decide +kernel
theorem aw_s1 : settle awX 3 2 9 = ((2, 9), 0) := by decide +kernel
theorem aw_s2 : settle awX 3 2 7 = ((2, 7), 0) := by decide +kernel
theorem aw_f : isF 3 = true := by decide
theorem aw_g1 : gotR zeroT zeroW awX false 3 2 9 false = ((awT, updW zeroW 3 0), some (2, 9), 0) := by
  unfold gotR; rw [if_pos ⟨ex_zz, by rw [aw_s1]⟩, if_neg (by decide), if_pos aw_f, if_neg (by simp), aw_s1]; rfl
theorem aw_g2 : gotR zeroT awW awX true 3 2 7 false = ((zeroT, awW), none, 5) := by
  unfold gotR; rw [if_pos ⟨ex_zw, by rw [aw_s2]⟩, if_neg (by decide), if_pos aw_f, if_pos ⟨rfl, by decide⟩]
theorem aw_g3 : gotR zeroT awW awX true 3 2 9 true = ((awT, updW awW 3 0), none, 0) := by
  unfold gotR; rw [if_pos ⟨ex_zw, by rw [aw_s1]⟩, if_pos rfl, if_pos ⟨aw_f, by decide⟩]; rfl
theorem aw_g4 : gotR awT (updW awW 3 0) awX true 3 2 9 true = ((awT, updW awW 3 0), none, 5) := by
  unfold gotR; rw [if_pos ⟨ex_tz, by rw [aw_s1]⟩, if_pos rfl, if_neg (by rintro ⟨_, h⟩; revert h; decide)]
theorem aw_ask (w : World) :
    Calls Try.prog 34 #[.agg (exA zeroT zeroW), .agg #[.int .i64 3, .int .i64 2, .bool false, .bool false, .bool false, .int .u8 9]] w fun e w' => ∃ g, e = .returned (.tuple #[.agg (exA zeroT awW), .slice (some ⟨g, 0, none⟩) 1 1, .int .i64 0]) ∧ rowAt w' g = some (.cells #[.int .i64 3, .int .i64 2, .bool false, .bool false, .bool false, .int .u8 9] 27 (0, 0)) ∧ w.heap.size ≤ g ∧ Below w.heap.size w w' :=
  ask_ok zeroT zeroW 3 (by omega) (by omega) 2 9 false false 0 (by omega) (by omega) (hid ex_zz) (hid (by decide)) (hid rfl) w
set_option maxHeartbeats 2000000 in
set_option maxRecDepth 100000 in
theorem awake17  (w : World) :
    Calls Try.prog 32 #[] w fun e w' => e = .returned (.bool true) ∧ Below w.heap.size w w' := by
  go_enter Try.func32, Try.ntmps32
  go_wp2_with (first | (refine wpList_build_known rfl 25 #[(3, .tmp 18)] rfl #[(3, .agg #[.int .i64 2, .int .u8 3])] (by simp [Act.eval]) (.agg (tabA awX)) (buildAwX _) ?_) | (refine wpList_build_known rfl 60 #[] rfl #[] (by simp [Act.eval]) (.agg (exA zeroT zeroW)) (buildExch _) ?_))
  refine (aw_ask _).mono ?_
  rintro e w1 ⟨g1, rfl, hr1, hg1, hb1⟩
  have HB1 := hid (below_step ((Below.refl w.heap.size w).alloc (by first | omega | (simp [putRow_size, drewN_heap, drew_heap] <;> omega)) _) (by first | omega | (simp [putRow_size, drewN_heap, drew_heap] <;> omega)) hb1)
  have hs1 : w.heap.size ≤ w1.heap.size := HB1.out.size
  have r1_0 : rowAt w1 (w.heap.size) = some (.cells (tabA awX) 25 (0, 0)) := rowNext' hb1 (by rw [rowAt_new _ _ _ (by first | omega | (simp [putRow_size, drewN_heap, drew_heap] <;> omega))])
  have c1_0 := lt_of_some r1_0
  have r1_1 : rowAt w1 (g1) = some (.cells #[.int .i64 3, .int .i64 2, .bool false, .bool false, .bool false, .int .u8 9] 27 (0, 0)) := hr1
  have c1_1 := cells6 r1_1
  have hG1 : w.heap.size ≤ g1 := by first | omega | (simp [putRow_size, drewN_heap, drew_heap] at hg1; omega)
  clear hr1 hg1
  go_wp2_with (refine wpList_build_known rfl 60 #[] rfl #[] (by simp [Act.eval]) (.agg (exA zeroT zeroW)) (buildExch _) ?_)
  refine (got_says aw_g1 false false _).mono ?_
  rintro e w2 ⟨g2, rfl, hr2, hg2, hb2⟩
  have HB2 := hid (below_step (HB1.out.alloc (by first | omega | (simp [putRow_size, drewN_heap, drew_heap] <;> omega)) _) (by first | omega | (simp [putRow_size, drewN_heap, drew_heap] <;> omega)) hb2)
  have hs2 : w.heap.size ≤ w2.heap.size := HB2.out.size
  have r2_0 : rowAt w2 (w.heap.size) = some (.cells (tabA awX) 25 (0, 0)) := rowNext' hb2 (by rw [rowAt_old _ _ _ (by first | omega | (simp [putRow_size, drewN_heap, drew_heap] <;> omega))]; exact r1_0)
  have c2_0 := lt_of_some r2_0
  have r2_1 : rowAt w2 (g1) = some (.cells #[.int .i64 3, .int .i64 2, .bool false, .bool false, .bool false, .int .u8 9] 27 (0, 0)) := rowNext' hb2 (by rw [rowAt_old _ _ _ (by first | omega | (simp [putRow_size, drewN_heap, drew_heap] <;> omega))]; exact r1_1)
  have c2_1 := cells6 r2_1
  have r2_2 : rowAt w2 (w1.heap.size) = some (.cells (exA zeroT awW) 60 (0, 0)) := rowNext' hb2 (by rw [rowAt_new _ _ _ (by first | omega | (simp [putRow_size, drewN_heap, drew_heap] <;> omega))])
  have c2_2 := lt_of_some r2_2
  have r2_3 : rowAt w2 (g2) = some (.cells #[.int .i64 3, .int .i64 2, .bool true, .bool false, .bool false, .int .u8 9] 27 (0, 0)) := hr2
  have c2_3 := cells6 r2_3
  have hG2 : w.heap.size ≤ g2 := by first | omega | (simp [putRow_size, drewN_heap, drew_heap] at hg2; omega)
  clear hr2 hg2
  clear r1_0 c1_0 r1_1 c1_1 hb1 HB1 hs1
  go_wp2_with fail
  refine (got_quiet aw_g2 false false _).mono ?_
  rintro e w3 ⟨rfl, hb3⟩
  have HB3 := hid (below_step (HB2.out.alloc (by first | omega | (simp [putRow_size, drewN_heap, drew_heap] <;> omega)) _) (by first | omega | (simp [putRow_size, drewN_heap, drew_heap] <;> omega)) hb3)
  have hs3 : w.heap.size ≤ w3.heap.size := HB3.out.size
  have r3_0 : rowAt w3 (w.heap.size) = some (.cells (tabA awX) 25 (0, 0)) := rowNext' hb3 (by rw [rowAt_old _ _ _ (by first | omega | (simp [putRow_size, drewN_heap, drew_heap] <;> omega))]; exact r2_0)
  have c3_0 := lt_of_some r3_0
  have r3_1 : rowAt w3 (g1) = some (.cells #[.int .i64 3, .int .i64 2, .bool false, .bool false, .bool false, .int .u8 9] 27 (0, 0)) := rowNext' hb3 (by rw [rowAt_old _ _ _ (by first | omega | (simp [putRow_size, drewN_heap, drew_heap] <;> omega))]; exact r2_1)
  have c3_1 := cells6 r3_1
  have r3_2 : rowAt w3 (w1.heap.size) = some (.cells (exA zeroT awW) 60 (0, 0)) := rowNext' hb3 (by rw [rowAt_old _ _ _ (by first | omega | (simp [putRow_size, drewN_heap, drew_heap] <;> omega))]; exact r2_2)
  have c3_2 := lt_of_some r3_2
  have r3_3 : rowAt w3 (g2) = some (.cells #[.int .i64 3, .int .i64 2, .bool true, .bool false, .bool false, .int .u8 9] 27 (0, 0)) := rowNext' hb3 (by rw [rowAt_old _ _ _ (by first | omega | (simp [putRow_size, drewN_heap, drew_heap] <;> omega))]; exact r2_3)
  have c3_3 := cells6 r3_3
  have r3_4 : rowAt w3 (w2.heap.size) = some (.cells (exA awT (updW zeroW 3 0)) 60 (0, 0)) := rowNext' hb3 (by rw [rowAt_new _ _ _ (by first | omega | (simp [putRow_size, drewN_heap, drew_heap] <;> omega))])
  have c3_4 := lt_of_some r3_4
  clear r2_0 c2_0 r2_1 c2_1 r2_2 c2_2 r2_3 c2_3 hb2 HB2 hs2
  go_wp2_with fail
  refine (got_quiet aw_g3 false false _).mono ?_
  rintro e w4 ⟨rfl, hb4⟩
  have HB4 := hid (below_step (HB3.out.alloc (by first | omega | (simp [putRow_size, drewN_heap, drew_heap] <;> omega)) _) (by first | omega | (simp [putRow_size, drewN_heap, drew_heap] <;> omega)) hb4)
  have hs4 : w.heap.size ≤ w4.heap.size := HB4.out.size
  have r4_0 : rowAt w4 (w.heap.size) = some (.cells (tabA awX) 25 (0, 0)) := rowNext' hb4 (by rw [rowAt_old _ _ _ (by first | omega | (simp [putRow_size, drewN_heap, drew_heap] <;> omega))]; exact r3_0)
  have c4_0 := lt_of_some r4_0
  have r4_1 : rowAt w4 (g1) = some (.cells #[.int .i64 3, .int .i64 2, .bool false, .bool false, .bool false, .int .u8 9] 27 (0, 0)) := rowNext' hb4 (by rw [rowAt_old _ _ _ (by first | omega | (simp [putRow_size, drewN_heap, drew_heap] <;> omega))]; exact r3_1)
  have c4_1 := cells6 r4_1
  have r4_2 : rowAt w4 (w1.heap.size) = some (.cells (exA zeroT awW) 60 (0, 0)) := rowNext' hb4 (by rw [rowAt_old _ _ _ (by first | omega | (simp [putRow_size, drewN_heap, drew_heap] <;> omega))]; exact r3_2)
  have c4_2 := lt_of_some r4_2
  have r4_3 : rowAt w4 (g2) = some (.cells #[.int .i64 3, .int .i64 2, .bool true, .bool false, .bool false, .int .u8 9] 27 (0, 0)) := rowNext' hb4 (by rw [rowAt_old _ _ _ (by first | omega | (simp [putRow_size, drewN_heap, drew_heap] <;> omega))]; exact r3_3)
  have c4_3 := cells6 r4_3
  have r4_4 : rowAt w4 (w2.heap.size) = some (.cells (exA awT (updW zeroW 3 0)) 60 (0, 0)) := rowNext' hb4 (by rw [rowAt_old _ _ _ (by first | omega | (simp [putRow_size, drewN_heap, drew_heap] <;> omega))]; exact r3_4)
  have c4_4 := lt_of_some r4_4
  have r4_5 : rowAt w4 (w3.heap.size) = some (.cells (exA zeroT awW) 60 (0, 0)) := rowNext' hb4 (by rw [rowAt_new _ _ _ (by first | omega | (simp [putRow_size, drewN_heap, drew_heap] <;> omega))])
  have c4_5 := lt_of_some r4_5
  clear r3_0 c3_0 r3_1 c3_1 r3_2 c3_2 r3_3 c3_3 r3_4 c3_4 hb3 HB3 hs3
  go_wp2_with fail
  refine (got_quiet aw_g4 false false _).mono ?_
  rintro e w5 ⟨rfl, hb5⟩
  have HB5 := hid (below_step (HB4.out.alloc (by first | omega | (simp [putRow_size, drewN_heap, drew_heap] <;> omega)) _) (by first | omega | (simp [putRow_size, drewN_heap, drew_heap] <;> omega)) hb5)
  have hs5 : w.heap.size ≤ w5.heap.size := HB5.out.size
  have r5_0 : rowAt w5 (w.heap.size) = some (.cells (tabA awX) 25 (0, 0)) := rowNext' hb5 (by rw [rowAt_old _ _ _ (by first | omega | (simp [putRow_size, drewN_heap, drew_heap] <;> omega))]; exact r4_0)
  have c5_0 := lt_of_some r5_0
  have r5_1 : rowAt w5 (g1) = some (.cells #[.int .i64 3, .int .i64 2, .bool false, .bool false, .bool false, .int .u8 9] 27 (0, 0)) := rowNext' hb5 (by rw [rowAt_old _ _ _ (by first | omega | (simp [putRow_size, drewN_heap, drew_heap] <;> omega))]; exact r4_1)
  have c5_1 := cells6 r5_1
  have r5_2 : rowAt w5 (w1.heap.size) = some (.cells (exA zeroT awW) 60 (0, 0)) := rowNext' hb5 (by rw [rowAt_old _ _ _ (by first | omega | (simp [putRow_size, drewN_heap, drew_heap] <;> omega))]; exact r4_2)
  have c5_2 := lt_of_some r5_2
  have r5_3 : rowAt w5 (g2) = some (.cells #[.int .i64 3, .int .i64 2, .bool true, .bool false, .bool false, .int .u8 9] 27 (0, 0)) := rowNext' hb5 (by rw [rowAt_old _ _ _ (by first | omega | (simp [putRow_size, drewN_heap, drew_heap] <;> omega))]; exact r4_3)
  have c5_3 := cells6 r5_3
  have r5_4 : rowAt w5 (w2.heap.size) = some (.cells (exA awT (updW zeroW 3 0)) 60 (0, 0)) := rowNext' hb5 (by rw [rowAt_old _ _ _ (by first | omega | (simp [putRow_size, drewN_heap, drew_heap] <;> omega))]; exact r4_4)
  have c5_4 := lt_of_some r5_4
  have r5_5 : rowAt w5 (w3.heap.size) = some (.cells (exA zeroT awW) 60 (0, 0)) := rowNext' hb5 (by rw [rowAt_old _ _ _ (by first | omega | (simp [putRow_size, drewN_heap, drew_heap] <;> omega))]; exact r4_5)
  have c5_5 := lt_of_some r5_5
  have r5_6 : rowAt w5 (w4.heap.size) = some (.cells (exA awT (updW awW 3 0)) 60 (0, 0)) := rowNext' hb5 (by rw [rowAt_new _ _ _ (by first | omega | (simp [putRow_size, drewN_heap, drew_heap] <;> omega))])
  have c5_6 := lt_of_some r5_6
  clear r4_0 c4_0 r4_1 c4_1 r4_2 c4_2 r4_3 c4_3 r4_4 c4_4 r4_5 c4_5 hb4 HB4 hs4
  have k4a := cell_of_row _ _ (3 * 2) _ _ _ r5_4
  rw [exA_cell0 awT _ 3 (by omega)] at k4a
  have k4b := cell_of_row _ _ (3 * 2 + 1) _ _ _ r5_4
  rw [exA_cell1 awT _ 3 (by omega)] at k4b
  dsimp only [awT, upd] at k4a k4b
  have k6a := cell_of_row _ _ (3 * 2) _ _ _ r5_6
  rw [exA_cell0 awT _ 3 (by omega)] at k6a
  have k6b := cell_of_row _ _ (3 * 2 + 1) _ _ _ r5_6
  rw [exA_cell1 awT _ 3 (by omega)] at k6b
  dsimp only [awT, upd] at k6a k6b
  go_wp2_with fail
  go_ret
  exact ⟨rfl, ((HB5.out.alloc (by first | omega | (simp [putRow_size, drewN_heap, drew_heap] <;> omega)) _).alloc (by first | omega | (simp [putRow_size, drewN_heap, drew_heap] <;> omega)) _)⟩

end Go.Proofs.Ytjghmgpmaallfaa
