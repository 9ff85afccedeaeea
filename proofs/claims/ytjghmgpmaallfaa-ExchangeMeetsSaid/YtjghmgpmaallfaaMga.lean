/-
  The walk of ExchangeMeets: a triple comes to the server.
-/
import Derived.Test.YtjghmgpmaallfaaMs
import Derived.Deep.QuietTactic
import Derived.BigQuiet
import Derived.Deep.CutRange
import Derived.Deep.RegionHeld3
import Derived.BigRegion
namespace Go.Proofs.Ytjghmgpmaallfaa
open Go.RowKit
set_option linter.unusedVariables false
set_option linter.unusedSimpArgs false

attribute [local go_sem ↓] nameAppend eqZeroW'
set_option maxHeartbeats 40000000 in
set_option maxRecDepth 1000000 in
theorem meets_g0 {w wr : World} {p0 p1 : Tb} {sv : Value} {n A S k : Nat} {t0 t1 : Tb} {m0 m1 : Wt} {q0 q1 : List Msg} {v0 v1 : Value} {c2 c5 c6 c7 c8 c12 c14 c15 c16 c17 c18 c19 c20 c21 c22 c23 c24 c25 c26 c27 c28 c29 c30 c31 c32 c33 c34 c35 c36 c37 c38 c39 c40 c41 c42 c43 c44 c45 c46 c47 c48 c49 c50 c51 c52 c53 c54 c55 c56 c57 c58 c59 c60 c61 c62 c63 c64 c65 c66 c67 c68 c69 c70 c71 c72 c73 c74 c75 c76 c77 c78 c79 c80 c81 c82 c83 c84 c85 c86 c87 c88 c89 c90 c91 c92 c93 c94 c95 c96 c97 c98 c99 c100 c101 c102 c103 c104 c105 c106 c107 c108 c109 c110 c111 c112 c113 c114 c115 c116 c117 c118 c119 c120 c121 c122 c123 c124 c125 c126 c127 c128 c129 c130 c131 c132 c133 c134 c135 c136 c137 c138 c139 c140 c141 c142 c143 c144 c145 c146 c147 c148 c149 c150 c151 c152 c153 c154 c155 c156 c157 c158 c159 c160 c161 c162 c163 c164 c165 c166 c167 c168 c169 c170 c171 c172 c173 c174 c175 c176 c177 c178 c179 c180 c181 c182 c183 c184 c185 c186 c187 c188 c189 c190 c191 c192 c193 c194 c195 c196 c197 c198 c199 c200 c201 c202 c203 c204 c205 c206 c207 c208 c209 c210 c211 c212 c213 c214 c215 c216 c217 c218 c219 c220 c221 c222 c223 c224 c225 c226 c227 c228 c229 c230 c231 c232 : Value} {HX : Act → World → Prop}
    (H0 : Hid (tabErr p0 = 0)) (H1 : Hid (tabErr p1 = 0)) (hn : n ≤ 140737488355328) (HA : Hid (Acts w sv n)) (HK0 : Hid (∀ i, i < 31 → 0 ≤ (p0 i).2 ∧ (p0 i).2 ≤ 255)) (HK1 : Hid (∀ i, i < 31 → 0 ≤ (p1 i).2 ∧ (p1 i).2 ≤ 255))
    (hm : MeetB w wr p0 p1 sv n A S k t0 t1 m0 m1 q0 q1 v0 v1) (hne : 0 < q0.length)
    (HQX : Hid (∀ (a' : Act) (w' : World), (∃ u17 u18 u19 u51 u52 u53 u54 u55 u56 u57 u58 u59 u60 u61 u62 u63 u64 u65 u66 u67 u68 u69 u70 u71 u72 u73 u74 u75 u76 u77 u78 u79 u80 u81 u82 u83 u84 u85 u86 u87 u88 u89 u90 u91 u92 u93 u94 u95 u96 u97 u98 u99 u100 u101 u102 u103 u104 u105 u106 u107 u108 u109 u110 u111 u112 u113 u114 u115 u116 u117 u118 u119 u120 u121 u122 u123 u124 u125 u126 u127 u128 u129 u130 u131 u132 u133 u134 u135 u136 u137 u138 u139 u140 u141 u142 u143 u144 u145 u146 u147 u148 u149 u150 u151 u152 u153 u154 u155 u156 u157 u158 u159 u160 u161 u162 u163 u164 u165 u166 u167 u168 u169 u170 u171 u172 u173 u174 u175 u176 u177 u178 u179 u180 u181 u182 u183 u184 u185 u186 u187 u188 u189 u190 u191 u192 u193 u194 : Value, ∃ A9 S9 : Int, ((∃ A' S' : Nat, A9 = A' ∧ S9 = S' ∧ MeetAt w w' p0 p1 sv n A' S' (k + 1)) ∧ a' = ⟨List.toArray (.agg (prA p0 p1 sv) :: .pointer (some ⟨w.heap.size, 0, none⟩) :: c2 :: .pointer (some ⟨w.heap.size + 1, 0, none⟩) :: .pointer (some ⟨w.heap.size + 1 + 1, 0, none⟩) :: c5 :: c6 :: c7 :: c8 :: .int .i64 A9 :: .int .i64 S9 :: .int .i64 k :: c12 :: .int .i64 0 :: c14 :: c15 :: c16 :: u17 :: u18 :: u19 :: c20 :: c21 :: c22 :: c23 :: c24 :: c25 :: c26 :: c27 :: c28 :: c29 :: c30 :: c31 :: c32 :: c33 :: c34 :: c35 :: c36 :: c37 :: c38 :: c39 :: c40 :: c41 :: c42 :: c43 :: c44 :: c45 :: c46 :: c47 :: c48 :: c49 :: c50 :: u51 :: u52 :: u53 :: u54 :: u55 :: u56 :: u57 :: u58 :: u59 :: u60 :: u61 :: u62 :: u63 :: u64 :: u65 :: u66 :: u67 :: u68 :: u69 :: u70 :: u71 :: u72 :: u73 :: u74 :: u75 :: u76 :: u77 :: u78 :: u79 :: u80 :: u81 :: u82 :: u83 :: u84 :: u85 :: u86 :: u87 :: u88 :: u89 :: u90 :: u91 :: u92 :: u93 :: u94 :: u95 :: u96 :: u97 :: u98 :: u99 :: u100 :: u101 :: u102 :: u103 :: u104 :: u105 :: u106 :: u107 :: u108 :: u109 :: u110 :: u111 :: u112 :: u113 :: u114 :: u115 :: u116 :: u117 :: u118 :: u119 :: u120 :: u121 :: u122 :: u123 :: u124 :: u125 :: u126 :: u127 :: u128 :: u129 :: u130 :: u131 :: u132 :: u133 :: u134 :: u135 :: u136 :: u137 :: u138 :: u139 :: u140 :: u141 :: u142 :: u143 :: u144 :: u145 :: u146 :: u147 :: u148 :: u149 :: u150 :: u151 :: u152 :: u153 :: u154 :: u155 :: u156 :: u157 :: u158 :: u159 :: u160 :: u161 :: u162 :: u163 :: u164 :: u165 :: u166 :: u167 :: u168 :: u169 :: u170 :: u171 :: u172 :: u173 :: u174 :: u175 :: u176 :: u177 :: u178 :: u179 :: u180 :: u181 :: u182 :: u183 :: u184 :: u185 :: u186 :: u187 :: u188 :: u189 :: u190 :: u191 :: u192 :: u193 :: u194 :: c195 :: c196 :: c197 :: c198 :: c199 :: c200 :: c201 :: c202 :: c203 :: c204 :: c205 :: c206 :: c207 :: c208 :: c209 :: c210 :: c211 :: c212 :: c213 :: c214 :: c215 :: c216 :: c217 :: c218 :: c219 :: c220 :: c221 :: c222 :: c223 :: c224 :: c225 :: c226 :: c227 :: c228 :: c229 :: c230 :: c231 :: c232 :: []), []⟩)) → HX a' w')) :
    code28.wp Try.prog (offEnd HX) ⟨List.toArray (.agg (prA p0 p1 sv) :: .pointer (some ⟨w.heap.size, 0, none⟩) :: c2 :: .pointer (some ⟨w.heap.size + 1, 0, none⟩) :: .pointer (some ⟨w.heap.size + 1 + 1, 0, none⟩) :: c5 :: c6 :: c7 :: c8 :: .int .i64 A :: .int .i64 S :: .int .i64 k :: c12 :: .int .i64 0 :: c14 :: c15 :: c16 :: c17 :: c18 :: c19 :: c20 :: c21 :: c22 :: c23 :: c24 :: c25 :: c26 :: c27 :: c28 :: c29 :: c30 :: c31 :: c32 :: c33 :: c34 :: c35 :: c36 :: c37 :: c38 :: c39 :: c40 :: c41 :: c42 :: c43 :: c44 :: c45 :: c46 :: c47 :: c48 :: c49 :: c50 :: c51 :: c52 :: c53 :: c54 :: c55 :: c56 :: c57 :: c58 :: c59 :: c60 :: c61 :: c62 :: c63 :: c64 :: c65 :: c66 :: c67 :: c68 :: c69 :: c70 :: c71 :: c72 :: c73 :: c74 :: c75 :: c76 :: c77 :: c78 :: c79 :: c80 :: c81 :: c82 :: c83 :: c84 :: c85 :: c86 :: c87 :: c88 :: c89 :: c90 :: c91 :: c92 :: c93 :: c94 :: c95 :: c96 :: c97 :: c98 :: c99 :: c100 :: c101 :: c102 :: c103 :: c104 :: c105 :: c106 :: c107 :: c108 :: c109 :: c110 :: c111 :: c112 :: c113 :: c114 :: c115 :: c116 :: c117 :: c118 :: c119 :: c120 :: c121 :: c122 :: c123 :: c124 :: c125 :: c126 :: c127 :: c128 :: c129 :: c130 :: c131 :: c132 :: c133 :: c134 :: c135 :: c136 :: c137 :: c138 :: c139 :: c140 :: c141 :: c142 :: c143 :: c144 :: c145 :: c146 :: c147 :: c148 :: c149 :: c150 :: c151 :: c152 :: c153 :: c154 :: c155 :: c156 :: c157 :: c158 :: c159 :: c160 :: c161 :: c162 :: c163 :: c164 :: c165 :: c166 :: c167 :: c168 :: c169 :: c170 :: c171 :: c172 :: c173 :: c174 :: c175 :: c176 :: c177 :: c178 :: c179 :: c180 :: c181 :: c182 :: c183 :: c184 :: c185 :: c186 :: c187 :: c188 :: c189 :: c190 :: c191 :: c192 :: c193 :: c194 :: c195 :: c196 :: c197 :: c198 :: c199 :: c200 :: c201 :: c202 :: c203 :: c204 :: c205 :: c206 :: c207 :: c208 :: c209 :: c210 :: c211 :: c212 :: c213 :: c214 :: c215 :: c216 :: c217 :: c218 :: c219 :: c220 :: c221 :: c222 :: c223 :: c224 :: c225 :: c226 :: c227 :: c228 :: c229 :: c230 :: c231 :: c232 :: []), []⟩ wr := by
  conv => arg 2; whnf
  have HMB := hid hm
  obtain ⟨rp, rx, rt, hq0, hq1, hdis, hmeet, hA, hphi, hacts, hsz, hbr⟩ := hm
  obtain ⟨ad, cap, hsv⟩ := hacts.form
  obtain ⟨ad0, cap0, hv0⟩ := hq0.form
  obtain ⟨ad1, cap1, hv1⟩ := hq1.form
  have HSV := hid hsv
  have HV0 := hid hv0
  have HV1 := hid hv1
  have HQ0 := hid hq0
  have HQ1 := hid hq1
  have HDIS := hid hdis
  have HMEET := hid hmeet
  have HPHI := hid hphi
  have HACTS := hid hacts
  have HBW := hid hbr
  have hl0 := phi_length q0
  have hl1 := phi_length q1
  have hq0l : q0.length ≤ 220 := by omega
  have hq1l : q1.length ≤ 220 := by omega
  have ks := cell_of_row _ _ 124 _ _ _ rp
  rw [prA_s, hsv] at ks
  have ct := cells2 rt
  rw [hv0, hv1] at ct
  have cp := lt_of_some rp
  have cx := lt_of_some rx
  have RP := hid rp
  have RT := hid rt
  have RX := hid rx
  clear hsv hv0 hv1 hq0 hq1 hdis hmeet hacts hbr hphi rp rt rx
  have hn0 : IntKind.i64.wrap ((n : Int) + 400) = (n : Int) + 400 := by rw [IntKind.wrap_i64]; omega
  have hw0 : IntKind.i64.wrap ((q0.length : Int) + (q1.length : Int)) = (q0.length : Int) + (q1.length : Int) := by rw [IntKind.wrap_i64]; omega
  have hc1 : decide ((k : Int) < (n : Int) + 400) = true := by have := HPHI.out; simp; omega
  have HMA := hid (show MeetAt w wr p0 p1 sv n A S k from ⟨t0, t1, m0, m1, q0, q1, v0, v1, HMB.out⟩)
  clear HMB HMA
  have hz0 : ((q0.length : Int) == 0) = false := beq_eq_false_iff_ne.2 (by omega)
  go_upto_region 28 with fail
  have hS9 : S ≤ 220 := by have := HMEET.out.c; omega
  obtain ⟨x, r, rfl⟩ : ∃ x r, q0 = x :: r := by cases q0 with | nil => simp at hne | cons x r => exact ⟨x, r, rfl⟩
  obtain ⟨gq, off, capq, hvq, hcq, hmq, hBq, hgq, hcell, hfz, hrest⟩ := HQ0.out.first
  have HREST := hid hrest
  have HCELL := hid hcell
  clear hrest hcell
  have hpos : (0 : Int) < ((r.length + 1 : Nat) : Int) := by omega
  have hvo := HV1.out
  subst hvo
  subst hvq
  have ct2 := cells2 RT.out
  obtain ⟨t', m', c, e', hR, hM2⟩ : ∃ t' m' c e', gotR t0 m0 p0 true x.f x.l x.v x.a = ((t', m'), c, e') ∧ ∀ z, (c.map fun c => ansOf x c.1 c.2) = z → match z with | none => Meet t' t1 m' m1 r q1 A S | some z => Meet t' t1 m' m1 r (q1 ++ [z]) A (S + 1) ∧ x.a = false ∧ z.a = true := by
    obtain ⟨t', m', ⟨e', h1, h2⟩ | ⟨c1, c2, h1, h2, h3⟩⟩ := HMEET.out.got0 (p := p0) (by omega) (tabErr_ok H0.out) HK0.out
    · exact ⟨t', m', none, e', h1, fun z hz => by subst hz; exact h2⟩
    · exact ⟨t', m', some (c1, c2), 0, h1, fun z hz => by subst hz; exact ⟨h2, h3, rfl⟩⟩
  have HR := hid hR
  have HM2 := hid hM2
  clear hR hM2
  go_upto_region 28 with fail
  go_cut [17, 18, 19] from 51 to 194 (fun y L E wd => ∃ gx En, y = .pointer (some ⟨gx, 0, none⟩) ∧ E = .int .i64 En ∧ rowAt wd gx = some (.cells (exA t' m') 60 (0, 0)) ∧ AnsIn wr.heap.size wd L (c.map fun c => ansOf x c.1 c.2) ∧ wr.heap.size ≤ gx ∧ Below wr.heap.size wr wd)
  case first =>
    obtain ⟨U, hU⟩ : ∃ U : List Value, tabA p0 = U.toArray := ⟨rows2 31 p0, rfl⟩
    have hu25 := Try.underlying25
    have hiU : (Try.prog.info? 25).map (·.size) = some U.length := by rw [sizePrefs, len_of_tab hU]
    have HC : ∀ W, Calls Try.prog 31 #[.agg (exA t0 m0), .agg U.toArray, .bool true, .agg #[.int .i64 x.f, .int .i64 x.l, .bool x.a, .bool x.i, .bool x.o, .int .u8 x.v]] W fun e' w' => ∃ L E, e' = .returned (.tuple #[.agg (exA t' m'), L, .int .i64 E]) ∧ AnsIn W.heap.size w' L (c.map fun c => ansOf x c.1 c.2) ∧ Below W.heap.size W w' := by
      intro W; rw [← hU]; exact got_any HR.out W
    have HC := hid HC
    have q9 : ∀ y : Good wr, rowAt y.u (w.heap.size + 1) = some (.cells (xsA t0 t1 m0 m1) 80 (0, 0)) ∧ y.u.rangeAt (w.heap.size) 0 U ∧ y.u.cell? ⟨w.heap.size + 1 + 1, 0, none⟩ = some (.slice (some ⟨gq, off, none⟩) (r.length + 1) capq) ∧ y.u.cell? ⟨gq, off, none⟩ = some (.int .i64 x.f) ∧ y.u.cell? ⟨gq, off + 1, none⟩ = some (.int .i64 x.l) ∧ y.u.cell? ⟨gq, off + 2, none⟩ = some (.bool x.a) ∧ y.u.cell? ⟨gq, off + 3, none⟩ = some (.bool x.i) ∧ y.u.cell? ⟨gq, off + 4, none⟩ = some (.bool x.o) ∧ y.u.cell? ⟨gq, off + 5, none⟩ = some (.int .u8 x.v) := by
      intro y
      have ky : ∀ j u, (msgC x)[j]? = some u → y.u.cell? ⟨gq, off + j, none⟩ = some u := fun j u hu => (y.b.cell (p := ⟨gq, off + j, none⟩) hgq).trans (HCELL.out j u hu)
      have kt := cells2 (rowNext' y.b RT.out)
      exact ⟨rowNext' y.b RX.out, range_pr0 (rowNext' y.b RP.out) hU, kt.1, ky 0 _ rfl, ky 1 _ rfl, ky 2 _ rfl, ky 3 _ rfl, ky 4 _ rfl, ky 5 _ rfl⟩
    have HQQ := hid q9
    clear q9 hU ct2 ct ks
    go_region_held3 (fun w' => rowAt w' (w.heap.size + 1) = some (.cells (xsA t0 t1 m0 m1) 80 (0, 0)) ∧ w'.rangeAt (w.heap.size) 0 U ∧ w'.cell? ⟨w.heap.size + 1 + 1, 0, none⟩ = some (.slice (some ⟨gq, off, none⟩) (r.length + 1) capq) ∧ w'.cell? ⟨gq, off, none⟩ = some (.int .i64 x.f) ∧ w'.cell? ⟨gq, off + 1, none⟩ = some (.int .i64 x.l) ∧ w'.cell? ⟨gq, off + 2, none⟩ = some (.bool x.a) ∧ w'.cell? ⟨gq, off + 3, none⟩ = some (.bool x.i) ∧ w'.cell? ⟨gq, off + 4, none⟩ = some (.bool x.o) ∧ w'.cell? ⟨gq, off + 5, none⟩ = some (.int .u8 x.v))
      (exact HQQ.out ⟨_, by first | exact Below.refl _ _ | exact (Below.refl _ _).drew | exact hb9' | exact hb9'.drew | exact hb9'.alloc hb9'.size _ | exact ((Below.refl _ _).drew).alloc (Nat.le_refl _) _ | exact ((Below.refl _ _).alloc (Nat.le_refl _) _).drew | exact below_putRow hb9' _ _ _ (Nat.le_refl _) | exact below_putRow (hb9'.alloc hb9'.size _) _ _ _ hb9'.size⟩)
      (first | (go_at_call 31; (with_reducible refine (HC.out _).mono ?_); rintro e w9 ⟨L, En, rfl, hans, hb9⟩; have hb9' := below9 (w3 := wr) hb9; have HANS := hid hans; clear hans; (first | (have r9 := row_ahead hb9; have hL := hid (leftZ_call (cs := exA t' m') hb9 HANS)) | (have hL := hid (leftZ_new (t := 60) (cs := exA t' m') hb9' HANS)))))
    all_goals go_wp2_with fail
    all_goals go_meet
    all_goals exact ⟨_, _, rfl, rfl, hL.out.1, hL.out.2.1.lower (by omega), hL.out.2.2.1, hL.out.2.2.2⟩
  case rest =>
    obtain ⟨gx, En, rfl, rfl, rgx, hans, hgx, hb4⟩ := hcut
    have r4p := rowNext' hb4 RP.out
    have r4x := rowNext' hb4 RX.out
    have r4t := rowNext' hb4 RT.out
    have HB4 := hid (below_step HBW.out (by omega) hb4)
    have hs4 : w.heap.size + 1 + 1 + 1 ≤ wc.heap.size := by have := hb4.size; omega
    have HQR := hid (HREST.out.below hb4)
    have HQO := hid (HQ1.out.below hb4)
    have HAC := hid (HACTS.out.below hb4)
    have c4t := cells2 r4t
    have c4x := lt_of_some r4x
    have c4g := lt_of_some rgx
    cases c with
    | none =>
      have hL : u18 = .slice none 0 0 := hans
      subst hL
      have happ : (appendT 46 #[.slice ad1 q1.length cap1, .slice none 0 0]).run Try.prog wc.drew = .ok (.slice ad1 q1.length cap1) wc.drew := run_append_none (HQO.out.below (w' := wc.drew) (Below.refl _ _).drew) 46
      have h1r : (1 : Int) ≤ (r.length : Int) + 1 := by omega
      clear HREST HCELL hfz ct2 ct ks
      go_upto_region 29 with fail
      go_region
      have HMX : Hid (MeetAt w (((putRow wc (w.heap.size + 1) (xsA t' t1 m' m1) 80).setCell ⟨w.heap.size + 1 + 1, 0, none⟩ (.slice (if capq = 1 then some ⟨gq, off, none⟩ else some ⟨gq, off + 6, none⟩) r.length (capq - 1))).setCell ⟨w.heap.size + 1 + 1, 1, none⟩ (.slice ad1 q1.length cap1)).drew p0 p1 sv n A S (k + 1)) := hid ⟨t', t1, m', m1, r, q1, _, _,
        by rw [rowAt_drew, rowAt_setCell _ _ _ _ _ (by omega), rowAt_setCell _ _ _ _ _ (by omega), rowAt_putOther _ _ _ _ _ (by omega)]; exact r4p,
        by rw [rowAt_drew, rowAt_setCell _ _ _ _ _ (by omega), rowAt_setCell _ _ _ _ _ (by omega), rowAt_put _ _ _ _ c4x],
        by rw [rowAt_drew]; exact row_put4 r4t (by omega), (HQR.out.put4 (by omega) (by omega) _ _ _ _ _ _).drew, (HQO.out.put4 (by omega) (by omega) _ _ _ _ _ _).drew, fun j hj => by rw [own_if] at hj; exact HDIS.out j hj, HM2.out none rfl, by omega, (by have h9 := phi_less x r; have h8 := HPHI.out; omega),
        HA.out.below ((((below_putRow HB4.out _ _ _ (by omega)).setCell (p := ⟨w.heap.size + 1 + 1, 0, none⟩) (show w.heap.size ≤ w.heap.size + 1 + 1 by omega) _).setCell (p := ⟨w.heap.size + 1 + 1, 1, none⟩) (show w.heap.size ≤ w.heap.size + 1 + 1 by omega) _).drew), by rw [drew_heap, setCell_size, setCell_size, putRow_size]; omega,
        ((((below_putRow HB4.out _ _ _ (by omega)).setCell (p := ⟨w.heap.size + 1 + 1, 0, none⟩) (show w.heap.size ≤ w.heap.size + 1 + 1 by omega) _).setCell (p := ⟨w.heap.size + 1 + 1, 1, none⟩) (show w.heap.size ≤ w.heap.size + 1 + 1 by omega) _).drew)⟩
      generalize (((putRow wc (w.heap.size + 1) (xsA t' t1 m' m1) 80).setCell ⟨w.heap.size + 1 + 1, 0, none⟩ (.slice (if capq = 1 then some ⟨gq, off, none⟩ else some ⟨gq, off + 6, none⟩) r.length (capq - 1))).setCell ⟨w.heap.size + 1 + 1, 1, none⟩ (.slice ad1 q1.length cap1)).drew = wf at *
      generalize (if capq = 1 then some (⟨gq, off, none⟩ : Addr) else some ⟨gq, off + 6, none⟩) = adn at *
      clear r4p r4x r4t HB4 HQR HQO HAC c4t c4x c4g happ HR HM2 rgx HDIS HMEET HPHI HACTS HBW HQ0 HQ1 RP RT RX HSV
      have hk9 := of_decide_eq_true hc1
      have hwk : IntKind.i64.wrap ((k : Int) + 1) = (k : Int) + 1 := by rw [IntKind.wrap_i64]; omega
      have hws : IntKind.i64.wrap ((S : Int) + 0) = (S : Int) := by rw [IntKind.wrap_i64]; omega
      go_wp2_with fail
      refine HQX.out _ _ ?_
      (repeat apply Exists.intro)
      exact ⟨⟨A, S, by first | rfl | omega | go_num, by first | rfl | omega | go_num, HMX.out⟩, rfl⟩
    | some c =>
      obtain ⟨ga, hga, hL, hra⟩ := hans
      have hL : u18 = .slice (some ⟨ga, 0, none⟩) 1 1 := hL
      subst hL
      obtain ⟨vn, w2, hrun, hq2, hgrow, hblk⟩ := run_append_q (w := wc.drew) (HQO.out.below (w' := wc.drew) (Below.refl _ _).drew) (by rw [drew_heap]; omega) (g := ga) (c := 1) (x := ansOf x c.1 c.2) hra (by omega) 46
      have happ : (appendT 46 #[.slice ad1 q1.length cap1, .slice (some ⟨ga, 0, none⟩) 1 1]).run Try.prog wc.drew = .ok vn w2 := hrun
      have h1r : (1 : Int) ≤ (r.length : Int) + 1 := by omega
      obtain ⟨adn2, capn2, hvn⟩ := hq2.form
      have hqlen : (q1 ++ [ansOf x c.1 c.2]).length = q1.length + 1 := by simp
      rw [hqlen] at hvn
      subst hvn
      have kown : ∀ j, (Value.slice ad1 q1.length cap1).ownBlock = some j → w.heap.size + 1 + 1 + 1 ≤ j := fun j hj => (HQO.out.lt hj).1
      have keep2 : ∀ j O, rowAt wc j = some O → (Value.slice ad1 q1.length cap1).ownBlock ≠ some j → rowAt w2 j = some O := fun j O hO hne9 => (hgrow.block j (by rw [drew_heap]; exact lt_of_some hO) (fun h9 => hne9 h9.symm)).trans hO
      have r5p := keep2 _ _ r4p (fun h9 => by have := kown _ h9; omega)
      have r5x := keep2 _ _ r4x (fun h9 => by have := kown _ h9; omega)
      have r5t := keep2 _ _ r4t (fun h9 => by have := kown _ h9; omega)
      have kown2 : ∀ j, (Value.slice ad1 q1.length cap1).ownBlock = some j → j < wr.heap.size := fun j hj => (HQ1.out.lt hj).2
      have r5g := keep2 _ _ rgx (fun h9 => by have := kown2 _ h9; omega)
      have hgqn : (Value.slice ad1 q1.length cap1).ownBlock ≠ some gq := HDIS.out gq rfl
      have HQR5 := hid (HQR.out.kept (w' := w2) fun j hj => by
        rw [own_if] at hj
        obtain rfl : gq = j := by injection hj
        exact hgrow.block gq (by rw [drew_heap]; have := hb4.size; omega) (fun h9 => hgqn h9.symm))
      have HQN5 := hid hq2
      have hdis5 : ∀ j, (Value.slice adn2 (q1.length + 1) capn2).ownBlock = some j → j ≠ gq := by
        intro j hj
        rcases hblk with h9 | h9
        · rw [h9] at hj; intro h8; subst h8; exact hgqn hj
        · rw [h9, drew_heap] at hj; have := hb4.size; injection hj with hj; omega
      have HB5 := hid (HB4.out.drew.grown hgrow (by rw [drew_heap]; omega) (fun j hj => by have := kown j hj; omega))
      have hs5 : w.heap.size + 1 + 1 + 1 ≤ w2.heap.size := by have := hgrow.size; rw [drew_heap] at this; omega
      obtain ⟨hmeet5, hxa, hza⟩ := HM2.out (some (ansOf x c.1 c.2)) rfl
      have c5t := cells2 r5t
      have c5x := lt_of_some r5x
      have c5g := lt_of_some r5g
      have hph : phi (x :: r) = phi r + 2 := by rw [phi_cons, hxa]; rfl
      have hph2 : phi (q1 ++ [ansOf x c.1 c.2]) = phi q1 + 1 := by rw [phi_snoc]; rfl
      have HP5 : Hid (phi (x :: r) = phi r + 2 ∧ phi (q1 ++ [ansOf x c.1 c.2]) = phi q1 + 1) := hid ⟨hph, hph2⟩
      have HM5 := hid hmeet5
      have HD5 := hid hdis5
      clear HREST HCELL ct2 ct ks hrun hq2 hgrow hblk kown kown2 keep2 hgqn HQR HQO HAC hmeet5 hxa hza hph hph2 hdis5 HM2 HR hra hqlen
      go_upto_region 29 with fail
      go_region
      have HMX : Hid (MeetAt w (((putRow w2 (w.heap.size + 1) (xsA t' t1 m' m1) 80).setCell ⟨w.heap.size + 1 + 1, 0, none⟩ (.slice (if capq = 1 then some ⟨gq, off, none⟩ else some ⟨gq, off + 6, none⟩) r.length (capq - 1))).setCell ⟨w.heap.size + 1 + 1, 1, none⟩ (.slice adn2 (q1.length + 1) capn2)) p0 p1 sv n A (S + 1) (k + 1)) := hid ⟨t', t1, m', m1, r, q1 ++ [ansOf x c.1 c.2], _, _,
        by rw [rowAt_setCell _ _ _ _ _ (by omega), rowAt_setCell _ _ _ _ _ (by omega), rowAt_putOther _ _ _ _ _ (by omega)]; exact r5p,
        by rw [rowAt_setCell _ _ _ _ _ (by omega), rowAt_setCell _ _ _ _ _ (by omega), rowAt_put _ _ _ _ c5x],
        row_put4 r5t (by omega), HQR5.out.put4 (by omega) (by omega) _ _ _ _ _ _, HQN5.out.put4 (by omega) (by omega) _ _ _ _ _ _, fun j hj hk => by rw [own_if] at hj; obtain rfl : gq = j := (by injection hj); exact HD5.out _ hk rfl, HM5.out, by omega, (by have h9 := HP5.out; have h8 := HPHI.out; omega),
        HA.out.below (((below_putRow HB5.out _ _ _ (by omega)).setCell (p := ⟨w.heap.size + 1 + 1, 0, none⟩) (show w.heap.size ≤ w.heap.size + 1 + 1 by omega) _).setCell (p := ⟨w.heap.size + 1 + 1, 1, none⟩) (show w.heap.size ≤ w.heap.size + 1 + 1 by omega) _), by rw [setCell_size, setCell_size, putRow_size]; omega,
        (((below_putRow HB5.out _ _ _ (by omega)).setCell (p := ⟨w.heap.size + 1 + 1, 0, none⟩) (show w.heap.size ≤ w.heap.size + 1 + 1 by omega) _).setCell (p := ⟨w.heap.size + 1 + 1, 1, none⟩) (show w.heap.size ≤ w.heap.size + 1 + 1 by omega) _)⟩
      generalize (((putRow w2 (w.heap.size + 1) (xsA t' t1 m' m1) 80).setCell ⟨w.heap.size + 1 + 1, 0, none⟩ (.slice (if capq = 1 then some ⟨gq, off, none⟩ else some ⟨gq, off + 6, none⟩) r.length (capq - 1))).setCell ⟨w.heap.size + 1 + 1, 1, none⟩ (.slice adn2 (q1.length + 1) capn2)) = wf at *
      generalize (if capq = 1 then some (⟨gq, off, none⟩ : Addr) else some ⟨gq, off + 6, none⟩) = adn at *
      clear r4p r4x r4t HB4 c4t c4x c4g happ rgx HDIS HMEET HPHI HACTS HBW HQ0 HQ1 RP RT RX HSV r5p r5x r5t r5g HQR5 HQN5 HB5 c5t c5x c5g HP5 HM5 HD5
      have hk9 := of_decide_eq_true hc1
      have hwk : IntKind.i64.wrap ((k : Int) + 1) = (k : Int) + 1 := by rw [IntKind.wrap_i64]; omega
      have hws : IntKind.i64.wrap ((S : Int) + 1) = (S : Int) + 1 := by rw [IntKind.wrap_i64]; omega
      go_wp2_with fail
      refine HQX.out _ _ ?_
      (repeat apply Exists.intro)
      exact ⟨⟨A, S + 1, by first | rfl | omega | go_num, by first | rfl | omega | go_num, HMX.out⟩, rfl⟩
end Go.Proofs.Ytjghmgpmaallfaa
