/-
  A part of the proof: GabsSized, LawDvs07, LawRes07, LawConv07, LawVals07, LawConvZ07, GabsMemo, Memo07A, Memo07B, Memo07C, Memo07D, Memo07E, Memo07F.
-/
import Derived.Test.YtdhidmcjglokcaaGreatM12
import Derived.SizedLaws
set_option maxHeartbeats 0
set_option maxRecDepth 100000
set_option linter.unusedVariables false
set_option linter.unusedSimpArgs false
set_option linter.unusedSectionVars false
section
namespace Go.Abs
open Go.RowKit Go.WideShapes Go.ChangeShapes Go.ChangeAt
section
variable {H : Type} {enc : TypeId × Value -> H} {P : Program} {w : World} {sp : Nat -> Bool} {hd : Bool}
end
end Go.Abs
end
section
namespace Go.Proofs.YtdhidmcjglokcaaGreat
open Go Go.Abs Go.Abs.M Go.Proofs
open Go Go.Abs Go.Abs.M Go.Proofs
theorem qa7 (q : Rat) : ∃ c, (c = 0 ↔ q = 0) /\ ACall Tryz.prog 53 [.val (.agg (qc q).row)] ⟨[.val (ti .i64 c)], [none]⟩ :=
 ⟨cmpI q.num 0, (cmp00 q.num).trans Rat.num_eq_zero, rqsign_call _ (qc_isR q).n rfl⟩
open Go Go.Abs Go.Abs.M Go.Proofs
theorem exT_pre (P : List Rat) (k : Nat) : ∀ j, ∃ rest, exT P (k + j) = exT P k ++ rest
 | 0 => ⟨[], by simp⟩
 | j + 1 => by
  obtain ⟨rest, h⟩ := exT_pre P k j
  rw [show k + (j + 1) = k + j + 1 from rfl, exT]
  split
  ·exact ⟨rest, h⟩
  ·exact ⟨rest ++ [P.length - (k + j + 1)], by rw [h, List.append_assoc]⟩
theorem conv_out (hsan : ACall Tryz.prog 12 [] ⟨[.val (tb true)], []⟩) (xs : List RW) (hx : ∀ x ∈ xs, x.ok) (hlx : xs.length < 9223372036854775808) (i k : Int) (hi : i < 0 ∨ 7 < i) :
  ACall Tryz.prog 11 [.val (tl (rwrows xs)), .val (ti .i64 i), .val (ti .u8 k)] ⟨[.val (tb true)], [none, none, none]⟩ := by
 obtain ⟨P, hP, ca⟩ := pb_made xs hx 8 (by omega) hlx
 have c1 := uto_err (ur P) i hi
 have c2 : ACall Tryz.prog 55 [.val (.c (.lst true [])), .val (ti .i64 i)] ⟨[.val (tl []), .val (ti .i64 1)], [none, none]⟩ := by
  have hle : ArgsLe [.val (.c (.lst true [])), .val (ti .i64 i)] [.val (tl []), .val (ti .i64 i)] := ⟨TLe.drop _ _, TLe.refl _, trivial⟩
  exact ACall.weak hle (ResLe.refl _) (ufrom_err [] i hi)
 generalize ur P = X at *
 generalize rwrows xs = RX at *
 by_cases h : i < 0
 ·refine callZ ccOk mixed [.val] Tryz.func11 rfl rfl (by kernel_rfl) fun zA zB zC zD zE zF zG zH zI zJ zK zL zM zN zO zP zQ zR zS zT zU zV zX zY zZ za zb zc zd ze zf zg zh zi zj zk zl zm zn zo zp zq zr zs zt zu zw zx zy A L F hS hF => ?_
  have b0 : zQ true = false := by rw [hS.not]; rfl
  have a1 : zO i 0 = true := by rw [hS.lt]; exact decide_eq_true h
  have a2 : zM (zY (zg [])) 0 = true := by rw [hS.eq, hS.ofN, hS.len]; rfl
  have a3 : zM 1 1 = true := by rw [hS.eq]; rfl
  cbv
  refine ⟨_, hS.call (hsan), ?_⟩
  cbv
  refine bF (b0) ?_
  refine ⟨_, hS.call (ca), ?_⟩
  cbv
  refine ⟨_, hS.call (c1), ?_⟩
  cbv
  refine bT (a1) ?_
  refine ⟨_, hS.call (c2), ?_⟩
  cbv
  refine bT rfl (bT a3 (bT a2 ?_))
  exact fin1 hF (tv_bool a3)
 ·refine callZ ccOk mixed [.val] Tryz.func11 rfl rfl (by kernel_rfl) fun zA zB zC zD zE zF zG zH zI zJ zK zL zM zN zO zP zQ zR zS zT zU zV zX zY zZ za zb zc zd ze zf zg zh zi zj zk zl zm zn zo zp zq zr zs zt zu zw zx zy A L F hS hF => ?_
  have b0 : zQ true = false := by rw [hS.not]; rfl
  have a0 : zO i 0 = false := by rw [hS.lt]; exact decide_eq_false h
  have a1 : zO 7 i = true := by rw [hS.lt]; exact decide_eq_true (by omega)
  have a2 : zM (zY (zg [])) 0 = true := by rw [hS.eq, hS.ofN, hS.len]; rfl
  have a3 : zM 1 1 = true := by rw [hS.eq]; rfl
  cbv
  refine ⟨_, hS.call (hsan), ?_⟩
  cbv
  refine bF (b0) ?_
  refine ⟨_, hS.call (ca), ?_⟩
  cbv
  refine ⟨_, hS.call (c1), ?_⟩
  cbv
  refine bF (a0) ?_
  refine bT (a1) ?_
  refine ⟨_, hS.call (c2), ?_⟩
  cbv
  refine bT rfl (bT a3 (bT a2 ?_))
  exact fin1 hF (tv_bool a3)
theorem mrow0 (i o : Nat) : mrow i 0 = mrow o 0 := by simp [mrow]
def ulcS (d k : Int) (X T : Abs.Rows) (q I : Int) : St := mkSt 165 [.junk, vi .i64 d, vi .u8 k, .junk, .junk, .junk, .junk, vb true, .c (.t (.lst false X)), .c (.t (.lst false T)), .junk, .junk, .junk, vi .i64 q, vi .i64 I] [none, none, none]
theorem conv_in0 (hsan : ACall Tryz.prog 12 [] ⟨[.val (tb true)], []⟩) {P : List Rat} (hP : PB (Abs.ev P) (8 + 1) ((8 + 1) * (32 * 8)) P) (hl : P.length <= 8 + 1) {RX X T V : Abs.Rows} {n o : Nat} {O g k : Int} (hk : 0 <= k /\ k < 256)
  (ca : ACall Tryz.prog 15 [.val (tl RX), .val (ti .i64 ((8 : Nat) : Int))] ⟨[.val (tl X)], [none, none]⟩)
  (c1 : ACall Tryz.prog 54 [.val (tl X), .val (ti .i64 ((0 : Nat) : Int))] ⟨[.val (tl T), .val (ti .i64 0)], [none, none]⟩)
  (c2 : ACall Tryz.prog 55 [.val (tl T), .val (ti .i64 ((0 : Nat) : Int))] ⟨[.val (tl X), .val (ti .i64 0)], [none, none]⟩)
  (cs : ACall Tryz.prog 19 [.val (tl X), .val (tl X)] ⟨[.val (tb true)], [none, none]⟩)
  (hX : X = ur P) (hT : T = tmT P 0 P.length) (hn : n = P.length) (lX : X.length = n) (ho : o = (k % 8).toNat) (ho8 : o < 8) (hO : O = (o : Int))
  (c3 : ACall Tryz.prog 55 [.val (tl T), .val (ti .i64 O)] ⟨[.val (tl V), .val (ti .i64 g)], [none, none]⟩) (hV1 : o = 0 -> g = 0 /\ V = X) (hV2 : o ≠ 0 -> 1 < n -> g = 1 /\ V = []) (hV3 : o ≠ 0 -> ¬ 1 < n -> g = 0 /\ V = X) :
  ACall Tryz.prog 11 [.val (tl RX), .val (ti .i64 ((0 : Nat) : Int)), .val (ti .u8 k)] ⟨[.val (tb true)], [none, none, none]⟩ := by
 refine callZ ccOk mixed [.val] Tryz.func11 rfl rfl (by kernel_rfl) fun zA zB zC zD zE zF zG zH zI zJ zK zL zM zN zO zP zQ zR zS zT zU zV zX zY zZ za zb zc zd ze zf zg zh zi zj zk zl zm zn zo zp zq zr zs zt zu zw zx zy A L F hS hF => ?_
 have b0 : zQ true = false := by rw [hS.not]; rfl
 have a1 : zO 0 0 = false := by rw [hS.lt]; rfl
 have a2 : zO 7 0 = false := by rw [hS.lt]; rfl
 have a3 : zN 0 0 = false := by rw [hS.ne]; rfl
 obtain ⟨N, hN, hN2⟩ : ∃ N : Int, N + 1 = n /\ zA .i64 (zC (zY (zg X)) 1) = N := ⟨(n : Int) - 1, by omega, by rw [hS.len, lX, hS.ofN, hS.sub, hS.wrap, wrap_i64 (by omega) (by omega)]⟩
 have k1 : zA .i64 (zF k 8) = O := by rw [hS.rem, Int.tmod_eq_emod_of_nonneg hk.1, hS.wrap, wrap_i64 (by omega) (by omega)]; omega
 cbv
 refine ⟨_, hS.call (hsan), ?_⟩
 cbv
 refine bF (b0) ?_
 refine ⟨_, hS.call (ca), ?_⟩
 cbv
 refine ⟨_, hS.call (c1), ?_⟩
 cbv
 refine bF (a1) ?_
 refine bF (a2) ?_
 refine bF (a3) ?_
 have hN : N + 1 = (n : Int) := hN
 have hO : O = (o : Int) := hO
 rw [hN2]
 refine loopZR ccOk mixed hS (fun (m : Nat) s' => ∃ (k' : Nat) (I q : Int), I + 1 = m /\ m + k' = n /\ q = ((exT P k').length : Int) /\ s' = ulcS 0 k X T q I) (n := n) (s0 := ulcS 0 k X T 0 N) (qaj ?_ ?_) rfl (by show 3 <= 3; omega) ?_ ?_
 ·simp [leT, ulcS, mkSt, vi, vb]
 ·simp [leH, ulcS, mkSt]
 ·exact ⟨0, N, 0, hN, by omega, rfl, rfl⟩
 ·rintro m s1 ⟨k', I, q, hI, hmk, hq, hs1⟩
  by_cases hm : m = 0
  ·have l1 : zP 0 I = false := by rw [hS.le]; exact decide_eq_false (by omega)
   have y0 : zM 0 0 = true := by rw [hS.eq]; rfl
   have y1 : zM 1 1 = true := by rw [hS.eq]; rfl
   have y2 : zM (zY (zg [])) 0 = true := by rw [hS.eq, hS.ofN, hS.len]; rfl
   have hfin : (zM O 0 = true /\ g = 0 /\ V = X) ∨ (zM O 0 = false /\ zO 1 (zY (zg X)) = true /\ g = 1 /\ V = []) ∨ (zM O 0 = false /\ zO 1 (zY (zg X)) = false /\ g = 0 /\ V = X) := by
    by_cases h1 : o = 0
    ·exact .inl ⟨by rw [hS.eq]; exact decide_eq_true (by omega), hV1 h1⟩
    ·by_cases h2 : 1 < n
     ·exact .inr (.inl ⟨by rw [hS.eq]; exact decide_eq_false (by omega), by rw [hS.lt, hS.ofN, hS.len]; exact decide_eq_true (by omega), hV2 h1 h2⟩)
     ·exact .inr (.inr ⟨by rw [hS.eq]; exact decide_eq_false (by omega), by rw [hS.lt, hS.ofN, hS.len]; exact decide_eq_false (by omega), hV3 h1 h2⟩)
   have w1 : zN q (zY (zg T)) = false := by
    rw [hS.ne, hS.ofN, hS.len, hT, qan, List.length_map, hq, show P.length = k' by omega]; exact decide_eq_false (fun h => h rfl)
   subst hs1
   cbv
   refine bF l1 ?_
   refine bF (w1) ?_
   refine ⟨_, hS.call (c2), ?_⟩
   cbv
   refine bF (a3) ?_
   refine ⟨_, hS.call (cs), ?_⟩
   cbv
   refine bF (b0) ?_
   rw [k1]
   refine ⟨_, hS.call (c3), ?_⟩
   cbv
   rcases hfin with ⟨h1, h2, h3⟩ | ⟨h1, h2, h3, h4⟩ | ⟨h1, h2, h3, h4⟩
   ·rw [h2, h3]
    refine bT h1 (bT rfl (bT y0 ?_))
    refine ⟨_, hS.call (cs), ?_⟩
    cbv
    exact hF _ (ResLe.refl _)
   ·rw [h3, h4]
    refine bF h1 (bT h2 (bT rfl (bT y1 ?_)))
    exact fin1 hF (tv_bool y2)
   ·rw [h3, h4]
    refine bF h1 (bF h2 (bT rfl (bT y0 ?_)))
    refine ⟨_, hS.call (cs), ?_⟩
    cbv
    exact hF _ (ResLe.refl _)
  ·have l1 : zP 0 I = true := by rw [hS.le]; exact decide_eq_true (by omega)
   obtain ⟨m', rfl⟩ : ∃ m', m = m' + 1 := ⟨m - 1, by omega⟩
   have hIi : I = (m' : Int) := by omega
   obtain ⟨c, hc⟩ : ∃ c, c = P.getD m' 0 := ⟨_, rfl⟩
   have hPi : P[m']? = some c := by rw [hc, List.getD_eq_getElem?_getD, List.getElem?_eq_getElem (by omega)]; rfl
   have hXi : X[m']? = some (qc c).row := by rw [hX]; exact qau hPi
   have hstep : exT P (k' + 1) = if c = 0 then exT P k' else exT P k' ++ [m'] := by
    rw [exT, show P.length - (k' + 1) = m' by omega, <- hc]
   obtain ⟨C, hC, cS⟩ := qa7 c
   have cE := qa6 (x := c) (y := c) (by rw [hc]; exact cf_qs hP.cf m') rfl (by omega)
   obtain ⟨s2, t2, r2, p2, hrow2, _⟩ := qrow c
   rw [hrow2] at hXi cS cE
   have j1 : zV I = m' := by rw [hS.nat]; omega
   have j2 : zh X m' = some [.v (.bool s2), .lst false r2, .v (.bool t2), .lst false p2] := by rw [hS.nth]; exact hXi
   obtain ⟨I', hI', i1⟩ : ∃ I' : Int, I' + 1 = (m' : Int) /\ zA .i64 (zC I 1) = I' := ⟨I - 1, by omega, by rw [hS.sub, hS.wrap, wrap_i64 (by omega) (by omega)]⟩
   have hmm : m' < m' + 1 := by omega
   by_cases hc0 : c = 0
   ·have q1 : zM C 0 = true := by rw [hS.eq]; exact decide_eq_true (hC.2 hc0)
    rw [if_pos hc0] at hstep
    have hnx : ∃ (k2 : Nat) (I2 q2 : Int), I2 + 1 = (m' : Int) /\ m' + k2 = n /\ q2 = ((exT P k2).length : Int) /\ ulcS 0 k X T q I' = ulcS 0 k X T q2 I2 := ⟨k' + 1, I', q, hI', by omega, by rw [hstep, hq], rfl⟩
    subst hs1
    cbv
    refine bT l1 ?_
    rw [j1, j2]
    cbv
    refine nd (l1) ?_
    refine ⟨_, hS.call (cS), ?_⟩
    cbv
    refine bT (q1) ?_
    refine againR [] (s' := ulcS 0 k X T q I') (k := m') ?_ ?_ ?_ ?_ rfl (by show 3 <= 3; omega) hmm hnx
    ·simp [leTR, ulcS, mkSt, vi, vb, AV.ren, AV.noTup, Cell.ren, renF, i1]
    ·simp [leHR, ulcS, mkSt, Abs.look, renF, Blk.ren, Cell.ren]
    ·simp [liveR, ulcS, mkSt, renF]
    ·simp
   ·have q1 : zM C 0 = false := by rw [hS.eq]; exact decide_eq_false (fun h => hc0 (hC.1 h))
    rw [if_neg hc0] at hstep
    obtain ⟨qn, hqn⟩ : ∃ qn, qn = (exT P k').length := ⟨_, rfl⟩
    have hqT : (exT P P.length)[qn]? = some m' := by
     obtain ⟨rest, hr⟩ := exT_pre P (k' + 1) m'
     rw [show k' + 1 + m' = P.length by omega, hstep] at hr
     rw [hr, hqn]; simp
    have hqT2 : T[qn]? = some [.v (.bool s2), .lst false r2, .v (.bool t2), .lst false p2, .v (.int .i64 I), .v (.int .i64 0), .v (.int .i64 0), .v (.int .i64 0), .v (.int .i64 0), .v (.int .i64 0), .v (.int .i64 0), .v (.int .i64 0)] := by
     rw [hT, qan, List.getElem?_map, hqT, Option.map_some, <- hc, hrow2, hIi]; rfl
    have hqlt := (List.getElem?_eq_some_iff.1 hqT2).1
    have q2 : zP (zY (zg T)) q = false := by rw [hS.le, hS.ofN, hS.len]; exact decide_eq_false (by omega)
    have q3 : zV q = qn := by rw [hS.nat]; omega
    have q4 : zh T qn = some [.v (.bool s2), .lst false r2, .v (.bool t2), .lst false p2, .v (.int .i64 I), .v (.int .i64 0), .v (.int .i64 0), .v (.int .i64 0), .v (.int .i64 0), .v (.int .i64 0), .v (.int .i64 0), .v (.int .i64 0)] := by rw [hS.nth]; exact hqT2
    have q5 : zP 0 q = true := by rw [hS.le]; exact decide_eq_true (by omega)
    obtain ⟨q', hq', q6⟩ : ∃ q' : Int, q' = ((exT P (k' + 1)).length : Int) /\ zA .i64 (zB q 1) = q' := ⟨q + 1, by rw [hstep, List.length_append, List.length_singleton]; omega, by
     have := exT_len P k'
     rw [hS.add, hS.wrap, wrap_i64 (by omega) (by omega)]⟩
    have hnx : ∃ (k2 : Nat) (I2 q2 : Int), I2 + 1 = (m' : Int) /\ m' + k2 = n /\ q2 = ((exT P k2).length : Int) /\ ulcS 0 k X T q' I' = ulcS 0 k X T q2 I2 := ⟨k' + 1, I', q', hI', by omega, hq', rfl⟩
    have z1 : zM I I = true := by rw [hS.eq]; exact decide_eq_true rfl
    have z2 : zM 0 0 = true := by rw [hS.eq]; rfl
    subst hs1
    cbv
    refine bT l1 ?_
    rw [j1, j2]
    cbv
    refine nd (l1) ?_
    refine ⟨_, hS.call (cS), ?_⟩
    cbv
    refine bF (q1) ?_
    refine bF (q2) ?_
    rw [q3, q4]
    cbv
    refine nd (q5) ?_
    rw [z1, z2]
    cbv
    refine bF rfl ?_
    rw [q3, q4]
    cbv
    refine nd (q5) ?_
    rw [j1, j2]
    cbv
    refine nd (l1) ?_
    refine ⟨_, hS.call (cE), ?_⟩
    cbv
    refine bF (b0) ?_
    refine againR [] (s' := ulcS 0 k X T q' I') (k := m') ?_ ?_ ?_ ?_ rfl (by show 3 <= 3; omega) hmm hnx
    ·simp [leTR, ulcS, mkSt, vi, vb, AV.ren, AV.noTup, Cell.ren, renF, i1, q6]
    ·simp [leHR, ulcS, mkSt, Abs.look, renF, Blk.ren, Cell.ren]
    ·simp [liveR, ulcS, mkSt, renF]
    ·simp
theorem conv_in1 (hsan : ACall Tryz.prog 12 [] ⟨[.val (tb true)], []⟩) {P : List Rat} (hP : PB (Abs.ev P) (8 + 1) ((8 + 1) * (32 * 8)) P) (hl : P.length <= 8 + 1) {RX X T V : Abs.Rows} {n o : Nat} {O g k : Int} (hk : 0 <= k /\ k < 256)
  (ca : ACall Tryz.prog 15 [.val (tl RX), .val (ti .i64 ((8 : Nat) : Int))] ⟨[.val (tl X)], [none, none]⟩)
  (c1 : ACall Tryz.prog 54 [.val (tl X), .val (ti .i64 ((1 : Nat) : Int))] ⟨[.val (tl T), .val (ti .i64 0)], [none, none]⟩)
  (c2 : ACall Tryz.prog 55 [.val (tl T), .val (ti .i64 ((1 : Nat) : Int))] ⟨[.val (tl X), .val (ti .i64 0)], [none, none]⟩)
  (cs : ACall Tryz.prog 19 [.val (tl X), .val (tl X)] ⟨[.val (tb true)], [none, none]⟩)
  (hX : X = ur P) (hT : T = tmT P 1 P.length) (hn : n = P.length) (lX : X.length = n) (ho : o = (k % 8).toNat) (ho8 : o < 8) (hO : O = (o : Int))
  (c3 : ACall Tryz.prog 55 [.val (tl T), .val (ti .i64 O)] ⟨[.val (tl V), .val (ti .i64 g)], [none, none]⟩) (hV1 : o = 1 -> g = 0 /\ V = X) (hV2 : o ≠ 1 -> 1 < n -> g = 1 /\ V = []) (hV3 : o ≠ 1 -> ¬ 1 < n -> g = 0 /\ V = X) :
  ACall Tryz.prog 11 [.val (tl RX), .val (ti .i64 ((1 : Nat) : Int)), .val (ti .u8 k)] ⟨[.val (tb true)], [none, none, none]⟩ := by
 refine callZ ccOk mixed [.val] Tryz.func11 rfl rfl (by kernel_rfl) fun zA zB zC zD zE zF zG zH zI zJ zK zL zM zN zO zP zQ zR zS zT zU zV zX zY zZ za zb zc zd ze zf zg zh zi zj zk zl zm zn zo zp zq zr zs zt zu zw zx zy A L F hS hF => ?_
 have b0 : zQ true = false := by rw [hS.not]; rfl
 have a1 : zO 1 0 = false := by rw [hS.lt]; rfl
 have a2 : zO 7 1 = false := by rw [hS.lt]; rfl
 have a3 : zN 0 0 = false := by rw [hS.ne]; rfl
 obtain ⟨N, hN, hN2⟩ : ∃ N : Int, N + 1 = n /\ zA .i64 (zC (zY (zg X)) 1) = N := ⟨(n : Int) - 1, by omega, by rw [hS.len, lX, hS.ofN, hS.sub, hS.wrap, wrap_i64 (by omega) (by omega)]⟩
 have k1 : zA .i64 (zF k 8) = O := by rw [hS.rem, Int.tmod_eq_emod_of_nonneg hk.1, hS.wrap, wrap_i64 (by omega) (by omega)]; omega
 cbv
 refine ⟨_, hS.call (hsan), ?_⟩
 cbv
 refine bF (b0) ?_
 refine ⟨_, hS.call (ca), ?_⟩
 cbv
 refine ⟨_, hS.call (c1), ?_⟩
 cbv
 refine bF (a1) ?_
 refine bF (a2) ?_
 refine bF (a3) ?_
 have hN : N + 1 = (n : Int) := hN
 have hO : O = (o : Int) := hO
 rw [hN2]
 refine loopZR ccOk mixed hS (fun (m : Nat) s' => ∃ (k' : Nat) (I q : Int), I + 1 = m /\ m + k' = n /\ q = ((exT P k').length : Int) /\ s' = ulcS 1 k X T q I) (n := n) (s0 := ulcS 1 k X T 0 N) (qaj ?_ ?_) rfl (by show 3 <= 3; omega) ?_ ?_
 ·simp [leT, ulcS, mkSt, vi, vb]
 ·simp [leH, ulcS, mkSt]
 ·exact ⟨0, N, 0, hN, by omega, rfl, rfl⟩
 ·rintro m s1 ⟨k', I, q, hI, hmk, hq, hs1⟩
  by_cases hm : m = 0
  ·have l1 : zP 0 I = false := by rw [hS.le]; exact decide_eq_false (by omega)
   have y0 : zM 0 0 = true := by rw [hS.eq]; rfl
   have y1 : zM 1 1 = true := by rw [hS.eq]; rfl
   have y2 : zM (zY (zg [])) 0 = true := by rw [hS.eq, hS.ofN, hS.len]; rfl
   have hfin : (zM O 1 = true /\ g = 0 /\ V = X) ∨ (zM O 1 = false /\ zO 1 (zY (zg X)) = true /\ g = 1 /\ V = []) ∨ (zM O 1 = false /\ zO 1 (zY (zg X)) = false /\ g = 0 /\ V = X) := by
    by_cases h1 : o = 1
    ·exact .inl ⟨by rw [hS.eq]; exact decide_eq_true (by omega), hV1 h1⟩
    ·by_cases h2 : 1 < n
     ·exact .inr (.inl ⟨by rw [hS.eq]; exact decide_eq_false (by omega), by rw [hS.lt, hS.ofN, hS.len]; exact decide_eq_true (by omega), hV2 h1 h2⟩)
     ·exact .inr (.inr ⟨by rw [hS.eq]; exact decide_eq_false (by omega), by rw [hS.lt, hS.ofN, hS.len]; exact decide_eq_false (by omega), hV3 h1 h2⟩)
   have w1 : zN q (zY (zg T)) = false := by
    rw [hS.ne, hS.ofN, hS.len, hT, qan, List.length_map, hq, show P.length = k' by omega]; exact decide_eq_false (fun h => h rfl)
   subst hs1
   cbv
   refine bF l1 ?_
   refine bF (w1) ?_
   refine ⟨_, hS.call (c2), ?_⟩
   cbv
   refine bF (a3) ?_
   refine ⟨_, hS.call (cs), ?_⟩
   cbv
   refine bF (b0) ?_
   rw [k1]
   refine ⟨_, hS.call (c3), ?_⟩
   cbv
   rcases hfin with ⟨h1, h2, h3⟩ | ⟨h1, h2, h3, h4⟩ | ⟨h1, h2, h3, h4⟩
   ·rw [h2, h3]
    refine bT h1 (bT rfl (bT y0 ?_))
    refine ⟨_, hS.call (cs), ?_⟩
    cbv
    exact hF _ (ResLe.refl _)
   ·rw [h3, h4]
    refine bF h1 (bT h2 (bT rfl (bT y1 ?_)))
    exact fin1 hF (tv_bool y2)
   ·rw [h3, h4]
    refine bF h1 (bF h2 (bT rfl (bT y0 ?_)))
    refine ⟨_, hS.call (cs), ?_⟩
    cbv
    exact hF _ (ResLe.refl _)
  ·have l1 : zP 0 I = true := by rw [hS.le]; exact decide_eq_true (by omega)
   obtain ⟨m', rfl⟩ : ∃ m', m = m' + 1 := ⟨m - 1, by omega⟩
   have hIi : I = (m' : Int) := by omega
   obtain ⟨c, hc⟩ : ∃ c, c = P.getD m' 0 := ⟨_, rfl⟩
   have hPi : P[m']? = some c := by rw [hc, List.getD_eq_getElem?_getD, List.getElem?_eq_getElem (by omega)]; rfl
   have hXi : X[m']? = some (qc c).row := by rw [hX]; exact qau hPi
   have hstep : exT P (k' + 1) = if c = 0 then exT P k' else exT P k' ++ [m'] := by
    rw [exT, show P.length - (k' + 1) = m' by omega, <- hc]
   obtain ⟨C, hC, cS⟩ := qa7 c
   have cE := qa6 (x := c) (y := c) (by rw [hc]; exact cf_qs hP.cf m') rfl (by omega)
   obtain ⟨s2, t2, r2, p2, hrow2, _⟩ := qrow c
   rw [hrow2] at hXi cS cE
   have j1 : zV I = m' := by rw [hS.nat]; omega
   have j2 : zh X m' = some [.v (.bool s2), .lst false r2, .v (.bool t2), .lst false p2] := by rw [hS.nth]; exact hXi
   obtain ⟨I', hI', i1⟩ : ∃ I' : Int, I' + 1 = (m' : Int) /\ zA .i64 (zC I 1) = I' := ⟨I - 1, by omega, by rw [hS.sub, hS.wrap, wrap_i64 (by omega) (by omega)]⟩
   have hmm : m' < m' + 1 := by omega
   by_cases hc0 : c = 0
   ·have q1 : zM C 0 = true := by rw [hS.eq]; exact decide_eq_true (hC.2 hc0)
    rw [if_pos hc0] at hstep
    have hnx : ∃ (k2 : Nat) (I2 q2 : Int), I2 + 1 = (m' : Int) /\ m' + k2 = n /\ q2 = ((exT P k2).length : Int) /\ ulcS 1 k X T q I' = ulcS 1 k X T q2 I2 := ⟨k' + 1, I', q, hI', by omega, by rw [hstep, hq], rfl⟩
    subst hs1
    cbv
    refine bT l1 ?_
    rw [j1, j2]
    cbv
    refine nd (l1) ?_
    refine ⟨_, hS.call (cS), ?_⟩
    cbv
    refine bT (q1) ?_
    refine againR [] (s' := ulcS 1 k X T q I') (k := m') ?_ ?_ ?_ ?_ rfl (by show 3 <= 3; omega) hmm hnx
    ·simp [leTR, ulcS, mkSt, vi, vb, AV.ren, AV.noTup, Cell.ren, renF, i1]
    ·simp [leHR, ulcS, mkSt, Abs.look, renF, Blk.ren, Cell.ren]
    ·simp [liveR, ulcS, mkSt, renF]
    ·simp
   ·have q1 : zM C 0 = false := by rw [hS.eq]; exact decide_eq_false (fun h => hc0 (hC.1 h))
    rw [if_neg hc0] at hstep
    obtain ⟨qn, hqn⟩ : ∃ qn, qn = (exT P k').length := ⟨_, rfl⟩
    have hqT : (exT P P.length)[qn]? = some m' := by
     obtain ⟨rest, hr⟩ := exT_pre P (k' + 1) m'
     rw [show k' + 1 + m' = P.length by omega, hstep] at hr
     rw [hr, hqn]; simp
    have hqT2 : T[qn]? = some [.v (.bool s2), .lst false r2, .v (.bool t2), .lst false p2, .v (.int .i64 0), .v (.int .i64 I), .v (.int .i64 0), .v (.int .i64 0), .v (.int .i64 0), .v (.int .i64 0), .v (.int .i64 0), .v (.int .i64 0)] := by
     rw [hT, qan, List.getElem?_map, hqT, Option.map_some, <- hc, hrow2, hIi]; rfl
    have hqlt := (List.getElem?_eq_some_iff.1 hqT2).1
    have q2 : zP (zY (zg T)) q = false := by rw [hS.le, hS.ofN, hS.len]; exact decide_eq_false (by omega)
    have q3 : zV q = qn := by rw [hS.nat]; omega
    have q4 : zh T qn = some [.v (.bool s2), .lst false r2, .v (.bool t2), .lst false p2, .v (.int .i64 0), .v (.int .i64 I), .v (.int .i64 0), .v (.int .i64 0), .v (.int .i64 0), .v (.int .i64 0), .v (.int .i64 0), .v (.int .i64 0)] := by rw [hS.nth]; exact hqT2
    have q5 : zP 0 q = true := by rw [hS.le]; exact decide_eq_true (by omega)
    obtain ⟨q', hq', q6⟩ : ∃ q' : Int, q' = ((exT P (k' + 1)).length : Int) /\ zA .i64 (zB q 1) = q' := ⟨q + 1, by rw [hstep, List.length_append, List.length_singleton]; omega, by
     have := exT_len P k'
     rw [hS.add, hS.wrap, wrap_i64 (by omega) (by omega)]⟩
    have hnx : ∃ (k2 : Nat) (I2 q2 : Int), I2 + 1 = (m' : Int) /\ m' + k2 = n /\ q2 = ((exT P k2).length : Int) /\ ulcS 1 k X T q' I' = ulcS 1 k X T q2 I2 := ⟨k' + 1, I', q', hI', by omega, hq', rfl⟩
    have z1 : zM I I = true := by rw [hS.eq]; exact decide_eq_true rfl
    have z2 : zM 0 0 = true := by rw [hS.eq]; rfl
    subst hs1
    cbv
    refine bT l1 ?_
    rw [j1, j2]
    cbv
    refine nd (l1) ?_
    refine ⟨_, hS.call (cS), ?_⟩
    cbv
    refine bF (q1) ?_
    refine bF (q2) ?_
    rw [q3, q4]
    cbv
    refine nd (q5) ?_
    rw [z1, z2]
    cbv
    refine bF rfl ?_
    rw [q3, q4]
    cbv
    refine nd (q5) ?_
    rw [j1, j2]
    cbv
    refine nd (l1) ?_
    refine ⟨_, hS.call (cE), ?_⟩
    cbv
    refine bF (b0) ?_
    refine againR [] (s' := ulcS 1 k X T q' I') (k := m') ?_ ?_ ?_ ?_ rfl (by show 3 <= 3; omega) hmm hnx
    ·simp [leTR, ulcS, mkSt, vi, vb, AV.ren, AV.noTup, Cell.ren, renF, i1, q6]
    ·simp [leHR, ulcS, mkSt, Abs.look, renF, Blk.ren, Cell.ren]
    ·simp [liveR, ulcS, mkSt, renF]
    ·simp
theorem conv_in2 (hsan : ACall Tryz.prog 12 [] ⟨[.val (tb true)], []⟩) {P : List Rat} (hP : PB (Abs.ev P) (8 + 1) ((8 + 1) * (32 * 8)) P) (hl : P.length <= 8 + 1) {RX X T V : Abs.Rows} {n o : Nat} {O g k : Int} (hk : 0 <= k /\ k < 256)
  (ca : ACall Tryz.prog 15 [.val (tl RX), .val (ti .i64 ((8 : Nat) : Int))] ⟨[.val (tl X)], [none, none]⟩)
  (c1 : ACall Tryz.prog 54 [.val (tl X), .val (ti .i64 ((2 : Nat) : Int))] ⟨[.val (tl T), .val (ti .i64 0)], [none, none]⟩)
  (c2 : ACall Tryz.prog 55 [.val (tl T), .val (ti .i64 ((2 : Nat) : Int))] ⟨[.val (tl X), .val (ti .i64 0)], [none, none]⟩)
  (cs : ACall Tryz.prog 19 [.val (tl X), .val (tl X)] ⟨[.val (tb true)], [none, none]⟩)
  (hX : X = ur P) (hT : T = tmT P 2 P.length) (hn : n = P.length) (lX : X.length = n) (ho : o = (k % 8).toNat) (ho8 : o < 8) (hO : O = (o : Int))
  (c3 : ACall Tryz.prog 55 [.val (tl T), .val (ti .i64 O)] ⟨[.val (tl V), .val (ti .i64 g)], [none, none]⟩) (hV1 : o = 2 -> g = 0 /\ V = X) (hV2 : o ≠ 2 -> 1 < n -> g = 1 /\ V = []) (hV3 : o ≠ 2 -> ¬ 1 < n -> g = 0 /\ V = X) :
  ACall Tryz.prog 11 [.val (tl RX), .val (ti .i64 ((2 : Nat) : Int)), .val (ti .u8 k)] ⟨[.val (tb true)], [none, none, none]⟩ := by
 refine callZ ccOk mixed [.val] Tryz.func11 rfl rfl (by kernel_rfl) fun zA zB zC zD zE zF zG zH zI zJ zK zL zM zN zO zP zQ zR zS zT zU zV zX zY zZ za zb zc zd ze zf zg zh zi zj zk zl zm zn zo zp zq zr zs zt zu zw zx zy A L F hS hF => ?_
 have b0 : zQ true = false := by rw [hS.not]; rfl
 have a1 : zO 2 0 = false := by rw [hS.lt]; rfl
 have a2 : zO 7 2 = false := by rw [hS.lt]; rfl
 have a3 : zN 0 0 = false := by rw [hS.ne]; rfl
 obtain ⟨N, hN, hN2⟩ : ∃ N : Int, N + 1 = n /\ zA .i64 (zC (zY (zg X)) 1) = N := ⟨(n : Int) - 1, by omega, by rw [hS.len, lX, hS.ofN, hS.sub, hS.wrap, wrap_i64 (by omega) (by omega)]⟩
 have k1 : zA .i64 (zF k 8) = O := by rw [hS.rem, Int.tmod_eq_emod_of_nonneg hk.1, hS.wrap, wrap_i64 (by omega) (by omega)]; omega
 cbv
 refine ⟨_, hS.call (hsan), ?_⟩
 cbv
 refine bF (b0) ?_
 refine ⟨_, hS.call (ca), ?_⟩
 cbv
 refine ⟨_, hS.call (c1), ?_⟩
 cbv
 refine bF (a1) ?_
 refine bF (a2) ?_
 refine bF (a3) ?_
 have hN : N + 1 = (n : Int) := hN
 have hO : O = (o : Int) := hO
 rw [hN2]
 refine loopZR ccOk mixed hS (fun (m : Nat) s' => ∃ (k' : Nat) (I q : Int), I + 1 = m /\ m + k' = n /\ q = ((exT P k').length : Int) /\ s' = ulcS 2 k X T q I) (n := n) (s0 := ulcS 2 k X T 0 N) (qaj ?_ ?_) rfl (by show 3 <= 3; omega) ?_ ?_
 ·simp [leT, ulcS, mkSt, vi, vb]
 ·simp [leH, ulcS, mkSt]
 ·exact ⟨0, N, 0, hN, by omega, rfl, rfl⟩
 ·rintro m s1 ⟨k', I, q, hI, hmk, hq, hs1⟩
  by_cases hm : m = 0
  ·have l1 : zP 0 I = false := by rw [hS.le]; exact decide_eq_false (by omega)
   have y0 : zM 0 0 = true := by rw [hS.eq]; rfl
   have y1 : zM 1 1 = true := by rw [hS.eq]; rfl
   have y2 : zM (zY (zg [])) 0 = true := by rw [hS.eq, hS.ofN, hS.len]; rfl
   have hfin : (zM O 2 = true /\ g = 0 /\ V = X) ∨ (zM O 2 = false /\ zO 1 (zY (zg X)) = true /\ g = 1 /\ V = []) ∨ (zM O 2 = false /\ zO 1 (zY (zg X)) = false /\ g = 0 /\ V = X) := by
    by_cases h1 : o = 2
    ·exact .inl ⟨by rw [hS.eq]; exact decide_eq_true (by omega), hV1 h1⟩
    ·by_cases h2 : 1 < n
     ·exact .inr (.inl ⟨by rw [hS.eq]; exact decide_eq_false (by omega), by rw [hS.lt, hS.ofN, hS.len]; exact decide_eq_true (by omega), hV2 h1 h2⟩)
     ·exact .inr (.inr ⟨by rw [hS.eq]; exact decide_eq_false (by omega), by rw [hS.lt, hS.ofN, hS.len]; exact decide_eq_false (by omega), hV3 h1 h2⟩)
   have w1 : zN q (zY (zg T)) = false := by
    rw [hS.ne, hS.ofN, hS.len, hT, qan, List.length_map, hq, show P.length = k' by omega]; exact decide_eq_false (fun h => h rfl)
   subst hs1
   cbv
   refine bF l1 ?_
   refine bF (w1) ?_
   refine ⟨_, hS.call (c2), ?_⟩
   cbv
   refine bF (a3) ?_
   refine ⟨_, hS.call (cs), ?_⟩
   cbv
   refine bF (b0) ?_
   rw [k1]
   refine ⟨_, hS.call (c3), ?_⟩
   cbv
   rcases hfin with ⟨h1, h2, h3⟩ | ⟨h1, h2, h3, h4⟩ | ⟨h1, h2, h3, h4⟩
   ·rw [h2, h3]
    refine bT h1 (bT rfl (bT y0 ?_))
    refine ⟨_, hS.call (cs), ?_⟩
    cbv
    exact hF _ (ResLe.refl _)
   ·rw [h3, h4]
    refine bF h1 (bT h2 (bT rfl (bT y1 ?_)))
    exact fin1 hF (tv_bool y2)
   ·rw [h3, h4]
    refine bF h1 (bF h2 (bT rfl (bT y0 ?_)))
    refine ⟨_, hS.call (cs), ?_⟩
    cbv
    exact hF _ (ResLe.refl _)
  ·have l1 : zP 0 I = true := by rw [hS.le]; exact decide_eq_true (by omega)
   obtain ⟨m', rfl⟩ : ∃ m', m = m' + 1 := ⟨m - 1, by omega⟩
   have hIi : I = (m' : Int) := by omega
   obtain ⟨c, hc⟩ : ∃ c, c = P.getD m' 0 := ⟨_, rfl⟩
   have hPi : P[m']? = some c := by rw [hc, List.getD_eq_getElem?_getD, List.getElem?_eq_getElem (by omega)]; rfl
   have hXi : X[m']? = some (qc c).row := by rw [hX]; exact qau hPi
   have hstep : exT P (k' + 1) = if c = 0 then exT P k' else exT P k' ++ [m'] := by
    rw [exT, show P.length - (k' + 1) = m' by omega, <- hc]
   obtain ⟨C, hC, cS⟩ := qa7 c
   have cE := qa6 (x := c) (y := c) (by rw [hc]; exact cf_qs hP.cf m') rfl (by omega)
   obtain ⟨s2, t2, r2, p2, hrow2, _⟩ := qrow c
   rw [hrow2] at hXi cS cE
   have j1 : zV I = m' := by rw [hS.nat]; omega
   have j2 : zh X m' = some [.v (.bool s2), .lst false r2, .v (.bool t2), .lst false p2] := by rw [hS.nth]; exact hXi
   obtain ⟨I', hI', i1⟩ : ∃ I' : Int, I' + 1 = (m' : Int) /\ zA .i64 (zC I 1) = I' := ⟨I - 1, by omega, by rw [hS.sub, hS.wrap, wrap_i64 (by omega) (by omega)]⟩
   have hmm : m' < m' + 1 := by omega
   by_cases hc0 : c = 0
   ·have q1 : zM C 0 = true := by rw [hS.eq]; exact decide_eq_true (hC.2 hc0)
    rw [if_pos hc0] at hstep
    have hnx : ∃ (k2 : Nat) (I2 q2 : Int), I2 + 1 = (m' : Int) /\ m' + k2 = n /\ q2 = ((exT P k2).length : Int) /\ ulcS 2 k X T q I' = ulcS 2 k X T q2 I2 := ⟨k' + 1, I', q, hI', by omega, by rw [hstep, hq], rfl⟩
    subst hs1
    cbv
    refine bT l1 ?_
    rw [j1, j2]
    cbv
    refine nd (l1) ?_
    refine ⟨_, hS.call (cS), ?_⟩
    cbv
    refine bT (q1) ?_
    refine againR [] (s' := ulcS 2 k X T q I') (k := m') ?_ ?_ ?_ ?_ rfl (by show 3 <= 3; omega) hmm hnx
    ·simp [leTR, ulcS, mkSt, vi, vb, AV.ren, AV.noTup, Cell.ren, renF, i1]
    ·simp [leHR, ulcS, mkSt, Abs.look, renF, Blk.ren, Cell.ren]
    ·simp [liveR, ulcS, mkSt, renF]
    ·simp
   ·have q1 : zM C 0 = false := by rw [hS.eq]; exact decide_eq_false (fun h => hc0 (hC.1 h))
    rw [if_neg hc0] at hstep
    obtain ⟨qn, hqn⟩ : ∃ qn, qn = (exT P k').length := ⟨_, rfl⟩
    have hqT : (exT P P.length)[qn]? = some m' := by
     obtain ⟨rest, hr⟩ := exT_pre P (k' + 1) m'
     rw [show k' + 1 + m' = P.length by omega, hstep] at hr
     rw [hr, hqn]; simp
    have hqT2 : T[qn]? = some [.v (.bool s2), .lst false r2, .v (.bool t2), .lst false p2, .v (.int .i64 0), .v (.int .i64 0), .v (.int .i64 I), .v (.int .i64 0), .v (.int .i64 0), .v (.int .i64 0), .v (.int .i64 0), .v (.int .i64 0)] := by
     rw [hT, qan, List.getElem?_map, hqT, Option.map_some, <- hc, hrow2, hIi]; rfl
    have hqlt := (List.getElem?_eq_some_iff.1 hqT2).1
    have q2 : zP (zY (zg T)) q = false := by rw [hS.le, hS.ofN, hS.len]; exact decide_eq_false (by omega)
    have q3 : zV q = qn := by rw [hS.nat]; omega
    have q4 : zh T qn = some [.v (.bool s2), .lst false r2, .v (.bool t2), .lst false p2, .v (.int .i64 0), .v (.int .i64 0), .v (.int .i64 I), .v (.int .i64 0), .v (.int .i64 0), .v (.int .i64 0), .v (.int .i64 0), .v (.int .i64 0)] := by rw [hS.nth]; exact hqT2
    have q5 : zP 0 q = true := by rw [hS.le]; exact decide_eq_true (by omega)
    obtain ⟨q', hq', q6⟩ : ∃ q' : Int, q' = ((exT P (k' + 1)).length : Int) /\ zA .i64 (zB q 1) = q' := ⟨q + 1, by rw [hstep, List.length_append, List.length_singleton]; omega, by
     have := exT_len P k'
     rw [hS.add, hS.wrap, wrap_i64 (by omega) (by omega)]⟩
    have hnx : ∃ (k2 : Nat) (I2 q2 : Int), I2 + 1 = (m' : Int) /\ m' + k2 = n /\ q2 = ((exT P k2).length : Int) /\ ulcS 2 k X T q' I' = ulcS 2 k X T q2 I2 := ⟨k' + 1, I', q', hI', by omega, hq', rfl⟩
    have z1 : zM I I = true := by rw [hS.eq]; exact decide_eq_true rfl
    have z2 : zM 0 0 = true := by rw [hS.eq]; rfl
    subst hs1
    cbv
    refine bT l1 ?_
    rw [j1, j2]
    cbv
    refine nd (l1) ?_
    refine ⟨_, hS.call (cS), ?_⟩
    cbv
    refine bF (q1) ?_
    refine bF (q2) ?_
    rw [q3, q4]
    cbv
    refine nd (q5) ?_
    rw [z1, z2]
    cbv
    refine bF rfl ?_
    rw [q3, q4]
    cbv
    refine nd (q5) ?_
    rw [j1, j2]
    cbv
    refine nd (l1) ?_
    refine ⟨_, hS.call (cE), ?_⟩
    cbv
    refine bF (b0) ?_
    refine againR [] (s' := ulcS 2 k X T q' I') (k := m') ?_ ?_ ?_ ?_ rfl (by show 3 <= 3; omega) hmm hnx
    ·simp [leTR, ulcS, mkSt, vi, vb, AV.ren, AV.noTup, Cell.ren, renF, i1, q6]
    ·simp [leHR, ulcS, mkSt, Abs.look, renF, Blk.ren, Cell.ren]
    ·simp [liveR, ulcS, mkSt, renF]
    ·simp
theorem conv_in3 (hsan : ACall Tryz.prog 12 [] ⟨[.val (tb true)], []⟩) {P : List Rat} (hP : PB (Abs.ev P) (8 + 1) ((8 + 1) * (32 * 8)) P) (hl : P.length <= 8 + 1) {RX X T V : Abs.Rows} {n o : Nat} {O g k : Int} (hk : 0 <= k /\ k < 256)
  (ca : ACall Tryz.prog 15 [.val (tl RX), .val (ti .i64 ((8 : Nat) : Int))] ⟨[.val (tl X)], [none, none]⟩)
  (c1 : ACall Tryz.prog 54 [.val (tl X), .val (ti .i64 ((3 : Nat) : Int))] ⟨[.val (tl T), .val (ti .i64 0)], [none, none]⟩)
  (c2 : ACall Tryz.prog 55 [.val (tl T), .val (ti .i64 ((3 : Nat) : Int))] ⟨[.val (tl X), .val (ti .i64 0)], [none, none]⟩)
  (cs : ACall Tryz.prog 19 [.val (tl X), .val (tl X)] ⟨[.val (tb true)], [none, none]⟩)
  (hX : X = ur P) (hT : T = tmT P 3 P.length) (hn : n = P.length) (lX : X.length = n) (ho : o = (k % 8).toNat) (ho8 : o < 8) (hO : O = (o : Int))
  (c3 : ACall Tryz.prog 55 [.val (tl T), .val (ti .i64 O)] ⟨[.val (tl V), .val (ti .i64 g)], [none, none]⟩) (hV1 : o = 3 -> g = 0 /\ V = X) (hV2 : o ≠ 3 -> 1 < n -> g = 1 /\ V = []) (hV3 : o ≠ 3 -> ¬ 1 < n -> g = 0 /\ V = X) :
  ACall Tryz.prog 11 [.val (tl RX), .val (ti .i64 ((3 : Nat) : Int)), .val (ti .u8 k)] ⟨[.val (tb true)], [none, none, none]⟩ := by
 refine callZ ccOk mixed [.val] Tryz.func11 rfl rfl (by kernel_rfl) fun zA zB zC zD zE zF zG zH zI zJ zK zL zM zN zO zP zQ zR zS zT zU zV zX zY zZ za zb zc zd ze zf zg zh zi zj zk zl zm zn zo zp zq zr zs zt zu zw zx zy A L F hS hF => ?_
 have b0 : zQ true = false := by rw [hS.not]; rfl
 have a1 : zO 3 0 = false := by rw [hS.lt]; rfl
 have a2 : zO 7 3 = false := by rw [hS.lt]; rfl
 have a3 : zN 0 0 = false := by rw [hS.ne]; rfl
 obtain ⟨N, hN, hN2⟩ : ∃ N : Int, N + 1 = n /\ zA .i64 (zC (zY (zg X)) 1) = N := ⟨(n : Int) - 1, by omega, by rw [hS.len, lX, hS.ofN, hS.sub, hS.wrap, wrap_i64 (by omega) (by omega)]⟩
 have k1 : zA .i64 (zF k 8) = O := by rw [hS.rem, Int.tmod_eq_emod_of_nonneg hk.1, hS.wrap, wrap_i64 (by omega) (by omega)]; omega
 cbv
 refine ⟨_, hS.call (hsan), ?_⟩
 cbv
 refine bF (b0) ?_
 refine ⟨_, hS.call (ca), ?_⟩
 cbv
 refine ⟨_, hS.call (c1), ?_⟩
 cbv
 refine bF (a1) ?_
 refine bF (a2) ?_
 refine bF (a3) ?_
 have hN : N + 1 = (n : Int) := hN
 have hO : O = (o : Int) := hO
 rw [hN2]
 refine loopZR ccOk mixed hS (fun (m : Nat) s' => ∃ (k' : Nat) (I q : Int), I + 1 = m /\ m + k' = n /\ q = ((exT P k').length : Int) /\ s' = ulcS 3 k X T q I) (n := n) (s0 := ulcS 3 k X T 0 N) (qaj ?_ ?_) rfl (by show 3 <= 3; omega) ?_ ?_
 ·simp [leT, ulcS, mkSt, vi, vb]
 ·simp [leH, ulcS, mkSt]
 ·exact ⟨0, N, 0, hN, by omega, rfl, rfl⟩
 ·rintro m s1 ⟨k', I, q, hI, hmk, hq, hs1⟩
  by_cases hm : m = 0
  ·have l1 : zP 0 I = false := by rw [hS.le]; exact decide_eq_false (by omega)
   have y0 : zM 0 0 = true := by rw [hS.eq]; rfl
   have y1 : zM 1 1 = true := by rw [hS.eq]; rfl
   have y2 : zM (zY (zg [])) 0 = true := by rw [hS.eq, hS.ofN, hS.len]; rfl
   have hfin : (zM O 3 = true /\ g = 0 /\ V = X) ∨ (zM O 3 = false /\ zO 1 (zY (zg X)) = true /\ g = 1 /\ V = []) ∨ (zM O 3 = false /\ zO 1 (zY (zg X)) = false /\ g = 0 /\ V = X) := by
    by_cases h1 : o = 3
    ·exact .inl ⟨by rw [hS.eq]; exact decide_eq_true (by omega), hV1 h1⟩
    ·by_cases h2 : 1 < n
     ·exact .inr (.inl ⟨by rw [hS.eq]; exact decide_eq_false (by omega), by rw [hS.lt, hS.ofN, hS.len]; exact decide_eq_true (by omega), hV2 h1 h2⟩)
     ·exact .inr (.inr ⟨by rw [hS.eq]; exact decide_eq_false (by omega), by rw [hS.lt, hS.ofN, hS.len]; exact decide_eq_false (by omega), hV3 h1 h2⟩)
   have w1 : zN q (zY (zg T)) = false := by
    rw [hS.ne, hS.ofN, hS.len, hT, qan, List.length_map, hq, show P.length = k' by omega]; exact decide_eq_false (fun h => h rfl)
   subst hs1
   cbv
   refine bF l1 ?_
   refine bF (w1) ?_
   refine ⟨_, hS.call (c2), ?_⟩
   cbv
   refine bF (a3) ?_
   refine ⟨_, hS.call (cs), ?_⟩
   cbv
   refine bF (b0) ?_
   rw [k1]
   refine ⟨_, hS.call (c3), ?_⟩
   cbv
   rcases hfin with ⟨h1, h2, h3⟩ | ⟨h1, h2, h3, h4⟩ | ⟨h1, h2, h3, h4⟩
   ·rw [h2, h3]
    refine bT h1 (bT rfl (bT y0 ?_))
    refine ⟨_, hS.call (cs), ?_⟩
    cbv
    exact hF _ (ResLe.refl _)
   ·rw [h3, h4]
    refine bF h1 (bT h2 (bT rfl (bT y1 ?_)))
    exact fin1 hF (tv_bool y2)
   ·rw [h3, h4]
    refine bF h1 (bF h2 (bT rfl (bT y0 ?_)))
    refine ⟨_, hS.call (cs), ?_⟩
    cbv
    exact hF _ (ResLe.refl _)
  ·have l1 : zP 0 I = true := by rw [hS.le]; exact decide_eq_true (by omega)
   obtain ⟨m', rfl⟩ : ∃ m', m = m' + 1 := ⟨m - 1, by omega⟩
   have hIi : I = (m' : Int) := by omega
   obtain ⟨c, hc⟩ : ∃ c, c = P.getD m' 0 := ⟨_, rfl⟩
   have hPi : P[m']? = some c := by rw [hc, List.getD_eq_getElem?_getD, List.getElem?_eq_getElem (by omega)]; rfl
   have hXi : X[m']? = some (qc c).row := by rw [hX]; exact qau hPi
   have hstep : exT P (k' + 1) = if c = 0 then exT P k' else exT P k' ++ [m'] := by
    rw [exT, show P.length - (k' + 1) = m' by omega, <- hc]
   obtain ⟨C, hC, cS⟩ := qa7 c
   have cE := qa6 (x := c) (y := c) (by rw [hc]; exact cf_qs hP.cf m') rfl (by omega)
   obtain ⟨s2, t2, r2, p2, hrow2, _⟩ := qrow c
   rw [hrow2] at hXi cS cE
   have j1 : zV I = m' := by rw [hS.nat]; omega
   have j2 : zh X m' = some [.v (.bool s2), .lst false r2, .v (.bool t2), .lst false p2] := by rw [hS.nth]; exact hXi
   obtain ⟨I', hI', i1⟩ : ∃ I' : Int, I' + 1 = (m' : Int) /\ zA .i64 (zC I 1) = I' := ⟨I - 1, by omega, by rw [hS.sub, hS.wrap, wrap_i64 (by omega) (by omega)]⟩
   have hmm : m' < m' + 1 := by omega
   by_cases hc0 : c = 0
   ·have q1 : zM C 0 = true := by rw [hS.eq]; exact decide_eq_true (hC.2 hc0)
    rw [if_pos hc0] at hstep
    have hnx : ∃ (k2 : Nat) (I2 q2 : Int), I2 + 1 = (m' : Int) /\ m' + k2 = n /\ q2 = ((exT P k2).length : Int) /\ ulcS 3 k X T q I' = ulcS 3 k X T q2 I2 := ⟨k' + 1, I', q, hI', by omega, by rw [hstep, hq], rfl⟩
    subst hs1
    cbv
    refine bT l1 ?_
    rw [j1, j2]
    cbv
    refine nd (l1) ?_
    refine ⟨_, hS.call (cS), ?_⟩
    cbv
    refine bT (q1) ?_
    refine againR [] (s' := ulcS 3 k X T q I') (k := m') ?_ ?_ ?_ ?_ rfl (by show 3 <= 3; omega) hmm hnx
    ·simp [leTR, ulcS, mkSt, vi, vb, AV.ren, AV.noTup, Cell.ren, renF, i1]
    ·simp [leHR, ulcS, mkSt, Abs.look, renF, Blk.ren, Cell.ren]
    ·simp [liveR, ulcS, mkSt, renF]
    ·simp
   ·have q1 : zM C 0 = false := by rw [hS.eq]; exact decide_eq_false (fun h => hc0 (hC.1 h))
    rw [if_neg hc0] at hstep
    obtain ⟨qn, hqn⟩ : ∃ qn, qn = (exT P k').length := ⟨_, rfl⟩
    have hqT : (exT P P.length)[qn]? = some m' := by
     obtain ⟨rest, hr⟩ := exT_pre P (k' + 1) m'
     rw [show k' + 1 + m' = P.length by omega, hstep] at hr
     rw [hr, hqn]; simp
    have hqT2 : T[qn]? = some [.v (.bool s2), .lst false r2, .v (.bool t2), .lst false p2, .v (.int .i64 0), .v (.int .i64 0), .v (.int .i64 0), .v (.int .i64 I), .v (.int .i64 0), .v (.int .i64 0), .v (.int .i64 0), .v (.int .i64 0)] := by
     rw [hT, qan, List.getElem?_map, hqT, Option.map_some, <- hc, hrow2, hIi]; rfl
    have hqlt := (List.getElem?_eq_some_iff.1 hqT2).1
    have q2 : zP (zY (zg T)) q = false := by rw [hS.le, hS.ofN, hS.len]; exact decide_eq_false (by omega)
    have q3 : zV q = qn := by rw [hS.nat]; omega
    have q4 : zh T qn = some [.v (.bool s2), .lst false r2, .v (.bool t2), .lst false p2, .v (.int .i64 0), .v (.int .i64 0), .v (.int .i64 0), .v (.int .i64 I), .v (.int .i64 0), .v (.int .i64 0), .v (.int .i64 0), .v (.int .i64 0)] := by rw [hS.nth]; exact hqT2
    have q5 : zP 0 q = true := by rw [hS.le]; exact decide_eq_true (by omega)
    obtain ⟨q', hq', q6⟩ : ∃ q' : Int, q' = ((exT P (k' + 1)).length : Int) /\ zA .i64 (zB q 1) = q' := ⟨q + 1, by rw [hstep, List.length_append, List.length_singleton]; omega, by
     have := exT_len P k'
     rw [hS.add, hS.wrap, wrap_i64 (by omega) (by omega)]⟩
    have hnx : ∃ (k2 : Nat) (I2 q2 : Int), I2 + 1 = (m' : Int) /\ m' + k2 = n /\ q2 = ((exT P k2).length : Int) /\ ulcS 3 k X T q' I' = ulcS 3 k X T q2 I2 := ⟨k' + 1, I', q', hI', by omega, hq', rfl⟩
    have z1 : zM I I = true := by rw [hS.eq]; exact decide_eq_true rfl
    have z2 : zM 0 0 = true := by rw [hS.eq]; rfl
    subst hs1
    cbv
    refine bT l1 ?_
    rw [j1, j2]
    cbv
    refine nd (l1) ?_
    refine ⟨_, hS.call (cS), ?_⟩
    cbv
    refine bF (q1) ?_
    refine bF (q2) ?_
    rw [q3, q4]
    cbv
    refine nd (q5) ?_
    rw [z1, z2]
    cbv
    refine bF rfl ?_
    rw [q3, q4]
    cbv
    refine nd (q5) ?_
    rw [j1, j2]
    cbv
    refine nd (l1) ?_
    refine ⟨_, hS.call (cE), ?_⟩
    cbv
    refine bF (b0) ?_
    refine againR [] (s' := ulcS 3 k X T q' I') (k := m') ?_ ?_ ?_ ?_ rfl (by show 3 <= 3; omega) hmm hnx
    ·simp [leTR, ulcS, mkSt, vi, vb, AV.ren, AV.noTup, Cell.ren, renF, i1, q6]
    ·simp [leHR, ulcS, mkSt, Abs.look, renF, Blk.ren, Cell.ren]
    ·simp [liveR, ulcS, mkSt, renF]
    ·simp
theorem conv_in4 (hsan : ACall Tryz.prog 12 [] ⟨[.val (tb true)], []⟩) {P : List Rat} (hP : PB (Abs.ev P) (8 + 1) ((8 + 1) * (32 * 8)) P) (hl : P.length <= 8 + 1) {RX X T V : Abs.Rows} {n o : Nat} {O g k : Int} (hk : 0 <= k /\ k < 256)
  (ca : ACall Tryz.prog 15 [.val (tl RX), .val (ti .i64 ((8 : Nat) : Int))] ⟨[.val (tl X)], [none, none]⟩)
  (c1 : ACall Tryz.prog 54 [.val (tl X), .val (ti .i64 ((4 : Nat) : Int))] ⟨[.val (tl T), .val (ti .i64 0)], [none, none]⟩)
  (c2 : ACall Tryz.prog 55 [.val (tl T), .val (ti .i64 ((4 : Nat) : Int))] ⟨[.val (tl X), .val (ti .i64 0)], [none, none]⟩)
  (cs : ACall Tryz.prog 19 [.val (tl X), .val (tl X)] ⟨[.val (tb true)], [none, none]⟩)
  (hX : X = ur P) (hT : T = tmT P 4 P.length) (hn : n = P.length) (lX : X.length = n) (ho : o = (k % 8).toNat) (ho8 : o < 8) (hO : O = (o : Int))
  (c3 : ACall Tryz.prog 55 [.val (tl T), .val (ti .i64 O)] ⟨[.val (tl V), .val (ti .i64 g)], [none, none]⟩) (hV1 : o = 4 -> g = 0 /\ V = X) (hV2 : o ≠ 4 -> 1 < n -> g = 1 /\ V = []) (hV3 : o ≠ 4 -> ¬ 1 < n -> g = 0 /\ V = X) :
  ACall Tryz.prog 11 [.val (tl RX), .val (ti .i64 ((4 : Nat) : Int)), .val (ti .u8 k)] ⟨[.val (tb true)], [none, none, none]⟩ := by
 refine callZ ccOk mixed [.val] Tryz.func11 rfl rfl (by kernel_rfl) fun zA zB zC zD zE zF zG zH zI zJ zK zL zM zN zO zP zQ zR zS zT zU zV zX zY zZ za zb zc zd ze zf zg zh zi zj zk zl zm zn zo zp zq zr zs zt zu zw zx zy A L F hS hF => ?_
 have b0 : zQ true = false := by rw [hS.not]; rfl
 have a1 : zO 4 0 = false := by rw [hS.lt]; rfl
 have a2 : zO 7 4 = false := by rw [hS.lt]; rfl
 have a3 : zN 0 0 = false := by rw [hS.ne]; rfl
 obtain ⟨N, hN, hN2⟩ : ∃ N : Int, N + 1 = n /\ zA .i64 (zC (zY (zg X)) 1) = N := ⟨(n : Int) - 1, by omega, by rw [hS.len, lX, hS.ofN, hS.sub, hS.wrap, wrap_i64 (by omega) (by omega)]⟩
 have k1 : zA .i64 (zF k 8) = O := by rw [hS.rem, Int.tmod_eq_emod_of_nonneg hk.1, hS.wrap, wrap_i64 (by omega) (by omega)]; omega
 cbv
 refine ⟨_, hS.call (hsan), ?_⟩
 cbv
 refine bF (b0) ?_
 refine ⟨_, hS.call (ca), ?_⟩
 cbv
 refine ⟨_, hS.call (c1), ?_⟩
 cbv
 refine bF (a1) ?_
 refine bF (a2) ?_
 refine bF (a3) ?_
 have hN : N + 1 = (n : Int) := hN
 have hO : O = (o : Int) := hO
 rw [hN2]
 refine loopZR ccOk mixed hS (fun (m : Nat) s' => ∃ (k' : Nat) (I q : Int), I + 1 = m /\ m + k' = n /\ q = ((exT P k').length : Int) /\ s' = ulcS 4 k X T q I) (n := n) (s0 := ulcS 4 k X T 0 N) (qaj ?_ ?_) rfl (by show 3 <= 3; omega) ?_ ?_
 ·simp [leT, ulcS, mkSt, vi, vb]
 ·simp [leH, ulcS, mkSt]
 ·exact ⟨0, N, 0, hN, by omega, rfl, rfl⟩
 ·rintro m s1 ⟨k', I, q, hI, hmk, hq, hs1⟩
  by_cases hm : m = 0
  ·have l1 : zP 0 I = false := by rw [hS.le]; exact decide_eq_false (by omega)
   have y0 : zM 0 0 = true := by rw [hS.eq]; rfl
   have y1 : zM 1 1 = true := by rw [hS.eq]; rfl
   have y2 : zM (zY (zg [])) 0 = true := by rw [hS.eq, hS.ofN, hS.len]; rfl
   have hfin : (zM O 4 = true /\ g = 0 /\ V = X) ∨ (zM O 4 = false /\ zO 1 (zY (zg X)) = true /\ g = 1 /\ V = []) ∨ (zM O 4 = false /\ zO 1 (zY (zg X)) = false /\ g = 0 /\ V = X) := by
    by_cases h1 : o = 4
    ·exact .inl ⟨by rw [hS.eq]; exact decide_eq_true (by omega), hV1 h1⟩
    ·by_cases h2 : 1 < n
     ·exact .inr (.inl ⟨by rw [hS.eq]; exact decide_eq_false (by omega), by rw [hS.lt, hS.ofN, hS.len]; exact decide_eq_true (by omega), hV2 h1 h2⟩)
     ·exact .inr (.inr ⟨by rw [hS.eq]; exact decide_eq_false (by omega), by rw [hS.lt, hS.ofN, hS.len]; exact decide_eq_false (by omega), hV3 h1 h2⟩)
   have w1 : zN q (zY (zg T)) = false := by
    rw [hS.ne, hS.ofN, hS.len, hT, qan, List.length_map, hq, show P.length = k' by omega]; exact decide_eq_false (fun h => h rfl)
   subst hs1
   cbv
   refine bF l1 ?_
   refine bF (w1) ?_
   refine ⟨_, hS.call (c2), ?_⟩
   cbv
   refine bF (a3) ?_
   refine ⟨_, hS.call (cs), ?_⟩
   cbv
   refine bF (b0) ?_
   rw [k1]
   refine ⟨_, hS.call (c3), ?_⟩
   cbv
   rcases hfin with ⟨h1, h2, h3⟩ | ⟨h1, h2, h3, h4⟩ | ⟨h1, h2, h3, h4⟩
   ·rw [h2, h3]
    refine bT h1 (bT rfl (bT y0 ?_))
    refine ⟨_, hS.call (cs), ?_⟩
    cbv
    exact hF _ (ResLe.refl _)
   ·rw [h3, h4]
    refine bF h1 (bT h2 (bT rfl (bT y1 ?_)))
    exact fin1 hF (tv_bool y2)
   ·rw [h3, h4]
    refine bF h1 (bF h2 (bT rfl (bT y0 ?_)))
    refine ⟨_, hS.call (cs), ?_⟩
    cbv
    exact hF _ (ResLe.refl _)
  ·have l1 : zP 0 I = true := by rw [hS.le]; exact decide_eq_true (by omega)
   obtain ⟨m', rfl⟩ : ∃ m', m = m' + 1 := ⟨m - 1, by omega⟩
   have hIi : I = (m' : Int) := by omega
   obtain ⟨c, hc⟩ : ∃ c, c = P.getD m' 0 := ⟨_, rfl⟩
   have hPi : P[m']? = some c := by rw [hc, List.getD_eq_getElem?_getD, List.getElem?_eq_getElem (by omega)]; rfl
   have hXi : X[m']? = some (qc c).row := by rw [hX]; exact qau hPi
   have hstep : exT P (k' + 1) = if c = 0 then exT P k' else exT P k' ++ [m'] := by
    rw [exT, show P.length - (k' + 1) = m' by omega, <- hc]
   obtain ⟨C, hC, cS⟩ := qa7 c
   have cE := qa6 (x := c) (y := c) (by rw [hc]; exact cf_qs hP.cf m') rfl (by omega)
   obtain ⟨s2, t2, r2, p2, hrow2, _⟩ := qrow c
   rw [hrow2] at hXi cS cE
   have j1 : zV I = m' := by rw [hS.nat]; omega
   have j2 : zh X m' = some [.v (.bool s2), .lst false r2, .v (.bool t2), .lst false p2] := by rw [hS.nth]; exact hXi
   obtain ⟨I', hI', i1⟩ : ∃ I' : Int, I' + 1 = (m' : Int) /\ zA .i64 (zC I 1) = I' := ⟨I - 1, by omega, by rw [hS.sub, hS.wrap, wrap_i64 (by omega) (by omega)]⟩
   have hmm : m' < m' + 1 := by omega
   by_cases hc0 : c = 0
   ·have q1 : zM C 0 = true := by rw [hS.eq]; exact decide_eq_true (hC.2 hc0)
    rw [if_pos hc0] at hstep
    have hnx : ∃ (k2 : Nat) (I2 q2 : Int), I2 + 1 = (m' : Int) /\ m' + k2 = n /\ q2 = ((exT P k2).length : Int) /\ ulcS 4 k X T q I' = ulcS 4 k X T q2 I2 := ⟨k' + 1, I', q, hI', by omega, by rw [hstep, hq], rfl⟩
    subst hs1
    cbv
    refine bT l1 ?_
    rw [j1, j2]
    cbv
    refine nd (l1) ?_
    refine ⟨_, hS.call (cS), ?_⟩
    cbv
    refine bT (q1) ?_
    refine againR [] (s' := ulcS 4 k X T q I') (k := m') ?_ ?_ ?_ ?_ rfl (by show 3 <= 3; omega) hmm hnx
    ·simp [leTR, ulcS, mkSt, vi, vb, AV.ren, AV.noTup, Cell.ren, renF, i1]
    ·simp [leHR, ulcS, mkSt, Abs.look, renF, Blk.ren, Cell.ren]
    ·simp [liveR, ulcS, mkSt, renF]
    ·simp
   ·have q1 : zM C 0 = false := by rw [hS.eq]; exact decide_eq_false (fun h => hc0 (hC.1 h))
    rw [if_neg hc0] at hstep
    obtain ⟨qn, hqn⟩ : ∃ qn, qn = (exT P k').length := ⟨_, rfl⟩
    have hqT : (exT P P.length)[qn]? = some m' := by
     obtain ⟨rest, hr⟩ := exT_pre P (k' + 1) m'
     rw [show k' + 1 + m' = P.length by omega, hstep] at hr
     rw [hr, hqn]; simp
    have hqT2 : T[qn]? = some [.v (.bool s2), .lst false r2, .v (.bool t2), .lst false p2, .v (.int .i64 0), .v (.int .i64 0), .v (.int .i64 0), .v (.int .i64 0), .v (.int .i64 I), .v (.int .i64 0), .v (.int .i64 0), .v (.int .i64 0)] := by
     rw [hT, qan, List.getElem?_map, hqT, Option.map_some, <- hc, hrow2, hIi]; rfl
    have hqlt := (List.getElem?_eq_some_iff.1 hqT2).1
    have q2 : zP (zY (zg T)) q = false := by rw [hS.le, hS.ofN, hS.len]; exact decide_eq_false (by omega)
    have q3 : zV q = qn := by rw [hS.nat]; omega
    have q4 : zh T qn = some [.v (.bool s2), .lst false r2, .v (.bool t2), .lst false p2, .v (.int .i64 0), .v (.int .i64 0), .v (.int .i64 0), .v (.int .i64 0), .v (.int .i64 I), .v (.int .i64 0), .v (.int .i64 0), .v (.int .i64 0)] := by rw [hS.nth]; exact hqT2
    have q5 : zP 0 q = true := by rw [hS.le]; exact decide_eq_true (by omega)
    obtain ⟨q', hq', q6⟩ : ∃ q' : Int, q' = ((exT P (k' + 1)).length : Int) /\ zA .i64 (zB q 1) = q' := ⟨q + 1, by rw [hstep, List.length_append, List.length_singleton]; omega, by
     have := exT_len P k'
     rw [hS.add, hS.wrap, wrap_i64 (by omega) (by omega)]⟩
    have hnx : ∃ (k2 : Nat) (I2 q2 : Int), I2 + 1 = (m' : Int) /\ m' + k2 = n /\ q2 = ((exT P k2).length : Int) /\ ulcS 4 k X T q' I' = ulcS 4 k X T q2 I2 := ⟨k' + 1, I', q', hI', by omega, hq', rfl⟩
    have z1 : zM I I = true := by rw [hS.eq]; exact decide_eq_true rfl
    have z2 : zM 0 0 = true := by rw [hS.eq]; rfl
    subst hs1
    cbv
    refine bT l1 ?_
    rw [j1, j2]
    cbv
    refine nd (l1) ?_
    refine ⟨_, hS.call (cS), ?_⟩
    cbv
    refine bF (q1) ?_
    refine bF (q2) ?_
    rw [q3, q4]
    cbv
    refine nd (q5) ?_
    rw [z1, z2]
    cbv
    refine bF rfl ?_
    rw [q3, q4]
    cbv
    refine nd (q5) ?_
    rw [j1, j2]
    cbv
    refine nd (l1) ?_
    refine ⟨_, hS.call (cE), ?_⟩
    cbv
    refine bF (b0) ?_
    refine againR [] (s' := ulcS 4 k X T q' I') (k := m') ?_ ?_ ?_ ?_ rfl (by show 3 <= 3; omega) hmm hnx
    ·simp [leTR, ulcS, mkSt, vi, vb, AV.ren, AV.noTup, Cell.ren, renF, i1, q6]
    ·simp [leHR, ulcS, mkSt, Abs.look, renF, Blk.ren, Cell.ren]
    ·simp [liveR, ulcS, mkSt, renF]
    ·simp
theorem conv_in5 (hsan : ACall Tryz.prog 12 [] ⟨[.val (tb true)], []⟩) {P : List Rat} (hP : PB (Abs.ev P) (8 + 1) ((8 + 1) * (32 * 8)) P) (hl : P.length <= 8 + 1) {RX X T V : Abs.Rows} {n o : Nat} {O g k : Int} (hk : 0 <= k /\ k < 256)
  (ca : ACall Tryz.prog 15 [.val (tl RX), .val (ti .i64 ((8 : Nat) : Int))] ⟨[.val (tl X)], [none, none]⟩)
  (c1 : ACall Tryz.prog 54 [.val (tl X), .val (ti .i64 ((5 : Nat) : Int))] ⟨[.val (tl T), .val (ti .i64 0)], [none, none]⟩)
  (c2 : ACall Tryz.prog 55 [.val (tl T), .val (ti .i64 ((5 : Nat) : Int))] ⟨[.val (tl X), .val (ti .i64 0)], [none, none]⟩)
  (cs : ACall Tryz.prog 19 [.val (tl X), .val (tl X)] ⟨[.val (tb true)], [none, none]⟩)
  (hX : X = ur P) (hT : T = tmT P 5 P.length) (hn : n = P.length) (lX : X.length = n) (ho : o = (k % 8).toNat) (ho8 : o < 8) (hO : O = (o : Int))
  (c3 : ACall Tryz.prog 55 [.val (tl T), .val (ti .i64 O)] ⟨[.val (tl V), .val (ti .i64 g)], [none, none]⟩) (hV1 : o = 5 -> g = 0 /\ V = X) (hV2 : o ≠ 5 -> 1 < n -> g = 1 /\ V = []) (hV3 : o ≠ 5 -> ¬ 1 < n -> g = 0 /\ V = X) :
  ACall Tryz.prog 11 [.val (tl RX), .val (ti .i64 ((5 : Nat) : Int)), .val (ti .u8 k)] ⟨[.val (tb true)], [none, none, none]⟩ := by
 refine callZ ccOk mixed [.val] Tryz.func11 rfl rfl (by kernel_rfl) fun zA zB zC zD zE zF zG zH zI zJ zK zL zM zN zO zP zQ zR zS zT zU zV zX zY zZ za zb zc zd ze zf zg zh zi zj zk zl zm zn zo zp zq zr zs zt zu zw zx zy A L F hS hF => ?_
 have b0 : zQ true = false := by rw [hS.not]; rfl
 have a1 : zO 5 0 = false := by rw [hS.lt]; rfl
 have a2 : zO 7 5 = false := by rw [hS.lt]; rfl
 have a3 : zN 0 0 = false := by rw [hS.ne]; rfl
 obtain ⟨N, hN, hN2⟩ : ∃ N : Int, N + 1 = n /\ zA .i64 (zC (zY (zg X)) 1) = N := ⟨(n : Int) - 1, by omega, by rw [hS.len, lX, hS.ofN, hS.sub, hS.wrap, wrap_i64 (by omega) (by omega)]⟩
 have k1 : zA .i64 (zF k 8) = O := by rw [hS.rem, Int.tmod_eq_emod_of_nonneg hk.1, hS.wrap, wrap_i64 (by omega) (by omega)]; omega
 cbv
 refine ⟨_, hS.call (hsan), ?_⟩
 cbv
 refine bF (b0) ?_
 refine ⟨_, hS.call (ca), ?_⟩
 cbv
 refine ⟨_, hS.call (c1), ?_⟩
 cbv
 refine bF (a1) ?_
 refine bF (a2) ?_
 refine bF (a3) ?_
 have hN : N + 1 = (n : Int) := hN
 have hO : O = (o : Int) := hO
 rw [hN2]
 refine loopZR ccOk mixed hS (fun (m : Nat) s' => ∃ (k' : Nat) (I q : Int), I + 1 = m /\ m + k' = n /\ q = ((exT P k').length : Int) /\ s' = ulcS 5 k X T q I) (n := n) (s0 := ulcS 5 k X T 0 N) (qaj ?_ ?_) rfl (by show 3 <= 3; omega) ?_ ?_
 ·simp [leT, ulcS, mkSt, vi, vb]
 ·simp [leH, ulcS, mkSt]
 ·exact ⟨0, N, 0, hN, by omega, rfl, rfl⟩
 ·rintro m s1 ⟨k', I, q, hI, hmk, hq, hs1⟩
  by_cases hm : m = 0
  ·have l1 : zP 0 I = false := by rw [hS.le]; exact decide_eq_false (by omega)
   have y0 : zM 0 0 = true := by rw [hS.eq]; rfl
   have y1 : zM 1 1 = true := by rw [hS.eq]; rfl
   have y2 : zM (zY (zg [])) 0 = true := by rw [hS.eq, hS.ofN, hS.len]; rfl
   have hfin : (zM O 5 = true /\ g = 0 /\ V = X) ∨ (zM O 5 = false /\ zO 1 (zY (zg X)) = true /\ g = 1 /\ V = []) ∨ (zM O 5 = false /\ zO 1 (zY (zg X)) = false /\ g = 0 /\ V = X) := by
    by_cases h1 : o = 5
    ·exact .inl ⟨by rw [hS.eq]; exact decide_eq_true (by omega), hV1 h1⟩
    ·by_cases h2 : 1 < n
     ·exact .inr (.inl ⟨by rw [hS.eq]; exact decide_eq_false (by omega), by rw [hS.lt, hS.ofN, hS.len]; exact decide_eq_true (by omega), hV2 h1 h2⟩)
     ·exact .inr (.inr ⟨by rw [hS.eq]; exact decide_eq_false (by omega), by rw [hS.lt, hS.ofN, hS.len]; exact decide_eq_false (by omega), hV3 h1 h2⟩)
   have w1 : zN q (zY (zg T)) = false := by
    rw [hS.ne, hS.ofN, hS.len, hT, qan, List.length_map, hq, show P.length = k' by omega]; exact decide_eq_false (fun h => h rfl)
   subst hs1
   cbv
   refine bF l1 ?_
   refine bF (w1) ?_
   refine ⟨_, hS.call (c2), ?_⟩
   cbv
   refine bF (a3) ?_
   refine ⟨_, hS.call (cs), ?_⟩
   cbv
   refine bF (b0) ?_
   rw [k1]
   refine ⟨_, hS.call (c3), ?_⟩
   cbv
   rcases hfin with ⟨h1, h2, h3⟩ | ⟨h1, h2, h3, h4⟩ | ⟨h1, h2, h3, h4⟩
   ·rw [h2, h3]
    refine bT h1 (bT rfl (bT y0 ?_))
    refine ⟨_, hS.call (cs), ?_⟩
    cbv
    exact hF _ (ResLe.refl _)
   ·rw [h3, h4]
    refine bF h1 (bT h2 (bT rfl (bT y1 ?_)))
    exact fin1 hF (tv_bool y2)
   ·rw [h3, h4]
    refine bF h1 (bF h2 (bT rfl (bT y0 ?_)))
    refine ⟨_, hS.call (cs), ?_⟩
    cbv
    exact hF _ (ResLe.refl _)
  ·have l1 : zP 0 I = true := by rw [hS.le]; exact decide_eq_true (by omega)
   obtain ⟨m', rfl⟩ : ∃ m', m = m' + 1 := ⟨m - 1, by omega⟩
   have hIi : I = (m' : Int) := by omega
   obtain ⟨c, hc⟩ : ∃ c, c = P.getD m' 0 := ⟨_, rfl⟩
   have hPi : P[m']? = some c := by rw [hc, List.getD_eq_getElem?_getD, List.getElem?_eq_getElem (by omega)]; rfl
   have hXi : X[m']? = some (qc c).row := by rw [hX]; exact qau hPi
   have hstep : exT P (k' + 1) = if c = 0 then exT P k' else exT P k' ++ [m'] := by
    rw [exT, show P.length - (k' + 1) = m' by omega, <- hc]
   obtain ⟨C, hC, cS⟩ := qa7 c
   have cE := qa6 (x := c) (y := c) (by rw [hc]; exact cf_qs hP.cf m') rfl (by omega)
   obtain ⟨s2, t2, r2, p2, hrow2, _⟩ := qrow c
   rw [hrow2] at hXi cS cE
   have j1 : zV I = m' := by rw [hS.nat]; omega
   have j2 : zh X m' = some [.v (.bool s2), .lst false r2, .v (.bool t2), .lst false p2] := by rw [hS.nth]; exact hXi
   obtain ⟨I', hI', i1⟩ : ∃ I' : Int, I' + 1 = (m' : Int) /\ zA .i64 (zC I 1) = I' := ⟨I - 1, by omega, by rw [hS.sub, hS.wrap, wrap_i64 (by omega) (by omega)]⟩
   have hmm : m' < m' + 1 := by omega
   by_cases hc0 : c = 0
   ·have q1 : zM C 0 = true := by rw [hS.eq]; exact decide_eq_true (hC.2 hc0)
    rw [if_pos hc0] at hstep
    have hnx : ∃ (k2 : Nat) (I2 q2 : Int), I2 + 1 = (m' : Int) /\ m' + k2 = n /\ q2 = ((exT P k2).length : Int) /\ ulcS 5 k X T q I' = ulcS 5 k X T q2 I2 := ⟨k' + 1, I', q, hI', by omega, by rw [hstep, hq], rfl⟩
    subst hs1
    cbv
    refine bT l1 ?_
    rw [j1, j2]
    cbv
    refine nd (l1) ?_
    refine ⟨_, hS.call (cS), ?_⟩
    cbv
    refine bT (q1) ?_
    refine againR [] (s' := ulcS 5 k X T q I') (k := m') ?_ ?_ ?_ ?_ rfl (by show 3 <= 3; omega) hmm hnx
    ·simp [leTR, ulcS, mkSt, vi, vb, AV.ren, AV.noTup, Cell.ren, renF, i1]
    ·simp [leHR, ulcS, mkSt, Abs.look, renF, Blk.ren, Cell.ren]
    ·simp [liveR, ulcS, mkSt, renF]
    ·simp
   ·have q1 : zM C 0 = false := by rw [hS.eq]; exact decide_eq_false (fun h => hc0 (hC.1 h))
    rw [if_neg hc0] at hstep
    obtain ⟨qn, hqn⟩ : ∃ qn, qn = (exT P k').length := ⟨_, rfl⟩
    have hqT : (exT P P.length)[qn]? = some m' := by
     obtain ⟨rest, hr⟩ := exT_pre P (k' + 1) m'
     rw [show k' + 1 + m' = P.length by omega, hstep] at hr
     rw [hr, hqn]; simp
    have hqT2 : T[qn]? = some [.v (.bool s2), .lst false r2, .v (.bool t2), .lst false p2, .v (.int .i64 0), .v (.int .i64 0), .v (.int .i64 0), .v (.int .i64 0), .v (.int .i64 0), .v (.int .i64 I), .v (.int .i64 0), .v (.int .i64 0)] := by
     rw [hT, qan, List.getElem?_map, hqT, Option.map_some, <- hc, hrow2, hIi]; rfl
    have hqlt := (List.getElem?_eq_some_iff.1 hqT2).1
    have q2 : zP (zY (zg T)) q = false := by rw [hS.le, hS.ofN, hS.len]; exact decide_eq_false (by omega)
    have q3 : zV q = qn := by rw [hS.nat]; omega
    have q4 : zh T qn = some [.v (.bool s2), .lst false r2, .v (.bool t2), .lst false p2, .v (.int .i64 0), .v (.int .i64 0), .v (.int .i64 0), .v (.int .i64 0), .v (.int .i64 0), .v (.int .i64 I), .v (.int .i64 0), .v (.int .i64 0)] := by rw [hS.nth]; exact hqT2
    have q5 : zP 0 q = true := by rw [hS.le]; exact decide_eq_true (by omega)
    obtain ⟨q', hq', q6⟩ : ∃ q' : Int, q' = ((exT P (k' + 1)).length : Int) /\ zA .i64 (zB q 1) = q' := ⟨q + 1, by rw [hstep, List.length_append, List.length_singleton]; omega, by
     have := exT_len P k'
     rw [hS.add, hS.wrap, wrap_i64 (by omega) (by omega)]⟩
    have hnx : ∃ (k2 : Nat) (I2 q2 : Int), I2 + 1 = (m' : Int) /\ m' + k2 = n /\ q2 = ((exT P k2).length : Int) /\ ulcS 5 k X T q' I' = ulcS 5 k X T q2 I2 := ⟨k' + 1, I', q', hI', by omega, hq', rfl⟩
    have z1 : zM I I = true := by rw [hS.eq]; exact decide_eq_true rfl
    have z2 : zM 0 0 = true := by rw [hS.eq]; rfl
    subst hs1
    cbv
    refine bT l1 ?_
    rw [j1, j2]
    cbv
    refine nd (l1) ?_
    refine ⟨_, hS.call (cS), ?_⟩
    cbv
    refine bF (q1) ?_
    refine bF (q2) ?_
    rw [q3, q4]
    cbv
    refine nd (q5) ?_
    rw [z1, z2]
    cbv
    refine bF rfl ?_
    rw [q3, q4]
    cbv
    refine nd (q5) ?_
    rw [j1, j2]
    cbv
    refine nd (l1) ?_
    refine ⟨_, hS.call (cE), ?_⟩
    cbv
    refine bF (b0) ?_
    refine againR [] (s' := ulcS 5 k X T q' I') (k := m') ?_ ?_ ?_ ?_ rfl (by show 3 <= 3; omega) hmm hnx
    ·simp [leTR, ulcS, mkSt, vi, vb, AV.ren, AV.noTup, Cell.ren, renF, i1, q6]
    ·simp [leHR, ulcS, mkSt, Abs.look, renF, Blk.ren, Cell.ren]
    ·simp [liveR, ulcS, mkSt, renF]
    ·simp
theorem conv_in6 (hsan : ACall Tryz.prog 12 [] ⟨[.val (tb true)], []⟩) {P : List Rat} (hP : PB (Abs.ev P) (8 + 1) ((8 + 1) * (32 * 8)) P) (hl : P.length <= 8 + 1) {RX X T V : Abs.Rows} {n o : Nat} {O g k : Int} (hk : 0 <= k /\ k < 256)
  (ca : ACall Tryz.prog 15 [.val (tl RX), .val (ti .i64 ((8 : Nat) : Int))] ⟨[.val (tl X)], [none, none]⟩)
  (c1 : ACall Tryz.prog 54 [.val (tl X), .val (ti .i64 ((6 : Nat) : Int))] ⟨[.val (tl T), .val (ti .i64 0)], [none, none]⟩)
  (c2 : ACall Tryz.prog 55 [.val (tl T), .val (ti .i64 ((6 : Nat) : Int))] ⟨[.val (tl X), .val (ti .i64 0)], [none, none]⟩)
  (cs : ACall Tryz.prog 19 [.val (tl X), .val (tl X)] ⟨[.val (tb true)], [none, none]⟩)
  (hX : X = ur P) (hT : T = tmT P 6 P.length) (hn : n = P.length) (lX : X.length = n) (ho : o = (k % 8).toNat) (ho8 : o < 8) (hO : O = (o : Int))
  (c3 : ACall Tryz.prog 55 [.val (tl T), .val (ti .i64 O)] ⟨[.val (tl V), .val (ti .i64 g)], [none, none]⟩) (hV1 : o = 6 -> g = 0 /\ V = X) (hV2 : o ≠ 6 -> 1 < n -> g = 1 /\ V = []) (hV3 : o ≠ 6 -> ¬ 1 < n -> g = 0 /\ V = X) :
  ACall Tryz.prog 11 [.val (tl RX), .val (ti .i64 ((6 : Nat) : Int)), .val (ti .u8 k)] ⟨[.val (tb true)], [none, none, none]⟩ := by
 refine callZ ccOk mixed [.val] Tryz.func11 rfl rfl (by kernel_rfl) fun zA zB zC zD zE zF zG zH zI zJ zK zL zM zN zO zP zQ zR zS zT zU zV zX zY zZ za zb zc zd ze zf zg zh zi zj zk zl zm zn zo zp zq zr zs zt zu zw zx zy A L F hS hF => ?_
 have b0 : zQ true = false := by rw [hS.not]; rfl
 have a1 : zO 6 0 = false := by rw [hS.lt]; rfl
 have a2 : zO 7 6 = false := by rw [hS.lt]; rfl
 have a3 : zN 0 0 = false := by rw [hS.ne]; rfl
 obtain ⟨N, hN, hN2⟩ : ∃ N : Int, N + 1 = n /\ zA .i64 (zC (zY (zg X)) 1) = N := ⟨(n : Int) - 1, by omega, by rw [hS.len, lX, hS.ofN, hS.sub, hS.wrap, wrap_i64 (by omega) (by omega)]⟩
 have k1 : zA .i64 (zF k 8) = O := by rw [hS.rem, Int.tmod_eq_emod_of_nonneg hk.1, hS.wrap, wrap_i64 (by omega) (by omega)]; omega
 cbv
 refine ⟨_, hS.call (hsan), ?_⟩
 cbv
 refine bF (b0) ?_
 refine ⟨_, hS.call (ca), ?_⟩
 cbv
 refine ⟨_, hS.call (c1), ?_⟩
 cbv
 refine bF (a1) ?_
 refine bF (a2) ?_
 refine bF (a3) ?_
 have hN : N + 1 = (n : Int) := hN
 have hO : O = (o : Int) := hO
 rw [hN2]
 refine loopZR ccOk mixed hS (fun (m : Nat) s' => ∃ (k' : Nat) (I q : Int), I + 1 = m /\ m + k' = n /\ q = ((exT P k').length : Int) /\ s' = ulcS 6 k X T q I) (n := n) (s0 := ulcS 6 k X T 0 N) (qaj ?_ ?_) rfl (by show 3 <= 3; omega) ?_ ?_
 ·simp [leT, ulcS, mkSt, vi, vb]
 ·simp [leH, ulcS, mkSt]
 ·exact ⟨0, N, 0, hN, by omega, rfl, rfl⟩
 ·rintro m s1 ⟨k', I, q, hI, hmk, hq, hs1⟩
  by_cases hm : m = 0
  ·have l1 : zP 0 I = false := by rw [hS.le]; exact decide_eq_false (by omega)
   have y0 : zM 0 0 = true := by rw [hS.eq]; rfl
   have y1 : zM 1 1 = true := by rw [hS.eq]; rfl
   have y2 : zM (zY (zg [])) 0 = true := by rw [hS.eq, hS.ofN, hS.len]; rfl
   have hfin : (zM O 6 = true /\ g = 0 /\ V = X) ∨ (zM O 6 = false /\ zO 1 (zY (zg X)) = true /\ g = 1 /\ V = []) ∨ (zM O 6 = false /\ zO 1 (zY (zg X)) = false /\ g = 0 /\ V = X) := by
    by_cases h1 : o = 6
    ·exact .inl ⟨by rw [hS.eq]; exact decide_eq_true (by omega), hV1 h1⟩
    ·by_cases h2 : 1 < n
     ·exact .inr (.inl ⟨by rw [hS.eq]; exact decide_eq_false (by omega), by rw [hS.lt, hS.ofN, hS.len]; exact decide_eq_true (by omega), hV2 h1 h2⟩)
     ·exact .inr (.inr ⟨by rw [hS.eq]; exact decide_eq_false (by omega), by rw [hS.lt, hS.ofN, hS.len]; exact decide_eq_false (by omega), hV3 h1 h2⟩)
   have w1 : zN q (zY (zg T)) = false := by
    rw [hS.ne, hS.ofN, hS.len, hT, qan, List.length_map, hq, show P.length = k' by omega]; exact decide_eq_false (fun h => h rfl)
   subst hs1
   cbv
   refine bF l1 ?_
   refine bF (w1) ?_
   refine ⟨_, hS.call (c2), ?_⟩
   cbv
   refine bF (a3) ?_
   refine ⟨_, hS.call (cs), ?_⟩
   cbv
   refine bF (b0) ?_
   rw [k1]
   refine ⟨_, hS.call (c3), ?_⟩
   cbv
   rcases hfin with ⟨h1, h2, h3⟩ | ⟨h1, h2, h3, h4⟩ | ⟨h1, h2, h3, h4⟩
   ·rw [h2, h3]
    refine bT h1 (bT rfl (bT y0 ?_))
    refine ⟨_, hS.call (cs), ?_⟩
    cbv
    exact hF _ (ResLe.refl _)
   ·rw [h3, h4]
    refine bF h1 (bT h2 (bT rfl (bT y1 ?_)))
    exact fin1 hF (tv_bool y2)
   ·rw [h3, h4]
    refine bF h1 (bF h2 (bT rfl (bT y0 ?_)))
    refine ⟨_, hS.call (cs), ?_⟩
    cbv
    exact hF _ (ResLe.refl _)
  ·have l1 : zP 0 I = true := by rw [hS.le]; exact decide_eq_true (by omega)
   obtain ⟨m', rfl⟩ : ∃ m', m = m' + 1 := ⟨m - 1, by omega⟩
   have hIi : I = (m' : Int) := by omega
   obtain ⟨c, hc⟩ : ∃ c, c = P.getD m' 0 := ⟨_, rfl⟩
   have hPi : P[m']? = some c := by rw [hc, List.getD_eq_getElem?_getD, List.getElem?_eq_getElem (by omega)]; rfl
   have hXi : X[m']? = some (qc c).row := by rw [hX]; exact qau hPi
   have hstep : exT P (k' + 1) = if c = 0 then exT P k' else exT P k' ++ [m'] := by
    rw [exT, show P.length - (k' + 1) = m' by omega, <- hc]
   obtain ⟨C, hC, cS⟩ := qa7 c
   have cE := qa6 (x := c) (y := c) (by rw [hc]; exact cf_qs hP.cf m') rfl (by omega)
   obtain ⟨s2, t2, r2, p2, hrow2, _⟩ := qrow c
   rw [hrow2] at hXi cS cE
   have j1 : zV I = m' := by rw [hS.nat]; omega
   have j2 : zh X m' = some [.v (.bool s2), .lst false r2, .v (.bool t2), .lst false p2] := by rw [hS.nth]; exact hXi
   obtain ⟨I', hI', i1⟩ : ∃ I' : Int, I' + 1 = (m' : Int) /\ zA .i64 (zC I 1) = I' := ⟨I - 1, by omega, by rw [hS.sub, hS.wrap, wrap_i64 (by omega) (by omega)]⟩
   have hmm : m' < m' + 1 := by omega
   by_cases hc0 : c = 0
   ·have q1 : zM C 0 = true := by rw [hS.eq]; exact decide_eq_true (hC.2 hc0)
    rw [if_pos hc0] at hstep
    have hnx : ∃ (k2 : Nat) (I2 q2 : Int), I2 + 1 = (m' : Int) /\ m' + k2 = n /\ q2 = ((exT P k2).length : Int) /\ ulcS 6 k X T q I' = ulcS 6 k X T q2 I2 := ⟨k' + 1, I', q, hI', by omega, by rw [hstep, hq], rfl⟩
    subst hs1
    cbv
    refine bT l1 ?_
    rw [j1, j2]
    cbv
    refine nd (l1) ?_
    refine ⟨_, hS.call (cS), ?_⟩
    cbv
    refine bT (q1) ?_
    refine againR [] (s' := ulcS 6 k X T q I') (k := m') ?_ ?_ ?_ ?_ rfl (by show 3 <= 3; omega) hmm hnx
    ·simp [leTR, ulcS, mkSt, vi, vb, AV.ren, AV.noTup, Cell.ren, renF, i1]
    ·simp [leHR, ulcS, mkSt, Abs.look, renF, Blk.ren, Cell.ren]
    ·simp [liveR, ulcS, mkSt, renF]
    ·simp
   ·have q1 : zM C 0 = false := by rw [hS.eq]; exact decide_eq_false (fun h => hc0 (hC.1 h))
    rw [if_neg hc0] at hstep
    obtain ⟨qn, hqn⟩ : ∃ qn, qn = (exT P k').length := ⟨_, rfl⟩
    have hqT : (exT P P.length)[qn]? = some m' := by
     obtain ⟨rest, hr⟩ := exT_pre P (k' + 1) m'
     rw [show k' + 1 + m' = P.length by omega, hstep] at hr
     rw [hr, hqn]; simp
    have hqT2 : T[qn]? = some [.v (.bool s2), .lst false r2, .v (.bool t2), .lst false p2, .v (.int .i64 0), .v (.int .i64 0), .v (.int .i64 0), .v (.int .i64 0), .v (.int .i64 0), .v (.int .i64 0), .v (.int .i64 I), .v (.int .i64 0)] := by
     rw [hT, qan, List.getElem?_map, hqT, Option.map_some, <- hc, hrow2, hIi]; rfl
    have hqlt := (List.getElem?_eq_some_iff.1 hqT2).1
    have q2 : zP (zY (zg T)) q = false := by rw [hS.le, hS.ofN, hS.len]; exact decide_eq_false (by omega)
    have q3 : zV q = qn := by rw [hS.nat]; omega
    have q4 : zh T qn = some [.v (.bool s2), .lst false r2, .v (.bool t2), .lst false p2, .v (.int .i64 0), .v (.int .i64 0), .v (.int .i64 0), .v (.int .i64 0), .v (.int .i64 0), .v (.int .i64 0), .v (.int .i64 I), .v (.int .i64 0)] := by rw [hS.nth]; exact hqT2
    have q5 : zP 0 q = true := by rw [hS.le]; exact decide_eq_true (by omega)
    obtain ⟨q', hq', q6⟩ : ∃ q' : Int, q' = ((exT P (k' + 1)).length : Int) /\ zA .i64 (zB q 1) = q' := ⟨q + 1, by rw [hstep, List.length_append, List.length_singleton]; omega, by
     have := exT_len P k'
     rw [hS.add, hS.wrap, wrap_i64 (by omega) (by omega)]⟩
    have hnx : ∃ (k2 : Nat) (I2 q2 : Int), I2 + 1 = (m' : Int) /\ m' + k2 = n /\ q2 = ((exT P k2).length : Int) /\ ulcS 6 k X T q' I' = ulcS 6 k X T q2 I2 := ⟨k' + 1, I', q', hI', by omega, hq', rfl⟩
    have z1 : zM I I = true := by rw [hS.eq]; exact decide_eq_true rfl
    have z2 : zM 0 0 = true := by rw [hS.eq]; rfl
    subst hs1
    cbv
    refine bT l1 ?_
    rw [j1, j2]
    cbv
    refine nd (l1) ?_
    refine ⟨_, hS.call (cS), ?_⟩
    cbv
    refine bF (q1) ?_
    refine bF (q2) ?_
    rw [q3, q4]
    cbv
    refine nd (q5) ?_
    rw [z1, z2]
    cbv
    refine bF rfl ?_
    rw [q3, q4]
    cbv
    refine nd (q5) ?_
    rw [j1, j2]
    cbv
    refine nd (l1) ?_
    refine ⟨_, hS.call (cE), ?_⟩
    cbv
    refine bF (b0) ?_
    refine againR [] (s' := ulcS 6 k X T q' I') (k := m') ?_ ?_ ?_ ?_ rfl (by show 3 <= 3; omega) hmm hnx
    ·simp [leTR, ulcS, mkSt, vi, vb, AV.ren, AV.noTup, Cell.ren, renF, i1, q6]
    ·simp [leHR, ulcS, mkSt, Abs.look, renF, Blk.ren, Cell.ren]
    ·simp [liveR, ulcS, mkSt, renF]
    ·simp
theorem conv_in7 (hsan : ACall Tryz.prog 12 [] ⟨[.val (tb true)], []⟩) {P : List Rat} (hP : PB (Abs.ev P) (8 + 1) ((8 + 1) * (32 * 8)) P) (hl : P.length <= 8 + 1) {RX X T V : Abs.Rows} {n o : Nat} {O g k : Int} (hk : 0 <= k /\ k < 256)
  (ca : ACall Tryz.prog 15 [.val (tl RX), .val (ti .i64 ((8 : Nat) : Int))] ⟨[.val (tl X)], [none, none]⟩)
  (c1 : ACall Tryz.prog 54 [.val (tl X), .val (ti .i64 ((7 : Nat) : Int))] ⟨[.val (tl T), .val (ti .i64 0)], [none, none]⟩)
  (c2 : ACall Tryz.prog 55 [.val (tl T), .val (ti .i64 ((7 : Nat) : Int))] ⟨[.val (tl X), .val (ti .i64 0)], [none, none]⟩)
  (cs : ACall Tryz.prog 19 [.val (tl X), .val (tl X)] ⟨[.val (tb true)], [none, none]⟩)
  (hX : X = ur P) (hT : T = tmT P 7 P.length) (hn : n = P.length) (lX : X.length = n) (ho : o = (k % 8).toNat) (ho8 : o < 8) (hO : O = (o : Int))
  (c3 : ACall Tryz.prog 55 [.val (tl T), .val (ti .i64 O)] ⟨[.val (tl V), .val (ti .i64 g)], [none, none]⟩) (hV1 : o = 7 -> g = 0 /\ V = X) (hV2 : o ≠ 7 -> 1 < n -> g = 1 /\ V = []) (hV3 : o ≠ 7 -> ¬ 1 < n -> g = 0 /\ V = X) :
  ACall Tryz.prog 11 [.val (tl RX), .val (ti .i64 ((7 : Nat) : Int)), .val (ti .u8 k)] ⟨[.val (tb true)], [none, none, none]⟩ := by
 refine callZ ccOk mixed [.val] Tryz.func11 rfl rfl (by kernel_rfl) fun zA zB zC zD zE zF zG zH zI zJ zK zL zM zN zO zP zQ zR zS zT zU zV zX zY zZ za zb zc zd ze zf zg zh zi zj zk zl zm zn zo zp zq zr zs zt zu zw zx zy A L F hS hF => ?_
 have b0 : zQ true = false := by rw [hS.not]; rfl
 have a1 : zO 7 0 = false := by rw [hS.lt]; rfl
 have a2 : zO 7 7 = false := by rw [hS.lt]; rfl
 have a3 : zN 0 0 = false := by rw [hS.ne]; rfl
 obtain ⟨N, hN, hN2⟩ : ∃ N : Int, N + 1 = n /\ zA .i64 (zC (zY (zg X)) 1) = N := ⟨(n : Int) - 1, by omega, by rw [hS.len, lX, hS.ofN, hS.sub, hS.wrap, wrap_i64 (by omega) (by omega)]⟩
 have k1 : zA .i64 (zF k 8) = O := by rw [hS.rem, Int.tmod_eq_emod_of_nonneg hk.1, hS.wrap, wrap_i64 (by omega) (by omega)]; omega
 cbv
 refine ⟨_, hS.call (hsan), ?_⟩
 cbv
 refine bF (b0) ?_
 refine ⟨_, hS.call (ca), ?_⟩
 cbv
 refine ⟨_, hS.call (c1), ?_⟩
 cbv
 refine bF (a1) ?_
 refine bF (a2) ?_
 refine bF (a3) ?_
 have hN : N + 1 = (n : Int) := hN
 have hO : O = (o : Int) := hO
 rw [hN2]
 refine loopZR ccOk mixed hS (fun (m : Nat) s' => ∃ (k' : Nat) (I q : Int), I + 1 = m /\ m + k' = n /\ q = ((exT P k').length : Int) /\ s' = ulcS 7 k X T q I) (n := n) (s0 := ulcS 7 k X T 0 N) (qaj ?_ ?_) rfl (by show 3 <= 3; omega) ?_ ?_
 ·simp [leT, ulcS, mkSt, vi, vb]
 ·simp [leH, ulcS, mkSt]
 ·exact ⟨0, N, 0, hN, by omega, rfl, rfl⟩
 ·rintro m s1 ⟨k', I, q, hI, hmk, hq, hs1⟩
  by_cases hm : m = 0
  ·have l1 : zP 0 I = false := by rw [hS.le]; exact decide_eq_false (by omega)
   have y0 : zM 0 0 = true := by rw [hS.eq]; rfl
   have y1 : zM 1 1 = true := by rw [hS.eq]; rfl
   have y2 : zM (zY (zg [])) 0 = true := by rw [hS.eq, hS.ofN, hS.len]; rfl
   have hfin : (zM O 7 = true /\ g = 0 /\ V = X) ∨ (zM O 7 = false /\ zO 1 (zY (zg X)) = true /\ g = 1 /\ V = []) ∨ (zM O 7 = false /\ zO 1 (zY (zg X)) = false /\ g = 0 /\ V = X) := by
    by_cases h1 : o = 7
    ·exact .inl ⟨by rw [hS.eq]; exact decide_eq_true (by omega), hV1 h1⟩
    ·by_cases h2 : 1 < n
     ·exact .inr (.inl ⟨by rw [hS.eq]; exact decide_eq_false (by omega), by rw [hS.lt, hS.ofN, hS.len]; exact decide_eq_true (by omega), hV2 h1 h2⟩)
     ·exact .inr (.inr ⟨by rw [hS.eq]; exact decide_eq_false (by omega), by rw [hS.lt, hS.ofN, hS.len]; exact decide_eq_false (by omega), hV3 h1 h2⟩)
   have w1 : zN q (zY (zg T)) = false := by
    rw [hS.ne, hS.ofN, hS.len, hT, qan, List.length_map, hq, show P.length = k' by omega]; exact decide_eq_false (fun h => h rfl)
   subst hs1
   cbv
   refine bF l1 ?_
   refine bF (w1) ?_
   refine ⟨_, hS.call (c2), ?_⟩
   cbv
   refine bF (a3) ?_
   refine ⟨_, hS.call (cs), ?_⟩
   cbv
   refine bF (b0) ?_
   rw [k1]
   refine ⟨_, hS.call (c3), ?_⟩
   cbv
   rcases hfin with ⟨h1, h2, h3⟩ | ⟨h1, h2, h3, h4⟩ | ⟨h1, h2, h3, h4⟩
   ·rw [h2, h3]
    refine bT h1 (bT rfl (bT y0 ?_))
    refine ⟨_, hS.call (cs), ?_⟩
    cbv
    exact hF _ (ResLe.refl _)
   ·rw [h3, h4]
    refine bF h1 (bT h2 (bT rfl (bT y1 ?_)))
    exact fin1 hF (tv_bool y2)
   ·rw [h3, h4]
    refine bF h1 (bF h2 (bT rfl (bT y0 ?_)))
    refine ⟨_, hS.call (cs), ?_⟩
    cbv
    exact hF _ (ResLe.refl _)
  ·have l1 : zP 0 I = true := by rw [hS.le]; exact decide_eq_true (by omega)
   obtain ⟨m', rfl⟩ : ∃ m', m = m' + 1 := ⟨m - 1, by omega⟩
   have hIi : I = (m' : Int) := by omega
   obtain ⟨c, hc⟩ : ∃ c, c = P.getD m' 0 := ⟨_, rfl⟩
   have hPi : P[m']? = some c := by rw [hc, List.getD_eq_getElem?_getD, List.getElem?_eq_getElem (by omega)]; rfl
   have hXi : X[m']? = some (qc c).row := by rw [hX]; exact qau hPi
   have hstep : exT P (k' + 1) = if c = 0 then exT P k' else exT P k' ++ [m'] := by
    rw [exT, show P.length - (k' + 1) = m' by omega, <- hc]
   obtain ⟨C, hC, cS⟩ := qa7 c
   have cE := qa6 (x := c) (y := c) (by rw [hc]; exact cf_qs hP.cf m') rfl (by omega)
   obtain ⟨s2, t2, r2, p2, hrow2, _⟩ := qrow c
   rw [hrow2] at hXi cS cE
   have j1 : zV I = m' := by rw [hS.nat]; omega
   have j2 : zh X m' = some [.v (.bool s2), .lst false r2, .v (.bool t2), .lst false p2] := by rw [hS.nth]; exact hXi
   obtain ⟨I', hI', i1⟩ : ∃ I' : Int, I' + 1 = (m' : Int) /\ zA .i64 (zC I 1) = I' := ⟨I - 1, by omega, by rw [hS.sub, hS.wrap, wrap_i64 (by omega) (by omega)]⟩
   have hmm : m' < m' + 1 := by omega
   by_cases hc0 : c = 0
   ·have q1 : zM C 0 = true := by rw [hS.eq]; exact decide_eq_true (hC.2 hc0)
    rw [if_pos hc0] at hstep
    have hnx : ∃ (k2 : Nat) (I2 q2 : Int), I2 + 1 = (m' : Int) /\ m' + k2 = n /\ q2 = ((exT P k2).length : Int) /\ ulcS 7 k X T q I' = ulcS 7 k X T q2 I2 := ⟨k' + 1, I', q, hI', by omega, by rw [hstep, hq], rfl⟩
    subst hs1
    cbv
    refine bT l1 ?_
    rw [j1, j2]
    cbv
    refine nd (l1) ?_
    refine ⟨_, hS.call (cS), ?_⟩
    cbv
    refine bT (q1) ?_
    refine againR [] (s' := ulcS 7 k X T q I') (k := m') ?_ ?_ ?_ ?_ rfl (by show 3 <= 3; omega) hmm hnx
    ·simp [leTR, ulcS, mkSt, vi, vb, AV.ren, AV.noTup, Cell.ren, renF, i1]
    ·simp [leHR, ulcS, mkSt, Abs.look, renF, Blk.ren, Cell.ren]
    ·simp [liveR, ulcS, mkSt, renF]
    ·simp
   ·have q1 : zM C 0 = false := by rw [hS.eq]; exact decide_eq_false (fun h => hc0 (hC.1 h))
    rw [if_neg hc0] at hstep
    obtain ⟨qn, hqn⟩ : ∃ qn, qn = (exT P k').length := ⟨_, rfl⟩
    have hqT : (exT P P.length)[qn]? = some m' := by
     obtain ⟨rest, hr⟩ := exT_pre P (k' + 1) m'
     rw [show k' + 1 + m' = P.length by omega, hstep] at hr
     rw [hr, hqn]; simp
    have hqT2 : T[qn]? = some [.v (.bool s2), .lst false r2, .v (.bool t2), .lst false p2, .v (.int .i64 0), .v (.int .i64 0), .v (.int .i64 0), .v (.int .i64 0), .v (.int .i64 0), .v (.int .i64 0), .v (.int .i64 0), .v (.int .i64 I)] := by
     rw [hT, qan, List.getElem?_map, hqT, Option.map_some, <- hc, hrow2, hIi]; rfl
    have hqlt := (List.getElem?_eq_some_iff.1 hqT2).1
    have q2 : zP (zY (zg T)) q = false := by rw [hS.le, hS.ofN, hS.len]; exact decide_eq_false (by omega)
    have q3 : zV q = qn := by rw [hS.nat]; omega
    have q4 : zh T qn = some [.v (.bool s2), .lst false r2, .v (.bool t2), .lst false p2, .v (.int .i64 0), .v (.int .i64 0), .v (.int .i64 0), .v (.int .i64 0), .v (.int .i64 0), .v (.int .i64 0), .v (.int .i64 0), .v (.int .i64 I)] := by rw [hS.nth]; exact hqT2
    have q5 : zP 0 q = true := by rw [hS.le]; exact decide_eq_true (by omega)
    obtain ⟨q', hq', q6⟩ : ∃ q' : Int, q' = ((exT P (k' + 1)).length : Int) /\ zA .i64 (zB q 1) = q' := ⟨q + 1, by rw [hstep, List.length_append, List.length_singleton]; omega, by
     have := exT_len P k'
     rw [hS.add, hS.wrap, wrap_i64 (by omega) (by omega)]⟩
    have hnx : ∃ (k2 : Nat) (I2 q2 : Int), I2 + 1 = (m' : Int) /\ m' + k2 = n /\ q2 = ((exT P k2).length : Int) /\ ulcS 7 k X T q' I' = ulcS 7 k X T q2 I2 := ⟨k' + 1, I', q', hI', by omega, hq', rfl⟩
    have z1 : zM I I = true := by rw [hS.eq]; exact decide_eq_true rfl
    have z2 : zM 0 0 = true := by rw [hS.eq]; rfl
    subst hs1
    cbv
    refine bT l1 ?_
    rw [j1, j2]
    cbv
    refine nd (l1) ?_
    refine ⟨_, hS.call (cS), ?_⟩
    cbv
    refine bF (q1) ?_
    refine bF (q2) ?_
    rw [q3, q4]
    cbv
    refine nd (q5) ?_
    rw [z1, z2]
    cbv
    refine bF rfl ?_
    rw [q3, q4]
    cbv
    refine nd (q5) ?_
    rw [j1, j2]
    cbv
    refine nd (l1) ?_
    refine ⟨_, hS.call (cE), ?_⟩
    cbv
    refine bF (b0) ?_
    refine againR [] (s' := ulcS 7 k X T q' I') (k := m') ?_ ?_ ?_ ?_ rfl (by show 3 <= 3; omega) hmm hnx
    ·simp [leTR, ulcS, mkSt, vi, vb, AV.ren, AV.noTup, Cell.ren, renF, i1, q6]
    ·simp [leHR, ulcS, mkSt, Abs.look, renF, Blk.ren, Cell.ren]
    ·simp [liveR, ulcS, mkSt, renF]
    ·simp
theorem conv_in (hsan : ACall Tryz.prog 12 [] ⟨[.val (tb true)], []⟩) (xs : List RW) (hx : ∀ x ∈ xs, x.ok) (hlx : xs.length < 9223372036854775808) (i : Nat) (k : Int) (hi : i < 8) (hk : 0 <= k /\ k < 256) :
  ACall Tryz.prog 11 [.val (tl (rwrows xs)), .val (ti .i64 i), .val (ti .u8 k)] ⟨[.val (tb true)], [none, none, none]⟩ := by
 obtain ⟨P, hP, ca⟩ := pb_made xs hx 8 (by omega) hlx
 have hl := hP.len
 have c1 := uto_call P (by omega) i hi
 have c2 := ufrom_call P (by omega) (fun h => tr_last hP.tr h) i hi
 have cs := pb_same hP hP (fun _ => rfl) (by omega) (by omega) (by omega)
 obtain ⟨X, hX⟩ : ∃ X, X = ur P := ⟨_, rfl⟩
 rw [<- hX] at ca c1 c2 cs
 generalize rwrows xs = RX at *
 obtain ⟨T, hT⟩ : ∃ X, X = tmT P i P.length := ⟨_, rfl⟩
 rw [<- hT] at c1 c2
 obtain ⟨n, hn⟩ : ∃ n, n = P.length := ⟨_, rfl⟩
 have lX : X.length = n := by rw [hX, ur_len, hn]
 obtain ⟨o, ho⟩ : ∃ o : Nat, o = (k % 8).toNat := ⟨_, rfl⟩
 have ho8 : o < 8 := by omega
 obtain ⟨O, hO⟩ : ∃ O : Int, O = (o : Int) := ⟨_, rfl⟩
 obtain ⟨V, g, c3, hV1, hV2, hV3⟩ : ∃ (V : Abs.Rows) (g : Int), ACall Tryz.prog 55 [.val (tl T), .val (ti .i64 O)] ⟨[.val (tl V), .val (ti .i64 g)], [none, none]⟩ /\ (o = i -> g = 0 /\ V = X) /\ (o ≠ i -> 1 < n -> g = 1 /\ V = []) /\ (o ≠ i -> ¬ 1 < n -> g = 0 /\ V = X) := by
  by_cases h1 : o = i
  ·exact ⟨X, 0, by rw [hO, h1]; exact c2, fun _ => ⟨rfl, rfl⟩, fun h => absurd h1 h, fun h => absurd h1 h⟩
  ·by_cases h2 : 1 < n
   ·obtain ⟨e, he⟩ : ∃ e, e = P.length - 1 := ⟨_, rfl⟩
    have hh := qba (tr_last hP.tr fun h0 => by rw [hn, h0] at h2; simp at h2) P.length (by omega)
    obtain ⟨s2, t2, r2, p2, hrow2, _⟩ := qrow (P.getD e 0)
    rw [<- he] at hh
    have hrow : T[0]? = some ([Tree.v (.bool s2), .lst false r2, .v (.bool t2), .lst false p2] ++ mrow i e) := by
     rw [hT, qan, List.getElem?_map, hh, Option.map_some, hrow2]
    refine ⟨[], 1, ?_, fun h => absurd h h1, fun _ _ => ⟨rfl, rfl⟩, fun _ h => absurd h2 h⟩
    rw [hO]
    have he0 : (e : Int) ≠ 0 := by omega
    refine ufrom_bad T s2 t2 r2 p2 _ _ _ _ _ _ _ _ hrow o ho8 ?_
    clear hrow hh c1 c2 cs ca
    obtain rfl | rfl | rfl | rfl | rfl | rfl | rfl | rfl : i = 0 ∨ i = 1 ∨ i = 2 ∨ i = 3 ∨ i = 4 ∨ i = 5 ∨ i = 6 ∨ i = 7 := by omega
    ·exact fun h _ _ _ _ _ _ _ => he0 (by simpa using h h1)
    ·exact fun _ h _ _ _ _ _ _ => he0 (by simpa using h h1)
    ·exact fun _ _ h _ _ _ _ _ => he0 (by simpa using h h1)
    ·exact fun _ _ _ h _ _ _ _ => he0 (by simpa using h h1)
    ·exact fun _ _ _ _ h _ _ _ => he0 (by simpa using h h1)
    ·exact fun _ _ _ _ _ h _ _ => he0 (by simpa using h h1)
    ·exact fun _ _ _ _ _ _ h _ => he0 (by simpa using h h1)
    ·exact fun _ _ _ _ _ _ _ h => he0 (by simpa using h h1)
   ·have hTo : T = tmT P o P.length := by
     rw [hT, qan, qan]
     refine List.map_congr_left fun e he => ?_
     have := (exT_mem _ (Nat.le_refl _)).1 he
     have he0 : e = 0 := by omega
     rw [he0, mrow0 i o]
    have c4 := ufrom_call P (by omega) (fun h => tr_last hP.tr h) o ho8
    rw [<- hTo, <- hX, <- hO] at c4
    exact ⟨X, 0, c4, fun h => absurd h h1, fun _ h => absurd h h2, fun _ _ => ⟨rfl, rfl⟩⟩
 obtain rfl | rfl | rfl | rfl | rfl | rfl | rfl | rfl : i = 0 ∨ i = 1 ∨ i = 2 ∨ i = 3 ∨ i = 4 ∨ i = 5 ∨ i = 6 ∨ i = 7 := by omega
 ·exact conv_in0 hsan hP hl hk ca c1 c2 cs hX hT hn lX ho ho8 hO c3 hV1 hV2 hV3
 ·exact conv_in1 hsan hP hl hk ca c1 c2 cs hX hT hn lX ho ho8 hO c3 hV1 hV2 hV3
 ·exact conv_in2 hsan hP hl hk ca c1 c2 cs hX hT hn lX ho ho8 hO c3 hV1 hV2 hV3
 ·exact conv_in3 hsan hP hl hk ca c1 c2 cs hX hT hn lX ho ho8 hO c3 hV1 hV2 hV3
 ·exact conv_in4 hsan hP hl hk ca c1 c2 cs hX hT hn lX ho ho8 hO c3 hV1 hV2 hV3
 ·exact conv_in5 hsan hP hl hk ca c1 c2 cs hX hT hn lX ho ho8 hO c3 hV1 hV2 hV3
 ·exact conv_in6 hsan hP hl hk ca c1 c2 cs hX hT hn lX ho ho8 hO c3 hV1 hV2 hV3
 ·exact conv_in7 hsan hP hl hk ca c1 c2 cs hX hT hn lX ho ho8 hO c3 hV1 hV2 hV3
theorem converts_call (hsan : ACall Tryz.prog 12 [] ⟨[.val (tb true)], []⟩) (xs : List RW) (hx : ∀ x ∈ xs, x.ok) (hlx : xs.length < 9223372036854775808) (i k : Int) (hk : 0 <= k /\ k < 256) :
  ACall Tryz.prog 11 [.val (tl (rwrows xs)), .val (ti .i64 i), .val (ti .u8 k)] ⟨[.val (tb true)], [none, none, none]⟩ := by
 by_cases h : i < 0 ∨ 7 < i
 ·exact conv_out hsan xs hx hlx i k h
 ·obtain ⟨j, rfl⟩ : ∃ j : Nat, i = (j : Int) := ⟨i.toNat, by omega⟩
  exact conv_in hsan xs hx hlx j k (by omega) hk
open Go Go.Abs Go.Abs.M Go.Proofs
open Go Go.Abs Go.Abs.M Go.Proofs
theorem converts_row (hsan : ACall Tryz.prog 12 [] ⟨[.val (tb true)], []⟩)
  (tss : List (List Tree)) (h : okAll [.slice rawQ, .int .i64, .int .u8] tss) :
  ACall Tryz.prog 11 ((tvs [.slice rawQ, .int .i64, .int .u8] tss).map .val) ⟨[.val (tb true)], [none, none, none]⟩ := by
 obtain ⟨_, _, rfl, ⟨cp, rows, rfl, n1, h1⟩, _, _, rfl, ⟨i, rfl, hi⟩, _, _, rfl, ⟨k, rfl, hk⟩, rfl⟩ := h
 obtain ⟨xs, rfl, x1, x2⟩ := raws_ok rows h1
 have hk := bd_u8 hk
 have c := converts_call hsan xs x1 (by omega) i k (by omega)
 have hle : ArgsLe [.val (.c (.lst cp (rwrows xs))), .val (ti .i64 i), .val (ti .u8 k)] [.val (tl (rwrows xs)), .val (ti .i64 i), .val (ti .u8 k)] := ⟨TLe.drop _ _, TLe.refl _, TLe.refl _, trivial⟩
 exact ACall.weak hle (ResLe.refl _) c
end Go.Proofs.YtdhidmcjglokcaaGreat
end
section
namespace Go.Abs
def execBody (P : Program) (C : Cfg) (om : FuncId -> List Mode) (call : FuncId -> List Arg -> Option Res) (n : Nat) (f : FuncId) (args : List Arg) : Option Res :=
 match P.funcs[f]? with
 | some fn =>
  if fn.name == "runtime.NumGoroutine" then none else
  match fn.body with
  | some c =>
   match execCode C call n c (startSt args fn.ntmps) with
   | some (.normal, s) => finish C s args fn.results.toList (om f)
   | some (.ret, s) => finish C s args fn.results.toList (om f)
   | _ => none
  | none => none
 | none => none
mutual
def eqT : Tree -> Tree -> Bool
 | .v x, .v y => match x, y with
  | .int k a, .int k' b => decide (k = k') && decide (a = b)
  | .bool a, .bool b => decide (a = b)
  | .string a, .string b => decide (a.data.toList = b.data.toList)
  | .func (.func f) ⟨[]⟩ ⟨[]⟩, .func (.func g) ⟨[]⟩ ⟨[]⟩ => decide (f = g)
  | _, _ => false
 | .lst c l, .lst c' l' => decide (c = c') && eqRR l l'
 | _, _ => false
def eqTs : List Tree -> List Tree -> Bool
 | [], [] => true
 | x :: xs, y :: ys => eqT x y && eqTs xs ys
 | _, _ => false
def eqRR : List (List Tree) -> List (List Tree) -> Bool
 | [], [] => true
 | x :: xs, y :: ys => eqTs x y && eqRR xs ys
 | _, _ => false
end
mutual
theorem eqT_eq : ∀ {x y : Tree}, eqT x y = true -> x = y
 | .v x, .v y, h => by
  unfold eqT at h
  split at h
  ·simp only [Bool.and_eq_true, decide_eq_true_eq] at h; rw [h.1, h.2]
  ·rw [of_decide_eq_true h]
  ·rename_i a b
   have := of_decide_eq_true h
   have e : a = b := by
    cases a with | mk da => cases b with | mk db => exact congrArg ByteArray.mk (Array.ext' this)
   rw [e]
  ·rw [of_decide_eq_true h]
  ·cases h
 | .lst c l, .lst c' l', h => by
  unfold eqT at h
  simp only [Bool.and_eq_true, decide_eq_true_eq] at h
  rw [h.1, eqRR_eq h.2]
 | .v _, .lst _ _, h => by unfold eqT at h; cases h
 | .lst _ _, .v _, h => by unfold eqT at h; cases h
theorem eqTs_eq : ∀ {x y : List Tree}, eqTs x y = true -> x = y
 | [], [], _ => rfl
 | x :: xs, y :: ys, h => by
  unfold eqTs at h
  simp only [Bool.and_eq_true] at h
  rw [eqT_eq h.1, eqTs_eq h.2]
 | [], _ :: _, h => by unfold eqTs at h; cases h
 | _ :: _, [], h => by unfold eqTs at h; cases h
theorem eqRR_eq : ∀ {x y : List (List Tree)}, eqRR x y = true -> x = y
 | [], [], _ => rfl
 | x :: xs, y :: ys, h => by
  unfold eqRR at h
  simp only [Bool.and_eq_true] at h
  rw [eqTs_eq h.1, eqRR_eq h.2]
 | [], _ :: _, h => by unfold eqRR at h; cases h
 | _ :: _, [], h => by unfold eqRR at h; cases h
end
def eqArg : Arg -> Arg -> Bool
 | .val (.c x), .val (.c y) => eqT x y
 | .val (.agg x), .val (.agg y) => eqTs x y
 | .bor s x, .bor s' y => decide (s = s') && eqRR x y
 | .own s x, .own s' y => decide (s = s') && eqRR x y
 | .ref x, .ref y => eqTs x y
 | .gh x, .gh y => eqTs x y
 | .clo f x, .clo g y => decide (f = g) && decide (x = y)
 | _, _ => false
theorem eqArg_eq {x y : Arg} (h : eqArg x y = true) : x = y := by
 unfold eqArg at h
 split at h
 ·rw [eqT_eq h]
 ·rw [eqTs_eq h]
 ·simp only [Bool.and_eq_true, decide_eq_true_eq] at h; rw [h.1, eqRR_eq h.2]
 ·simp only [Bool.and_eq_true, decide_eq_true_eq] at h; rw [h.1, eqRR_eq h.2]
 ·rw [eqTs_eq h]
 ·rw [eqTs_eq h]
 ·simp only [Bool.and_eq_true, decide_eq_true_eq] at h; rw [h.1, h.2]
 ·cases h
def eqArgs : List Arg -> List Arg -> Bool
 | [], [] => true
 | x :: xs, y :: ys => eqArg x y && eqArgs xs ys
 | _, _ => false
theorem eqArgs_eq : ∀ {x y : List Arg}, eqArgs x y = true -> x = y
 | [], [], _ => rfl
 | x :: xs, y :: ys, h => by
  unfold eqArgs at h
  simp only [Bool.and_eq_true] at h
  rw [eqArg_eq h.1, eqArgs_eq h.2]
 | [], _ :: _, h => by cases h
 | _ :: _, [], h => by cases h
inductive Known (P : Program) : List (FuncId × List Arg × Res) -> Prop where
 | nil : Known P []
 | cons {f : FuncId} {args : List Arg} {res : Res} {l : List (FuncId × List Arg × Res)} (h : ACall P f args res) (t : Known P l) : Known P ((f, args, res) :: l)
def findK : List (FuncId × List Arg × Res) -> FuncId -> List Arg -> Option Res
 | [], _, _ => none
 | (f, aas, r) :: l, g, bs => match Nat.beq f g with
  | true => match eqArgs aas bs with
   | true => some r
   | false => findK l g bs
  | false => findK l g bs
theorem Known.find {P : Program} {l : List (FuncId × List Arg × Res)} (h : Known P l) : ∀ f aas res, findK l f aas = some res -> ACall P f aas res := by
 induction h with
 | nil => intro f aas res h; cases h
 | cons h t ih =>
  rename_i f args r l
  intro g bs res hr
  unfold findK at hr
  split at hr
  ·rename_i h1
   split at hr
   ·rename_i h2
    cases hr
    obtain rfl := Nat.eq_of_beq_eq_true h1
    obtain rfl := eqArgs_eq h2
    exact h
   ·exact ih _ _ _ hr
  ·exact ih _ _ _ hr
theorem execBody_sound {P : Program} {C : Cfg} {om : FuncId -> List Mode} (hC : CfgOk P C) (hmix : P.follows .mixedOrders = true) {l : List (FuncId × List Arg × Res)} (hl : Known P l) {n : Nat} {f : FuncId} {args : List Arg} {res : Res}
  (h : execBody P C om (findK l) n f args = some res) : ACall P f args res := by
 unfold execBody at h
 split at h
 ·rename_i fn hfn
  split at h
  ·cases h
  ·rename_i hname
   split at h
   ·rename_i c hbody
    refine ACall.of_body hC hfn (by simpa using hname) hbody (om := om f) ?_
    split at h
    ·rename_i s h1
     exact execCode_sound hC hmix hl.find n c _ h1 ⟨.inl rfl, h⟩
    ·rename_i s h1
     exact execCode_sound hC hmix hl.find n c _ h1 ⟨.inr rfl, h⟩
    ·cases h
   ·cases h
 ·cases h
end Go.Abs
end
section
namespace Go.Proofs.YtdhidmcjglokcaaGreat.Mem
open Go Go.Abs Go.Proofs
def u (n : Int) : List Tree := [.v (.int .u32 n)]
def n64 (n : Int) : Tree := .v (.int .i64 n)
def w64 (n : Int) : Tree := .v (.int .u64 n)
def bT : Tree := .v (.bool true)
def bF : Tree := .v (.bool false)
def lF (l : List (List Tree)) : Tree := .lst false l
def lT (l : List (List Tree)) : Tree := .lst true l
def l1 : Tree := .lst false [u 1]
def o0 : List Tree := [bF, lF [], bF, l1]
def o1 : List Tree := [bF, l1, bF, l1]
def o2 : List Tree := [bT, l1, bF, l1]
def w (n : Int) : List Tree := [bF, lF [u n], bF, l1]
def v (n : Int) : List Tree := [bT, lF [u n], bF, l1]
abbrev AC (f : FuncId) (a : List Arg) (r : List RC) (o : List (Option Blk)) : Prop := ACall Tryz.prog f a ⟨r, o⟩
abbrev x (t : Tree) : Arg := .val (.c t)
abbrev y (t : Tree) : RC := .val (.c t)
abbrev g (l : List Tree) : Arg := .val (.agg l)
abbrev h (l : List Tree) : RC := .val (.agg l)
abbrev n1 : List (Option Blk) := [none]
abbrev n2 : List (Option Blk) := [none, none]
abbrev n4 : List (Option Blk) := [none, none, none, none]
section
variable {P : Program} {l : List (FuncId × List Arg × Res)} {f1 f2 f3 f4 f5 f6 : FuncId} {a1 a2 a3 a4 a5 a6 : List Arg} {r1 r2 r3 r4 r5 r6 : Res}
theorem c1 (h1 : ACall P f1 a1 r1) : Known P [(f1, a1, r1)] := .cons h1 .nil
theorem c2 (h1 : ACall P f1 a1 r1) (h2 : ACall P f2 a2 r2) : Known P [(f1, a1, r1), (f2, a2, r2)] := .cons h1 (c1 h2)
theorem c3 (h1 : ACall P f1 a1 r1) (h2 : ACall P f2 a2 r2) (h3 : ACall P f3 a3 r3) : Known P [(f1, a1, r1), (f2, a2, r2), (f3, a3, r3)] := .cons h1 (c2 h2 h3)
theorem c4 (h1 : ACall P f1 a1 r1) (h2 : ACall P f2 a2 r2) (h3 : ACall P f3 a3 r3) (h4 : ACall P f4 a4 r4) : Known P [(f1, a1, r1), (f2, a2, r2), (f3, a3, r3), (f4, a4, r4)] := .cons h1 (c3 h2 h3 h4)
theorem d1 (h1 : ACall P f1 a1 r1) (t : Known P l) : Known P ((f1, a1, r1) :: l) := .cons h1 t
theorem d4 (h1 : ACall P f1 a1 r1) (h2 : ACall P f2 a2 r2) (h3 : ACall P f3 a3 r3) (h4 : ACall P f4 a4 r4) (t : Known P l) : Known P ((f1, a1, r1) :: (f2, a2, r2) :: (f3, a3, r3) :: (f4, a4, r4) :: l) := .cons h1 (.cons h2 (.cons h3 (.cons h4 t)))
end
noncomputable def om : FuncId -> List Abs.Mode := omOf Tryz.prog [(62, [.own 4])]
theorem ex {l : List (FuncId × List Arg × Res)} {f : FuncId} {args : List Arg} {res : Res} (hl : Known Tryz.prog l) (h : execBody Tryz.prog CC om (findK l) 100000 f args = some res) : ACall Tryz.prog f args res := execBody_sound ccOk mixed hl h
theorem k0 : AC 120 [x (lF [u 1, u 0])] [y l1] n1 := ex .nil (by kernel_rfl)
theorem k1 : AC 102 [x (w64 1)] [y l1] n1 := ex (c1 k0) (by kernel_rfl)
theorem k2 : AC 120 [x l1] [y l1] n1 := ex .nil (by kernel_rfl)
theorem k3 : AC 101 [x bF, x l1] [h [bF, l1]] n2 := ex (c1 k2) (by kernel_rfl)
theorem k4 : AC 66 [x (n64 1)] [h [bF, l1]] n1 := ex (c2 k1 k3) (by kernel_rfl)
theorem k5 : AC 22 [x (n64 1)] [h o1] n1 := ex (c1 k4) (by kernel_rfl)
theorem k6 : AC 120 [x (lF [u 0, u 0])] [y (lF [])] n1 := ex .nil (by kernel_rfl)
theorem k7 : AC 102 [x (w64 0)] [y (lF [])] n1 := ex (c1 k6) (by kernel_rfl)
theorem k8 : AC 120 [x (lF [])] [y (lF [])] n1 := ex .nil (by kernel_rfl)
theorem k9 : AC 101 [x bF, x (lF [])] [h [bF, lF []]] n2 := ex (c1 k8) (by kernel_rfl)
theorem k10 : AC 66 [x (n64 0)] [h [bF, lF []]] n1 := ex (c2 k7 k9) (by kernel_rfl)
theorem k11 : AC 22 [x (n64 0)] [h o0] n1 := ex (c2 k10 k4) (by kernel_rfl)
theorem k12 : AC 91 [g [bF, l1]] [y (n64 1)] n1 := ex .nil (by kernel_rfl)
theorem k13 : AC 53 [g o1] [y (n64 1)] n1 := ex (c1 k12) (by kernel_rfl)
theorem k14 : AC 59 [x (lF [o1, o0, o1])] [y (lF [o1, o0, o1])] n1 := ex (c1 k13) (by kernel_rfl)
theorem k15 : AC 65 [x (lF [[.v (.int .i8 1)], [.v (.int .i8 0)], [.v (.int .i8 1)]]), x (n64 20)] [y (lF [o1, o0, o1])] n2 := ex (c3 k5 k11 k14) (by kernel_rfl)
theorem k16 : AC 20 [x (lF [[.v (.int .i8 1)], [.v (.int .i8 0)], [.v (.int .i8 1)]])] [y (lF [o1, o0, o1])] n1 := ex (c1 k15) (by kernel_rfl)
theorem k17 : AC 120 [x (lF [u 2, u 0])] [y (lF [u 2])] n1 := ex .nil (by kernel_rfl)
theorem k18 : AC 102 [x (w64 2)] [y (lF [u 2])] n1 := ex (c1 k17) (by kernel_rfl)
theorem k19 : AC 120 [x (lF [u 2])] [y (lF [u 2])] n1 := ex .nil (by kernel_rfl)
theorem k20 : AC 101 [x bF, x (lF [u 2])] [h [bF, lF [u 2]]] n2 := ex (c1 k19) (by kernel_rfl)
theorem k21 : AC 66 [x (n64 2)] [h [bF, lF [u 2]]] n1 := ex (c2 k18 k20) (by kernel_rfl)
theorem k22 : AC 22 [x (n64 2)] [h (w 2)] n1 := ex (c2 k21 k4) (by kernel_rfl)
theorem k23 : AC 91 [g [bF, lF [u 2]]] [y (n64 1)] n1 := ex .nil (by kernel_rfl)
theorem k24 : AC 53 [g (w 2)] [y (n64 1)] n1 := ex (c1 k23) (by kernel_rfl)
theorem k25 : AC 59 [x (lF [o0, (w 2)])] [y (lF [o0, (w 2)])] n1 := ex (c1 k24) (by kernel_rfl)
theorem k26 : AC 65 [x (lF [[.v (.int .i8 0)], [.v (.int .i8 2)]]), x (n64 20)] [y (lF [o0, (w 2)])] n2 := ex (c3 k11 k22 k25) (by kernel_rfl)
theorem k27 : AC 20 [x (lF [[.v (.int .i8 0)], [.v (.int .i8 2)]])] [y (lF [o0, (w 2)])] n1 := ex (c1 k26) (by kernel_rfl)
theorem k28 : AC 96 [g [bF, lF [u 2]]] [y (n64 1)] n1 := ex .nil (by kernel_rfl)
theorem k29 : AC 67 [g (w 2)] [h [bF, l1, bF, lF [u 2]], y (n64 0)] n1 := ex (c1 k28) (by kernel_rfl)
theorem k30 : AC 115 [x (lF [u 0, u 0])] [y (lF [])] n1 := ex .nil (by kernel_rfl)
theorem k31 : AC 118 [x (w64 0)] [y (lF [])] n1 := ex (c1 k30) (by kernel_rfl)
theorem k32 : AC 115 [x (lF [])] [y (lF [])] n1 := ex .nil (by kernel_rfl)
theorem k33 : AC 117 [x bF, x (lF [])] [h [bF, lT []]] n2 := ex (c1 k32) (by kernel_rfl)
theorem k34 : AC 100 [x (n64 0)] [h [bF, lT []]] n1 := ex (c2 k31 k33) (by kernel_rfl)
theorem k35 : AC 115 [x (lF [u 1, u 0])] [y l1] n1 := ex .nil (by kernel_rfl)
theorem k36 : AC 118 [x (w64 1)] [y l1] n1 := ex (c1 k35) (by kernel_rfl)
theorem k37 : AC 115 [x l1] [y l1] n1 := ex .nil (by kernel_rfl)
theorem k38 : AC 117 [x bF, x l1] [h [bF, l1]] n2 := ex (c1 k37) (by kernel_rfl)
theorem k39 : AC 100 [x (n64 1)] [h [bF, l1]] n1 := ex (c2 k36 k38) (by kernel_rfl)
theorem k40 : AC 99 [g [bF, lT []]] [h [bF, lT [], bF, l1]] n1 := ex (c1 k39) (by kernel_rfl)
theorem k41 : AC 61 [x (n64 0)] [h [bF, lT [], bF, l1]] n1 := ex (c2 k34 k40) (by kernel_rfl)
theorem k42 : AC 62 [x (n64 2)] [.own 4 [[bF, lT [], bF, l1], [bF, lT [], bF, l1]]] n1 := ex (c1 k41) (by kernel_rfl)
theorem k43 : AC 97 [g [bF, lF [u 2]]] [y bF] n1 := ex .nil (by kernel_rfl)
theorem k44 : AC 114 [x l1] [y l1] n1 := ex .nil (by kernel_rfl)
theorem k45 : AC 115 [x (lF [u 2])] [y (lF [u 2])] n1 := ex .nil (by kernel_rfl)
theorem k46 : AC 114 [x (lF [u 2])] [y (lF [u 2])] n1 := ex .nil (by kernel_rfl)
theorem k47 : AC 116 [x l1] [y (w64 1)] n1 := ex .nil (by kernel_rfl)
theorem k48 : AC 116 [x (lF [u 2])] [y (w64 2)] n1 := ex .nil (by kernel_rfl)
theorem k49 : AC 98 [g [bF, l1], g [bF, lF [u 2]]] [h [bF, l1]] n2 := ex (d4 k37 k44 k45 k46 (c4 k47 k48 k36 k38)) (by kernel_rfl)
theorem k50 : AC 97 [g [bF, l1]] [y bT] n1 := ex .nil (by kernel_rfl)
theorem k51 : AC 104 [g [bF, l1], g [bF, lF [u 2]]] [h [bF, l1, bF, lF [u 2]]] n2 := ex (c3 k43 k49 k50) (by kernel_rfl)
theorem k52 : AC 104 [g [bF, l1], g [bF, l1]] [h o1] n2 := ex (c1 k50) (by kernel_rfl)
theorem k53 : AC 105 [x (lF [[bF, l1], [bF, l1]])] [h [bF, l1]] n1 := ex (c2 k39 k50) (by kernel_rfl)
theorem k54 : AC 105 [x (lF [[bF, lF [u 2]], [bF, l1]])] [h [bF, lF [u 2]]] n1 := ex (c3 k39 k43 k50) (by kernel_rfl)
theorem k55 : AC 68 [g o1, g [bF, l1, bF, lF [u 2]]] [h [bF, l1, bF, lF [u 2]]] n2 := ex (c4 k51 k52 k53 k54) (by kernel_rfl)
theorem k56 : AC 117 [x bT, x l1] [h [bT, l1]] n2 := ex (c1 k37) (by kernel_rfl)
theorem k57 : AC 103 [g [bF, l1]] [h [bT, l1]] n1 := ex (c2 k44 k56) (by kernel_rfl)
theorem k58 : AC 69 [g [bF, l1, bF, lF [u 2]]] [h [bT, l1, bF, lF [u 2]]] n1 := ex (c1 k57) (by kernel_rfl)
theorem k59 : AC 96 [g [bT, l1]] [y (n64 (-1))] n1 := ex .nil (by kernel_rfl)
theorem k60 : AC 58 [g [bT, l1, bF, lF [u 2]]] [y (n64 (-1))] n1 := ex (c1 k59) (by kernel_rfl)
theorem k61 : AC 96 [g [bF, lF []]] [y (n64 0)] n1 := ex .nil (by kernel_rfl)
theorem k62 : AC 58 [g o0] [y (n64 0)] n1 := ex (c1 k61) (by kernel_rfl)
theorem k63 : AC 58 [g (w 2)] [y (n64 1)] n1 := ex (c1 k28) (by kernel_rfl)
theorem k64 : AC 104 [g [bT, l1], g [bF, l1]] [h o2] n2 := ex (c1 k50) (by kernel_rfl)
theorem k65 : AC 115 [x (lF [u 2, u 0])] [y (lF [u 2])] n1 := ex .nil (by kernel_rfl)
theorem k66 : AC 118 [x (w64 2)] [y (lF [u 2])] n1 := ex (c1 k65) (by kernel_rfl)
theorem k67 : AC 117 [x bF, x (lF [u 2])] [h [bF, lF [u 2]]] n2 := ex (c1 k45) (by kernel_rfl)
theorem k68 : AC 98 [g [bF, lF [u 2]], g [bF, lF [u 2]]] [h [bF, lF [u 2]]] n2 := ex (d4 k45 k46 k48 k66 (c1 k67)) (by kernel_rfl)
theorem k69 : AC 126 [x (lF [u 2]), x (lF [u 2])] [y (n64 0)] n2 := ex .nil (by kernel_rfl)
theorem k70 : AC 131 [x (lF [u 2]), x (w64 2)] [y l1, y (w64 0)] n2 := ex (c1 k37) (by kernel_rfl)
theorem k71 : AC 119 [x (lF [u 2]), x (lF [u 2])] [y l1, y (lF [])] n2 := ex (c4 k45 k69 k70 k31) (by kernel_rfl)
theorem k72 : AC 121 [g [bF, lF [u 2]], g [bF, lF [u 2]]] [h [bF, l1], h [bF, lT []], y (n64 0)] n2 := ex (c4 k45 k71 k38 k33) (by kernel_rfl)
theorem k73 : AC 104 [g [bF, lF [u 2]], g [bF, lF [u 2]]] [h o1] n2 := ex (c3 k43 k68 k72) (by kernel_rfl)
theorem k74 : AC 97 [g [bT, l1]] [y bF] n1 := ex .nil (by kernel_rfl)
theorem k75 : AC 105 [x (lF [[bT, l1], [bF, l1]])] [h [bT, l1]] n1 := ex (c3 k39 k74 k50) (by kernel_rfl)
theorem k76 : AC 68 [g [bT, l1, bF, lF [u 2]], g (w 2)] [h o2] n2 := ex (c4 k64 k73 k75 k53) (by kernel_rfl)
theorem k77 : AC 126 [x l1, x l1] [y (n64 0)] n2 := ex .nil (by kernel_rfl)
theorem k78 : AC 115 [x (lF [u 0])] [y (lF [])] n1 := ex .nil (by kernel_rfl)
theorem k79 : AC 127 [x l1, x l1] [y (lF [])] n2 := ex (c1 k78) (by kernel_rfl)
theorem k80 : AC 112 [g [bF, l1], g [bT, l1]] [h [bF, lT []]] n2 := ex (c3 k77 k79 k33) (by kernel_rfl)
theorem k81 : AC 104 [g [bF, lT []], g [bF, l1]] [h [bF, lT [], bF, l1]] n2 := ex (c1 k50) (by kernel_rfl)
theorem k82 : AC 87 [g o1, g o2] [h [bF, lT [], bF, l1]] n2 := ex (c4 k53 k75 k80 k81) (by kernel_rfl)
theorem k83 : AC 63 [.bor 4 [o1, o0, o1], g [bT, l1, bF, lF [u 2]], x (lF [o0, (w 2)]), x (n64 1)] [] [some (.rows 4 [o1, o0, [bF, lT [], bF, l1]] false false), none, none, none] := ex (d4 k60 k62 k63 k76 (c1 k82)) (by kernel_rfl)
theorem k84 : AC 114 [x (lF [])] [y (lT [])] n1 := ex .nil (by kernel_rfl)
theorem k85 : AC 116 [x (lT [])] [y (w64 0)] n1 := ex .nil (by kernel_rfl)
theorem k86 : AC 98 [g [bF, lF []], g [bF, lF [u 2]]] [h [bF, lF [u 2]]] n2 := ex (d4 k32 k84 k45 k46 (c4 k85 k48 k66 k67)) (by kernel_rfl)
theorem k87 : AC 126 [x (lF []), x (lF [u 2])] [y (n64 (-1))] n2 := ex .nil (by kernel_rfl)
theorem k88 : AC 119 [x (lF []), x (lF [u 2])] [y (lT []), y (lT [])] n2 := ex (c4 k32 k45 k87 k84) (by kernel_rfl)
theorem k89 : AC 115 [x (lT [])] [y (lT [])] n1 := ex .nil (by kernel_rfl)
theorem k90 : AC 117 [x bF, x (lT [])] [h [bF, lT []]] n2 := ex (c1 k89) (by kernel_rfl)
theorem k91 : AC 121 [g [bF, lF []], g [bF, lF [u 2]]] [h [bF, lT []], h [bF, lT []], y (n64 0)] n2 := ex (c3 k45 k88 k90) (by kernel_rfl)
theorem k92 : AC 104 [g [bF, lF []], g [bF, lF [u 2]]] [h [bF, lT [], bF, l1]] n2 := ex (c4 k43 k86 k91 k72) (by kernel_rfl)
theorem k93 : AC 97 [g [bF, lT []]] [y bF] n1 := ex .nil (by kernel_rfl)
theorem k94 : AC 105 [x (lF [[bF, lT []], [bF, l1]])] [h [bF, lT []]] n1 := ex (c3 k39 k93 k50) (by kernel_rfl)
theorem k95 : AC 68 [g o0, g [bF, l1, bF, lF [u 2]]] [h [bF, lT [], bF, l1]] n2 := ex (c4 k92 k52 k94 k53) (by kernel_rfl)
theorem k96 : AC 114 [x (lT [])] [y (lT [])] n1 := ex .nil (by kernel_rfl)
theorem k97 : AC 117 [x bT, x (lT [])] [h [bF, lT []]] n2 := ex (c1 k89) (by kernel_rfl)
theorem k98 : AC 103 [g [bF, lT []]] [h [bF, lT []]] n1 := ex (c2 k96 k97) (by kernel_rfl)
theorem k99 : AC 69 [g [bF, lT [], bF, l1]] [h [bF, lT [], bF, l1]] n1 := ex (c1 k98) (by kernel_rfl)
theorem k100 : AC 96 [g [bF, lT []]] [y (n64 0)] n1 := ex .nil (by kernel_rfl)
theorem k101 : AC 58 [g [bF, lT [], bF, l1]] [y (n64 0)] n1 := ex (c1 k100) (by kernel_rfl)
theorem k102 : AC 63 [.bor 4 [o1, o0, [bF, lT [], bF, l1]], g [bF, lT [], bF, l1], x (lF [o0, (w 2)]), x (n64 0)] [] [some (.rows 4 [o1, o0, [bF, lT [], bF, l1]] false false), none, none, none] := ex (c1 k101) (by kernel_rfl)
theorem k103 : AC 96 [g [bF, l1]] [y (n64 1)] n1 := ex .nil (by kernel_rfl)
theorem k104 : AC 58 [g [bF, l1, bF, lF [u 2]]] [y (n64 1)] n1 := ex (c1 k103) (by kernel_rfl)
theorem k105 : AC 64 [x (lF [[bF, lT [], bF, l1], [bF, l1, bF, lF [u 2]]])] [y (lF [[bF, lT [], bF, l1], [bF, l1, bF, lF [u 2]]])] n1 := ex (c1 k104) (by kernel_rfl)
theorem k106 : AC 58 [g o1] [y (n64 1)] n1 := ex (c1 k103) (by kernel_rfl)
theorem k107 : AC 64 [x (lF [o1])] [y (lF [o1])] n1 := ex (c1 k106) (by kernel_rfl)
theorem k108 : AC 23 [x (lF [o1, o0, o1]), x (lF [o0, (w 2)])] [y (lF [[bF, lT [], bF, l1], [bF, l1, bF, lF [u 2]]]), y (lF [o1]), y (n64 0)] n2 := ex (d4 k29 k42 k55 k58 (d4 k83 k95 k99 k102 (c2 k105 k107))) (by kernel_rfl)
theorem k109 : AC 59 [x (lF [o1])] [y (lF [o1])] n1 := ex (c1 k13) (by kernel_rfl)
theorem k110 : AC 65 [x (lF [[.v (.int .i8 1)]]), x (n64 20)] [y (lF [o1])] n2 := ex (c2 k5 k109) (by kernel_rfl)
theorem k111 : AC 20 [x (lF [[.v (.int .i8 1)]])] [y (lF [o1])] n1 := ex (c1 k110) (by kernel_rfl)
theorem k112 : AC 23 [x (lF [o1]), x (lT [])] [y (lT []), y (lT []), y (n64 10)] n2 := ex .nil (by kernel_rfl)
theorem k113 : AC 59 [x (lF [o0, o1])] [y (lF [o0, o1])] n1 := ex (c1 k13) (by kernel_rfl)
theorem k114 : AC 65 [x (lF [[.v (.int .i8 0)], [.v (.int .i8 1)]]), x (n64 20)] [y (lF [o0, o1])] n2 := ex (c3 k11 k5 k113) (by kernel_rfl)
theorem k115 : AC 20 [x (lF [[.v (.int .i8 0)], [.v (.int .i8 1)]])] [y (lF [o0, o1])] n1 := ex (c1 k114) (by kernel_rfl)
theorem k116 : AC 59 [x (lF [o1, o1])] [y (lF [o1, o1])] n1 := ex (c1 k13) (by kernel_rfl)
theorem k117 : AC 65 [x (lF [[.v (.int .i8 1)], [.v (.int .i8 1)]]), x (n64 20)] [y (lF [o1, o1])] n2 := ex (c2 k5 k116) (by kernel_rfl)
theorem k118 : AC 20 [x (lF [[.v (.int .i8 1)], [.v (.int .i8 1)]])] [y (lF [o1, o1])] n1 := ex (c1 k117) (by kernel_rfl)
theorem k119 : AC 99 [g [bF, l1]] [h o1] n1 := ex (c1 k39) (by kernel_rfl)
theorem k120 : AC 61 [x (n64 1)] [h o1] n1 := ex (c2 k39 k119) (by kernel_rfl)
theorem k121 : AC 72 [x (n64 1)] [y (lF [o1])] n1 := ex (c2 k120 k107) (by kernel_rfl)
theorem k122 : AC 64 [x (lF [[bF, lT [], bF, l1]])] [y (lF [])] n1 := ex (c1 k101) (by kernel_rfl)
theorem k123 : AC 72 [x (n64 0)] [y (lF [])] n1 := ex (c2 k41 k122) (by kernel_rfl)
theorem k124 : AC 67 [g o1] [h o1, y (n64 0)] n1 := ex (c1 k103) (by kernel_rfl)
open Go Go.Abs Go.Proofs
theorem k125 : AC 62 [x (n64 1)] [.own 4 [[bF, lT [], bF, l1]]] n1 := ex (c1 k41) (by kernel_rfl)
theorem k126 : AC 68 [g o1, g o1] [h o1] n2 := ex (c2 k52 k53) (by kernel_rfl)
theorem k127 : AC 69 [g o1] [h o2] n1 := ex (c1 k57) (by kernel_rfl)
theorem k128 : AC 58 [g o2] [y (n64 (-1))] n1 := ex (c1 k59) (by kernel_rfl)
theorem k129 : AC 68 [g o2, g o1] [h o2] n2 := ex (c4 k64 k52 k75 k53) (by kernel_rfl)
theorem k130 : AC 97 [g [bF, lF []]] [y bF] n1 := ex .nil (by kernel_rfl)
theorem k131 : AC 105 [x (lF [[bF, lF []], [bF, l1]])] [h [bF, lF []]] n1 := ex (c3 k39 k130 k50) (by kernel_rfl)
theorem k132 : AC 126 [x (lF []), x l1] [y (n64 (-1))] n2 := ex .nil (by kernel_rfl)
theorem k133 : AC 127 [x l1, x (lF [])] [y l1] n2 := ex (c1 k37) (by kernel_rfl)
theorem k134 : AC 112 [g [bF, lF []], g [bT, l1]] [h [bT, l1]] n2 := ex (c3 k132 k133 k56) (by kernel_rfl)
theorem k135 : AC 87 [g o0, g o2] [h o2] n2 := ex (d4 k131 k75 k134 k53 (c1 k64)) (by kernel_rfl)
theorem k136 : AC 63 [.bor 4 [o0, o1], g o2, x (lF [o1, o1]), x (n64 0)] [] [some (.rows 4 [o2, [bF, lT [], bF, l1]] false false), none, none, none] := ex (d4 k128 k106 k129 k135 (c1 k82)) (by kernel_rfl)
theorem k137 : AC 64 [x (lF [o2])] [y (lF [o2])] n1 := ex (c1 k128) (by kernel_rfl)
theorem k138 : AC 23 [x (lF [o0, o1]), x (lF [o1, o1])] [y (lF [o1]), y (lF [o2]), y (n64 0)] n2 := ex (d4 k124 k125 k126 k127 (c3 k136 k107 k137)) (by kernel_rfl)
theorem k139 : AC 103 [g [bT, l1]] [h [bF, l1]] n1 := ex (c2 k44 k38) (by kernel_rfl)
theorem k140 : AC 67 [g o2] [h o2, y (n64 0)] n1 := ex (c3 k59 k57 k139) (by kernel_rfl)
theorem k141 : AC 76 [x (lF [o2])] [h o2] n1 := ex (c1 k140) (by kernel_rfl)
theorem k142 : AC 136 [x l1, x l1] [y l1] n2 := ex (c1 k35) (by kernel_rfl)
theorem k143 : AC 122 [g [bT, l1], g [bT, l1]] [h [bF, l1]] n2 := ex (c2 k142 k38) (by kernel_rfl)
theorem k144 : AC 105 [x (lF [[bT, l1], [bT, l1]])] [h [bF, l1]] n1 := ex (c4 k39 k74 k50 k143) (by kernel_rfl)
theorem k145 : AC 68 [g o2, g o2] [h o1] n2 := ex (c3 k64 k144 k53) (by kernel_rfl)
theorem k146 : AC 125 [x (lT []), x l1] [y l1] n2 := ex (c1 k35) (by kernel_rfl)
theorem k147 : AC 112 [g [bF, lT []], g [bF, l1]] [h [bF, l1]] n2 := ex (c2 k146 k38) (by kernel_rfl)
theorem k148 : AC 87 [g [bF, lT [], bF, l1], g o1] [h o1] n2 := ex (c4 k94 k53 k147 k52) (by kernel_rfl)
theorem k149 : AC 63 [.bor 4 [[bF, lT [], bF, l1]], g o2, x (lF [o2]), x (n64 0)] [] [some (.rows 4 [o1] false false), none, none, none] := ex (c3 k128 k145 k148) (by kernel_rfl)
theorem k150 : AC 21 [g o2, x (lF [o2])] [y (lF [o1])] n2 := ex (c3 k125 k149 k107) (by kernel_rfl)
theorem k151 : AC 17 [x (lF [o1]), x (lF [])] [y (lT [])] n2 := ex .nil (by kernel_rfl)
theorem k152 : AC 100 [x (n64 (-1))] [h [bT, l1]] n1 := ex (c2 k36 k56) (by kernel_rfl)
theorem k153 : AC 99 [g [bT, l1]] [h o2] n1 := ex (c1 k39) (by kernel_rfl)
theorem k154 : AC 61 [x (n64 (-1))] [h o2] n1 := ex (c2 k152 k153) (by kernel_rfl)
theorem k155 : AC 63 [.bor 4 [o1], g o2, x (lT []), x (n64 0)] [] [some (.rows 4 [o1] false false), none, none, none] := ex (c1 k128) (by kernel_rfl)
theorem k156 : AC 60 [x (lF [o1]), g o2, x (lT []), x (n64 0)] [y (lF [o1])] n4 := ex (c3 k125 k155 k107) (by kernel_rfl)
theorem k157 : AC 18 [x (lF [o1]), x (lT [])] [y (lF [o1])] n2 := ex (c2 k154 k156) (by kernel_rfl)
theorem k158 : AC 126 [x (lT []), x l1] [y (n64 (-1))] n2 := ex .nil (by kernel_rfl)
theorem k159 : AC 127 [x l1, x (lT [])] [y l1] n2 := ex (c1 k37) (by kernel_rfl)
theorem k160 : AC 112 [g [bF, lT []], g [bT, l1]] [h [bT, l1]] n2 := ex (c3 k158 k159 k56) (by kernel_rfl)
theorem k161 : AC 87 [g [bF, lT [], bF, l1], g o2] [h o2] n2 := ex (d4 k94 k75 k160 k53 (c1 k64)) (by kernel_rfl)
theorem k162 : AC 63 [.bor 4 [[bF, lT [], bF, l1]], g o2, x (lF [o1]), x (n64 0)] [] [some (.rows 4 [o2] false false), none, none, none] := ex (c4 k128 k106 k129 k161) (by kernel_rfl)
theorem k163 : AC 21 [g o2, x (lF [o1])] [y (lF [o2])] n2 := ex (c3 k125 k162 k137) (by kernel_rfl)
theorem k164 : AC 73 [x (lF [o1]), g o2, .ref [lF []], .ref [lF [o1]]] [] [none, none, some (.var [.t (lF [o2])]), some (.var [.t (lF [])])] := ex (c3 k151 k157 k163) (by kernel_rfl)
theorem k165 : AC 63 [.bor 4 [o1, o1], g o2, x (lF [o1]), x (n64 1)] [] [some (.rows 4 [o1, [bF, lT [], bF, l1]] false false), none, none, none] := ex (c4 k128 k106 k129 k82) (by kernel_rfl)
theorem k166 : AC 63 [.bor 4 [o1, [bF, lT [], bF, l1]], g o2, x (lF [o1]), x (n64 0)] [] [some (.rows 4 [[bF, lT [], bF, l1], [bF, lT [], bF, l1]] false false), none, none, none] := ex (c4 k128 k106 k129 k82) (by kernel_rfl)
theorem k167 : AC 64 [x (lF [o1, o1])] [y (lF [o1, o1])] n1 := ex (c1 k106) (by kernel_rfl)
theorem k168 : AC 64 [x (lF [])] [y (lF [])] n1 := ex .nil (by kernel_rfl)
theorem k169 : AC 23 [x (lF [o1, o1]), x (lF [o1])] [y (lF [o1, o1]), y (lF []), y (n64 0)] n2 := ex (d4 k124 k42 k126 k127 (c4 k165 k166 k167 k168)) (by kernel_rfl)
theorem k170 : AC 105 [x (lF [[bF, l1], [bT, l1]])] [h [bT, l1]] n1 := ex (c3 k39 k50 k74) (by kernel_rfl)
theorem k171 : AC 68 [g o1, g o2] [h o2] n2 := ex (c4 k52 k64 k170 k53) (by kernel_rfl)
theorem k172 : AC 63 [.bor 4 [[bF, lT [], bF, l1], [bF, lT [], bF, l1]], g o1, x (lF [o2]), x (n64 0)] [] [some (.rows 4 [o2, [bF, lT [], bF, l1]] false false), none, none, none] := ex (c4 k106 k128 k171 k161) (by kernel_rfl)
theorem k173 : AC 63 [.bor 4 [o2, [bF, lT [], bF, l1]], g o1, x (lF [o2]), x (n64 1)] [] [some (.rows 4 [o2, o2] false false), none, none, none] := ex (c4 k106 k128 k171 k161) (by kernel_rfl)
theorem k174 : AC 64 [x (lF [o2, o2])] [y (lF [o2, o2])] n1 := ex (c1 k128) (by kernel_rfl)
theorem k175 : AC 17 [x (lF [o1, o1]), x (lF [o2])] [y (lF [o2, o2])] n2 := ex (c4 k42 k172 k173 k174) (by kernel_rfl)
theorem k176 : AC 63 [.bor 4 [[bF, lT [], bF, l1], [bF, lT [], bF, l1]], g o2, x (lF [o2, o2]), x (n64 0)] [] [some (.rows 4 [o1, o1] false false), none, none, none] := ex (c3 k128 k145 k148) (by kernel_rfl)
theorem k177 : AC 60 [x (lF []), g o2, x (lF [o2, o2]), x (n64 0)] [y (lF [o1, o1])] n4 := ex (c3 k42 k176 k167) (by kernel_rfl)
theorem k178 : AC 18 [x (lF []), x (lF [o2, o2])] [y (lF [o1, o1])] n2 := ex (c2 k154 k177) (by kernel_rfl)
theorem k179 : AC 63 [.bor 4 [[bF, lT [], bF, l1], [bF, lT [], bF, l1]], g o1, x (lF [o1, o1]), x (n64 0)] [] [some (.rows 4 [o1, o1] false false), none, none, none] := ex (c3 k106 k126 k148) (by kernel_rfl)
theorem k180 : AC 21 [g o1, x (lF [o1, o1])] [y (lF [o1, o1])] n2 := ex (c3 k42 k179 k167) (by kernel_rfl)
theorem k181 : AC 73 [x (lF [o1, o1]), g o1, .ref [lF [o2]], .ref [lF []]] [] [none, none, some (.var [.t (lF [o1, o1])]), some (.var [.t (lF [o2])])] := ex (c3 k175 k178 k180) (by kernel_rfl)
theorem k182 : AC 70 [x (lF [o0, o1]), x (lF [o1, o1]), .clo 73 [(3, (0, 0)), (4, (0, 0))], .gh [lF []], .gh [lF [o1]]] [y (lF [o1])] [none, none, none, some (.var [.t (lF [o1, o1])]), some (.var [.t (lF [o2])])] := ex (d4 k138 k120 k141 k150 (c3 k164 k169 k181)) (by kernel_rfl)
theorem k183 : AC 63 [.bor 4 [[bF, lT [], bF, l1]], g o1, x (lF [o1]), x (n64 0)] [] [some (.rows 4 [o1] false false), none, none, none] := ex (c3 k106 k126 k148) (by kernel_rfl)
theorem k184 : AC 21 [g o1, x (lF [o1])] [y (lF [o1])] n2 := ex (c3 k125 k183 k107) (by kernel_rfl)
theorem k185 : AC 32 [x (lF [o1])] [y (lF [o1])] n1 := ex (c2 k124 k184) (by kernel_rfl)
theorem k186 : AC 63 [.bor 4 [[bF, lT [], bF, l1]], g o1, x (lF [o2]), x (n64 0)] [] [some (.rows 4 [o2] false false), none, none, none] := ex (c4 k106 k128 k171 k161) (by kernel_rfl)
theorem k187 : AC 21 [g o1, x (lF [o2])] [y (lF [o2])] n2 := ex (c3 k125 k186 k137) (by kernel_rfl)
theorem k188 : AC 23 [x (lF [o2]), x (lF [o1, o1])] [y (lT []), y (lF [o2]), y (n64 0)] n2 := ex .nil (by kernel_rfl)
theorem k189 : AC 63 [.bor 4 [[bF, lT [], bF, l1], [bF, lT [], bF, l1]], g o2, x (lF [o0, o1]), x (n64 0)] [] [some (.rows 4 [[bF, lT [], bF, l1], o2] false false), none, none, none] := ex (d4 k128 k62 k106 k129 (c1 k161)) (by kernel_rfl)
theorem k190 : AC 64 [x (lF [[bF, lT [], bF, l1], o2])] [y (lF [[bF, lT [], bF, l1], o2])] n1 := ex (c1 k128) (by kernel_rfl)
theorem k191 : AC 17 [x (lF [o2]), x (lF [o0, o1])] [y (lF [[bF, lT [], bF, l1], o2])] n2 := ex (c3 k42 k189 k190) (by kernel_rfl)
theorem k192 : AC 63 [.bor 4 [o1, [bF, lT [], bF, l1]], g o2, x (lF [[bF, lT [], bF, l1], o2]), x (n64 0)] [] [some (.rows 4 [o1, o1] false false), none, none, none] := ex (c4 k128 k101 k145 k148) (by kernel_rfl)
theorem k193 : AC 60 [x (lF [o1]), g o2, x (lF [[bF, lT [], bF, l1], o2]), x (n64 0)] [y (lF [o1, o1])] n4 := ex (c3 k42 k192 k167) (by kernel_rfl)
theorem k194 : AC 18 [x (lF [o1]), x (lF [[bF, lT [], bF, l1], o2])] [y (lF [o1, o1])] n2 := ex (c2 k154 k193) (by kernel_rfl)
theorem k195 : AC 63 [.bor 4 [o1, o1], g o2, x (lF [o1, o1]), x (n64 0)] [] [some (.rows 4 [[bF, lT [], bF, l1], [bF, lT [], bF, l1]] false false), none, none, none] := ex (c4 k128 k106 k129 k82) (by kernel_rfl)
theorem k196 : AC 23 [x (lF [o1, o1]), x (lF [o1, o1])] [y (lF [o1]), y (lF []), y (n64 0)] n2 := ex (d4 k124 k125 k126 k127 (c3 k195 k107 k122)) (by kernel_rfl)
theorem k197 : AC 26 [x (lF [o0, o1]), x (lF [o1, o1])] [y (lF [o1]), y (lF [o2]), y (lF [o1])] n2 := ex (d4 k121 k123 k182 k185 (d4 k124 k187 k169 k188 (c3 k191 k194 k196))) (by kernel_rfl)
theorem k198 : AC 59 [x (lF [(w 2)])] [y (lF [(w 2)])] n1 := ex (c1 k24) (by kernel_rfl)
theorem k199 : AC 65 [x (lF [[.v (.int .i8 2)]]), x (n64 20)] [y (lF [(w 2)])] n2 := ex (c2 k22 k198) (by kernel_rfl)
theorem k200 : AC 20 [x (lF [[.v (.int .i8 2)]])] [y (lF [(w 2)])] n1 := ex (c1 k199) (by kernel_rfl)
theorem k201 : AC 70 [x (lF [(w 2)]), x (lT []), .clo 73 [(3, (0, 0)), (4, (0, 0))], .gh [lF []], .gh [lF [o1]]] [y (lF [(w 2)])] [none, none, none, some (.var [.t (lF [])]), some (.var [.t (lF [o1])])] := ex .nil (by kernel_rfl)
theorem k202 : AC 68 [g [bF, l1, bF, lF [u 2]], g (w 2)] [h o1] n2 := ex (c3 k52 k73 k53) (by kernel_rfl)
theorem k203 : AC 63 [.bor 4 [[bF, lT [], bF, l1]], g [bF, l1, bF, lF [u 2]], x (lF [(w 2)]), x (n64 0)] [] [some (.rows 4 [o1] false false), none, none, none] := ex (c4 k104 k63 k202 k148) (by kernel_rfl)
theorem k204 : AC 21 [g [bF, l1, bF, lF [u 2]], x (lF [(w 2)])] [y (lF [o1])] n2 := ex (c3 k125 k203 k107) (by kernel_rfl)
theorem k205 : AC 32 [x (lF [(w 2)])] [y (lF [o1])] n1 := ex (c2 k29 k204) (by kernel_rfl)
theorem k206 : AC 105 [x (lF [[bF, l1], [bF, lF [u 2]]])] [h [bF, lF [u 2]]] n1 := ex (c3 k39 k50 k43) (by kernel_rfl)
theorem k207 : AC 68 [g [bF, l1, bF, lF [u 2]], g o1] [h [bF, l1, bF, lF [u 2]]] n2 := ex (c4 k52 k51 k53 k206) (by kernel_rfl)
theorem k208 : AC 136 [x (lT []), x (lF [u 2])] [y (lF [])] n2 := ex (c1 k78) (by kernel_rfl)
theorem k209 : AC 122 [g [bF, lT []], g [bF, lF [u 2]]] [h [bF, lT []]] n2 := ex (c2 k208 k33) (by kernel_rfl)
theorem k210 : AC 105 [x (lF [[bF, lT []], [bF, lF [u 2]]])] [h [bF, lT []]] n1 := ex (d4 k39 k93 k50 k43 (c1 k209)) (by kernel_rfl)
theorem k211 : AC 87 [g [bF, lT [], bF, l1], g [bF, l1, bF, lF [u 2]]] [h [bF, l1, bF, lF [u 2]]] n2 := ex (d4 k210 k53 k147 k206 (c1 k51)) (by kernel_rfl)
theorem k212 : AC 63 [.bor 4 [[bF, lT [], bF, l1]], g [bF, l1, bF, lF [u 2]], x (lF [o1]), x (n64 0)] [] [some (.rows 4 [[bF, l1, bF, lF [u 2]]] false false), none, none, none] := ex (c4 k104 k106 k207 k211) (by kernel_rfl)
theorem k213 : AC 64 [x (lF [[bF, l1, bF, lF [u 2]]])] [y (lF [[bF, l1, bF, lF [u 2]]])] n1 := ex (c1 k104) (by kernel_rfl)
theorem k214 : AC 21 [g [bF, l1, bF, lF [u 2]], x (lF [o1])] [y (lF [[bF, l1, bF, lF [u 2]]])] n2 := ex (c3 k125 k212 k213) (by kernel_rfl)
theorem k215 : AC 26 [x (lF [(w 2)]), x (lT [])] [y (lF [o1]), y (lF [[bF, l1, bF, lF [u 2]]]), y (lT [])] n2 := ex (d4 k121 k123 k201 k205 (c2 k29 k214)) (by kernel_rfl)
theorem k216 : AC 101 [x bT, x (lF [u 2])] [h [bT, lF [u 2]]] n2 := ex (c1 k19) (by kernel_rfl)
theorem k217 : AC 66 [x (n64 (-2))] [h [bT, lF [u 2]]] n1 := ex (c2 k18 k216) (by kernel_rfl)
theorem k218 : AC 22 [x (n64 (-2))] [h (v 2)] n1 := ex (c2 k217 k4) (by kernel_rfl)
theorem k219 : AC 59 [x (lF [o0, o0, (v 2), (w 2)])] [y (lF [o0, o0, (v 2), (w 2)])] n1 := ex (c1 k24) (by kernel_rfl)
theorem k220 : AC 65 [x (lF [[.v (.int .i8 0)], [.v (.int .i8 0)], [.v (.int .i8 (-2))], [.v (.int .i8 2)]]), x (n64 20)] [y (lF [o0, o0, (v 2), (w 2)])] n2 := ex (c4 k11 k218 k22 k219) (by kernel_rfl)
theorem k221 : AC 20 [x (lF [[.v (.int .i8 0)], [.v (.int .i8 0)], [.v (.int .i8 (-2))], [.v (.int .i8 2)]])] [y (lF [o0, o0, (v 2), (w 2)])] n1 := ex (c1 k220) (by kernel_rfl)
theorem k222 : AC 62 [x (n64 3)] [.own 4 [[bF, lT [], bF, l1], [bF, lT [], bF, l1], [bF, lT [], bF, l1]]] n1 := ex (c1 k41) (by kernel_rfl)
theorem k223 : AC 104 [g [bF, lF []], g [bF, l1]] [h o0] n2 := ex (c1 k50) (by kernel_rfl)
theorem k224 : AC 105 [x (lF [[bF, l1], [bF, lF []]])] [h [bF, lF []]] n1 := ex (c3 k39 k50 k130) (by kernel_rfl)
theorem k225 : AC 68 [g o1, g o0] [h o0] n2 := ex (c4 k52 k223 k224 k53) (by kernel_rfl)
theorem k226 : AC 100 [x (n64 2)] [h [bF, lF [u 2]]] n1 := ex (c2 k66 k67) (by kernel_rfl)
theorem k227 : AC 99 [g [bF, lF [u 2]]] [h (w 2)] n1 := ex (c1 k39) (by kernel_rfl)
theorem k228 : AC 61 [x (n64 2)] [h (w 2)] n1 := ex (c2 k226 k227) (by kernel_rfl)
theorem k229 : AC 104 [g [bF, lF [u 2]], g [bF, l1]] [h (w 2)] n2 := ex (c1 k50) (by kernel_rfl)
theorem k230 : AC 104 [g [bT, lF [u 2]], g [bF, l1]] [h (v 2)] n2 := ex (c1 k50) (by kernel_rfl)
theorem k231 : AC 97 [g [bT, lF [u 2]]] [y bF] n1 := ex .nil (by kernel_rfl)
theorem k232 : AC 115 [x (lF [u 4, u 0])] [y (lF [u 4])] n1 := ex .nil (by kernel_rfl)
theorem k233 : AC 136 [x (lF [u 2]), x (lF [u 2])] [y (lF [u 4])] n2 := ex (c1 k232) (by kernel_rfl)
theorem k234 : AC 115 [x (lF [u 4])] [y (lF [u 4])] n1 := ex .nil (by kernel_rfl)
theorem k235 : AC 117 [x bT, x (lF [u 4])] [h [bT, lF [u 4]]] n2 := ex (c1 k234) (by kernel_rfl)
theorem k236 : AC 122 [g [bF, lF [u 2]], g [bT, lF [u 2]]] [h [bT, lF [u 4]]] n2 := ex (c2 k233 k235) (by kernel_rfl)
theorem k237 : AC 105 [x (lF [[bF, lF [u 2]], [bT, lF [u 2]]])] [h [bT, lF [u 4]]] n1 := ex (d4 k39 k43 k50 k231 (c1 k236)) (by kernel_rfl)
theorem k238 : AC 68 [g (w 2), g (v 2)] [h (v 4)] n2 := ex (c4 k229 k230 k237 k53) (by kernel_rfl)
theorem k239 : AC 115 [x (lF [u 3, u 0])] [y (lF [u 3])] n1 := ex .nil (by kernel_rfl)
theorem k240 : AC 118 [x (w64 3)] [y (lF [u 3])] n1 := ex (c1 k239) (by kernel_rfl)
theorem k241 : AC 115 [x (lF [u 3])] [y (lF [u 3])] n1 := ex .nil (by kernel_rfl)
theorem k242 : AC 117 [x bF, x (lF [u 3])] [h [bF, lF [u 3]]] n2 := ex (c1 k241) (by kernel_rfl)
theorem k243 : AC 100 [x (n64 3)] [h [bF, lF [u 3]]] n1 := ex (c2 k240 k242) (by kernel_rfl)
theorem k244 : AC 99 [g [bF, lF [u 3]]] [h (w 3)] n1 := ex (c1 k39) (by kernel_rfl)
theorem k245 : AC 61 [x (n64 3)] [h (w 3)] n1 := ex (c2 k243 k244) (by kernel_rfl)
theorem k246 : AC 104 [g [bF, lF [u 3]], g [bF, l1]] [h (w 3)] n2 := ex (c1 k50) (by kernel_rfl)
theorem k247 : AC 97 [g [bF, lF [u 3]]] [y bF] n1 := ex .nil (by kernel_rfl)
theorem k248 : AC 115 [x (lF [u 6, u 0])] [y (lF [u 6])] n1 := ex .nil (by kernel_rfl)
theorem k249 : AC 136 [x (lF [u 3]), x (lF [u 2])] [y (lF [u 6])] n2 := ex (c1 k248) (by kernel_rfl)
open Go Go.Abs Go.Proofs
theorem k250 : AC 115 [x (lF [u 6])] [y (lF [u 6])] n1 := ex .nil (by kernel_rfl)
theorem k251 : AC 117 [x bF, x (lF [u 6])] [h [bF, lF [u 6]]] n2 := ex (c1 k250) (by kernel_rfl)
theorem k252 : AC 122 [g [bF, lF [u 3]], g [bF, lF [u 2]]] [h [bF, lF [u 6]]] n2 := ex (c2 k249 k251) (by kernel_rfl)
theorem k253 : AC 105 [x (lF [[bF, lF [u 3]], [bF, lF [u 2]]])] [h [bF, lF [u 6]]] n1 := ex (d4 k39 k247 k50 k43 (c1 k252)) (by kernel_rfl)
theorem k254 : AC 68 [g (w 3), g (w 2)] [h (w 6)] n2 := ex (c4 k246 k229 k253 k53) (by kernel_rfl)
theorem k255 : AC 96 [g [bF, lF [u 6]]] [y (n64 1)] n1 := ex .nil (by kernel_rfl)
theorem k256 : AC 58 [g (w 6)] [y (n64 1)] n1 := ex (c1 k255) (by kernel_rfl)
theorem k257 : AC 64 [x (lF [o0, (v 4), (w 6)])] [y (lF [o0, (v 4), (w 6)])] n1 := ex (c1 k256) (by kernel_rfl)
theorem k258 : AC 31 [x (lF [o0, o0, (v 2), (w 2)])] [y (lF [o0, (v 4), (w 6)])] n1 := ex (d4 k222 k120 k225 k228 (c4 k238 k245 k254 k257)) (by kernel_rfl)
theorem k259 : AC 67 [g (w 6)] [h [bF, l1, bF, lF [u 6]], y (n64 0)] n1 := ex (c1 k255) (by kernel_rfl)
theorem k260 : AC 97 [g [bF, lF [u 6]]] [y bF] n1 := ex .nil (by kernel_rfl)
theorem k261 : AC 114 [x (lF [u 6])] [y (lF [u 6])] n1 := ex .nil (by kernel_rfl)
theorem k262 : AC 116 [x (lF [u 6])] [y (w64 6)] n1 := ex .nil (by kernel_rfl)
theorem k263 : AC 98 [g [bF, lF [u 2]], g [bF, lF [u 6]]] [h [bF, lF [u 2]]] n2 := ex (d4 k45 k46 k250 k261 (c4 k48 k262 k66 k67)) (by kernel_rfl)
theorem k264 : AC 126 [x (lF [u 6]), x (lF [u 2])] [y (n64 1)] n2 := ex .nil (by kernel_rfl)
theorem k265 : AC 131 [x (lF [u 6]), x (w64 2)] [y (lF [u 3]), y (w64 0)] n2 := ex (c1 k241) (by kernel_rfl)
theorem k266 : AC 119 [x (lF [u 6]), x (lF [u 2])] [y (lF [u 3]), y (lF [])] n2 := ex (d4 k250 k45 k264 k265 (c1 k31)) (by kernel_rfl)
theorem k267 : AC 121 [g [bF, lF [u 6]], g [bF, lF [u 2]]] [h [bF, lF [u 3]], h [bF, lT []], y (n64 0)] n2 := ex (c4 k45 k266 k242 k33) (by kernel_rfl)
theorem k268 : AC 104 [g [bF, lF [u 2]], g [bF, lF [u 6]]] [h [bF, l1, bF, lF [u 3]]] n2 := ex (d4 k260 k263 k43 k72 (c1 k267)) (by kernel_rfl)
theorem k269 : AC 105 [x (lF [[bF, lF [u 3]], [bF, l1]])] [h [bF, lF [u 3]]] n1 := ex (c3 k39 k247 k50) (by kernel_rfl)
theorem k270 : AC 68 [g (w 2), g [bF, l1, bF, lF [u 6]]] [h [bF, l1, bF, lF [u 3]]] n2 := ex (c4 k268 k52 k53 k269) (by kernel_rfl)
theorem k271 : AC 69 [g [bF, l1, bF, lF [u 3]]] [h [bT, l1, bF, lF [u 3]]] n1 := ex (c1 k57) (by kernel_rfl)
theorem k272 : AC 58 [g [bT, l1, bF, lF [u 3]]] [y (n64 (-1))] n1 := ex (c1 k59) (by kernel_rfl)
theorem k273 : AC 96 [g [bT, lF [u 4]]] [y (n64 (-1))] n1 := ex .nil (by kernel_rfl)
theorem k274 : AC 58 [g (v 4)] [y (n64 (-1))] n1 := ex (c1 k273) (by kernel_rfl)
theorem k275 : AC 114 [x (lF [u 4])] [y (lF [u 4])] n1 := ex .nil (by kernel_rfl)
theorem k276 : AC 114 [x (lF [u 3])] [y (lF [u 3])] n1 := ex .nil (by kernel_rfl)
theorem k277 : AC 116 [x (lF [u 4])] [y (w64 4)] n1 := ex .nil (by kernel_rfl)
theorem k278 : AC 116 [x (lF [u 3])] [y (w64 3)] n1 := ex .nil (by kernel_rfl)
theorem k279 : AC 98 [g [bT, lF [u 4]], g [bF, lF [u 3]]] [h [bF, l1]] n2 := ex (d4 k234 k275 k241 k276 (c4 k277 k278 k36 k38)) (by kernel_rfl)
theorem k280 : AC 104 [g [bT, lF [u 4]], g [bF, lF [u 3]]] [h [bT, lF [u 4], bF, lF [u 3]]] n2 := ex (c3 k247 k279 k50) (by kernel_rfl)
theorem k281 : AC 97 [g [bT, lF [u 4]]] [y bF] n1 := ex .nil (by kernel_rfl)
theorem k282 : AC 136 [x l1, x (lF [u 4])] [y (lF [u 4])] n2 := ex (c1 k232) (by kernel_rfl)
theorem k283 : AC 117 [x bF, x (lF [u 4])] [h [bF, lF [u 4]]] n2 := ex (c1 k234) (by kernel_rfl)
theorem k284 : AC 122 [g [bT, l1], g [bT, lF [u 4]]] [h [bF, lF [u 4]]] n2 := ex (c2 k282 k283) (by kernel_rfl)
theorem k285 : AC 105 [x (lF [[bT, l1], [bT, lF [u 4]]])] [h [bF, lF [u 4]]] n1 := ex (d4 k39 k74 k50 k281 (c1 k284)) (by kernel_rfl)
theorem k286 : AC 105 [x (lF [[bF, l1], [bF, lF [u 3]]])] [h [bF, lF [u 3]]] n1 := ex (c3 k39 k50 k247) (by kernel_rfl)
theorem k287 : AC 68 [g [bT, l1, bF, lF [u 3]], g (v 4)] [h [bF, lF [u 4], bF, lF [u 3]]] n2 := ex (c4 k64 k280 k285 k286) (by kernel_rfl)
theorem k288 : AC 136 [x (lF [u 2]), x (lF [u 3])] [y (lF [u 6])] n2 := ex (c1 k248) (by kernel_rfl)
theorem k289 : AC 117 [x bT, x (lF [u 6])] [h [bT, lF [u 6]]] n2 := ex (c1 k250) (by kernel_rfl)
theorem k290 : AC 122 [g [bT, lF [u 2]], g [bF, lF [u 3]]] [h [bT, lF [u 6]]] n2 := ex (c2 k288 k289) (by kernel_rfl)
theorem k291 : AC 105 [x (lF [[bT, lF [u 2]], [bF, lF [u 3]]])] [h [bT, lF [u 6]]] n1 := ex (d4 k39 k231 k50 k247 (c1 k290)) (by kernel_rfl)
theorem k292 : AC 97 [g [bF, lF [u 4]]] [y bF] n1 := ex .nil (by kernel_rfl)
theorem k293 : AC 105 [x (lF [[bF, lF [u 4]], [bF, l1]])] [h [bF, lF [u 4]]] n1 := ex (c3 k39 k292 k50) (by kernel_rfl)
theorem k294 : AC 126 [x (lF [u 6]), x (lF [u 4])] [y (n64 1)] n2 := ex .nil (by kernel_rfl)
theorem k295 : AC 127 [x (lF [u 6]), x (lF [u 4])] [y (lF [u 2])] n2 := ex (c1 k45) (by kernel_rfl)
theorem k296 : AC 117 [x bT, x (lF [u 2])] [h [bT, lF [u 2]]] n2 := ex (c1 k45) (by kernel_rfl)
theorem k297 : AC 112 [g [bT, lF [u 6]], g [bF, lF [u 4]]] [h [bT, lF [u 2]]] n2 := ex (c3 k294 k295 k296) (by kernel_rfl)
theorem k298 : AC 98 [g [bT, lF [u 2]], g [bF, lF [u 3]]] [h [bF, l1]] n2 := ex (d4 k45 k46 k241 k276 (c4 k48 k278 k36 k38)) (by kernel_rfl)
theorem k299 : AC 104 [g [bT, lF [u 2]], g [bF, lF [u 3]]] [h [bT, lF [u 2], bF, lF [u 3]]] n2 := ex (c3 k247 k298 k50) (by kernel_rfl)
theorem k300 : AC 87 [g (v 2), g [bF, lF [u 4], bF, lF [u 3]]] [h [bT, lF [u 2], bF, lF [u 3]]] n2 := ex (d4 k291 k293 k297 k286 (c1 k299)) (by kernel_rfl)
theorem k301 : AC 98 [g [bF, lF [u 6]], g [bF, lF [u 3]]] [h [bF, lF [u 3]]] n2 := ex (d4 k250 k261 k241 k276 (c4 k262 k278 k240 k242)) (by kernel_rfl)
theorem k302 : AC 126 [x (lF [u 6]), x (lF [u 3])] [y (n64 1)] n2 := ex .nil (by kernel_rfl)
theorem k303 : AC 131 [x (lF [u 6]), x (w64 3)] [y (lF [u 2]), y (w64 0)] n2 := ex (c1 k45) (by kernel_rfl)
theorem k304 : AC 119 [x (lF [u 6]), x (lF [u 3])] [y (lF [u 2]), y (lF [])] n2 := ex (d4 k250 k241 k302 k303 (c1 k31)) (by kernel_rfl)
theorem k305 : AC 121 [g [bF, lF [u 6]], g [bF, lF [u 3]]] [h [bF, lF [u 2]], h [bF, lT []], y (n64 0)] n2 := ex (c4 k241 k304 k67 k33) (by kernel_rfl)
theorem k306 : AC 126 [x (lF [u 3]), x (lF [u 3])] [y (n64 0)] n2 := ex .nil (by kernel_rfl)
theorem k307 : AC 131 [x (lF [u 3]), x (w64 3)] [y l1, y (w64 0)] n2 := ex (c1 k37) (by kernel_rfl)
theorem k308 : AC 119 [x (lF [u 3]), x (lF [u 3])] [y l1, y (lF [])] n2 := ex (c4 k241 k306 k307 k31) (by kernel_rfl)
theorem k309 : AC 121 [g [bF, lF [u 3]], g [bF, lF [u 3]]] [h [bF, l1], h [bF, lT []], y (n64 0)] n2 := ex (c4 k241 k308 k38 k33) (by kernel_rfl)
theorem k310 : AC 104 [g [bF, lF [u 6]], g [bF, lF [u 3]]] [h (w 2)] n2 := ex (c4 k247 k301 k305 k309) (by kernel_rfl)
theorem k311 : AC 136 [x l1, x (lF [u 2])] [y (lF [u 2])] n2 := ex (c1 k65) (by kernel_rfl)
theorem k312 : AC 122 [g [bT, l1], g [bF, lF [u 2]]] [h [bT, lF [u 2]]] n2 := ex (c2 k311 k296) (by kernel_rfl)
theorem k313 : AC 105 [x (lF [[bT, l1], [bF, lF [u 2]]])] [h [bT, lF [u 2]]] n1 := ex (d4 k39 k74 k50 k43 (c1 k312)) (by kernel_rfl)
theorem k314 : AC 68 [g [bT, l1, bF, lF [u 3]], g (w 6)] [h (v 2)] n2 := ex (c4 k64 k310 k313 k53) (by kernel_rfl)
theorem k315 : AC 105 [x (lF [[bT, lF [u 2]], [bF, l1]])] [h [bT, lF [u 2]]] n1 := ex (c3 k39 k231 k50) (by kernel_rfl)
theorem k316 : AC 127 [x (lF [u 2]), x (lF [u 2])] [y (lF [])] n2 := ex (c1 k78) (by kernel_rfl)
theorem k317 : AC 112 [g [bF, lF [u 2]], g [bT, lF [u 2]]] [h [bF, lT []]] n2 := ex (c3 k69 k316 k33) (by kernel_rfl)
theorem k318 : AC 87 [g (w 2), g (v 2)] [h [bF, lT [], bF, l1]] n2 := ex (d4 k54 k315 k317 k53 (c1 k81)) (by kernel_rfl)
theorem k319 : AC 63 [.bor 4 [o0, o0, (v 2), (w 2)], g [bT, l1, bF, lF [u 3]], x (lF [o0, (v 4), (w 6)]), x (n64 1)] [] [some (.rows 4 [o0, o0, [bT, lF [u 2], bF, lF [u 3]], [bF, lT [], bF, l1]] false false), none, none, none] := ex (d4 k272 k62 k274 k287 (c4 k300 k256 k314 k318)) (by kernel_rfl)
theorem k320 : AC 98 [g [bT, lF [u 2]], g [bF, lF [u 6]]] [h [bF, lF [u 2]]] n2 := ex (d4 k45 k46 k250 k261 (c4 k48 k262 k66 k67)) (by kernel_rfl)
theorem k321 : AC 121 [g [bT, lF [u 2]], g [bF, lF [u 2]]] [h [bT, l1], h [bF, lT []], y (n64 0)] n2 := ex (c4 k45 k71 k56 k33) (by kernel_rfl)
theorem k322 : AC 104 [g [bT, lF [u 2]], g [bF, lF [u 6]]] [h [bT, l1, bF, lF [u 3]]] n2 := ex (d4 k260 k320 k43 k321 (c1 k267)) (by kernel_rfl)
theorem k323 : AC 98 [g [bF, l1], g [bF, lF [u 3]]] [h [bF, l1]] n2 := ex (d4 k37 k44 k241 k276 (c4 k47 k278 k36 k38)) (by kernel_rfl)
theorem k324 : AC 104 [g [bF, l1], g [bF, lF [u 3]]] [h [bF, l1, bF, lF [u 3]]] n2 := ex (c3 k247 k323 k50) (by kernel_rfl)
theorem k325 : AC 115 [x (lF [u 9, u 0])] [y (lF [u 9])] n1 := ex .nil (by kernel_rfl)
theorem k326 : AC 136 [x (lF [u 3]), x (lF [u 3])] [y (lF [u 9])] n2 := ex (c1 k325) (by kernel_rfl)
theorem k327 : AC 115 [x (lF [u 9])] [y (lF [u 9])] n1 := ex .nil (by kernel_rfl)
theorem k328 : AC 117 [x bF, x (lF [u 9])] [h [bF, lF [u 9]]] n2 := ex (c1 k327) (by kernel_rfl)
theorem k329 : AC 122 [g [bF, lF [u 3]], g [bF, lF [u 3]]] [h [bF, lF [u 9]]] n2 := ex (c2 k326 k328) (by kernel_rfl)
theorem k330 : AC 105 [x (lF [[bF, lF [u 3]], [bF, lF [u 3]]])] [h [bF, lF [u 9]]] n1 := ex (c4 k39 k247 k50 k329) (by kernel_rfl)
theorem k331 : AC 68 [g [bT, lF [u 2], bF, lF [u 3]], g [bF, l1, bF, lF [u 6]]] [h [bT, l1, bF, lF [u 9]]] n2 := ex (c4 k322 k324 k75 k330) (by kernel_rfl)
theorem k332 : AC 69 [g [bT, l1, bF, lF [u 9]]] [h [bF, l1, bF, lF [u 9]]] n1 := ex (c1 k139) (by kernel_rfl)
theorem k333 : AC 58 [g [bF, l1, bF, lF [u 9]]] [y (n64 1)] n1 := ex (c1 k103) (by kernel_rfl)
theorem k334 : AC 97 [g [bF, lF [u 9]]] [y bF] n1 := ex .nil (by kernel_rfl)
theorem k335 : AC 114 [x (lF [u 9])] [y (lF [u 9])] n1 := ex .nil (by kernel_rfl)
theorem k336 : AC 116 [x (lF [u 9])] [y (w64 9)] n1 := ex .nil (by kernel_rfl)
theorem k337 : AC 98 [g [bT, lF [u 4]], g [bF, lF [u 9]]] [h [bF, l1]] n2 := ex (d4 k234 k275 k327 k335 (c4 k277 k336 k36 k38)) (by kernel_rfl)
theorem k338 : AC 104 [g [bT, lF [u 4]], g [bF, lF [u 9]]] [h [bT, lF [u 4], bF, lF [u 9]]] n2 := ex (c3 k334 k337 k50) (by kernel_rfl)
theorem k339 : AC 105 [x (lF [[bF, l1], [bT, lF [u 4]]])] [h [bT, lF [u 4]]] n1 := ex (c3 k39 k50 k281) (by kernel_rfl)
theorem k340 : AC 105 [x (lF [[bF, l1], [bF, lF [u 9]]])] [h [bF, lF [u 9]]] n1 := ex (c3 k39 k50 k334) (by kernel_rfl)
theorem k341 : AC 68 [g [bF, l1, bF, lF [u 9]], g (v 4)] [h [bT, lF [u 4], bF, lF [u 9]]] n2 := ex (c4 k52 k338 k339 k340) (by kernel_rfl)
theorem k342 : AC 136 [x (lF []), x (lF [u 9])] [y (lF [])] n2 := ex (c1 k78) (by kernel_rfl)
theorem k343 : AC 122 [g [bF, lF []], g [bF, lF [u 9]]] [h [bF, lT []]] n2 := ex (c2 k342 k33) (by kernel_rfl)
theorem k344 : AC 105 [x (lF [[bF, lF []], [bF, lF [u 9]]])] [h [bF, lT []]] n1 := ex (d4 k39 k130 k50 k334 (c1 k343)) (by kernel_rfl)
theorem k345 : AC 105 [x (lF [[bT, lF [u 4]], [bF, l1]])] [h [bT, lF [u 4]]] n1 := ex (c3 k39 k281 k50) (by kernel_rfl)
theorem k346 : AC 126 [x (lT []), x (lF [u 4])] [y (n64 (-1))] n2 := ex .nil (by kernel_rfl)
theorem k347 : AC 127 [x (lF [u 4]), x (lT [])] [y (lF [u 4])] n2 := ex (c1 k234) (by kernel_rfl)
theorem k348 : AC 112 [g [bF, lT []], g [bT, lF [u 4]]] [h [bT, lF [u 4]]] n2 := ex (c3 k346 k347 k235) (by kernel_rfl)
theorem k349 : AC 87 [g o0, g [bT, lF [u 4], bF, lF [u 9]]] [h [bT, lF [u 4], bF, lF [u 9]]] n2 := ex (d4 k344 k345 k348 k340 (c1 k338)) (by kernel_rfl)
theorem k350 : AC 98 [g [bF, lF [u 6]], g [bF, lF [u 9]]] [h [bF, lF [u 3]]] n2 := ex (d4 k250 k261 k327 k335 (c4 k262 k336 k240 k242)) (by kernel_rfl)
theorem k351 : AC 126 [x (lF [u 9]), x (lF [u 3])] [y (n64 1)] n2 := ex .nil (by kernel_rfl)
theorem k352 : AC 131 [x (lF [u 9]), x (w64 3)] [y (lF [u 3]), y (w64 0)] n2 := ex (c1 k241) (by kernel_rfl)
theorem k353 : AC 119 [x (lF [u 9]), x (lF [u 3])] [y (lF [u 3]), y (lF [])] n2 := ex (d4 k327 k241 k351 k352 (c1 k31)) (by kernel_rfl)
theorem k354 : AC 121 [g [bF, lF [u 9]], g [bF, lF [u 3]]] [h [bF, lF [u 3]], h [bF, lT []], y (n64 0)] n2 := ex (c4 k241 k353 k242 k33) (by kernel_rfl)
theorem k355 : AC 104 [g [bF, lF [u 6]], g [bF, lF [u 9]]] [h [bF, lF [u 2], bF, lF [u 3]]] n2 := ex (d4 k334 k350 k247 k305 (c1 k354)) (by kernel_rfl)
theorem k356 : AC 68 [g [bF, l1, bF, lF [u 9]], g (w 6)] [h [bF, lF [u 2], bF, lF [u 3]]] n2 := ex (c4 k52 k355 k206 k286) (by kernel_rfl)
theorem k357 : AC 122 [g [bF, lF [u 2]], g [bF, lF [u 3]]] [h [bF, lF [u 6]]] n2 := ex (c2 k288 k251) (by kernel_rfl)
theorem k358 : AC 105 [x (lF [[bF, lF [u 2]], [bF, lF [u 3]]])] [h [bF, lF [u 6]]] n1 := ex (d4 k39 k43 k50 k247 (c1 k357)) (by kernel_rfl)
theorem k359 : AC 126 [x (lF [u 6]), x (lF [u 6])] [y (n64 0)] n2 := ex .nil (by kernel_rfl)
theorem k360 : AC 127 [x (lF [u 6]), x (lF [u 6])] [y (lF [])] n2 := ex (c1 k78) (by kernel_rfl)
theorem k361 : AC 117 [x bT, x (lF [])] [h [bF, lT []]] n2 := ex (c1 k32) (by kernel_rfl)
theorem k362 : AC 112 [g [bT, lF [u 6]], g [bF, lF [u 6]]] [h [bF, lT []]] n2 := ex (c3 k359 k360 k361) (by kernel_rfl)
theorem k363 : AC 118 [x (w64 9)] [y (lF [u 9])] n1 := ex (c1 k325) (by kernel_rfl)
theorem k364 : AC 98 [g [bF, lT []], g [bF, lF [u 9]]] [h [bF, lF [u 9]]] n2 := ex (d4 k89 k96 k327 k335 (c4 k85 k336 k363 k328)) (by kernel_rfl)
theorem k365 : AC 126 [x (lT []), x (lF [u 9])] [y (n64 (-1))] n2 := ex .nil (by kernel_rfl)
theorem k366 : AC 119 [x (lT []), x (lF [u 9])] [y (lT []), y (lT [])] n2 := ex (c4 k89 k327 k365 k96) (by kernel_rfl)
theorem k367 : AC 121 [g [bF, lT []], g [bF, lF [u 9]]] [h [bF, lT []], h [bF, lT []], y (n64 0)] n2 := ex (c3 k327 k366 k90) (by kernel_rfl)
theorem k368 : AC 126 [x (lF [u 9]), x (lF [u 9])] [y (n64 0)] n2 := ex .nil (by kernel_rfl)
theorem k369 : AC 131 [x (lF [u 9]), x (w64 9)] [y l1, y (w64 0)] n2 := ex (c1 k37) (by kernel_rfl)
theorem k370 : AC 119 [x (lF [u 9]), x (lF [u 9])] [y l1, y (lF [])] n2 := ex (c4 k327 k368 k369 k31) (by kernel_rfl)
theorem k371 : AC 121 [g [bF, lF [u 9]], g [bF, lF [u 9]]] [h [bF, l1], h [bF, lT []], y (n64 0)] n2 := ex (c4 k327 k370 k38 k33) (by kernel_rfl)
theorem k372 : AC 104 [g [bF, lT []], g [bF, lF [u 9]]] [h [bF, lT [], bF, l1]] n2 := ex (c4 k334 k364 k367 k371) (by kernel_rfl)
theorem k373 : AC 87 [g [bT, lF [u 2], bF, lF [u 3]], g [bF, lF [u 2], bF, lF [u 3]]] [h [bF, lT [], bF, l1]] n2 := ex (d4 k291 k358 k362 k330 (c1 k372)) (by kernel_rfl)
theorem k374 : AC 63 [.bor 4 [o0, o0, [bT, lF [u 2], bF, lF [u 3]], [bF, lT [], bF, l1]], g [bF, l1, bF, lF [u 9]], x (lF [o0, (v 4), (w 6)]), x (n64 0)] [] [some (.rows 4 [o0, [bT, lF [u 4], bF, lF [u 9]], [bF, lT [], bF, l1], [bF, lT [], bF, l1]] false false), none, none, none] := ex (d4 k333 k62 k274 k341 (c4 k349 k256 k356 k373)) (by kernel_rfl)
open Go Go.Abs Go.Proofs
theorem k375 : AC 58 [g [bF, l1, bF, lF [u 3]]] [y (n64 1)] n1 := ex (c1 k103) (by kernel_rfl)
theorem k376 : AC 64 [x (lF [[bT, l1, bF, lF [u 9]], [bF, l1, bF, lF [u 3]]])] [y (lF [[bT, l1, bF, lF [u 9]], [bF, l1, bF, lF [u 3]]])] n1 := ex (c1 k375) (by kernel_rfl)
theorem k377 : AC 58 [g [bT, lF [u 4], bF, lF [u 9]]] [y (n64 (-1))] n1 := ex (c1 k273) (by kernel_rfl)
theorem k378 : AC 64 [x (lF [o0, [bT, lF [u 4], bF, lF [u 9]]])] [y (lF [o0, [bT, lF [u 4], bF, lF [u 9]]])] n1 := ex (c1 k377) (by kernel_rfl)
theorem k379 : AC 23 [x (lF [o0, o0, (v 2), (w 2)]), x (lF [o0, (v 4), (w 6)])] [y (lF [[bT, l1, bF, lF [u 9]], [bF, l1, bF, lF [u 3]]]), y (lF [o0, [bT, lF [u 4], bF, lF [u 9]]]), y (n64 0)] n2 := ex (d4 k259 k42 k270 k271 (d4 k319 k331 k332 k374 (c2 k376 k378))) (by kernel_rfl)
theorem k380 : AC 117 [x bT, x (lF [u 9])] [h [bT, lF [u 9]]] n2 := ex (c1 k327) (by kernel_rfl)
theorem k381 : AC 103 [g [bF, lF [u 9]]] [h [bT, lF [u 9]]] n1 := ex (c2 k335 k380) (by kernel_rfl)
theorem k382 : AC 103 [g [bT, lF [u 4]]] [h [bF, lF [u 4]]] n1 := ex (c2 k275 k283) (by kernel_rfl)
theorem k383 : AC 67 [g [bT, lF [u 4], bF, lF [u 9]]] [h [bT, lF [u 9], bF, lF [u 4]], y (n64 0)] n1 := ex (c3 k273 k381 k382) (by kernel_rfl)
theorem k384 : AC 76 [x (lF [o0, [bT, lF [u 4], bF, lF [u 9]]])] [h [bT, lF [u 9], bF, lF [u 4]]] n1 := ex (c1 k383) (by kernel_rfl)
theorem k385 : AC 96 [g [bT, lF [u 9]]] [y (n64 (-1))] n1 := ex .nil (by kernel_rfl)
theorem k386 : AC 58 [g [bT, lF [u 9], bF, lF [u 4]]] [y (n64 (-1))] n1 := ex (c1 k385) (by kernel_rfl)
theorem k387 : AC 98 [g [bT, lF [u 9]], g [bF, lF [u 9]]] [h [bF, lF [u 9]]] n2 := ex (d4 k327 k335 k336 k363 (c1 k328)) (by kernel_rfl)
theorem k388 : AC 121 [g [bT, lF [u 9]], g [bF, lF [u 9]]] [h [bT, l1], h [bF, lT []], y (n64 0)] n2 := ex (c4 k327 k370 k56 k33) (by kernel_rfl)
theorem k389 : AC 104 [g [bT, lF [u 9]], g [bF, lF [u 9]]] [h o2] n2 := ex (c4 k334 k387 k388 k371) (by kernel_rfl)
theorem k390 : AC 118 [x (w64 4)] [y (lF [u 4])] n1 := ex (c1 k232) (by kernel_rfl)
theorem k391 : AC 98 [g [bT, lF [u 4]], g [bF, lF [u 4]]] [h [bF, lF [u 4]]] n2 := ex (d4 k234 k275 k277 k390 (c1 k283)) (by kernel_rfl)
theorem k392 : AC 126 [x (lF [u 4]), x (lF [u 4])] [y (n64 0)] n2 := ex .nil (by kernel_rfl)
theorem k393 : AC 131 [x (lF [u 4]), x (w64 4)] [y l1, y (w64 0)] n2 := ex (c1 k37) (by kernel_rfl)
theorem k394 : AC 119 [x (lF [u 4]), x (lF [u 4])] [y l1, y (lF [])] n2 := ex (c4 k234 k392 k393 k31) (by kernel_rfl)
theorem k395 : AC 121 [g [bT, lF [u 4]], g [bF, lF [u 4]]] [h [bT, l1], h [bF, lT []], y (n64 0)] n2 := ex (c4 k234 k394 k56 k33) (by kernel_rfl)
theorem k396 : AC 121 [g [bF, lF [u 4]], g [bF, lF [u 4]]] [h [bF, l1], h [bF, lT []], y (n64 0)] n2 := ex (c4 k234 k394 k38 k33) (by kernel_rfl)
theorem k397 : AC 104 [g [bT, lF [u 4]], g [bF, lF [u 4]]] [h o2] n2 := ex (c4 k292 k391 k395 k396) (by kernel_rfl)
theorem k398 : AC 68 [g [bT, lF [u 9], bF, lF [u 4]], g [bT, lF [u 4], bF, lF [u 9]]] [h o1] n2 := ex (c4 k389 k397 k144 k53) (by kernel_rfl)
theorem k399 : AC 63 [.bor 4 [[bF, lT [], bF, l1], [bF, lT [], bF, l1]], g [bT, lF [u 9], bF, lF [u 4]], x (lF [o0, [bT, lF [u 4], bF, lF [u 9]]]), x (n64 0)] [] [some (.rows 4 [[bF, lT [], bF, l1], o1] false false), none, none, none] := ex (d4 k386 k62 k377 k398 (c1 k148)) (by kernel_rfl)
theorem k400 : AC 64 [x (lF [[bF, lT [], bF, l1], o1])] [y (lF [[bF, lT [], bF, l1], o1])] n1 := ex (c1 k106) (by kernel_rfl)
theorem k401 : AC 21 [g [bT, lF [u 9], bF, lF [u 4]], x (lF [o0, [bT, lF [u 4], bF, lF [u 9]]])] [y (lF [[bF, lT [], bF, l1], o1])] n2 := ex (c3 k42 k399 k400) (by kernel_rfl)
theorem k402 : AC 71 [x (lF [[bT, l1, bF, lF [u 9]], [bF, l1, bF, lF [u 3]]]), g [bT, lF [u 9], bF, lF [u 4]]] [] n2 := ex .nil (by kernel_rfl)
theorem k403 : AC 104 [g [bF, lF [u 6]], g [bF, l1]] [h (w 6)] n2 := ex (c1 k50) (by kernel_rfl)
theorem k404 : AC 105 [x (lF [[bF, lF [u 6]], [bF, l1]])] [h [bF, lF [u 6]]] n1 := ex (c3 k39 k260 k50) (by kernel_rfl)
theorem k405 : AC 68 [g (w 6), g o1] [h (w 6)] n2 := ex (c4 k403 k52 k404 k53) (by kernel_rfl)
theorem k406 : AC 103 [g [bF, lF [u 6]]] [h [bT, lF [u 6]]] n1 := ex (c2 k261 k289) (by kernel_rfl)
theorem k407 : AC 69 [g (w 6)] [h (v 6)] n1 := ex (c1 k406) (by kernel_rfl)
theorem k408 : AC 96 [g [bT, lF [u 6]]] [y (n64 (-1))] n1 := ex .nil (by kernel_rfl)
theorem k409 : AC 58 [g (v 6)] [y (n64 (-1))] n1 := ex (c1 k408) (by kernel_rfl)
theorem k410 : AC 104 [g [bT, lF [u 6]], g [bF, l1]] [h (v 6)] n2 := ex (c1 k50) (by kernel_rfl)
theorem k411 : AC 97 [g [bT, lF [u 6]]] [y bF] n1 := ex .nil (by kernel_rfl)
theorem k412 : AC 105 [x (lF [[bT, lF [u 6]], [bF, l1]])] [h [bT, lF [u 6]]] n1 := ex (c3 k39 k411 k50) (by kernel_rfl)
theorem k413 : AC 68 [g (v 6), g o1] [h (v 6)] n2 := ex (c4 k410 k52 k412 k53) (by kernel_rfl)
theorem k414 : AC 112 [g [bF, lF [u 6]], g [bT, lF [u 6]]] [h [bF, lT []]] n2 := ex (c3 k359 k360 k33) (by kernel_rfl)
theorem k415 : AC 87 [g (w 6), g (v 6)] [h [bF, lT [], bF, l1]] n2 := ex (d4 k404 k412 k414 k53 (c1 k81)) (by kernel_rfl)
theorem k416 : AC 63 [.bor 4 [o0, (v 4), (w 6)], g (v 6), x (lF [[bF, lT [], bF, l1], o1]), x (n64 1)] [] [some (.rows 4 [o0, (v 4), [bF, lT [], bF, l1]] false false), none, none, none] := ex (d4 k409 k101 k106 k413 (c1 k415)) (by kernel_rfl)
theorem k417 : AC 104 [g [bT, lF [u 4]], g [bF, l1]] [h (v 4)] n2 := ex (c1 k50) (by kernel_rfl)
theorem k418 : AC 68 [g (v 4), g o1] [h (v 4)] n2 := ex (c4 k417 k52 k345 k53) (by kernel_rfl)
theorem k419 : AC 69 [g (v 4)] [h (w 4)] n1 := ex (c1 k382) (by kernel_rfl)
theorem k420 : AC 96 [g [bF, lF [u 4]]] [y (n64 1)] n1 := ex .nil (by kernel_rfl)
theorem k421 : AC 58 [g (w 4)] [y (n64 1)] n1 := ex (c1 k420) (by kernel_rfl)
theorem k422 : AC 104 [g [bF, lF [u 4]], g [bF, l1]] [h (w 4)] n2 := ex (c1 k50) (by kernel_rfl)
theorem k423 : AC 68 [g (w 4), g o1] [h (w 4)] n2 := ex (c4 k422 k52 k293 k53) (by kernel_rfl)
theorem k424 : AC 127 [x (lF [u 4]), x (lF [u 4])] [y (lF [])] n2 := ex (c1 k78) (by kernel_rfl)
theorem k425 : AC 112 [g [bT, lF [u 4]], g [bF, lF [u 4]]] [h [bF, lT []]] n2 := ex (c3 k392 k424 k361) (by kernel_rfl)
theorem k426 : AC 87 [g (v 4), g (w 4)] [h [bF, lT [], bF, l1]] n2 := ex (d4 k345 k293 k425 k53 (c1 k81)) (by kernel_rfl)
theorem k427 : AC 63 [.bor 4 [o0, (v 4), [bF, lT [], bF, l1]], g (w 4), x (lF [[bF, lT [], bF, l1], o1]), x (n64 0)] [] [some (.rows 4 [o0, [bF, lT [], bF, l1], [bF, lT [], bF, l1]] false false), none, none, none] := ex (d4 k421 k101 k106 k423 (c1 k426)) (by kernel_rfl)
theorem k428 : AC 64 [x (lF [(v 4), (w 6)])] [y (lF [(v 4), (w 6)])] n1 := ex (c1 k256) (by kernel_rfl)
theorem k429 : AC 64 [x (lF [o0])] [y (lF [])] n1 := ex (c1 k62) (by kernel_rfl)
theorem k430 : AC 23 [x (lF [o0, (v 4), (w 6)]), x (lF [[bF, lT [], bF, l1], o1])] [y (lF [(v 4), (w 6)]), y (lF []), y (n64 0)] n2 := ex (d4 k124 k42 k405 k407 (d4 k416 k418 k419 k427 (c2 k428 k429))) (by kernel_rfl)
theorem k431 : AC 71 [x (lF [(v 4), (w 6)]), g o1] [] n2 := ex .nil (by kernel_rfl)
theorem k432 : AC 70 [x (lF [o0, o0, (v 2), (w 2)]), x (lF [o0, (v 4), (w 6)]), x (.v (.func (.func 71) #[] #[]))] [y (lF [[bF, lT [], bF, l1], o1])] [none, none, none] := ex (d4 k379 k120 k384 k401 (c3 k402 k430 k431)) (by kernel_rfl)
theorem k433 : AC 63 [.bor 4 [[bF, lT [], bF, l1], [bF, lT [], bF, l1]], g o1, x (lF [[bF, lT [], bF, l1], o1]), x (n64 0)] [] [some (.rows 4 [[bF, lT [], bF, l1], o1] false false), none, none, none] := ex (c4 k106 k101 k126 k148) (by kernel_rfl)
theorem k434 : AC 21 [g o1, x (lF [[bF, lT [], bF, l1], o1])] [y (lF [[bF, lT [], bF, l1], o1])] n2 := ex (c3 k42 k433 k400) (by kernel_rfl)
theorem k435 : AC 32 [x (lF [[bF, lT [], bF, l1], o1])] [y (lF [[bF, lT [], bF, l1], o1])] n1 := ex (c2 k124 k434) (by kernel_rfl)
theorem k436 : AC 25 [x (lF [o0, o0, (v 2), (w 2)]), x (lF [o0, (v 4), (w 6)])] [y (lF [[bF, lT [], bF, l1], o1])] n2 := ex (c2 k432 k435) (by kernel_rfl)
theorem k437 : AC 62 [x (n64 4)] [.own 4 [[bF, lT [], bF, l1], [bF, lT [], bF, l1], [bF, lT [], bF, l1], [bF, lT [], bF, l1]]] n1 := ex (c1 k41) (by kernel_rfl)
theorem k438 : AC 96 [g [bT, lF [u 2]]] [y (n64 (-1))] n1 := ex .nil (by kernel_rfl)
theorem k439 : AC 58 [g (v 2)] [y (n64 (-1))] n1 := ex (c1 k438) (by kernel_rfl)
theorem k440 : AC 98 [g [bT, lF [u 2]], g [bF, lF [u 2]]] [h [bF, lF [u 2]]] n2 := ex (d4 k45 k46 k48 k66 (c1 k67)) (by kernel_rfl)
theorem k441 : AC 104 [g [bT, lF [u 2]], g [bF, lF [u 2]]] [h o2] n2 := ex (c4 k43 k440 k321 k72) (by kernel_rfl)
theorem k442 : AC 68 [g [bF, l1, bF, lF [u 2]], g (v 2)] [h o2] n2 := ex (c4 k52 k441 k170 k53) (by kernel_rfl)
theorem k443 : AC 63 [.bor 4 [[bF, lT [], bF, l1], [bF, lT [], bF, l1], [bF, lT [], bF, l1], [bF, lT [], bF, l1]], g [bF, l1, bF, lF [u 2]], x (lF [o0, o0, (v 2), (w 2)]), x (n64 0)] [] [some (.rows 4 [[bF, lT [], bF, l1], [bF, lT [], bF, l1], o2, o1] false false), none, none, none] := ex (d4 k104 k62 k439 k442 (c4 k161 k63 k202 k148)) (by kernel_rfl)
theorem k444 : AC 64 [x (lF [[bF, lT [], bF, l1], [bF, lT [], bF, l1], o2, o1])] [y (lF [[bF, lT [], bF, l1], [bF, lT [], bF, l1], o2, o1])] n1 := ex (c1 k106) (by kernel_rfl)
theorem k445 : AC 21 [g [bF, l1, bF, lF [u 2]], x (lF [o0, o0, (v 2), (w 2)])] [y (lF [[bF, lT [], bF, l1], [bF, lT [], bF, l1], o2, o1])] n2 := ex (c3 k437 k443 k444) (by kernel_rfl)
theorem k446 : AC 32 [x (lF [o0, o0, (v 2), (w 2)])] [y (lF [[bF, lT [], bF, l1], [bF, lT [], bF, l1], o2, o1])] n1 := ex (c2 k29 k445) (by kernel_rfl)
theorem k447 : AC 63 [.bor 4 [[bF, lT [], bF, l1], [bF, lT [], bF, l1], o2, o1], g o2, x (lF [[bF, lT [], bF, l1], o1]), x (n64 2)] [] [some (.rows 4 [[bF, lT [], bF, l1], [bF, lT [], bF, l1], o2, [bF, lT [], bF, l1]] false false), none, none, none] := ex (d4 k128 k101 k106 k129 (c1 k82)) (by kernel_rfl)
theorem k448 : AC 69 [g o2] [h o1] n1 := ex (c1 k139) (by kernel_rfl)
theorem k449 : AC 112 [g [bT, l1], g [bF, l1]] [h [bF, lT []]] n2 := ex (c3 k77 k79 k361) (by kernel_rfl)
theorem k450 : AC 87 [g o2, g o1] [h [bF, lT [], bF, l1]] n2 := ex (c4 k75 k53 k449 k81) (by kernel_rfl)
theorem k451 : AC 63 [.bor 4 [[bF, lT [], bF, l1], [bF, lT [], bF, l1], o2, [bF, lT [], bF, l1]], g o1, x (lF [[bF, lT [], bF, l1], o1]), x (n64 1)] [] [some (.rows 4 [[bF, lT [], bF, l1], [bF, lT [], bF, l1], [bF, lT [], bF, l1], [bF, lT [], bF, l1]] false false), none, none, none] := ex (c4 k106 k101 k126 k450) (by kernel_rfl)
theorem k452 : AC 68 [g [bF, lT [], bF, l1], g o1] [h [bF, lT [], bF, l1]] n2 := ex (c4 k81 k52 k94 k53) (by kernel_rfl)
theorem k453 : AC 63 [.bor 4 [[bF, lT [], bF, l1], [bF, lT [], bF, l1], [bF, lT [], bF, l1], [bF, lT [], bF, l1]], g [bF, lT [], bF, l1], x (lF [[bF, lT [], bF, l1], o1]), x (n64 0)] [] [some (.rows 4 [[bF, lT [], bF, l1], [bF, lT [], bF, l1], [bF, lT [], bF, l1], [bF, lT [], bF, l1]] false false), none, none, none] := ex (c1 k101) (by kernel_rfl)
theorem k454 : AC 64 [x (lF [[bF, lT [], bF, l1], o2, o1])] [y (lF [[bF, lT [], bF, l1], o2, o1])] n1 := ex (c1 k106) (by kernel_rfl)
theorem k455 : AC 23 [x (lF [[bF, lT [], bF, l1], [bF, lT [], bF, l1], o2, o1]), x (lF [[bF, lT [], bF, l1], o1])] [y (lF [[bF, lT [], bF, l1], o2, o1]), y (lF []), y (n64 0)] n2 := ex (d4 k124 k222 k126 k127 (d4 k447 k129 k448 k451 (d4 k452 k99 k453 k454 (c1 k122)))) (by kernel_rfl)
theorem k456 : AC 75 [x (lF [[bF, lT [], bF, l1], [bF, lT [], bF, l1], o2, o1]), x (lF [[bF, lT [], bF, l1], o1])] [y (lF [[bF, lT [], bF, l1], o2, o1])] n2 := ex (c1 k455) (by kernel_rfl)
theorem k457 : AC 76 [x (lF [o0, o0, (v 2), (w 2)])] [h [bF, l1, bF, lF [u 2]]] n1 := ex (c1 k29) (by kernel_rfl)
theorem k458 : AC 98 [g [bT, lF [u 4]], g [bF, lF [u 2]]] [h [bF, lF [u 2]]] n2 := ex (d4 k234 k275 k45 k46 (c4 k277 k48 k66 k67)) (by kernel_rfl)
theorem k459 : AC 126 [x (lF [u 4]), x (lF [u 2])] [y (n64 1)] n2 := ex .nil (by kernel_rfl)
theorem k460 : AC 131 [x (lF [u 4]), x (w64 2)] [y (lF [u 2]), y (w64 0)] n2 := ex (c1 k45) (by kernel_rfl)
theorem k461 : AC 119 [x (lF [u 4]), x (lF [u 2])] [y (lF [u 2]), y (lF [])] n2 := ex (d4 k234 k45 k459 k460 (c1 k31)) (by kernel_rfl)
theorem k462 : AC 121 [g [bT, lF [u 4]], g [bF, lF [u 2]]] [h [bT, lF [u 2]], h [bF, lT []], y (n64 0)] n2 := ex (c4 k45 k461 k296 k33) (by kernel_rfl)
theorem k463 : AC 104 [g [bT, lF [u 4]], g [bF, lF [u 2]]] [h (v 2)] n2 := ex (c4 k43 k458 k462 k72) (by kernel_rfl)
theorem k464 : AC 105 [x (lF [[bF, l1], [bT, lF [u 2]]])] [h [bT, lF [u 2]]] n1 := ex (c3 k39 k50 k231) (by kernel_rfl)
theorem k465 : AC 68 [g [bF, l1, bF, lF [u 2]], g (v 4)] [h (v 2)] n2 := ex (c4 k52 k463 k464 k53) (by kernel_rfl)
theorem k466 : AC 126 [x (lT []), x (lF [u 2])] [y (n64 (-1))] n2 := ex .nil (by kernel_rfl)
theorem k467 : AC 127 [x (lF [u 2]), x (lT [])] [y (lF [u 2])] n2 := ex (c1 k45) (by kernel_rfl)
theorem k468 : AC 112 [g [bF, lT []], g [bT, lF [u 2]]] [h [bT, lF [u 2]]] n2 := ex (c3 k466 k467 k296) (by kernel_rfl)
theorem k469 : AC 87 [g [bF, lT [], bF, l1], g (v 2)] [h (v 2)] n2 := ex (d4 k94 k315 k468 k53 (c1 k230)) (by kernel_rfl)
theorem k470 : AC 98 [g [bF, lF [u 6]], g [bF, lF [u 2]]] [h [bF, lF [u 2]]] n2 := ex (d4 k250 k261 k45 k46 (c4 k262 k48 k66 k67)) (by kernel_rfl)
theorem k471 : AC 104 [g [bF, lF [u 6]], g [bF, lF [u 2]]] [h (w 3)] n2 := ex (c4 k43 k470 k267 k72) (by kernel_rfl)
theorem k472 : AC 68 [g [bF, l1, bF, lF [u 2]], g (w 6)] [h (w 3)] n2 := ex (c4 k52 k471 k286 k53) (by kernel_rfl)
theorem k473 : AC 125 [x (lT []), x (lF [u 3])] [y (lF [u 3])] n2 := ex (c1 k239) (by kernel_rfl)
theorem k474 : AC 112 [g [bF, lT []], g [bF, lF [u 3]]] [h [bF, lF [u 3]]] n2 := ex (c2 k473 k242) (by kernel_rfl)
theorem k475 : AC 87 [g [bF, lT [], bF, l1], g (w 3)] [h (w 3)] n2 := ex (d4 k94 k269 k474 k53 (c1 k246)) (by kernel_rfl)
theorem k476 : AC 63 [.bor 4 [[bF, lT [], bF, l1], [bF, lT [], bF, l1], [bF, lT [], bF, l1]], g [bF, l1, bF, lF [u 2]], x (lF [o0, (v 4), (w 6)]), x (n64 0)] [] [some (.rows 4 [[bF, lT [], bF, l1], (v 2), (w 3)] false false), none, none, none] := ex (d4 k104 k62 k274 k465 (c4 k469 k256 k472 k475)) (by kernel_rfl)
theorem k477 : AC 96 [g [bF, lF [u 3]]] [y (n64 1)] n1 := ex .nil (by kernel_rfl)
theorem k478 : AC 58 [g (w 3)] [y (n64 1)] n1 := ex (c1 k477) (by kernel_rfl)
theorem k479 : AC 64 [x (lF [[bF, lT [], bF, l1], (v 2), (w 3)])] [y (lF [[bF, lT [], bF, l1], (v 2), (w 3)])] n1 := ex (c1 k478) (by kernel_rfl)
theorem k480 : AC 21 [g [bF, l1, bF, lF [u 2]], x (lF [o0, (v 4), (w 6)])] [y (lF [[bF, lT [], bF, l1], (v 2), (w 3)])] n2 := ex (c3 k222 k476 k479) (by kernel_rfl)
theorem k481 : AC 68 [g (w 3), g o1] [h (w 3)] n2 := ex (c4 k246 k52 k269 k53) (by kernel_rfl)
theorem k482 : AC 117 [x bT, x (lF [u 3])] [h [bT, lF [u 3]]] n2 := ex (c1 k241) (by kernel_rfl)
theorem k483 : AC 103 [g [bF, lF [u 3]]] [h [bT, lF [u 3]]] n1 := ex (c2 k276 k482) (by kernel_rfl)
theorem k484 : AC 69 [g (w 3)] [h (v 3)] n1 := ex (c1 k483) (by kernel_rfl)
theorem k485 : AC 96 [g [bT, lF [u 3]]] [y (n64 (-1))] n1 := ex .nil (by kernel_rfl)
theorem k486 : AC 58 [g (v 3)] [y (n64 (-1))] n1 := ex (c1 k485) (by kernel_rfl)
theorem k487 : AC 104 [g [bT, lF [u 3]], g [bF, l1]] [h (v 3)] n2 := ex (c1 k50) (by kernel_rfl)
theorem k488 : AC 97 [g [bT, lF [u 3]]] [y bF] n1 := ex .nil (by kernel_rfl)
theorem k489 : AC 105 [x (lF [[bT, lF [u 3]], [bF, l1]])] [h [bT, lF [u 3]]] n1 := ex (c3 k39 k488 k50) (by kernel_rfl)
theorem k490 : AC 68 [g (v 3), g o1] [h (v 3)] n2 := ex (c4 k487 k52 k489 k53) (by kernel_rfl)
theorem k491 : AC 127 [x (lF [u 3]), x (lF [u 3])] [y (lF [])] n2 := ex (c1 k78) (by kernel_rfl)
theorem k492 : AC 112 [g [bF, lF [u 3]], g [bT, lF [u 3]]] [h [bF, lT []]] n2 := ex (c3 k306 k491 k33) (by kernel_rfl)
theorem k493 : AC 87 [g (w 3), g (v 3)] [h [bF, lT [], bF, l1]] n2 := ex (d4 k269 k489 k492 k53 (c1 k81)) (by kernel_rfl)
theorem k494 : AC 63 [.bor 4 [[bF, lT [], bF, l1], (v 2), (w 3)], g (v 3), x (lF [[bF, lT [], bF, l1], o1]), x (n64 1)] [] [some (.rows 4 [[bF, lT [], bF, l1], (v 2), [bF, lT [], bF, l1]] false false), none, none, none] := ex (d4 k486 k101 k106 k490 (c1 k493)) (by kernel_rfl)
theorem k495 : AC 68 [g (v 2), g o1] [h (v 2)] n2 := ex (c4 k230 k52 k315 k53) (by kernel_rfl)
theorem k496 : AC 103 [g [bT, lF [u 2]]] [h [bF, lF [u 2]]] n1 := ex (c2 k46 k67) (by kernel_rfl)
theorem k497 : AC 69 [g (v 2)] [h (w 2)] n1 := ex (c1 k496) (by kernel_rfl)
theorem k498 : AC 68 [g (w 2), g o1] [h (w 2)] n2 := ex (c4 k229 k52 k54 k53) (by kernel_rfl)
theorem k499 : AC 112 [g [bT, lF [u 2]], g [bF, lF [u 2]]] [h [bF, lT []]] n2 := ex (c3 k69 k316 k361) (by kernel_rfl)
open Go Go.Abs Go.Proofs
theorem k500 : AC 87 [g (v 2), g (w 2)] [h [bF, lT [], bF, l1]] n2 := ex (d4 k315 k54 k499 k53 (c1 k81)) (by kernel_rfl)
theorem k501 : AC 63 [.bor 4 [[bF, lT [], bF, l1], (v 2), [bF, lT [], bF, l1]], g (w 2), x (lF [[bF, lT [], bF, l1], o1]), x (n64 0)] [] [some (.rows 4 [[bF, lT [], bF, l1], [bF, lT [], bF, l1], [bF, lT [], bF, l1]] false false), none, none, none] := ex (d4 k63 k101 k106 k498 (c1 k500)) (by kernel_rfl)
theorem k502 : AC 64 [x (lF [(v 2), (w 3)])] [y (lF [(v 2), (w 3)])] n1 := ex (c1 k478) (by kernel_rfl)
theorem k503 : AC 23 [x (lF [[bF, lT [], bF, l1], (v 2), (w 3)]), x (lF [[bF, lT [], bF, l1], o1])] [y (lF [(v 2), (w 3)]), y (lF []), y (n64 0)] n2 := ex (d4 k124 k42 k481 k484 (d4 k494 k495 k497 k501 (c2 k502 k122))) (by kernel_rfl)
theorem k504 : AC 75 [x (lF [[bF, lT [], bF, l1], (v 2), (w 3)]), x (lF [[bF, lT [], bF, l1], o1])] [y (lF [(v 2), (w 3)])] n2 := ex (c1 k503) (by kernel_rfl)
theorem k505 : AC 64 [x (lF [o2, (w 2)])] [y (lF [o2, (w 2)])] n1 := ex (c1 k63) (by kernel_rfl)
theorem k506 : AC 31 [x (lF [[bF, lT [], bF, l1], o2, o1])] [y (lF [o2, (w 2)])] n1 := ex (d4 k42 k120 k171 k228 (c2 k498 k505)) (by kernel_rfl)
theorem k507 : AC 126 [x (lF [u 2]), x l1] [y (n64 1)] n2 := ex .nil (by kernel_rfl)
theorem k508 : AC 127 [x (lF [u 2]), x l1] [y l1] n2 := ex (c1 k37) (by kernel_rfl)
theorem k509 : AC 112 [g [bT, lF [u 2]], g [bF, l1]] [h [bT, l1]] n2 := ex (c3 k507 k508 k56) (by kernel_rfl)
theorem k510 : AC 87 [g (v 2), g o1] [h o2] n2 := ex (c4 k315 k53 k509 k64) (by kernel_rfl)
theorem k511 : AC 68 [g o2, g (w 2)] [h (v 2)] n2 := ex (c4 k64 k229 k313 k53) (by kernel_rfl)
theorem k512 : AC 126 [x (lF [u 3]), x (lF [u 2])] [y (n64 1)] n2 := ex .nil (by kernel_rfl)
theorem k513 : AC 127 [x (lF [u 3]), x (lF [u 2])] [y l1] n2 := ex (c1 k37) (by kernel_rfl)
theorem k514 : AC 112 [g [bF, lF [u 3]], g [bT, lF [u 2]]] [h [bF, l1]] n2 := ex (c3 k512 k513 k38) (by kernel_rfl)
theorem k515 : AC 87 [g (w 3), g (v 2)] [h o1] n2 := ex (d4 k269 k315 k514 k53 (c1 k52)) (by kernel_rfl)
theorem k516 : AC 63 [.bor 4 [(v 2), (w 3)], g o2, x (lF [o2, (w 2)]), x (n64 0)] [] [some (.rows 4 [o2, o1] false false), none, none, none] := ex (d4 k128 k145 k510 k63 (c2 k511 k515)) (by kernel_rfl)
theorem k517 : AC 64 [x (lF [o2, o1])] [y (lF [o2, o1])] n1 := ex (c1 k106) (by kernel_rfl)
theorem k518 : AC 60 [x (lF [(v 2), (w 3)]), g o2, x (lF [o2, (w 2)]), x (n64 0)] [y (lF [o2, o1])] n4 := ex (c3 k42 k516 k517) (by kernel_rfl)
theorem k519 : AC 18 [x (lF [(v 2), (w 3)]), x (lF [o2, (w 2)])] [y (lF [o2, o1])] n2 := ex (c2 k154 k518) (by kernel_rfl)
theorem k520 : AC 63 [.bor 4 [[bF, lT [], bF, l1], o2, o1], g o2, x (lF [o2, o1]), x (n64 1)] [] [some (.rows 4 [[bF, lT [], bF, l1], [bF, lT [], bF, l1], [bF, lT [], bF, l1]] false false), none, none, none] := ex (d4 k128 k145 k450 k106 (c2 k129 k82)) (by kernel_rfl)
theorem k521 : AC 63 [.bor 4 [[bF, lT [], bF, l1], [bF, lT [], bF, l1], [bF, lT [], bF, l1]], g [bF, lT [], bF, l1], x (lF [o2, o1]), x (n64 0)] [] [some (.rows 4 [[bF, lT [], bF, l1], [bF, lT [], bF, l1], [bF, lT [], bF, l1]] false false), none, none, none] := ex (c1 k101) (by kernel_rfl)
theorem k522 : AC 23 [x (lF [[bF, lT [], bF, l1], o2, o1]), x (lF [o2, o1])] [y (lF [[bF, lT [], bF, l1], o1]), y (lF []), y (n64 0)] n2 := ex (d4 k124 k42 k126 k127 (d4 k520 k452 k99 k521 (c2 k400 k122))) (by kernel_rfl)
theorem k523 : AC 71 [x (lF [[bF, lT [], bF, l1], o1]), g o1] [] n2 := ex .nil (by kernel_rfl)
theorem k524 : AC 70 [x (lF [[bF, lT [], bF, l1], o2, o1]), x (lF [o2, o1]), x (.v (.func (.func 71) #[] #[]))] [y (lF [o2, o1])] [none, none, none] := ex (c3 k522 k120 k523) (by kernel_rfl)
theorem k525 : AC 63 [.bor 4 [[bF, lT [], bF, l1], [bF, lT [], bF, l1]], g o1, x (lF [o2, o1]), x (n64 0)] [] [some (.rows 4 [o2, o1] false false), none, none, none] := ex (d4 k106 k128 k171 k161 (c2 k126 k148)) (by kernel_rfl)
theorem k526 : AC 21 [g o1, x (lF [o2, o1])] [y (lF [o2, o1])] n2 := ex (c3 k42 k525 k517) (by kernel_rfl)
theorem k527 : AC 32 [x (lF [o2, o1])] [y (lF [o2, o1])] n1 := ex (c2 k124 k526) (by kernel_rfl)
theorem k528 : AC 25 [x (lF [[bF, lT [], bF, l1], o2, o1]), x (lF [o2, o1])] [y (lF [o2, o1])] n2 := ex (c2 k524 k527) (by kernel_rfl)
theorem k529 : AC 75 [x (lF [[bF, lT [], bF, l1], o2, o1]), x (lF [o2, o1])] [y (lF [[bF, lT [], bF, l1], o1])] n2 := ex (c1 k522) (by kernel_rfl)
theorem k530 : AC 63 [.bor 4 [o2, o1], g o2, x (lF [o2, o1]), x (n64 0)] [] [some (.rows 4 [[bF, lT [], bF, l1], [bF, lT [], bF, l1]] false false), none, none, none] := ex (d4 k128 k145 k450 k106 (c2 k129 k82)) (by kernel_rfl)
theorem k531 : AC 23 [x (lF [o2, o1]), x (lF [o2, o1])] [y (lF [o1]), y (lF []), y (n64 0)] n2 := ex (d4 k124 k125 k126 k127 (c3 k530 k107 k122)) (by kernel_rfl)
theorem k532 : AC 75 [x (lF [o2, o1]), x (lF [o2, o1])] [y (lF [o1])] n2 := ex (c1 k531) (by kernel_rfl)
theorem k533 : AC 31 [x (lF [[bF, lT [], bF, l1], o1])] [y (lF [o1])] n1 := ex (c4 k125 k120 k126 k107) (by kernel_rfl)
theorem k534 : AC 63 [.bor 4 [o1], g o2, x (lF [o1]), x (n64 0)] [] [some (.rows 4 [[bF, lT [], bF, l1]] false false), none, none, none] := ex (c4 k128 k106 k129 k82) (by kernel_rfl)
theorem k535 : AC 60 [x (lF [o1]), g o2, x (lF [o1]), x (n64 0)] [y (lF [])] n4 := ex (c3 k125 k534 k122) (by kernel_rfl)
theorem k536 : AC 18 [x (lF [o1]), x (lF [o1])] [y (lF [])] n2 := ex (c2 k154 k535) (by kernel_rfl)
theorem k537 : AC 70 [x (lF [[bF, lT [], bF, l1], o1]), x (lF []), x (.v (.func (.func 71) #[] #[]))] [y (lF [[bF, lT [], bF, l1], o1])] [none, none, none] := ex .nil (by kernel_rfl)
theorem k538 : AC 25 [x (lF [[bF, lT [], bF, l1], o1]), x (lF [])] [y (lF [[bF, lT [], bF, l1], o1])] n2 := ex (c2 k537 k435) (by kernel_rfl)
theorem k539 : AC 63 [.bor 4 [[bF, lT [], bF, l1], o1], g o2, x (lF [[bF, lT [], bF, l1], o1]), x (n64 0)] [] [some (.rows 4 [[bF, lT [], bF, l1], [bF, lT [], bF, l1]] false false), none, none, none] := ex (d4 k128 k101 k106 k129 (c1 k82)) (by kernel_rfl)
theorem k540 : AC 23 [x (lF [[bF, lT [], bF, l1], o1]), x (lF [[bF, lT [], bF, l1], o1])] [y (lF [o1]), y (lF []), y (n64 0)] n2 := ex (d4 k124 k125 k126 k127 (c3 k539 k107 k122)) (by kernel_rfl)
theorem k541 : AC 75 [x (lF [[bF, lT [], bF, l1], o1]), x (lF [[bF, lT [], bF, l1], o1])] [y (lF [o1])] n2 := ex (c1 k540) (by kernel_rfl)
theorem k542 : AC 23 [x (lF []), x (lF [[bF, lT [], bF, l1], o1])] [y (lT []), y (lF []), y (n64 0)] n2 := ex .nil (by kernel_rfl)
theorem k543 : AC 75 [x (lF []), x (lF [[bF, lT [], bF, l1], o1])] [y (lT [])] n2 := ex (c1 k542) (by kernel_rfl)
theorem k544 : AC 30 [x (lF [o0, o0, (v 2), (w 2)])] [y (lF [[lF [o2, o1], n64 1], [lF [[bF, lT [], bF, l1], o1], n64 2]])] n1 := ex (d4 k258 k436 k446 k456 (d4 k457 k480 k504 k506 (d4 k519 k528 k529 k532 (d4 k533 k536 k538 k541 (c1 k543))))) (by kernel_rfl)
theorem k545 : AC 120 [x (lF [u 0, u 1073741824])] [y (lF [u 0, u 1073741824])] n1 := ex .nil (by kernel_rfl)
theorem k546 : AC 102 [x (w64 4611686018427387904)] [y (lF [u 0, u 1073741824])] n1 := ex (c1 k545) (by kernel_rfl)
theorem k547 : AC 101 [x bF, x (lF [u 0, u 1073741824])] [h [bF, lF [u 0, u 1073741824]]] n2 := ex (c1 k545) (by kernel_rfl)
theorem k548 : AC 66 [x (n64 4611686018427387904)] [h [bF, lF [u 0, u 1073741824]]] n1 := ex (c2 k546 k547) (by kernel_rfl)
theorem k549 : AC 123 [x l1, x (n64 1)] [y (w64 0)] n2 := ex .nil (by kernel_rfl)
theorem k550 : AC 123 [x l1, x (n64 0)] [y (w64 1)] n2 := ex .nil (by kernel_rfl)
theorem k551 : AC 129 [x l1] [y (w64 1)] n1 := ex (c2 k549 k550) (by kernel_rfl)
theorem k552 : AC 123 [x (lF [u 2]), x (n64 1)] [y (w64 0)] n2 := ex .nil (by kernel_rfl)
theorem k553 : AC 123 [x (lF [u 2]), x (n64 0)] [y (w64 2)] n2 := ex .nil (by kernel_rfl)
theorem k554 : AC 129 [x (lF [u 2])] [y (w64 2)] n1 := ex (c2 k552 k553) (by kernel_rfl)
theorem k555 : AC 128 [x (w64 1), x (w64 2)] [y (w64 1)] n2 := ex .nil (by kernel_rfl)
theorem k556 : AC 113 [x l1, x (lF [u 2])] [y l1] n2 := ex (c4 k551 k554 k555 k1) (by kernel_rfl)
theorem k557 : AC 93 [g [bF, l1], g [bF, lF [u 2]]] [h [bF, l1]] n2 := ex (c2 k556 k3) (by kernel_rfl)
theorem k558 : AC 107 [x l1, x l1] [y (n64 0)] n2 := ex .nil (by kernel_rfl)
theorem k559 : AC 137 [x l1, x (w64 1)] [y l1, y (w64 0)] n2 := ex (c1 k2) (by kernel_rfl)
theorem k560 : AC 130 [x l1, x l1] [y l1, y (lF [])] n2 := ex (c3 k558 k559 k7) (by kernel_rfl)
theorem k561 : AC 124 [g [bF, l1], g [bF, l1]] [h [bF, l1], h [bF, lF []], y (n64 0)] n2 := ex (c3 k560 k3 k9) (by kernel_rfl)
theorem k562 : AC 110 [g [bF, l1], g [bF, l1]] [h [bF, l1]] n2 := ex (c1 k561) (by kernel_rfl)
theorem k563 : AC 107 [x (lF [u 2]), x l1] [y (n64 1)] n2 := ex .nil (by kernel_rfl)
theorem k564 : AC 137 [x (lF [u 2]), x (w64 1)] [y (lF [u 2]), y (w64 0)] n2 := ex (c1 k19) (by kernel_rfl)
theorem k565 : AC 130 [x (lF [u 2]), x l1] [y (lF [u 2]), y (lF [])] n2 := ex (c3 k563 k564 k7) (by kernel_rfl)
theorem k566 : AC 124 [g [bF, lF [u 2]], g [bF, l1]] [h [bF, lF [u 2]], h [bF, lF []], y (n64 0)] n2 := ex (c3 k565 k20 k9) (by kernel_rfl)
theorem k567 : AC 110 [g [bF, lF [u 2]], g [bF, l1]] [h [bF, lF [u 2]]] n2 := ex (c1 k566) (by kernel_rfl)
theorem k568 : AC 79 [g [bF, l1], g [bF, lF [u 2]]] [h [bF, l1, bF, lF [u 2]]] n2 := ex (c4 k557 k23 k562 k567) (by kernel_rfl)
theorem k569 : AC 33 [g [.v (.int .i8 1), .v (.int .i8 2), .v (.int .u8 0)]] [h [bF, l1, bF, lF [u 2]]] n1 := ex (c4 k4 k21 k548 k568) (by kernel_rfl)
theorem k570 : AC 56 [] [h [bF, l1, bF, lF [u 2]]] [] := ex (c1 k569) (by kernel_rfl)
theorem k571 : AC 120 [x (lF [u 0])] [y (lF [])] n1 := ex .nil (by kernel_rfl)
theorem k572 : AC 109 [x l1, x (lF [])] [y (lF [])] n2 := ex (c1 k571) (by kernel_rfl)
theorem k573 : AC 78 [g [bF, l1], g [bF, lF []]] [h [bF, lF []]] n2 := ex (c2 k572 k9) (by kernel_rfl)
theorem k574 : AC 109 [x (lF [u 2]), x l1] [y (lF [u 2])] n2 := ex (c1 k17) (by kernel_rfl)
theorem k575 : AC 78 [g [bF, lF [u 2]], g [bF, l1]] [h [bF, lF [u 2]]] n2 := ex (c2 k574 k20) (by kernel_rfl)
theorem k576 : AC 123 [x (lF []), x (n64 1)] [y (w64 0)] n2 := ex .nil (by kernel_rfl)
theorem k577 : AC 123 [x (lF []), x (n64 0)] [y (w64 0)] n2 := ex .nil (by kernel_rfl)
theorem k578 : AC 129 [x (lF [])] [y (w64 0)] n1 := ex (c2 k576 k577) (by kernel_rfl)
theorem k579 : AC 128 [x (w64 0), x (w64 2)] [y (w64 2)] n2 := ex .nil (by kernel_rfl)
theorem k580 : AC 113 [x (lF []), x (lF [u 2])] [y (lF [u 2])] n2 := ex (c4 k578 k554 k579 k18) (by kernel_rfl)
theorem k581 : AC 93 [g [bF, lF []], g [bF, lF [u 2]]] [h [bF, lF [u 2]]] n2 := ex (c2 k580 k20) (by kernel_rfl)
theorem k582 : AC 107 [x (lF []), x (lF [u 2])] [y (n64 (-1))] n2 := ex .nil (by kernel_rfl)
theorem k583 : AC 130 [x (lF []), x (lF [u 2])] [y (lT []), y (lF [])] n2 := ex (c1 k582) (by kernel_rfl)
theorem k584 : AC 120 [x (lT [])] [y (lT [])] n1 := ex .nil (by kernel_rfl)
theorem k585 : AC 101 [x bF, x (lT [])] [h [bF, lT []]] n2 := ex (c1 k584) (by kernel_rfl)
theorem k586 : AC 124 [g [bF, lF []], g [bF, lF [u 2]]] [h [bF, lT []], h [bF, lF []], y (n64 0)] n2 := ex (c3 k583 k585 k9) (by kernel_rfl)
theorem k587 : AC 110 [g [bF, lF []], g [bF, lF [u 2]]] [h [bF, lT []]] n2 := ex (c1 k586) (by kernel_rfl)
theorem k588 : AC 107 [x (lF [u 2]), x (lF [u 2])] [y (n64 0)] n2 := ex .nil (by kernel_rfl)
theorem k589 : AC 137 [x (lF [u 2]), x (w64 2)] [y l1, y (w64 0)] n2 := ex (c1 k2) (by kernel_rfl)
theorem k590 : AC 130 [x (lF [u 2]), x (lF [u 2])] [y l1, y (lF [])] n2 := ex (c3 k588 k589 k7) (by kernel_rfl)
theorem k591 : AC 124 [g [bF, lF [u 2]], g [bF, lF [u 2]]] [h [bF, l1], h [bF, lF []], y (n64 0)] n2 := ex (c3 k590 k3 k9) (by kernel_rfl)
theorem k592 : AC 110 [g [bF, lF [u 2]], g [bF, lF [u 2]]] [h [bF, l1]] n2 := ex (c1 k591) (by kernel_rfl)
theorem k593 : AC 79 [g [bF, lF []], g [bF, lF [u 2]]] [h [bF, lT [], bF, l1]] n2 := ex (c4 k581 k23 k587 k592) (by kernel_rfl)
theorem k594 : AC 50 [g [bF, l1, bF, lF [u 2]], g o0] [h [bF, lT [], bF, l1]] n2 := ex (c3 k573 k575 k593) (by kernel_rfl)
theorem k595 : AC 109 [x l1, x l1] [y l1] n2 := ex (c1 k0) (by kernel_rfl)
theorem k596 : AC 78 [g [bF, l1], g [bF, l1]] [h [bF, l1]] n2 := ex (c2 k595 k3) (by kernel_rfl)
theorem k597 : AC 50 [g [bF, l1, bF, lF [u 2]], g o1] [h [bF, l1, bF, lF [u 2]]] n2 := ex (c3 k596 k575 k568) (by kernel_rfl)
theorem k598 : AC 53 [g [bF, l1, bF, lF [u 2]]] [y (n64 1)] n1 := ex (c1 k12) (by kernel_rfl)
theorem k599 : AC 59 [x (lF [[bF, lT [], bF, l1], [bF, l1, bF, lF [u 2]]])] [y (lF [[bF, lT [], bF, l1], [bF, l1, bF, lF [u 2]]])] n1 := ex (c1 k598) (by kernel_rfl)
theorem k600 : AC 38 [g [bF, l1, bF, lF [u 2]], x (lF [o0, o1])] [y (lF [[bF, lT [], bF, l1], [bF, l1, bF, lF [u 2]]])] n2 := ex (c3 k594 k597 k599) (by kernel_rfl)
theorem k601 : AC 86 [g [bF, lT []], g [bF, lT []]] [y bT] n2 := ex .nil (by kernel_rfl)
theorem k602 : AC 86 [g [bF, l1], g [bF, l1]] [y bT] n2 := ex .nil (by kernel_rfl)
theorem k603 : AC 41 [g [bF, lT [], bF, l1], g [bF, lT [], bF, l1]] [y bT] n2 := ex (c2 k601 k602) (by kernel_rfl)
theorem k604 : AC 86 [g [bF, lF [u 2]], g [bF, lF [u 2]]] [y bT] n2 := ex .nil (by kernel_rfl)
theorem k605 : AC 41 [g [bF, l1, bF, lF [u 2]], g [bF, l1, bF, lF [u 2]]] [y bT] n2 := ex (c2 k602 k604) (by kernel_rfl)
theorem k606 : AC 19 [x (lF [[bF, lT [], bF, l1], [bF, l1, bF, lF [u 2]]]), x (lF [[bF, lT [], bF, l1], [bF, l1, bF, lF [u 2]]])] [y bT] n2 := ex (c2 k603 k605) (by kernel_rfl)
theorem k607 : AC 41 [g o1, g o1] [y bT] n2 := ex (c1 k602) (by kernel_rfl)
theorem k608 : AC 19 [x (lF [o1]), x (lF [o1])] [y bT] n2 := ex (c1 k607) (by kernel_rfl)
theorem k609 : AC 101 [x bT, x l1] [h [bT, l1]] n2 := ex (c1 k2) (by kernel_rfl)
theorem k610 : AC 66 [x (n64 (-1))] [h [bT, l1]] n1 := ex (c2 k1 k609) (by kernel_rfl)
theorem k611 : AC 22 [x (n64 (-1))] [h o2] n1 := ex (c2 k610 k4) (by kernel_rfl)
theorem k612 : AC 59 [x (lF [o2, o0, o1])] [y (lF [o2, o0, o1])] n1 := ex (c1 k13) (by kernel_rfl)
theorem k613 : AC 65 [x (lF [[.v (.int .i8 (-1))], [.v (.int .i8 0)], [.v (.int .i8 1)]]), x (n64 20)] [y (lF [o2, o0, o1])] n2 := ex (c4 k611 k11 k5 k612) (by kernel_rfl)
theorem k614 : AC 20 [x (lF [[.v (.int .i8 (-1))], [.v (.int .i8 0)], [.v (.int .i8 1)]])] [y (lF [o2, o0, o1])] n1 := ex (c1 k613) (by kernel_rfl)
theorem k615 : AC 59 [x (lF [(v 2), (w 2)])] [y (lF [(v 2), (w 2)])] n1 := ex (c1 k24) (by kernel_rfl)
theorem k616 : AC 65 [x (lF [[.v (.int .i8 (-2))], [.v (.int .i8 2)]]), x (n64 20)] [y (lF [(v 2), (w 2)])] n2 := ex (c3 k218 k22 k615) (by kernel_rfl)
theorem k617 : AC 20 [x (lF [[.v (.int .i8 (-2))], [.v (.int .i8 2)]])] [y (lF [(v 2), (w 2)])] n1 := ex (c1 k616) (by kernel_rfl)
theorem k618 : AC 68 [g [bT, l1, bF, lF [u 2]], g (v 2)] [h o1] n2 := ex (c4 k64 k441 k144 k53) (by kernel_rfl)
theorem k619 : AC 125 [x (lF []), x l1] [y l1] n2 := ex (c1 k35) (by kernel_rfl)
theorem k620 : AC 112 [g [bF, lF []], g [bF, l1]] [h [bF, l1]] n2 := ex (c2 k619 k38) (by kernel_rfl)
theorem k621 : AC 87 [g o0, g o1] [h o1] n2 := ex (c4 k131 k53 k620 k52) (by kernel_rfl)
theorem k622 : AC 63 [.bor 4 [o2, o0, o1], g [bT, l1, bF, lF [u 2]], x (lF [(v 2), (w 2)]), x (n64 1)] [] [some (.rows 4 [o2, o1, [bF, lT [], bF, l1]] false false), none, none, none] := ex (d4 k60 k439 k618 k621 (c3 k63 k76 k82)) (by kernel_rfl)
theorem k623 : AC 63 [.bor 4 [o2, o1, [bF, lT [], bF, l1]], g [bT, l1, bF, lF [u 2]], x (lF [(v 2), (w 2)]), x (n64 0)] [] [some (.rows 4 [[bF, lT [], bF, l1], [bF, lT [], bF, l1], [bF, lT [], bF, l1]] false false), none, none, none] := ex (d4 k60 k439 k618 k450 (c3 k63 k76 k82)) (by kernel_rfl)
theorem k624 : AC 64 [x (lF [[bF, l1, bF, lF [u 2]], [bF, l1, bF, lF [u 2]]])] [y (lF [[bF, l1, bF, lF [u 2]], [bF, l1, bF, lF [u 2]]])] n1 := ex (c1 k104) (by kernel_rfl)
open Go Go.Abs Go.Proofs
theorem k625 : AC 23 [x (lF [o2, o0, o1]), x (lF [(v 2), (w 2)])] [y (lF [[bF, l1, bF, lF [u 2]], [bF, l1, bF, lF [u 2]]]), y (lF []), y (n64 0)] n2 := ex (d4 k29 k42 k55 k58 (c4 k622 k623 k624 k122)) (by kernel_rfl)
theorem k626 : AC 71 [x (lF [[bF, l1, bF, lF [u 2]], [bF, l1, bF, lF [u 2]]]), g o1] [] n2 := ex .nil (by kernel_rfl)
theorem k627 : AC 70 [x (lF [o2, o0, o1]), x (lF [(v 2), (w 2)]), x (.v (.func (.func 71) #[] #[]))] [y (lF [(v 2), (w 2)])] [none, none, none] := ex (c3 k625 k120 k626) (by kernel_rfl)
theorem k628 : AC 63 [.bor 4 [[bF, lT [], bF, l1], [bF, lT [], bF, l1]], g [bF, l1, bF, lF [u 2]], x (lF [(v 2), (w 2)]), x (n64 0)] [] [some (.rows 4 [o2, o1] false false), none, none, none] := ex (d4 k104 k439 k442 k161 (c3 k63 k202 k148)) (by kernel_rfl)
theorem k629 : AC 21 [g [bF, l1, bF, lF [u 2]], x (lF [(v 2), (w 2)])] [y (lF [o2, o1])] n2 := ex (c3 k42 k628 k517) (by kernel_rfl)
theorem k630 : AC 32 [x (lF [(v 2), (w 2)])] [y (lF [o2, o1])] n1 := ex (c2 k29 k629) (by kernel_rfl)
theorem k631 : AC 25 [x (lF [o2, o0, o1]), x (lF [(v 2), (w 2)])] [y (lF [o2, o1])] n2 := ex (c2 k627 k630) (by kernel_rfl)
theorem k632 : AC 59 [x (lF [o2, o1])] [y (lF [o2, o1])] n1 := ex (c1 k13) (by kernel_rfl)
theorem k633 : AC 65 [x (lF [[.v (.int .i8 (-1))], [.v (.int .i8 1)]]), x (n64 20)] [y (lF [o2, o1])] n2 := ex (c3 k611 k5 k632) (by kernel_rfl)
theorem k634 : AC 20 [x (lF [[.v (.int .i8 (-1))], [.v (.int .i8 1)]])] [y (lF [o2, o1])] n1 := ex (c1 k633) (by kernel_rfl)
theorem k635 : AC 86 [g [bT, l1], g [bT, l1]] [y bT] n2 := ex .nil (by kernel_rfl)
theorem k636 : AC 41 [g o2, g o2] [y bT] n2 := ex (c2 k635 k602) (by kernel_rfl)
theorem k637 : AC 19 [x (lF [o2, o1]), x (lF [o2, o1])] [y bT] n2 := ex (c2 k636 k607) (by kernel_rfl)
theorem k638 : AC 70 [x (lT []), x (lT []), x (.v (.func (.func 71) #[] #[]))] [y (lT [])] [none, none, none] := ex .nil (by kernel_rfl)
theorem k639 : AC 32 [x (lT [])] [y (lT [])] n1 := ex .nil (by kernel_rfl)
theorem k640 : AC 25 [x (lT []), x (lT [])] [y (lT [])] n2 := ex (c2 k638 k639) (by kernel_rfl)
theorem k641 : AC 120 [x (lF [u 3, u 0])] [y (lF [u 3])] n1 := ex .nil (by kernel_rfl)
theorem k642 : AC 102 [x (w64 3)] [y (lF [u 3])] n1 := ex (c1 k641) (by kernel_rfl)
theorem k643 : AC 120 [x (lF [u 3])] [y (lF [u 3])] n1 := ex .nil (by kernel_rfl)
theorem k644 : AC 101 [x bF, x (lF [u 3])] [h [bF, lF [u 3]]] n2 := ex (c1 k643) (by kernel_rfl)
theorem k645 : AC 66 [x (n64 3)] [h [bF, lF [u 3]]] n1 := ex (c2 k642 k644) (by kernel_rfl)
theorem k646 : AC 22 [x (n64 3)] [h (w 3)] n1 := ex (c2 k645 k4) (by kernel_rfl)
theorem k647 : AC 91 [g [bF, lF [u 3]]] [y (n64 1)] n1 := ex .nil (by kernel_rfl)
theorem k648 : AC 53 [g (w 3)] [y (n64 1)] n1 := ex (c1 k647) (by kernel_rfl)
theorem k649 : AC 59 [x (lF [(w 3)])] [y (lF [(w 3)])] n1 := ex (c1 k648) (by kernel_rfl)
theorem k650 : AC 65 [x (lF [[.v (.int .i8 3)]]), x (n64 20)] [y (lF [(w 3)])] n2 := ex (c2 k646 k649) (by kernel_rfl)
theorem k651 : AC 20 [x (lF [[.v (.int .i8 3)]])] [y (lF [(w 3)])] n1 := ex (c1 k650) (by kernel_rfl)
theorem k652 : AC 70 [x (lF [(w 3)]), x (lT []), x (.v (.func (.func 71) #[] #[]))] [y (lF [(w 3)])] [none, none, none] := ex .nil (by kernel_rfl)
theorem k653 : AC 67 [g (w 3)] [h [bF, l1, bF, lF [u 3]], y (n64 0)] n1 := ex (c1 k477) (by kernel_rfl)
theorem k654 : AC 98 [g [bF, lF [u 3]], g [bF, lF [u 3]]] [h [bF, lF [u 3]]] n2 := ex (d4 k241 k276 k278 k240 (c1 k242)) (by kernel_rfl)
theorem k655 : AC 104 [g [bF, lF [u 3]], g [bF, lF [u 3]]] [h o1] n2 := ex (c3 k247 k654 k309) (by kernel_rfl)
theorem k656 : AC 68 [g [bF, l1, bF, lF [u 3]], g (w 3)] [h o1] n2 := ex (c3 k52 k655 k53) (by kernel_rfl)
theorem k657 : AC 63 [.bor 4 [[bF, lT [], bF, l1]], g [bF, l1, bF, lF [u 3]], x (lF [(w 3)]), x (n64 0)] [] [some (.rows 4 [o1] false false), none, none, none] := ex (c4 k375 k478 k656 k148) (by kernel_rfl)
theorem k658 : AC 21 [g [bF, l1, bF, lF [u 3]], x (lF [(w 3)])] [y (lF [o1])] n2 := ex (c3 k125 k657 k107) (by kernel_rfl)
theorem k659 : AC 32 [x (lF [(w 3)])] [y (lF [o1])] n1 := ex (c2 k653 k658) (by kernel_rfl)
theorem k660 : AC 25 [x (lF [(w 3)]), x (lT [])] [y (lF [o1])] n2 := ex (c2 k652 k659) (by kernel_rfl)
theorem k661 : AC 91 [g [bT, l1]] [y (n64 (-1))] n1 := ex .nil (by kernel_rfl)
theorem k662 : AC 53 [g o2] [y (n64 (-1))] n1 := ex (c1 k661) (by kernel_rfl)
theorem k663 : AC 59 [x (lF [o2])] [y (lF [o2])] n1 := ex (c1 k662) (by kernel_rfl)
theorem k664 : AC 65 [x (lF [[.v (.int .i8 (-1))]]), x (n64 20)] [y (lF [o2])] n2 := ex (c2 k611 k663) (by kernel_rfl)
theorem k665 : AC 20 [x (lF [[.v (.int .i8 (-1))]])] [y (lF [o2])] n1 := ex (c1 k664) (by kernel_rfl)
theorem k666 : AC 19 [x (lF [o2]), x (lF [o2])] [y bT] n2 := ex (c1 k636) (by kernel_rfl)
theorem k667 : AC 59 [x (lF [[bF, l1, bF, lF [u 2]]])] [y (lF [[bF, l1, bF, lF [u 2]]])] n1 := ex (c1 k598) (by kernel_rfl)
theorem k668 : AC 51 [g [bF, l1, bF, lF [u 2]]] [y (lF [[bF, l1, bF, lF [u 2]]])] n1 := ex (c1 k667) (by kernel_rfl)
theorem k669 : AC 19 [x (lF [[bF, l1, bF, lF [u 2]]]), x (lF [[bF, l1, bF, lF [u 2]]])] [y bT] n2 := ex (c1 k605) (by kernel_rfl)
theorem k670 : AC 86 [g [bF, lT []], g [bF, lF []]] [y bT] n2 := ex .nil (by kernel_rfl)
theorem k671 : AC 41 [g [bF, lT [], bF, l1], g o0] [y bT] n2 := ex (c2 k670 k602) (by kernel_rfl)
theorem k672 : AC 19 [x (lF [[bF, lT [], bF, l1], o1]), x (lF [o0, o1])] [y bT] n2 := ex (c2 k671 k607) (by kernel_rfl)
theorem k673 : AC 59 [x (lF [(v 2), o0, o1])] [y (lF [(v 2), o0, o1])] n1 := ex (c1 k13) (by kernel_rfl)
theorem k674 : AC 65 [x (lF [[.v (.int .i8 (-2))], [.v (.int .i8 0)], [.v (.int .i8 1)]]), x (n64 20)] [y (lF [(v 2), o0, o1])] n2 := ex (c4 k218 k11 k5 k673) (by kernel_rfl)
theorem k675 : AC 20 [x (lF [[.v (.int .i8 (-2))], [.v (.int .i8 0)], [.v (.int .i8 1)]])] [y (lF [(v 2), o0, o1])] n1 := ex (c1 k674) (by kernel_rfl)
theorem k676 : AC 63 [.bor 4 [(v 2), o0, o1], g o2, x (lF [o2, o1]), x (n64 1)] [] [some (.rows 4 [(v 2), o1, [bF, lT [], bF, l1]] false false), none, none, none] := ex (d4 k128 k145 k621 k106 (c2 k129 k82)) (by kernel_rfl)
theorem k677 : AC 63 [.bor 4 [(v 2), o1, [bF, lT [], bF, l1]], g o2, x (lF [o2, o1]), x (n64 0)] [] [some (.rows 4 [o2, [bF, lT [], bF, l1], [bF, lT [], bF, l1]] false false), none, none, none] := ex (d4 k128 k145 k510 k106 (c2 k129 k82)) (by kernel_rfl)
theorem k678 : AC 23 [x (lF [(v 2), o0, o1]), x (lF [o2, o1])] [y (lF [o1, o1]), y (lF [o2]), y (n64 0)] n2 := ex (d4 k124 k42 k126 k127 (c4 k676 k677 k167 k137)) (by kernel_rfl)
theorem k679 : AC 88 [g o1, x (n64 2)] [h o1] n2 := ex (c2 k120 k126) (by kernel_rfl)
theorem k680 : AC 88 [g o2, x (n64 1)] [h o2] n2 := ex (c2 k120 k171) (by kernel_rfl)
theorem k681 : AC 46 [x (lF [(v 2), o0, o1]), x (lF [o2, o1])] [h o2] n2 := ex (d4 k120 k678 k679 k126 (c2 k680 k171)) (by kernel_rfl)
theorem k682 : AC 23 [x (lF [(w 3)]), x (lF [o1, o0, o1])] [y (lT []), y (lF [(w 3)]), y (n64 0)] n2 := ex .nil (by kernel_rfl)
theorem k683 : AC 88 [g o1, x (n64 0)] [h o1] n2 := ex (c1 k120) (by kernel_rfl)
theorem k684 : AC 68 [g o1, g (w 3)] [h (w 3)] n2 := ex (c4 k52 k246 k286 k53) (by kernel_rfl)
theorem k685 : AC 68 [g (w 3), g (w 3)] [h (w 9)] n2 := ex (c3 k246 k330 k53) (by kernel_rfl)
theorem k686 : AC 88 [g (w 3), x (n64 2)] [h (w 9)] n2 := ex (c3 k120 k684 k685) (by kernel_rfl)
theorem k687 : AC 104 [g [bF, lF [u 9]], g [bF, l1]] [h (w 9)] n2 := ex (c1 k50) (by kernel_rfl)
theorem k688 : AC 68 [g o1, g (w 9)] [h (w 9)] n2 := ex (c4 k52 k687 k340 k53) (by kernel_rfl)
theorem k689 : AC 46 [x (lF [(w 3)]), x (lF [o1, o0, o1])] [h (w 9)] n2 := ex (d4 k120 k682 k683 k126 (c2 k686 k688)) (by kernel_rfl)
theorem k690 : AC 120 [x (lF [u 9, u 0])] [y (lF [u 9])] n1 := ex .nil (by kernel_rfl)
theorem k691 : AC 102 [x (w64 9)] [y (lF [u 9])] n1 := ex (c1 k690) (by kernel_rfl)
theorem k692 : AC 120 [x (lF [u 9])] [y (lF [u 9])] n1 := ex .nil (by kernel_rfl)
theorem k693 : AC 101 [x bF, x (lF [u 9])] [h [bF, lF [u 9]]] n2 := ex (c1 k692) (by kernel_rfl)
theorem k694 : AC 66 [x (n64 9)] [h [bF, lF [u 9]]] n1 := ex (c2 k691 k693) (by kernel_rfl)
theorem k695 : AC 22 [x (n64 9)] [h (w 9)] n1 := ex (c2 k694 k4) (by kernel_rfl)
theorem k696 : AC 86 [g [bF, lF [u 9]], g [bF, lF [u 9]]] [y bT] n2 := ex .nil (by kernel_rfl)
theorem k697 : AC 41 [g (w 9), g (w 9)] [y bT] n2 := ex (c2 k696 k602) (by kernel_rfl)
theorem k698 : AC 120 [x (lF [u 5, u 0])] [y (lF [u 5])] n1 := ex .nil (by kernel_rfl)
theorem k699 : AC 102 [x (w64 5)] [y (lF [u 5])] n1 := ex (c1 k698) (by kernel_rfl)
theorem k700 : AC 120 [x (lF [u 5])] [y (lF [u 5])] n1 := ex .nil (by kernel_rfl)
theorem k701 : AC 101 [x bF, x (lF [u 5])] [h [bF, lF [u 5]]] n2 := ex (c1 k700) (by kernel_rfl)
theorem k702 : AC 66 [x (n64 5)] [h [bF, lF [u 5]]] n1 := ex (c2 k699 k701) (by kernel_rfl)
theorem k703 : AC 22 [x (n64 5)] [h (w 5)] n1 := ex (c2 k702 k4) (by kernel_rfl)
theorem k704 : AC 91 [g [bF, lF [u 5]]] [y (n64 1)] n1 := ex .nil (by kernel_rfl)
theorem k705 : AC 53 [g (w 5)] [y (n64 1)] n1 := ex (c1 k704) (by kernel_rfl)
theorem k706 : AC 59 [x (lF [(w 5)])] [y (lF [(w 5)])] n1 := ex (c1 k705) (by kernel_rfl)
theorem k707 : AC 65 [x (lF [[.v (.int .i8 5)]]), x (n64 20)] [y (lF [(w 5)])] n2 := ex (c2 k703 k706) (by kernel_rfl)
theorem k708 : AC 20 [x (lF [[.v (.int .i8 5)]])] [y (lF [(w 5)])] n1 := ex (c1 k707) (by kernel_rfl)
theorem k709 : AC 88 [g (w 5), x (n64 0)] [h o1] n2 := ex (c1 k120) (by kernel_rfl)
theorem k710 : AC 46 [x (lF [(w 2)]), x (lF [(w 5)])] [h o1] n2 := ex (c3 k120 k709 k126) (by kernel_rfl)
theorem k711 : AC 46 [x (lF [o0, o1]), x (lT [])] [h [bF, lT [], bF, l1]] n2 := ex (c1 k41) (by kernel_rfl)
theorem k712 : AC 59 [x (lF [o0, o0, o1])] [y (lF [o0, o0, o1])] n1 := ex (c1 k13) (by kernel_rfl)
theorem k713 : AC 65 [x (lF [[.v (.int .i8 0)], [.v (.int .i8 0)], [.v (.int .i8 1)]]), x (n64 20)] [y (lF [o0, o0, o1])] n2 := ex (c3 k11 k5 k712) (by kernel_rfl)
theorem k714 : AC 20 [x (lF [[.v (.int .i8 0)], [.v (.int .i8 0)], [.v (.int .i8 1)]])] [y (lF [o0, o0, o1])] n1 := ex (c1 k713) (by kernel_rfl)
theorem k715 : AC 17 [x (lT []), x (lF [o1, o1])] [y (lT [])] n2 := ex .nil (by kernel_rfl)
theorem k716 : AC 60 [x (lT []), g o1, x (lF [o1]), x (n64 0)] [y (lF [o1])] n4 := ex (c3 k125 k183 k107) (by kernel_rfl)
theorem k717 : AC 16 [x (lT []), x (lF [o1])] [y (lF [o1])] n2 := ex (c2 k120 k716) (by kernel_rfl)
theorem k718 : AC 17 [x (lF [o1]), x (lF [o1, o1])] [y (lF [o1, o1])] n2 := ex (c3 k42 k179 k167) (by kernel_rfl)
theorem k719 : AC 63 [.bor 4 [o1, o1], g o1, x (lF []), x (n64 0)] [] [some (.rows 4 [o1, o1] false false), none, none, none] := ex (c1 k106) (by kernel_rfl)
theorem k720 : AC 60 [x (lF [o1, o1]), g o1, x (lF []), x (n64 0)] [y (lF [o1, o1])] n4 := ex (c3 k42 k719 k167) (by kernel_rfl)
theorem k721 : AC 16 [x (lF [o1, o1]), x (lF [])] [y (lF [o1, o1])] n2 := ex (c2 k120 k720) (by kernel_rfl)
theorem k722 : AC 63 [.bor 4 [[bF, lT [], bF, l1], [bF, lT [], bF, l1], [bF, lT [], bF, l1]], g o1, x (lF [o1, o1]), x (n64 0)] [] [some (.rows 4 [o1, o1, [bF, lT [], bF, l1]] false false), none, none, none] := ex (c3 k106 k126 k148) (by kernel_rfl)
theorem k723 : AC 125 [x l1, x l1] [y (lF [u 2])] n2 := ex (c1 k65) (by kernel_rfl)
theorem k724 : AC 112 [g [bF, l1], g [bF, l1]] [h [bF, lF [u 2]]] n2 := ex (c2 k723 k67) (by kernel_rfl)
theorem k725 : AC 87 [g o1, g o1] [h (w 2)] n2 := ex (c3 k53 k724 k229) (by kernel_rfl)
theorem k726 : AC 63 [.bor 4 [o1, o1, [bF, lT [], bF, l1]], g o1, x (lF [o1, o1]), x (n64 1)] [] [some (.rows 4 [o1, (w 2), o1] false false), none, none, none] := ex (c4 k106 k126 k725 k148) (by kernel_rfl)
theorem k727 : AC 64 [x (lF [o1, (w 2), o1])] [y (lF [o1, (w 2), o1])] n1 := ex (c1 k106) (by kernel_rfl)
theorem k728 : AC 17 [x (lF [o1, o1]), x (lF [o1, o1])] [y (lF [o1, (w 2), o1])] n2 := ex (c4 k222 k722 k726 k727) (by kernel_rfl)
theorem k729 : AC 63 [.bor 4 [o1, (w 2), o1], g o1, x (lF []), x (n64 0)] [] [some (.rows 4 [o1, (w 2), o1] false false), none, none, none] := ex (c1 k106) (by kernel_rfl)
theorem k730 : AC 60 [x (lF [o1, (w 2), o1]), g o1, x (lF []), x (n64 0)] [y (lF [o1, (w 2), o1])] n4 := ex (c3 k222 k729 k727) (by kernel_rfl)
theorem k731 : AC 16 [x (lF [o1, (w 2), o1]), x (lF [])] [y (lF [o1, (w 2), o1])] n2 := ex (c2 k120 k730) (by kernel_rfl)
theorem k732 : AC 44 [x (lF [o0, o0, o1]), x (lF [o1, o1])] [y (lF [o1, (w 2), o1])] n2 := ex (d4 k715 k107 k717 k718 (c4 k429 k721 k728 k731)) (by kernel_rfl)
theorem k733 : AC 59 [x (lF [o1, (w 2), o1])] [y (lF [o1, (w 2), o1])] n1 := ex (c1 k13) (by kernel_rfl)
theorem k734 : AC 65 [x (lF [[.v (.int .i8 1)], [.v (.int .i8 2)], [.v (.int .i8 1)]]), x (n64 20)] [y (lF [o1, (w 2), o1])] n2 := ex (c3 k5 k22 k733) (by kernel_rfl)
theorem k735 : AC 20 [x (lF [[.v (.int .i8 1)], [.v (.int .i8 2)], [.v (.int .i8 1)]])] [y (lF [o1, (w 2), o1])] n1 := ex (c1 k734) (by kernel_rfl)
theorem k736 : AC 41 [g (w 2), g (w 2)] [y bT] n2 := ex (c2 k604 k602) (by kernel_rfl)
theorem k737 : AC 19 [x (lF [o1, (w 2), o1]), x (lF [o1, (w 2), o1])] [y bT] n2 := ex (c2 k607 k736) (by kernel_rfl)
theorem k738 : AC 95 [g [bF, lF []]] [y bT] n1 := ex .nil (by kernel_rfl)
theorem k739 : AC 95 [g [bF, l1]] [y bT] n1 := ex .nil (by kernel_rfl)
theorem k740 : AC 57 [g o0] [y bT] n1 := ex (c4 k738 k739 k103 k50) (by kernel_rfl)
theorem k741 : AC 57 [g o1] [y bT] n1 := ex (c3 k739 k103 k50) (by kernel_rfl)
theorem k742 : AC 13 [x (lF [o0, o1])] [y bT] n1 := ex (c3 k740 k741 k106) (by kernel_rfl)
theorem k743 : AC 13 [x (lF [o0])] [y bF] n1 := ex (c2 k740 k62) (by kernel_rfl)
theorem k744 : AC 12 [] [y bT] [] := ex (d4 k16 k27 k108 k111 (d4 k112 k115 k118 k197 (d4 k200 k215 k221 k544 (d4 k570 k600 k606 k608 (d4 k614 k617 k631 k634 (d4 k637 k640 k651 k660 (d4 k665 k666 k668 k669 (d4 k672 k675 k681 k611 (d4 k636 k689 k695 k697 (d4 k708 k710 k5 k607 (d4 k711 k11 k671 k714 (d4 k732 k735 k737 k742 (c1 k743))))))))))))) (by kernel_rfl)
end Go.Proofs.YtdhidmcjglokcaaGreat.Mem
end
