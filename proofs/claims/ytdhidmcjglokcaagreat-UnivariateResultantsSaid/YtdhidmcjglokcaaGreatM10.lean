/-
  A part of the proof: RupC07, RupD07, RupE07, ResA07, ResB07, ResC07, ResD07, GcdN07, GcdP07, ResE07, BezT07, BezP07, UplB07.
-/
import Derived.Test.YtdhidmcjglokcaaGreatM9
set_option maxHeartbeats 0
set_option maxRecDepth 100000
set_option linter.unusedVariables false
set_option linter.unusedSimpArgs false
set_option linter.unusedSectionVars false
section
namespace Go.Proofs.YtdhidmcjglokcaaGreat
open Go Go.Abs Go.Abs.M Go.Proofs
structure IsDm (P B : List Rat) (k S : Nat) (Q R : List Rat) : Prop where
 q : PB (Abs.ev Q) k S Q
 r : PB (Abs.ev R) (B.length - 1) S R
 len : R.length < B.length
 eq : ∀ x, Abs.ev (P.drop (P.length - k)) x = Abs.ev Q x * Abs.ev B x + Abs.ev R x
def rdmS0 (X Y : Abs.Rows) (i : Int) : St := mkSt 58 [.c (.t (.lst false X)), .c (.t (.lst false Y)), .junk, .junk, .junk, .junk, .junk, .c (.sl 2 0 0 false), .c (.sl 3 0 0 false), vi .i64 i] [none, none, some (.rows 4 [] true false), some (.rows 4 [] true false)]
def rdmS1 (X Y Q R : Abs.Rows) (i : Int) : St := mkSt 58 [.c (.t (.lst false X)), .c (.t (.lst false Y)), .junk, .junk, .junk, .junk, .junk, .c (.t (.lst false Q)), .c (.t (.lst false R)), vi .i64 i] [none, none]
theorem rdm_step {f g : Rat -> Rat} {n m s t : Nat} {P B : List Rat} (hP : PB f n s P) (hB : PB g m t B) (h0 : B ≠ []) (hn : n <= 400) (hm : m <= 400) {S : Nat} (hS : S = s + n * (t + 1)) (hs : 2 * S + 2 * t + 2 * s <= 1900000000) {k i : Nat} (hki : i + 1 + k = P.length) {Q R : List Rat} (h : IsDm P B k S Q R) :
  ∃ R1 C R2 Q1, ACall Tryz.prog 74 [.val (tl (ur R))] ⟨[.val (tl (ur R1))], [none]⟩ /\ ACall Tryz.prog 51 [.val (.agg (qc (P.getD i 0)).row)] ⟨[.val (tl (ur C))], [none]⟩ /\
   ACall Tryz.prog 36 [.val (tl (ur R1)), .val (tl (ur C))] ⟨[.val (tl (ur R2))], [none, none]⟩ /\ ACall Tryz.prog 74 [.val (tl (ur Q))] ⟨[.val (tl (ur Q1))], [none]⟩ /\ R2.length <= B.length /\ R2.length <= 900 /\
   (R2.length < B.length -> IsDm P B (k + 1) S Q1 R2) /\
   (R2.length = B.length -> ∃ c M R3 C2 Q2, ACall Tryz.prog 80 [.val (.agg (qc (R2.getD (R2.length - 1) 0)).row), .val (.agg (qc (B.getD (B.length - 1) 0)).row)] ⟨[.val (.agg (qc c).row), .val (ti .i64 0)], [none, none]⟩ /\
    ACall Tryz.prog 38 [.val (.agg (qc c).row), .val (tl (ur B))] ⟨[.val (tl (ur M))], [none, none]⟩ /\ ACall Tryz.prog 37 [.val (tl (ur R2)), .val (tl (ur M))] ⟨[.val (tl (ur R3))], [none, none]⟩ /\
    ACall Tryz.prog 51 [.val (.agg (qc c).row)] ⟨[.val (tl (ur C2))], [none]⟩ /\ ACall Tryz.prog 36 [.val (tl (ur Q1)), .val (tl (ur C2))] ⟨[.val (tl (ur Q2))], [none, none]⟩ /\ IsDm P B (k + 1) S Q2 R3) := by
 have hPl := hP.len
 have hBl := hB.len
 have hB1 : B.length ≠ 0 := fun h1 => h0 (List.length_eq_zero_iff.1 h1)
 have hD : PB (Abs.ev (P.drop (P.length - (k + 1)))) (k + 1) s (ptrim (P.drop (P.length - (k + 1)))) := PB.of_trim (fun x => rfl) (by rw [List.length_drop]; omega) ((hP.cf.comp fun j => P.length - (k + 1) + j).congr fun j => by
  rw [List.getD_eq_getElem?_getD, List.getD_eq_getElem?_getD, List.getElem?_drop])
 have hDl := hD.len
 have hkn : (k + 1) * (t + 1) <= n * (t + 1) := Nat.mul_le_mul_right _ (by omega)
 obtain ⟨Qn, Rn, hQn, hRn, hlt, heq, _⟩ := pb_divmod (k + 1) hD hB h0 (by omega) (by omega) (by omega) (by omega)
 have hQn : PB (Abs.ev Qn) (k + 1) S Qn := hQn.mono (Nat.le_refl _) (by omega)
 have hRn : PB (Abs.ev Rn) (B.length - 1) S Rn := hRn.mono (Nat.le_refl _) (by omega)
 have hnew : ∀ {Q' R' : List Rat}, ptrim Q' = Q' -> ptrim R' = R' -> R'.length < B.length -> (∀ x, Abs.ev (P.drop (P.length - (k + 1))) x = Abs.ev Q' x * Abs.ev B x + Abs.ev R' x) -> IsDm P B (k + 1) S Q' R' := fun {Q' R'} q1 r1 l1 e1 => by
  obtain ⟨e2, e3⟩ := div_uniq q1 r1 hQn.tr hRn.tr hB.tr l1 hlt fun x => by rw [<- e1, heq, hB.ev]
  subst e2 e3
  exact ⟨hQn, hRn, l1, e1⟩
 obtain ⟨R1, hR1, cR1⟩ := rpb_shift h.r (by omega)
 obtain ⟨C, hC, cC⟩ := pb_const (hP.cf.comp fun _ => i)
 obtain ⟨R2, hR2, cR2⟩ := rpb_add hR1 hC (by omega) (by omega) (by omega)
 obtain ⟨Q1, hQ1, cQ1⟩ := rpb_shift h.q (by omega)
 have hR2l := hR2.len
 have hev2 : ∀ x, Abs.ev (P.drop (P.length - (k + 1))) x = Abs.ev Q1 x * Abs.ev B x + Abs.ev R2 x := fun x => by
  rw [drop_cons hki, hQ1.ev, hR2.ev]
  simp only [Abs.ev]
  rw [h.eq]; grind
 refine ⟨R1, C, R2, Q1, cR1, cC, cR2, cQ1, by omega, by omega, fun hl => hnew hQ1.tr hR2.tr hl hev2, fun hl => ?_⟩
 have hR20 : R2 ≠ [] := fun h1 => by rw [h1] at hl; simp at hl; omega
 have hLB := tr_last hB.tr h0
 obtain ⟨q1, cdv⟩ := rqdiv_row hLB (cf_qs hR2.cf (R2.length - 1)) (cf_qs hB.cf (B.length - 1)) (by omega)
 have hcf : CF (S + s + 1 + t) (fun _ => R2.getD (R2.length - 1) 0 * (B.getD (B.length - 1) 0)⁻¹) := by
  have a1 := (hB.cf.comp fun _ => B.length - 1).inv hLB
  exact (CF.scale (hR2.cf.comp fun _ => R2.length - 1) a1).mono (by omega)
 obtain ⟨c, hc⟩ : ∃ c, c = R2.getD (R2.length - 1) 0 * (B.getD (B.length - 1) 0)⁻¹ := ⟨_, rfl⟩
 rw [<- hc] at cdv hcf
 obtain ⟨M, hM, cM⟩ := rpb_scale hcf hB (by omega) (by omega)
 obtain ⟨R3, hR3, cR3⟩ := rpb_sub hR2 hM (by omega) (by omega) (by omega)
 obtain ⟨C2, hC2, cC2⟩ := pb_const hcf
 obtain ⟨Q2, hQ2, cQ2⟩ := rpb_add hQ1 hC2 (by omega) (by omega) (by omega)
 refine ⟨c, M, R3, C2, Q2, cdv, cM, cR3, cC2, cQ2, hnew hQ2.tr hR3.tr ?_ fun x => by rw [hev2, hQ2.ev, hR3.ev, hQ1.ev, hR2.ev, hB.ev]; grind⟩
 have hle : R3.length <= B.length - 1 := by
  rw [<- hR3.tr]
  refine trim_len_le fun j hj => ?_
  have e := ev_coef (P := R3) (Q := pshift R2 (-1) (lsc c B) 0) (fun x => by rw [hR3.ev, ev_shift, qa7, hR2.ev, hB.ev]; grind) j
  rw [e, pshift_get, if_pos (Nat.zero_le _), Nat.sub_zero, lsc_get]
  by_cases hj2 : j = B.length - 1
  ·have hi := Rat.inv_mul_cancel _ hLB
   rw [hj2, hc, hl]
   grind
  ·rw [List.getD_eq_getElem?_getD, List.getElem?_eq_none (by omega), List.getD_eq_getElem?_getD, List.getElem?_eq_none (by omega)]
   simp only [Option.getD_none]; grind
 omega
theorem rpb_divmod {f g : Rat -> Rat} {n m s t : Nat} {P B : List Rat} (hP : PB f n s P) (hB : PB g m t B) (h0 : B ≠ []) (hn : n <= 400) (hm : m <= 400) (S : Nat) (hS0 : S = s + n * (t + 1)) (hs : 2 * S + 2 * t + 2 * s <= 1900000000) :
  ∃ Q R, PB (Abs.ev Q) n S Q /\ PB (Abs.ev R) (B.length - 1) S R /\ R.length < B.length /\ (∀ x, f x = Abs.ev Q x * g x + Abs.ev R x) /\
   ACall Tryz.prog 34 [.val (tl (ur P)), .val (tl (ur B))] ⟨[.val (tl (ur Q)), .val (tl (ur R)), .val (ti .i64 0)], [none, none]⟩ := by
 have hPl := hP.len
 have hBl := hB.len
 have hB1 : B.length ≠ 0 := fun h1 => h0 (List.length_eq_zero_iff.1 h1)
 have hkn : P.length * (t + 1) <= n * (t + 1) := Nat.mul_le_mul_right _ hPl
 obtain ⟨Qf, Rf, hQf, hRf, hltf, heqf, _⟩ := pb_divmod P.length hP hB h0 (by omega) (by omega) (by omega) (by omega)
 have huniq : ∀ {Q R : List Rat}, IsDm P B P.length S Q R -> Q = Qf /\ R = Rf := fun {Q R} h => div_uniq h.q.tr h.r.tr hQf.tr hRf.tr hB.tr h.len hltf fun x => by
  have := h.eq x
  rw [Nat.sub_self, List.drop_zero] at this
  rw [<- this, hP.ev, heqf, hB.ev]
 have hinit : IsDm P B 0 S [] [] := ⟨(PB.nil S).congr fun x => rfl, ((PB.nil S).mono (Nat.zero_le _) (Nat.le_refl _)).congr fun x => rfl, by simp; omega, fun x => by rw [Nat.sub_zero, List.drop_length]; simp only [Abs.ev]; grind⟩
 refine ⟨Qf, Rf, hQf.mono hPl (by omega), hRf.mono (Nat.le_refl _) (by omega), hltf, heqf, ?_⟩
 obtain ⟨d, hd⟩ : ∃ d, d = P.length := ⟨_, rfl⟩
 obtain ⟨X, hX⟩ : ∃ Y, Y = ur P := ⟨_, rfl⟩
 obtain ⟨Y, hY⟩ : ∃ Y, Y = ur B := ⟨_, rfl⟩
 obtain ⟨T1, hT1⟩ : ∃ Y, Y = ur Qf := ⟨_, rfl⟩
 obtain ⟨T2, hT2⟩ : ∃ Y, Y = ur Rf := ⟨_, rfl⟩
 have hXl : X.length = d := by rw [hX, qag, hd]
 have lY : Y.length = B.length := by rw [hY, qag]
 rw [<- hX, <- hY, <- hT1, <- hT2]
 refine callZ ccOk mixed [.val, .val, .val] Tryz.func34 rfl rfl (by kernel_rfl) fun zA zB zC zD zE zF zG zH zI zJ zK zL zM zN zO zP zQ zR zS zT zU zV zX zY zZ za zb zc zd ze zg zh zi zj zk zl zm zn zo zq zr zt zu zw zx zy zz zW zth A L F hS hF => ?_
 have lx : zh X = d := by rw [hS.len, hXl]
 obtain ⟨N, hN, hN2⟩ : ∃ N : Int, N + 1 = (d : Int) /\ zA .i64 (zC (zY (zh X)) 1) = N := ⟨(d : Int) - 1, by omega, by rw [hS.ofN, lx, hS.sub, hS.wrap, wrap_i64 (by omega) (by omega)]⟩
 have e1 : zM (zY (zh Y)) 0 = false := by rw [hS.eq, hS.ofN, hS.len, lY]; exact decide_eq_false (by omega)
 have f0 : zn 0 0 [] = true := by rw [hS.fit]; rfl
 have f1 : zo [] 0 0 = [] := by rw [hS.part]; rfl
 cbv
 have hN : N + 1 = (d : Int) := hN
 refine bF e1 ?_
 refine loopZ ccOk mixed hS (fun (i : Nat) s' => ∃ (k : Nat) (I : Int), I + 1 = i /\ i + k = d /\ ((k = 0 /\ s' = rdmS0 X Y I) ∨ ∃ Q R UQ UR, IsDm P B k S Q R /\ UQ = ur Q /\ UR = ur R /\ s' = rdmS1 X Y UQ UR I)) (n := d) (s0 := rdmS0 X Y N) (qaz ?_ ?_) rfl (by show 2 <= 4; omega) ?_ ?_
 ·simp [leT, rdmS0, mkSt, vi, hN2]
 ·simp [leH, rdmS0, mkSt]
 ·exact ⟨0, N, hN, by omega, .inl ⟨rfl, rfl⟩⟩
 ·rintro i s1 ⟨k, I, hI, hik, hcase⟩
  by_cases hi : i = 0
  ·have l1 : zP 0 I = false := by rw [hS.le]; exact decide_eq_false (by omega)
   rcases hcase with ⟨hk, hs1⟩ | ⟨Q, R, UQ, UR, hdm, hUQ, hUR, hs1⟩
   ·have hd0 : P.length = 0 := by omega
    obtain ⟨a1, a2⟩ := huniq (hd0 ▸ hinit)
    rw [<- a1, show ur ([] : List Rat) = [] from rfl] at hT1
    rw [<- a2, show ur ([] : List Rat) = [] from rfl] at hT2
    subst hT1 hT2
    subst hs1
    cbv
    refine bF l1 (nd f0 (nd f0 ?_))
    rw [f1]
    exact hF _ (ResLe.refl _)
   ·have hkd : k = P.length := by omega
    obtain ⟨a1, a2⟩ := huniq (hkd ▸ hdm)
    rw [hUQ, hUR, a1, a2, <- hT1, <- hT2] at hs1
    subst hs1
    cbv
    refine bF l1 ?_
    exact hF _ (ResLe.refl _)
  ·have l1 : zP 0 I = true := by rw [hS.le]; exact decide_eq_true (by omega)
   obtain ⟨i', rfl⟩ : ∃ i', i = i' + 1 := ⟨i - 1, by omega⟩
   have hIi : I = (i' : Int) := by omega
   have hdm : ∃ Q R UQ UR, IsDm P B k S Q R /\ UQ = ur Q /\ UR = ur R /\ ((k = 0 /\ Q = [] /\ R = [] /\ s1 = rdmS0 X Y I) ∨ s1 = rdmS1 X Y UQ UR I) := by
    rcases hcase with ⟨hk, h⟩ | ⟨Q, R, UQ, UR, h, hq, hr, hs⟩
    ·exact ⟨[], [], [], [], hk ▸ hinit, rfl, rfl, .inl ⟨hk, rfl, rfl, h⟩⟩
    ·exact ⟨Q, R, UQ, UR, h, hq, hr, .inr hs⟩
   obtain ⟨Q, R, UQ, UR, hdm, hUQ, hUR, hcase2⟩ := hdm
   obtain ⟨R1, C, R2, Q1, cR1, cC, cR2, cQ1, hle2, hle3, h1, h2⟩ := rdm_step hP hB h0 hn hm hS0 hs (by omega : i' + 1 + k = P.length) hdm
   obtain ⟨c, hc⟩ : ∃ c, c = P.getD i' 0 := ⟨_, rfl⟩
   have hPi : P[i']? = some c := by rw [hc, List.getD_eq_getElem?_getD, List.getElem?_eq_getElem (by omega)]; rfl
   have hXi : X[i']? = some (qc c).row := by rw [hX]; exact ur_get hPi
   rw [<- hc] at cC
   obtain ⟨s2, t2, r2, p2, hrow2, _⟩ := qrow c
   rw [hrow2] at hXi cC
   have j1 : zV I = i' := by rw [hS.nat]; omega
   have n0 : zP 0 I = true := l1
   have j2 : zi X i' = some [.v (.bool s2), .lst false r2, .v (.bool t2), .lst false p2] := by rw [hS.nth]; exact hXi
   obtain ⟨I', hI', i1⟩ : ∃ I' : Int, I' + 1 = (i' : Int) /\ zA .i64 (zC I 1) = I' := ⟨I - 1, by omega, by rw [hS.sub, hS.wrap, wrap_i64 (by omega) (by omega)]⟩
   have hmm : i' < i' + 1 := by omega
   obtain ⟨UR2, hUR2⟩ : ∃ U, U = ur R2 := ⟨_, rfl⟩
   obtain ⟨UQ1, hUQ1⟩ : ∃ U, U = ur Q1 := ⟨_, rfl⟩
   have hR2r : UR2.length = R2.length := by rw [hUR2, qag]
   rw [<- hUR2] at cR2
   rw [<- hUQ1] at cQ1
   rw [<- hUR] at cR1
   rw [<- hUQ] at cQ1
   have hBl1 : B.length <= 400 := by omega
   clear hcase hP hB hPl hBl hkn hQf hRf hltf heqf huniq hinit hPi hn hm
   generalize ur C = UC at *
   generalize ur R1 = UR1 at *
   rcases hcase2 with ⟨hk, hQ0, hR0, hs1⟩ | hs1
   ·subst hQ0 hR0
    rw [show ur ([] : List Rat) = [] from rfl] at hUR hUQ
    rw [hUR] at cR1
    rw [hUQ] at cQ1
    subst hs1
    cbv
    refine bT l1 (nd f0 ?_)
    rw [f1]
    refine ⟨_, hS.call (cR1), ?_⟩
    cbv
    rw [j1, j2]
    cbv
    refine nd (n0) ?_
    refine ⟨_, hS.call (cC), ?_⟩
    cbv
    refine ⟨_, hS.call (cR2), ?_⟩
    cbv
    refine nd (f0) ?_
    rw [f1]
    refine ⟨_, hS.call (cQ1), ?_⟩
    cbv
    by_cases hlen : R2.length = B.length
    ·obtain ⟨c, M, R3, C2, Q2, cdv, cM, cR3, cC2, cQ2, hnew⟩ := h2 hlen
     have hR20 : R2 ≠ [] := fun h1 => by rw [h1] at hlen; simp at hlen; omega
     have cl1 := rlead_call hR20 (by omega)
     have cl2 := rlead_call h0 (by omega)
     have e5 : zM (zY (zh UR2)) (zY (zh Y)) = true := by rw [hS.eq, hS.ofN, hS.ofN, hS.len, hS.len, hR2r, lY, hlen]; exact decide_eq_true rfl
     obtain ⟨s3, t3, r3, p3, hrow3, _⟩ := qrow (R2.getD (R2.length - 1) 0)
     obtain ⟨s4, t4, r4, p4, hrow4, _⟩ := qrow (B.getD (B.length - 1) 0)
     obtain ⟨s5, t5, r5, p5, hrow5, _⟩ := qrow c
     rw [hrow3, <- hUR2] at cl1
     rw [hrow3, hrow4, hrow5] at cdv
     rw [hrow4, <- hY] at cl2
     rw [hrow5, <- hY] at cM
     rw [hrow5] at cC2
     rw [<- hUR2] at cR3
     rw [<- hUQ1] at cQ2
     obtain ⟨UR3, hUR3⟩ : ∃ U, U = ur R3 := ⟨_, rfl⟩
     obtain ⟨UQ2, hUQ2⟩ : ∃ U, U = ur Q2 := ⟨_, rfl⟩
     rw [<- hUR3] at cR3
     rw [<- hUQ2] at cQ2
     have hnx : ∃ (k2 : Nat) (I2 : Int), I2 + 1 = (i' : Int) /\ i' + k2 = d /\ ((k2 = 0 /\ rdmS1 X Y UQ2 UR3 I' = rdmS0 X Y I2) ∨ ∃ Q R UQ UR, IsDm P B k2 S Q R /\ UQ = ur Q /\ UR = ur R /\ rdmS1 X Y UQ2 UR3 I' = rdmS1 X Y UQ UR I2) := ⟨k + 1, I', hI', by omega, .inr ⟨Q2, R3, UQ2, UR3, hnew, hUQ2, hUR3, rfl⟩⟩
     generalize ur M = UM at *
     generalize ur C2 = UC2 at *
     refine bT (e5) ?_
     refine ⟨_, hS.call (cl1), ?_⟩
     cbv
     refine ⟨_, hS.call (cl2), ?_⟩
     cbv
     refine ⟨_, hS.call (cdv), ?_⟩
     cbv
     refine ⟨_, hS.call (cM), ?_⟩
     cbv
     refine ⟨_, hS.call (cR3), ?_⟩
     cbv
     refine ⟨_, hS.call (cC2), ?_⟩
     cbv
     refine ⟨_, hS.call (cQ2), ?_⟩
     cbv
     exact again (s' := rdmS1 X Y UQ2 UR3 I') (m := i') (by simp [leT, rdmS1, mkSt, vi, i1]) (by simp [leH, rdmS1, mkSt]) rfl (by show 2 <= 2; omega) hmm hnx
    ·have hnew := h1 (by omega)
     have e5 : zM (zY (zh UR2)) (zY (zh Y)) = false := by rw [hS.eq, hS.ofN, hS.ofN, hS.len, hS.len, hR2r, lY]; exact decide_eq_false (by omega)
     have hnx : ∃ (k2 : Nat) (I2 : Int), I2 + 1 = (i' : Int) /\ i' + k2 = d /\ ((k2 = 0 /\ rdmS1 X Y UQ1 UR2 I' = rdmS0 X Y I2) ∨ ∃ Q R UQ UR, IsDm P B k2 S Q R /\ UQ = ur Q /\ UR = ur R /\ rdmS1 X Y UQ1 UR2 I' = rdmS1 X Y UQ UR I2) := ⟨k + 1, I', hI', by omega, .inr ⟨Q1, R2, UQ1, UR2, hnew, hUQ1, hUR2, rfl⟩⟩
     refine bF (e5) ?_
     exact again (s' := rdmS1 X Y UQ1 UR2 I') (m := i') (by simp [leT, rdmS1, mkSt, vi, i1]) (by simp [leH, rdmS1, mkSt]) rfl (by show 2 <= 2; omega) hmm hnx
   ·subst hs1
    cbv
    refine bT l1 ?_
    refine ⟨_, hS.call (cR1), ?_⟩
    cbv
    rw [j1, j2]
    cbv
    refine nd (n0) ?_
    refine ⟨_, hS.call (cC), ?_⟩
    cbv
    refine ⟨_, hS.call (cR2), ?_⟩
    cbv
    refine ⟨_, hS.call (cQ1), ?_⟩
    cbv
    by_cases hlen : R2.length = B.length
    ·obtain ⟨c, M, R3, C2, Q2, cdv, cM, cR3, cC2, cQ2, hnew⟩ := h2 hlen
     have hR20 : R2 ≠ [] := fun h1 => by rw [h1] at hlen; simp at hlen; omega
     have cl1 := rlead_call hR20 (by omega)
     have cl2 := rlead_call h0 (by omega)
     have e5 : zM (zY (zh UR2)) (zY (zh Y)) = true := by rw [hS.eq, hS.ofN, hS.ofN, hS.len, hS.len, hR2r, lY, hlen]; exact decide_eq_true rfl
     obtain ⟨s3, t3, r3, p3, hrow3, _⟩ := qrow (R2.getD (R2.length - 1) 0)
     obtain ⟨s4, t4, r4, p4, hrow4, _⟩ := qrow (B.getD (B.length - 1) 0)
     obtain ⟨s5, t5, r5, p5, hrow5, _⟩ := qrow c
     rw [hrow3, <- hUR2] at cl1
     rw [hrow3, hrow4, hrow5] at cdv
     rw [hrow4, <- hY] at cl2
     rw [hrow5, <- hY] at cM
     rw [hrow5] at cC2
     rw [<- hUR2] at cR3
     rw [<- hUQ1] at cQ2
     obtain ⟨UR3, hUR3⟩ : ∃ U, U = ur R3 := ⟨_, rfl⟩
     obtain ⟨UQ2, hUQ2⟩ : ∃ U, U = ur Q2 := ⟨_, rfl⟩
     rw [<- hUR3] at cR3
     rw [<- hUQ2] at cQ2
     have hnx : ∃ (k2 : Nat) (I2 : Int), I2 + 1 = (i' : Int) /\ i' + k2 = d /\ ((k2 = 0 /\ rdmS1 X Y UQ2 UR3 I' = rdmS0 X Y I2) ∨ ∃ Q R UQ UR, IsDm P B k2 S Q R /\ UQ = ur Q /\ UR = ur R /\ rdmS1 X Y UQ2 UR3 I' = rdmS1 X Y UQ UR I2) := ⟨k + 1, I', hI', by omega, .inr ⟨Q2, R3, UQ2, UR3, hnew, hUQ2, hUR3, rfl⟩⟩
     generalize ur M = UM at *
     generalize ur C2 = UC2 at *
     refine bT (e5) ?_
     refine ⟨_, hS.call (cl1), ?_⟩
     cbv
     refine ⟨_, hS.call (cl2), ?_⟩
     cbv
     refine ⟨_, hS.call (cdv), ?_⟩
     cbv
     refine ⟨_, hS.call (cM), ?_⟩
     cbv
     refine ⟨_, hS.call (cR3), ?_⟩
     cbv
     refine ⟨_, hS.call (cC2), ?_⟩
     cbv
     refine ⟨_, hS.call (cQ2), ?_⟩
     cbv
     exact again (s' := rdmS1 X Y UQ2 UR3 I') (m := i') (by simp [leT, rdmS1, mkSt, vi, i1]) (by simp [leH, rdmS1, mkSt]) rfl (by show 2 <= 2; omega) hmm hnx
    ·have hnew := h1 (by omega)
     have e5 : zM (zY (zh UR2)) (zY (zh Y)) = false := by rw [hS.eq, hS.ofN, hS.ofN, hS.len, hS.len, hR2r, lY]; exact decide_eq_false (by omega)
     have hnx : ∃ (k2 : Nat) (I2 : Int), I2 + 1 = (i' : Int) /\ i' + k2 = d /\ ((k2 = 0 /\ rdmS1 X Y UQ1 UR2 I' = rdmS0 X Y I2) ∨ ∃ Q R UQ UR, IsDm P B k2 S Q R /\ UQ = ur Q /\ UR = ur R /\ rdmS1 X Y UQ1 UR2 I' = rdmS1 X Y UQ UR I2) := ⟨k + 1, I', hI', by omega, .inr ⟨Q1, R2, UQ1, UR2, hnew, hUQ1, hUR2, rfl⟩⟩
     refine bF (e5) ?_
     exact again (s' := rdmS1 X Y UQ1 UR2 I') (m := i') (by simp [leT, rdmS1, mkSt, vi, i1]) (by simp [leH, rdmS1, mkSt]) rfl (by show 2 <= 2; omega) hmm hnx
open Go Go.Abs Go.Abs.M Go.Proofs
theorem rpb_quo {f g : Rat -> Rat} {n m s t : Nat} {P B : List Rat} (hP : PB f n s P) (hB : PB g m t B) (h0 : B ≠ []) (hn : n <= 400) (hm : m <= 400) (S : Nat) (hS0 : S = s + n * (t + 1)) (hs : 2 * S + 2 * t + 2 * s <= 1900000000) :
  ∃ Q R, PB (Abs.ev Q) n S Q /\ PB (Abs.ev R) (B.length - 1) S R /\ R.length < B.length /\ (∀ x, f x = Abs.ev Q x * g x + Abs.ev R x) /\
   ACall Tryz.prog 84 [.val (tl (ur P)), .val (tl (ur B))] ⟨[.val (tl (ur Q))], [none, none]⟩ /\ ACall Tryz.prog 83 [.val (tl (ur P)), .val (tl (ur B))] ⟨[.val (tl (ur R))], [none, none]⟩ := by
 obtain ⟨Q, R, h1, h2, h3, h4, c⟩ := rpb_divmod hP hB h0 hn hm S hS0 hs
 refine ⟨Q, R, h1, h2, h3, h4, ?_, ?_⟩
 all_goals
  clear h1 h2 h3 h4
  generalize ur P = X at *
  generalize ur B = Y at *
  generalize ur Q = UQ at *
  generalize ur R = UR at *
 ·refine callZ ccOk mixed [.val] Tryz.func84 rfl rfl (by kernel_rfl) fun zA zB zC zD zE zF zG zH zI zJ zK zL zM zN zO zP zQ zR zS zT zU zV zX zY zZ za zb zc zd ze zg zh zi zj zk zl zm zn zo zq zr zt zu zw zx zy zz zW zth A L F hS hF => ?_
  cbv
  refine ⟨_, hS.call (c), ?_⟩
  cbv
  exact hF _ (ResLe.refl _)
 ·refine callZ ccOk mixed [.val] Tryz.func83 rfl rfl (by kernel_rfl) fun zA zB zC zD zE zF zG zH zI zJ zK zL zM zN zO zP zQ zR zS zT zU zV zX zY zZ za zb zc zd ze zg zh zi zj zk zl zm zn zo zq zr zt zu zw zx zy zz zW zth A L F hS hF => ?_
  cbv
  refine ⟨_, hS.call (c), ?_⟩
  cbv
  exact hF _ (ResLe.refl _)
def upoSt (s : Bool) (r : Abs.Rows) (t : Bool) (p : Abs.Rows) (s2 : Bool) (r2 : Abs.Rows) (t2 : Bool) (p2 : Abs.Rows) (n i : Int) : St := mkSt 15 [.agg [.t (.v (.bool s)), .t (.lst false r), .t (.v (.bool t)), .t (.lst false p)], .junk, .c (.ptr 2 0 0), .junk, .c (.ptr 3 0 0), .c (.ptr 6 0 0), .junk, vi .i64 n, vi .i64 i] [none, none, some (.var [.t (.v (.bool s)), .t (.lst false r), .t (.v (.bool t)), .t (.lst false p)]), some (.var (rawZ.map .t)), none, none, some (.var [.t (.v (.bool s2)), .t (.lst false r2), .t (.v (.bool t2)), .t (.lst false p2)])]
theorem upower_call (x : Rat) (k a : Nat) (hk : k <= 100) (h1 : Qs x a) (ha : a <= 67108864) :
  Qs (x ^ k) (1 + k * a) /\ ACall Tryz.prog 88 [.val (.agg (qc x).row), .val (ti .i64 (k : Int))] ⟨[.val (.agg (qc (x ^ k)).row)], [none, none]⟩ := by
 have hsz : ∀ m, Qs (x ^ m) (1 + m * a) := fun m => by
  induction m with
  | zero => rw [Rat.pow_zero]; exact (Qs.whole (n := 1) (by decide) (Nat.le_refl 1)).mono (by omega)
  | succ m ih => rw [Rat.pow_succ]; exact (qbl ih h1).mono (by rw [Nat.succ_mul]; omega)
 refine ⟨hsz k, ?_⟩
 have hmul : ∀ m, m < k -> ACall Tryz.prog 68 [.val (.agg (qc (x ^ m)).row), .val (.agg (qc x).row)] ⟨[.val (.agg (qc (x ^ (m + 1))).row)], [none, none]⟩ := fun m hm => by
  have hb : m * a <= 100 * a := Nat.mul_le_mul_right _ (by omega)
  have := (pmul_row (hsz m) h1 (by omega)).2
  rwa [<- Rat.pow_succ] at this
 have cw := pwhole_row 1 (by omega) (by omega)
 rw [show ((1 : Int) : Rat) = x ^ 0 from (Rat.pow_zero x).symm] at cw
 obtain ⟨N, hN⟩ : ∃ N : Int, N = (k : Int) := ⟨_, rfl⟩
 obtain ⟨T, hT⟩ : ∃ T, T = (qc (x ^ k)).row := ⟨_, rfl⟩
 obtain ⟨s, t, r, p, hrow, _⟩ := qrow x
 obtain ⟨s0, t0, r0, p0, hrow0, _⟩ := qrow (x ^ 0)
 rw [<- hN, <- hT, hrow]
 rw [hrow0] at cw
 rw [hrow] at hmul
 refine callZ ccOk mixed [.val] Tryz.func88 rfl rfl (by kernel_rfl) fun zA zB zC zD zE zF zG zH zI zJ zK zL zM zN zO zP zQ zR zS zT zU zV zX zY zZ za zb zc zd ze zg zh zi zj zk zl zm zn zo zq zr zt zu zw zx zy zz zW zth A L F hS hF => ?_
 cbv
 refine ⟨_, hS.call (cw), ?_⟩
 cbv
 have hN : N = (k : Int) := hN
 refine loopZ ccOk mixed hS (fun (m : Nat) s' => ∃ (i : Nat) (I : Int) (s2 t2 : Bool) (r2 p2 : Abs.Rows), I = i /\ i + m = k /\ (qc (x ^ i)).row = [.v (.bool s2), .lst false r2, .v (.bool t2), .lst false p2] /\ s' = upoSt s r t p s2 r2 t2 p2 N I) (n := k) (s0 := upoSt s r t p s0 r0 t0 p0 N 0) (qaz ?_ ?_) rfl (by show 2 <= 7; omega) ?_ ?_
 ·simp [leT, upoSt, mkSt, vi]
 ·simp [leH, upoSt, mkSt, rawZ]
 ·exact ⟨0, 0, s0, t0, r0, p0, rfl, by omega, hrow0, rfl⟩
 ·rintro m s1 ⟨i, I, s2, t2, r2, p2, hI, him, hv, hs1⟩
  by_cases hi : i < k
  ·have l1 : zO I N = true := by rw [hS.lt]; exact decide_eq_true (by omega)
   have cm := hmul i hi
   obtain ⟨s5, t5, r5, p5, hrow5, _⟩ := qrow (x ^ (i + 1))
   rw [hv, hrow5] at cm
   obtain ⟨I', hI', i1⟩ : ∃ I' : Int, I' = ((i + 1 : Nat) : Int) /\ zA .i64 (zB I 1) = I' := ⟨I + 1, by omega, by rw [hS.add, hS.wrap, wrap_i64 (by omega) (by omega)]⟩
   have hmm : m - 1 < m := by omega
   have hnx : ∃ (i2 : Nat) (I2 : Int) (s9 t9 : Bool) (r9 p9 : Abs.Rows), I2 = i2 /\ i2 + (m - 1) = k /\ (qc (x ^ i2)).row = [.v (.bool s9), .lst false r9, .v (.bool t9), .lst false p9] /\ upoSt s r t p s5 r5 t5 p5 N I' = upoSt s r t p s9 r9 t9 p9 N I2 := ⟨i + 1, I', s5, t5, r5, p5, hI', by omega, hrow5, rfl⟩
   clear hmul
   subst hs1
   cbv
   refine bT l1 ?_
   refine ⟨_, hS.call (cm), ?_⟩
   cbv
   exact again (s' := upoSt s r t p s5 r5 t5 p5 N I') (m := m - 1) (by simp [leT, upoSt, mkSt, vi, i1]) (by simp [leH, upoSt, mkSt, rawZ]) rfl (by show 2 <= 7; omega) hmm hnx
  ·have l1 : zO I N = false := by rw [hS.lt]; exact decide_eq_false (by omega)
   have hik : i = k := by omega
   rw [hik, <- hT] at hv
   clear hmul
   subst hv
   subst hs1
   cbv
   refine bF l1 ?_
   exact hF _ (ResLe.refl _)
open Go Go.Abs Go.Abs.M Go.Proofs
inductive Rs : List Rat -> List Rat -> Rat -> Prop
 | zero (A B : List Rat) : A = [] ∨ B = [] -> Rs A B 0
 | const (A B : List Rat) : A ≠ [] -> B.length = 1 -> Rs A B (B.getD 0 0 ^ (A.length - 1))
 | stop (A B Q : List Rat) : A ≠ [] -> 2 <= B.length -> (∀ x, Abs.ev A x = Abs.ev Q x * Abs.ev B x) -> Rs A B 0
 | step (A B Q R : List Rat) (v : Rat) : A ≠ [] -> 2 <= B.length -> R ≠ [] -> ptrim R = R -> R.length < B.length -> (∀ x, Abs.ev A x = Abs.ev Q x * Abs.ev B x + Abs.ev R x) -> Rs B R v -> Rs A B (B.getD (B.length - 1) 0 ^ (A.length - R.length) * (if A.length % 2 = 0 /\ B.length % 2 = 0 then -1 else 1) * v)
structure RsI (W : Nat) (A B : List Rat) : Prop where
 ta : ptrim A = A
 tb : ptrim B = B
 sz : ∃ s, CF s (fun j => A.getD j 0) /\ CF s (fun j => B.getD j 0) /\ (s + 1) * (A.length + 1 - B.length + 1) * 3 ^ B.length <= W
 la : A.length <= 90
 lb : B.length <= 90
theorem Rs.inv {A B Q R : List Rat} {v : Rat} (h : Rs A B v) (hA : A ≠ []) (hB : 2 <= B.length) (tB : ptrim B = B) (tR : ptrim R = R) (tQ : ptrim Q = Q) (hl : R.length < B.length) (e : ∀ x, Abs.ev A x = Abs.ev Q x * Abs.ev B x + Abs.ev R x) :
  (R = [] /\ v = 0) ∨ (R ≠ [] /\ ∃ v', Rs B R v' /\ v = B.getD (B.length - 1) 0 ^ (A.length - R.length) * (if A.length % 2 = 0 /\ B.length % 2 = 0 then -1 else 1) * v') := by
 have hB0 : B ≠ [] := fun h => by rw [h] at hB; simp at hB
 cases h with
 | zero A B h =>
  rcases h with h | h
  ·exact absurd h hA
  ·exact absurd h hB0
 | const A B h1 h2 => omega
 | stop A B Q' h1 h2 h3 => exact .inl ⟨Dv.rest tQ tR tB hl e ⟨Q', h3⟩, rfl⟩
 | step A B Q' R' v' h1 h2 h3 h4 h5 h6 h7 =>
  obtain ⟨_, e2⟩ := div_uniq tQ tR (qaq Q') h4 tB hl h5 fun x => by rw [<- e, h6, qav]
  subst e2
  exact .inr ⟨h3, v', h7, rfl⟩
theorem Rs.one {A B : List Rat} {v : Rat} (h : Rs A B v) (hA : A ≠ []) (hB : B.length = 1) : v = B.getD 0 0 ^ (A.length - 1) := by
 have hB0 : B ≠ [] := fun h => by rw [h] at hB; simp at hB
 cases h with
 | zero A B h =>
  rcases h with h | h
  ·exact absurd h hA
  ·exact absurd h hB0
 | const A B h1 h2 => rfl
 | stop A B Q' h1 h2 h3 => omega
 | step A B Q' R' v' h1 h2 h3 h4 h5 h6 h7 => omega
theorem rs_next {W : Nat} {A B : List Rat} (h : RsI W A B) (hB : B ≠ []) (hW : W <= 1000000) :
  ∃ Q R, ptrim Q = Q /\ ptrim R = R /\ R.length < B.length /\ (∀ x, Abs.ev A x = Abs.ev Q x * Abs.ev B x + Abs.ev R x) /\ RsI W B R /\ CF W (fun j => B.getD j 0) /\ R.length <= A.length /\
   ACall Tryz.prog 23 [.val (tl (ur A)), .val (tl (ur B))] ⟨[.val (tl (ur Q)), .val (tl (ur R)), .val (ti .i64 0)], [none, none]⟩ /\
   ACall Tryz.prog 83 [.val (tl (ur A)), .val (tl (ur B))] ⟨[.val (tl (ur R))], [none, none]⟩ := by
 obtain ⟨s, c1, c2, c3⟩ := h.sz
 have hB1 : B.length ≠ 0 := fun h0 => hB (List.length_eq_zero_iff.1 h0)
 have hla := h.la
 have hlb := h.lb
 obtain ⟨e, he⟩ : ∃ e, e = A.length + 1 - B.length := ⟨_, rfl⟩
 rw [<- he] at c3
 have p3 : 1 <= 3 ^ B.length := Nat.one_le_pow _ _ (by omega)
 have w1 : (s + 1) * (e + 1) <= W := by
  have := Nat.mul_le_mul_left ((s + 1) * (e + 1)) p3
  omega
 have e1 : (s + 1) * (e + 1) = s + e * (s + 1) + 1 := by rw [Nat.mul_comm, Nat.succ_mul]; omega
 have w2 : s + 1 <= (s + 1) * (e + 1) := Nat.le_mul_of_pos_right _ (by omega)
 have hPA : PB (Abs.ev A) A.length s A := ⟨h.ta, fun x => rfl, Nat.le_refl _, c1⟩
 have hPB : PB (Abs.ev B) B.length s B := ⟨h.tb, fun x => rfl, Nat.le_refl _, c2⟩
 have hcr : A.length * (s + 1) <= 90 * (s + 1) := Nat.mul_le_mul_right _ hla
 obtain ⟨Q, R, hQ, hR, hlt, heq, cd⟩ := pb_divmod e hPA hPB hB (by omega) (by omega) (by omega) (by omega)
 obtain ⟨Q', R', hQ', hR', hlt', heq', _, cm⟩ := rpb_quo hPA hPB hB (by omega) (by omega) _ rfl (by omega)
 obtain ⟨u1, u2⟩ := div_uniq hQ.tr hR.tr hQ'.tr hR'.tr h.tb hlt hlt' fun x => by rw [<- heq, heq']
 rw [<- u2] at cm
 generalize hS : s + e * (s + 1) = S at *
 have hpot : (S + 1) * (B.length + 1 - R.length + 1) * 3 ^ R.length <= W := by
  have t := three_pow (B.length - R.length) (by omega)
  have t2 : 3 ^ (B.length - R.length) * 3 ^ R.length = 3 ^ B.length := by rw [<- Nat.pow_add, Nat.sub_add_cancel (by omega)]
  have t3 : (B.length + 1 - R.length + 1) * 3 ^ R.length <= 3 ^ B.length := by rw [<- t2]; exact Nat.mul_le_mul_right _ (by omega)
  rw [Nat.mul_assoc]
  exact Nat.le_trans (Nat.mul_le_mul_left _ t3) (by rw [<- e1]; exact c3)
 have hRA : R.length <= A.length := by
  rcases Nat.lt_or_ge A.length B.length with hh | hh
  ·have := (div_uniq hQ.tr hR.tr (Q' := []) rfl h.ta h.tb hlt hh fun x => by rw [<- heq]; simp only [Abs.ev]; grind).2
   rw [this]; exact Nat.le_refl _
  ·omega
 exact ⟨Q, R, hQ.tr, hR.tr, hlt, heq, ⟨h.tb, hR.tr, ⟨S, c2.mono (by omega), hR.cf, hpot⟩, hlb, by omega⟩, c2.mono (by omega), hRA, cd, cm⟩
theorem pow_small {x : Rat} {a : Nat} (h1 : Qs x a) : ∀ m, Qs (x ^ m) (1 + m * a)
 | 0 => by rw [Rat.pow_zero]; exact (Qs.whole (n := 1) (by decide) (Nat.le_refl 1)).mono (by omega)
 | m + 1 => by rw [Rat.pow_succ]; exact (qbl (pow_small h1 m) h1).mono (by rw [Nat.succ_mul]; omega)
theorem rs_size {W w : Nat} (hW : W <= 1000000) (hw : w = W / 32 + 1) : ∀ (l : Nat) (A B : List Rat) (v : Rat), B.length <= l -> RsI W A B -> Rs A B v -> Qs v (1 + (l + 1) * (2 + 90 * w)) := by
 intro l
 induction l with
 | zero =>
  intro A B v hl h hr
  have hB : B = [] := List.length_eq_zero_iff.1 (by omega)
  cases hr with
  | zero => exact Qs.zero (by omega)
  | const _ _ h1 h2 => omega
  | stop _ _ _ h1 h2 => omega
  | step _ _ _ _ _ h1 h2 => omega
 | succ l ih =>
  intro A B v hl h hr
  rcases Classical.em (A = [] ∨ B = []) with h0 | h0
  ·have : v = 0 := by
    cases hr with
    | zero => rfl
    | const _ _ h1 h2 => simp [h0.resolve_left h1] at h2
    | stop _ _ _ h1 h2 => simp [h0.resolve_left h1] at h2
    | step _ _ _ _ _ h1 h2 => simp [h0.resolve_left h1] at h2
   rw [this]; exact Qs.zero (by omega)
  ·have hA : A ≠ [] := fun h1 => h0 (.inl h1)
   have hB : B ≠ [] := fun h1 => h0 (.inr h1)
   have hB1 : B.length ≠ 0 := fun h1 => hB (List.length_eq_zero_iff.1 h1)
   have hla := h.la
   obtain ⟨Q, R, tQ, tR, hlt, heq, hI, hc, hRA, _, _⟩ := rs_next h hB hW
   have hmo : ∀ k, k <= 90 -> k * w <= 90 * w := fun k hk => Nat.mul_le_mul_right _ hk
   have e2 : (l + 1 + 1) * (2 + 90 * w) = (l + 1) * (2 + 90 * w) + (2 + 90 * w) := Nat.succ_mul ..
   have e3 : 1 * (2 + 90 * w) <= (l + 1) * (2 + 90 * w) := Nat.mul_le_mul_right _ (by omega)
   rcases Nat.lt_or_ge 1 B.length with h2 | h2
   ·rcases hr.inv hA h2 h.tb tR tQ hlt heq with ⟨_, h3⟩ | ⟨h3, v', h4, h5⟩
    ·rw [h3]; exact Qs.zero (by omega)
    ·have q1 := ih B R v' (by omega) hI h4
     have q2 := pow_small (x := B.getD (B.length - 1) 0) (a := w) (by rw [hw]; exact cf_qs hc _) (A.length - R.length)
     have q3 : Qs (if A.length % 2 = 0 /\ B.length % 2 = 0 then (-1 : Rat) else 1) 1 := by
      split
      ·exact Qs.whole (n := -1) (by decide) (Nat.le_refl 1)
      ·exact Qs.whole (n := 1) (by decide) (Nat.le_refl 1)
     have := hmo (A.length - R.length) (by omega)
     rw [h5]
     exact (qbl (qbl q2 q3) q1).mono (by omega)
   ·rw [hr.one hA (by omega)]
    have q2 := pow_small (x := B.getD 0 0) (a := w) (by rw [hw]; exact cf_qs hc _) (A.length - 1)
    have := hmo (A.length - 1) (by omega)
    exact q2.mono (by omega)
def ursSt (X Y : Abs.Rows) (s : Bool) (r : Abs.Rows) (t : Bool) (p : Abs.Rows) : St := mkSt 72 [.c (.t (.lst false X)), .c (.t (.lst false Y)), .junk, .junk, .c (.ptr 2 0 0), .c (.ptr 5 0 0)] [none, none, some (.var (rawZ.map .t)), none, none, some (.var [.t (.v (.bool s)), .t (.lst false r), .t (.v (.bool t)), .t (.lst false p)])]
theorem ures_zero (P B : List Rat) (h : P = [] ∨ B = []) : ACall Tryz.prog 46 [.val (tl (ur P)), .val (tl (ur B))] ⟨[.val (.agg (qc 0).row)], [none, none]⟩ := by
 have cw := pwhole_row 0 (by omega) (by omega)
 rw [show ((0 : Int) : Rat) = 0 from rfl] at cw
 obtain ⟨s3, t3, r3, p3, hrow3, _⟩ := qrow 0
 rw [hrow3] at cw ⊢
 have lX := qag P
 have lY := qag B
 by_cases hP : P = []
 ·have h0 : P.length = 0 := by rw [hP]; rfl
  generalize P.length = m at *
  generalize ur P = X at *
  generalize ur B = Y at *
  refine callZ ccOk mixed [.val] Tryz.func46 rfl rfl (by kernel_rfl) fun zA zB zC zD zE zF zG zH zI zJ zK zL zM zN zO zP zQ zR zS zT zU zV zX zY zZ za zb zc zd ze zg zh zi zj zk zl zm zn zo zq zr zt zu zw zx zy zz zW zth A L F hS hF => ?_
  have e1 : zM (zY (zh X)) 0 = true := by rw [hS.eq, hS.ofN, hS.len, lX]; exact decide_eq_true (by omega)
  cbv
  refine bT (e1) ?_
  refine ⟨_, hS.call (cw), ?_⟩
  cbv
  exact hF _ (ResLe.refl _)
 ·have h0 : B.length = 0 := by simp [h.resolve_left hP]
  have h1 : P.length ≠ 0 := fun h1 => hP (List.length_eq_zero_iff.1 h1)
  generalize P.length = m at *
  generalize B.length = l at *
  generalize ur P = X at *
  generalize ur B = Y at *
  refine callZ ccOk mixed [.val] Tryz.func46 rfl rfl (by kernel_rfl) fun zA zB zC zD zE zF zG zH zI zJ zK zL zM zN zO zP zQ zR zS zT zU zV zX zY zZ za zb zc zd ze zg zh zi zj zk zl zm zn zo zq zr zt zu zw zx zy zz zW zth A L F hS hF => ?_
  have e1 : zM (zY (zh X)) 0 = false := by rw [hS.eq, hS.ofN, hS.len, lX]; exact decide_eq_false (by omega)
  have e2 : zM (zY (zh Y)) 0 = true := by rw [hS.eq, hS.ofN, hS.len, lY]; exact decide_eq_true (by omega)
  cbv
  refine bF (e1) ?_
  refine bT (e2) ?_
  refine ⟨_, hS.call (cw), ?_⟩
  cbv
  exact hF _ (ResLe.refl _)
theorem ures_call {W : Nat} (hW : W <= 1000000) {A0 B0 : List Rat} {v : Rat} (hI : RsI W A0 B0) (hR : Rs A0 B0 v) (hA0 : A0 ≠ []) (hB0 : B0 ≠ []) :
  ACall Tryz.prog 46 [.val (tl (ur A0)), .val (tl (ur B0))] ⟨[.val (.agg (qc v).row)], [none, none]⟩ := by
 obtain ⟨w, hw⟩ : ∃ w, w = W / 32 + 1 := ⟨_, rfl⟩
 have cw := pwhole_row 1 (by omega) (by omega)
 rw [show ((1 : Int) : Rat) = 1 from rfl] at cw
 have cw0 := pwhole_row 0 (by omega) (by omega)
 rw [show ((0 : Int) : Rat) = 0 from rfl] at cw0
 obtain ⟨T, hT⟩ : ∃ T, T = (qc v).row := ⟨_, rfl⟩
 obtain ⟨P, hP⟩ : ∃ T, T = ur A0 := ⟨_, rfl⟩
 obtain ⟨S, hS0⟩ : ∃ T, T = ur B0 := ⟨_, rfl⟩
 obtain ⟨s3, t3, r3, p3, hrow3, _⟩ := qrow 1
 obtain ⟨s4, t4, r4, p4, hrow4, _⟩ := qrow 0
 rw [hrow3] at cw
 rw [hrow4] at cw0
 have lP := qag A0
 have lS := qag B0
 have hA1 : A0.length ≠ 0 := fun h1 => hA0 (List.length_eq_zero_iff.1 h1)
 have hB1 : B0.length ≠ 0 := fun h1 => hB0 (List.length_eq_zero_iff.1 h1)
 rw [<- hP] at lP
 rw [<- hS0] at lS
 rw [<- hP, <- hS0, <- hT]
 refine callZ ccOk mixed [.val] Tryz.func46 rfl rfl (by kernel_rfl) fun zA zB zC zD zE zF zG zH zI zJ zK zL zM zN zO zP zQ zR zS zT zU zV zX zY zZ za zb zc zd ze zg zh zi zj zk zl zm zn zo zq zr zt zu zw zx zy zz zW zth A L F hS hF => ?_
 have e1 : zM (zY (zh P)) 0 = false := by rw [hS.eq, hS.ofN, hS.len, lP]; exact decide_eq_false (by omega)
 have e2 : zM (zY (zh S)) 0 = false := by rw [hS.eq, hS.ofN, hS.len, lS]; exact decide_eq_false (by omega)
 cbv
 refine bF (e1) ?_
 refine bF (e2) ?_
 refine ⟨_, hS.call (cw), ?_⟩
 cbv
 refine loopZ ccOk mixed hS (fun (i : Nat) s' => ∃ (A' B' : List Rat) (u v' : Rat) (X' Y : Abs.Rows) (s2 t2 : Bool) (r2 p2 : Abs.Rows), B'.length = i /\ i <= 90 /\ RsI W A' B' /\ A' ≠ [] /\ B' ≠ [] /\ Rs A' B' v' /\ v = u * v' /\ Qs u (1 + (90 - i) * (2 + 90 * w)) /\ X' = ur A' /\ Y = ur B' /\ (qc u).row = [.v (.bool s2), .lst false r2, .v (.bool t2), .lst false p2] /\ s' = ursSt X' Y s2 r2 t2 p2) (n := B0.length) (s0 := ursSt P S s3 r3 t3 p3) (qaz ?_ ?_) rfl (by show 2 <= 6; omega) ?_ ?_
 ·simp [leT, ursSt, mkSt]
 ·simp [leH, ursSt, mkSt, rawZ]
 ·exact ⟨A0, B0, 1, v, P, S, s3, t3, r3, p3, rfl, hI.lb, hI, hA0, hB0, hR, by rw [Rat.one_mul], (Qs.whole (n := 1) (by decide) (Nat.le_refl 1)).mono (by omega), hP, hS0, hrow3, rfl⟩
 ·rintro i s1 ⟨A', B', u, v', X', Y, s2, t2, r2, p2, hi, hi90, hI', hA', hB', hR', hv, hu, hX, hY, hrow2, hs1⟩
  have lX' : X'.length = A'.length := by rw [hX, qag]
  have lY' : Y.length = B'.length := by rw [hY, qag]
  have hA1' : A'.length ≠ 0 := fun h1 => hA' (List.length_eq_zero_iff.1 h1)
  have hB1' : B'.length ≠ 0 := fun h1 => hB' (List.length_eq_zero_iff.1 h1)
  by_cases hone : B'.length = 1
  ·have l1 : zO 1 (zY (zh Y)) = false := by rw [hS.lt, hS.ofN, hS.len, lY']; exact decide_eq_false (by omega)
   obtain ⟨_, _, _, _, _, _, _, hcB, _, _, _⟩ := rs_next hI' hB' hW
   have hla := hI'.la
   obtain ⟨b, hb⟩ : ∃ b, b = B'.getD 0 0 := ⟨_, rfl⟩
   have hBi : B'[0]? = some b := by rw [hb, List.getD_eq_getElem?_getD, List.getElem?_eq_getElem (by omega)]; rfl
   have hYi := ur_get hBi
   rw [<- hY] at hYi
   have hbs : Qs b w := by rw [hb, hw]; exact cf_qs hcB _
   obtain ⟨K, hK⟩ : ∃ K, K = A'.length - 1 := ⟨_, rfl⟩
   obtain ⟨hps, cp⟩ := upower_call b K w (by omega) hbs (by omega)
   have hKw : K * w <= 90 * w := Nat.mul_le_mul_right _ (by omega)
   have hiw : (90 - i) * (2 + 90 * w) <= 90 * (2 + 90 * w) := Nat.mul_le_mul_right _ (by omega)
   obtain ⟨hms, cmu⟩ := pmul_row hu hps (by omega)
   have hTe : T = (qc (u * b ^ K)).row := by rw [hT, hv, hR'.one hA' hone, hb, hK]
   rw [<- hTe] at cmu
   obtain ⟨s5, t5, r5, p5, hrow5, _⟩ := qrow b
   obtain ⟨s6, t6, r6, p6, hrow6, _⟩ := qrow (b ^ K)
   obtain ⟨s7, t7, r7, p7, hrow7, _⟩ := qrow v
   rw [hrow7] at hT
   rw [hrow5] at hYi
   rw [hrow5, hrow6] at cp
   rw [hrow2, hrow6] at cmu
   obtain ⟨M, hM, ek⟩ : ∃ J : Int, J = (K : Int) /\ zA .i64 (zC (zY (zh X')) 1) = J := ⟨(A'.length : Int) - 1, by omega, by rw [hS.ofN, hS.len, lX', hS.sub, hS.wrap, wrap_i64 (by omega) (by omega)]⟩
   rw [<- hM] at cp
   have g0 : zP 0 0 = true := by rw [hS.le]; rfl
   have hz : zi Y (zV 0) = some [.v (.bool s5), .lst false r5, .v (.bool t5), .lst false p5] := by rw [hS.nat, hS.nth]; exact hYi
   clear hTe hv hR' hI hI' hR hcB hu hps hms
   subst hT
   subst hs1
   cbv
   refine bF l1 ?_
   rw [hz]
   cbv
   refine nd (g0) ?_
   rw [ek]
   refine ⟨_, hS.call (cp), ?_⟩
   cbv
   refine ⟨_, hS.call (cmu), ?_⟩
   cbv
   exact hF _ (ResLe.refl _)
  ·have l1 : zO 1 (zY (zh Y)) = true := by rw [hS.lt, hS.ofN, hS.len, lY']; exact decide_eq_true (by omega)
   obtain ⟨Q, R, tQ, tR, hlt, heq, hI2, hcB, hRA, cd, _⟩ := rs_next hI' hB' hW
   rw [<- hX, <- hY] at cd
   have lR := qag R
   have hla := hI'.la
   rcases hR'.inv hA' (by omega) hI'.tb tR tQ hlt heq with ⟨hR0, hv0⟩ | ⟨hR0, v2, hv2, hve⟩
   ·have l2 : zM (zY (zh (ur R))) 0 = true := by rw [hS.eq, hS.ofN, hS.len, lR, hR0]; rfl
    have hT0 : T = [.v (.bool s4), .lst false r4, .v (.bool t4), .lst false p4] := by rw [hT, hv, hv0, Rat.mul_zero, hrow4]
    generalize ur R = UR at *
    generalize ur Q = UQ at *
    subst hT0
    subst hs1
    cbv
    refine bT l1 ?_
    refine ⟨_, hS.call (cd), ?_⟩
    cbv
    refine bT (l2) ?_
    refine ⟨_, hS.call (cw0), ?_⟩
    cbv
    exact hF _ (ResLe.refl _)
   ·have hR1 : R.length ≠ 0 := fun h1 => hR0 (List.length_eq_zero_iff.1 h1)
    have l2 : zM (zY (zh (ur R))) 0 = false := by rw [hS.eq, hS.ofN, hS.len, lR]; exact decide_eq_false (by omega)
    obtain ⟨b, hb⟩ : ∃ b, b = B'.getD (B'.length - 1) 0 := ⟨_, rfl⟩
    have hBi : B'[B'.length - 1]? = some b := by rw [hb, List.getD_eq_getElem?_getD, List.getElem?_eq_getElem (by omega)]; rfl
    have hYi := ur_get hBi
    rw [<- hY] at hYi
    have hbs : Qs b w := by rw [hb, hw]; exact cf_qs hcB _
    obtain ⟨K, hK⟩ : ∃ K, K = A'.length - R.length := ⟨_, rfl⟩
    obtain ⟨hps, cp⟩ := upower_call b K w (by omega) hbs (by omega)
    have hKw : K * w <= 90 * w := Nat.mul_le_mul_right _ (by omega)
    have hiw : (90 - i) * (2 + 90 * w) <= 90 * (2 + 90 * w) := Nat.mul_le_mul_right _ (by omega)
    obtain ⟨hms, cmu⟩ := pmul_row hu hps (by omega)
    obtain ⟨hns, cn⟩ := pneg_row hms (by omega)
    obtain ⟨s5, t5, r5, p5, hrow5, _⟩ := qrow b
    obtain ⟨s6, t6, r6, p6, hrow6, _⟩ := qrow (b ^ K)
    obtain ⟨s7, t7, r7, p7, hrow7, _⟩ := qrow (u * b ^ K)
    obtain ⟨s8, t8, r8, p8, hrow8, _⟩ := qrow (-(u * b ^ K))
    rw [hrow5] at hYi
    rw [hrow5, hrow6] at cp
    rw [hrow2, hrow6, hrow7] at cmu
    rw [hrow7, hrow8] at cn
    obtain ⟨J, hJ, j1⟩ : ∃ J : Int, J = ((B'.length - 1 : Nat) : Int) /\ zA .i64 (zC (zY (zh Y)) 1) = J := ⟨(B'.length : Int) - 1, by omega, by rw [hS.ofN, hS.len, lY', hS.sub, hS.wrap, wrap_i64 (by omega) (by omega)]⟩
    obtain ⟨Z, hZ, z1⟩ : ∃ J : Int, J = ((A'.length - 1 : Nat) : Int) /\ zA .i64 (zC (zY (zh X')) 1) = J := ⟨(A'.length : Int) - 1, by omega, by rw [hS.ofN, hS.len, lX', hS.sub, hS.wrap, wrap_i64 (by omega) (by omega)]⟩
    obtain ⟨M, hM, m1⟩ : ∃ J : Int, J = (K : Int) /\ zA .i64 (zC (zY (zh X')) (zY (zh (ur R)))) = J := ⟨(A'.length : Int) - R.length, by omega, by rw [hS.ofN, hS.len, lX', hS.ofN, hS.len, lR, hS.sub, hS.wrap, wrap_i64 (by omega) (by omega)]⟩
    rw [<- hM] at cp
    have g1 : zP 0 J = true := by rw [hS.le]; exact decide_eq_true (by omega)
    have hzz : zi Y (zV J) = some [.v (.bool s5), .lst false r5, .v (.bool t5), .lst false p5] := by rw [hS.nat, hJ, Int.toNat_natCast, hS.nth, hYi]
    have ea : zM (zF Z 2) 1 = decide (A'.length % 2 = 0) := by
     rw [hS.eq, hS.rem, hZ]
     exact decide_eq_decide.2 (by rw [show ((A'.length - 1 : Nat) : Int).tmod 2 = (((A'.length - 1) % 2 : Nat) : Int) from rfl]; omega)
    have eb : zM (zF J 2) 1 = decide (B'.length % 2 = 0) := by
     rw [hS.eq, hS.rem, hJ]
     exact decide_eq_decide.2 (by rw [show ((B'.length - 1 : Nat) : Int).tmod 2 = (((B'.length - 1) % 2 : Nat) : Int) from rfl]; omega)
    have hmm : R.length < i := by omega
    have hsz : Qs (u * b ^ K) (1 + (90 - R.length) * (2 + 90 * w)) := by
     refine hms.mono ?_
     have e1 : (90 - i + 1) * (2 + 90 * w) <= (90 - R.length) * (2 + 90 * w) := Nat.mul_le_mul_right _ (by omega)
     rw [Nat.succ_mul] at e1
     omega
    have hpos : ¬ (A'.length % 2 = 0 /\ B'.length % 2 = 0) -> ∃ (A2 B2 : List Rat) (u2 v3 : Rat) (X2 Y2 : Abs.Rows) (s9 t9 : Bool) (r9 p9 : Abs.Rows), B2.length = R.length /\ R.length <= 90 /\ RsI W A2 B2 /\ A2 ≠ [] /\ B2 ≠ [] /\ Rs A2 B2 v3 /\ v = u2 * v3 /\ Qs u2 (1 + (90 - R.length) * (2 + 90 * w)) /\ X2 = ur A2 /\ Y2 = ur B2 /\ (qc u2).row = [.v (.bool s9), .lst false r9, .v (.bool t9), .lst false p9] /\ ursSt Y (ur R) s7 r7 t7 p7 = ursSt X2 Y2 s9 r9 t9 p9 := fun hc => by
     rw [if_neg hc] at hve
     exact ⟨B', R, u * b ^ K, v2, Y, ur R, s7, t7, r7, p7, rfl, by omega, hI2, hB', hR0, hv2, by rw [hv, hve, hb, hK]; grind, hsz, hY, rfl, hrow7, rfl⟩
    have hneg : (A'.length % 2 = 0 /\ B'.length % 2 = 0) -> ∃ (A2 B2 : List Rat) (u2 v3 : Rat) (X2 Y2 : Abs.Rows) (s9 t9 : Bool) (r9 p9 : Abs.Rows), B2.length = R.length /\ R.length <= 90 /\ RsI W A2 B2 /\ A2 ≠ [] /\ B2 ≠ [] /\ Rs A2 B2 v3 /\ v = u2 * v3 /\ Qs u2 (1 + (90 - R.length) * (2 + 90 * w)) /\ X2 = ur A2 /\ Y2 = ur B2 /\ (qc u2).row = [.v (.bool s9), .lst false r9, .v (.bool t9), .lst false p9] /\ ursSt Y (ur R) s8 r8 t8 p8 = ursSt X2 Y2 s9 r9 t9 p9 := fun hc => by
     rw [if_pos hc] at hve
     exact ⟨B', R, -(u * b ^ K), v2, Y, ur R, s8, t8, r8, p8, rfl, by omega, hI2, hB', hR0, hv2, by rw [hv, hve, hb, hK]; grind, hsz.neg, hY, rfl, hrow8, rfl⟩
    clear hv hve hv2 hR' hI hI' hI2 hR hcB heq hu hps hms hns hsz hJ hZ hM
    generalize ur R = UR at *
    generalize ur Q = UQ at *
    generalize A'.length = la at *
    generalize B'.length = lb at *
    by_cases ha : la % 2 = 0
    ·rw [decide_eq_true ha] at ea
     by_cases hbb : lb % 2 = 0
     ·rw [decide_eq_true hbb] at eb
      have hnx := hneg ⟨ha, hbb⟩
      clear hneg hpos
      subst hs1
      cbv
      refine bT l1 ?_
      refine ⟨_, hS.call (cd), ?_⟩
      cbv
      refine bF (l2) ?_
      rw [j1, hzz]
      cbv
      refine nd (g1) ?_
      rw [m1]
      refine ⟨_, hS.call (cp), ?_⟩
      cbv
      refine ⟨_, hS.call (cmu), ?_⟩
      cbv
      rw [z1]
      refine bT (ea) ?_
      rw [j1]
      refine bT (eb) ?_
      refine ⟨_, hS.call (cn), ?_⟩
      cbv
      exact again (s' := ursSt Y UR s8 r8 t8 p8) (m := R.length) (by simp [leT, ursSt, mkSt]) (by simp [leH, ursSt, mkSt, rawZ]) rfl (by show 2 <= 6; omega) hmm hnx
     ·rw [decide_eq_false hbb] at eb
      have hnx := hpos fun h => hbb h.2
      clear hneg hpos
      subst hs1
      cbv
      refine bT l1 ?_
      refine ⟨_, hS.call (cd), ?_⟩
      cbv
      refine bF (l2) ?_
      rw [j1, hzz]
      cbv
      refine nd (g1) ?_
      rw [m1]
      refine ⟨_, hS.call (cp), ?_⟩
      cbv
      refine ⟨_, hS.call (cmu), ?_⟩
      cbv
      rw [z1]
      refine bT (ea) ?_
      rw [j1]
      refine bF (eb) ?_
      exact again (s' := ursSt Y UR s7 r7 t7 p7) (m := R.length) (by simp [leT, ursSt, mkSt]) (by simp [leH, ursSt, mkSt, rawZ]) rfl (by show 2 <= 6; omega) hmm hnx
    ·rw [decide_eq_false ha] at ea
     have hnx := hpos fun h => ha h.1
     clear hneg hpos
     subst hs1
     cbv
     refine bT l1 ?_
     refine ⟨_, hS.call (cd), ?_⟩
     cbv
     refine bF (l2) ?_
     rw [j1, hzz]
     cbv
     refine nd (g1) ?_
     rw [m1]
     refine ⟨_, hS.call (cp), ?_⟩
     cbv
     refine ⟨_, hS.call (cmu), ?_⟩
     cbv
     rw [z1]
     refine bF (ea) ?_
     exact again (s' := ursSt Y UR s7 r7 t7 p7) (m := R.length) (by simp [leT, ursSt, mkSt]) (by simp [leH, ursSt, mkSt, rawZ]) rfl (by show 2 <= 6; omega) hmm hnx
open Go Go.Abs Go.Abs.M Go.Proofs
theorem dm_ex {P B : List Rat} (tP : ptrim P = P) (tB : ptrim B = B) (h0 : B ≠ []) : ∃ Q R, ptrim Q = Q /\ ptrim R = R /\ R.length < B.length /\ ∀ x, Abs.ev P x = Abs.ev Q x * Abs.ev B x + Abs.ev R x := by
 have l1 : B.length ≠ 0 := fun h => h0 (List.length_eq_zero_iff.1 h)
 rcases Nat.lt_or_ge P.length B.length with h | h
 ·exact ⟨[], P, rfl, tP, h, fun x => by simp only [Abs.ev]; grind⟩
 ·obtain ⟨d, hd⟩ : ∃ d, B.length = d + 1 := ⟨B.length - 1, by omega⟩
  obtain ⟨k, hk⟩ : ∃ k, P.length = k + d := ⟨P.length - d, by omega⟩
  have hL : B.getD d 0 ≠ 0 := by have := tr_last tB h0; rwa [hd, Nat.add_sub_cancel] at this
  have hv := Rat.mul_inv_cancel _ hL
  obtain ⟨q1, q2, q3⟩ := dvT_spec hd hv hk k (Nat.le_refl _)
  generalize dvT B d (B.getD d 0)⁻¹ P k k = S at *
  refine ⟨ptrim S.2, ptrim S.1, qaq _, qaq _, ?_, fun x => by rw [qav, qav, <- q1 x]; grind⟩
  have := trim_len_le (P := S.1) (n := d) fun j hj => q2 j (by omega)
  omega
theorem len_ne {P : List Rat} (h : P ≠ []) : P.length ≠ 0 := fun h1 => h (List.length_eq_zero_iff.1 h1)
theorem rs_ex : ∀ (l : Nat) (A B : List Rat), B.length <= l -> ptrim A = A -> ptrim B = B -> ∃ v, Rs A B v := by
 intro l
 induction l with
 | zero => exact fun A B hl _ _ => ⟨0, .zero A B (.inr (List.length_eq_zero_iff.1 (by omega)))⟩
 | succ l ih =>
  intro A B hl tA tB
  rcases Classical.em (A = [] ∨ B = []) with h0 | h0
  ·exact ⟨0, .zero A B h0⟩
  ·have hA : A ≠ [] := fun h1 => h0 (.inl h1)
   have hB : B ≠ [] := fun h1 => h0 (.inr h1)
   have hB1 := len_ne hB
   rcases Nat.lt_or_ge 1 B.length with h2 | h2
   ·obtain ⟨Q, R, tQ, tR, hlt, heq⟩ := dm_ex tA tB hB
    rcases Classical.em (R = []) with h3 | h3
    ·exact ⟨0, .stop A B Q hA h2 fun x => by rw [heq, h3]; simp only [Abs.ev]; grind⟩
    ·obtain ⟨v, hv⟩ := ih B R (by omega) tB tR
     exact ⟨_, .step A B Q R v hA h2 h3 tR hlt heq hv⟩
   ·exact ⟨_, .const A B hA (by omega)⟩
theorem rs_fun : ∀ (l : Nat) (A B : List Rat) (v w : Rat), B.length <= l -> ptrim A = A -> ptrim B = B -> Rs A B v -> Rs A B w -> v = w := by
 have hzero : ∀ {A B : List Rat} {v : Rat}, (A = [] ∨ B = []) -> Rs A B v -> v = 0 := fun {A B v} h0 hr => by
  cases hr with
  | zero => rfl
  | const _ _ h1 h2 => simp [h0.resolve_left h1] at h2
  | stop _ _ _ h1 h2 => simp [h0.resolve_left h1] at h2
  | step _ _ _ _ _ h1 h2 => simp [h0.resolve_left h1] at h2
 intro l
 induction l with
 | zero =>
  intro A B v w hl tA tB h1 h2
  have hB : B = [] := List.length_eq_zero_iff.1 (by omega)
  rw [hzero (.inr hB) h1, hzero (.inr hB) h2]
 | succ l ih =>
  intro A B v w hl tA tB h1 h2
  rcases Classical.em (A = [] ∨ B = []) with h0 | h0
  ·rw [hzero h0 h1, hzero h0 h2]
  ·have hA : A ≠ [] := fun h1 => h0 (.inl h1)
   have hB : B ≠ [] := fun h1 => h0 (.inr h1)
   have hB1 := len_ne hB
   rcases Nat.lt_or_ge 1 B.length with h3 | h3
   ·obtain ⟨Q, R, tQ, tR, hlt, heq⟩ := dm_ex tA tB hB
    rcases h1.inv hA h3 tB tR tQ hlt heq with ⟨a1, a2⟩ | ⟨a1, v1, a2, a3⟩
    ·rcases h2.inv hA h3 tB tR tQ hlt heq with ⟨b1, b2⟩ | ⟨b1, v2, b2, b3⟩
     ·rw [a2, b2]
     ·exact absurd a1 b1
    ·rcases h2.inv hA h3 tB tR tQ hlt heq with ⟨b1, b2⟩ | ⟨b1, v2, b2, b3⟩
     ·exact absurd b1 a1
     ·rw [a3, b3, ih B R v1 v2 (by omega) tB tR a2 b2]
   ·rw [h1.one hA (by omega), h2.one hA (by omega)]
noncomputable def Rv (A B : List Rat) : Rat := Classical.epsilon (fun v => Rs A B v)
theorem Rv_rs {A B : List Rat} (tA : ptrim A = A) (tB : ptrim B = B) : Rs A B (Rv A B) := Classical.epsilon_spec (rs_ex _ A B (Nat.le_refl _) tA tB)
theorem Rv_eq {A B : List Rat} {v : Rat} (tA : ptrim A = A) (tB : ptrim B = B) (h : Rs A B v) : Rv A B = v := rs_fun _ A B _ _ (Nat.le_refl _) tA tB (Rv_rs tA tB) h
def lc (A : List Rat) : Rat := A.getD (A.length - 1) 0
theorem lc_ne {A : List Rat} (tA : ptrim A = A) (h : A ≠ []) : lc A ≠ 0 := tr_last tA h
theorem neg_one_pow (n : Nat) : ((-1 : Rat)) ^ n = if n % 2 = 0 then 1 else -1 := by
 induction n with
 | zero => simp
 | succ n ih =>
  rw [Rat.pow_succ, ih]
  by_cases h : n % 2 = 0
  ·rw [if_pos h, if_neg (by omega)]; grind
  ·rw [if_neg h, if_pos (by omega)]; grind
theorem sg_eq {m n : Nat} (hm : m ≠ 0) (hn : n ≠ 0) : (if m % 2 = 0 /\ n % 2 = 0 then (-1 : Rat) else 1) = (-1) ^ ((m - 1) * (n - 1)) := by
 rw [neg_one_pow, Nat.mul_mod]
 by_cases h1 : m % 2 = 0
 ·by_cases h2 : n % 2 = 0
  ·rw [if_pos ⟨h1, h2⟩, show (m - 1) % 2 = 1 by omega, show (n - 1) % 2 = 1 by omega]; rfl
  ·rw [if_neg (fun h => h2 h.2), show (n - 1) % 2 = 0 by omega, Nat.mul_zero]; rfl
 ·rw [if_neg (fun h => h1 h.1), show (m - 1) % 2 = 0 by omega, Nat.zero_mul]; rfl
theorem sg_sq (n : Nat) : ((-1 : Rat)) ^ n * (-1) ^ n = 1 := by
 rw [neg_one_pow]; split <;> grind
theorem qbg {A B : List Rat} (tA : ptrim A = A) (tB : ptrim B = B) (hA : A ≠ []) (h : B.length = 1) : Rv A B = lc B ^ (A.length - 1) := by
 rw [Rv_eq tA tB (.const A B hA h)]
 unfold lc
 rw [h]
theorem Rv_stop {A B Q : List Rat} (tA : ptrim A = A) (tB : ptrim B = B) (hA : A ≠ []) (h : 2 <= B.length) (e : ∀ x, Abs.ev A x = Abs.ev Q x * Abs.ev B x) : Rv A B = 0 := Rv_eq tA tB (.stop A B Q hA h e)
theorem Rv_step {A B Q R : List Rat} (tA : ptrim A = A) (tB : ptrim B = B) (hA : A ≠ []) (h : 2 <= B.length) (tR : ptrim R = R) (hR : R ≠ []) (hl : R.length < B.length) (e : ∀ x, Abs.ev A x = Abs.ev Q x * Abs.ev B x + Abs.ev R x) :
  Rv A B = lc B ^ (A.length - R.length) * (-1) ^ ((A.length - 1) * (B.length - 1)) * Rv B R := by
 rw [Rv_eq tA tB (.step A B Q R _ hA h hR tR hl e (Rv_rs tB tR)), sg_eq (len_ne hA) (by omega)]
 rfl
theorem rem_len {A B Q R : List Rat} (tA : ptrim A = A) (tB : ptrim B = B) (tR : ptrim R = R) (hl : R.length < B.length) (e : ∀ x, Abs.ev A x = Abs.ev Q x * Abs.ev B x + Abs.ev R x) : R.length <= A.length := by
 rcases Nat.lt_or_ge A.length B.length with hh | hh
 ·have := (div_uniq (qaq Q) tR (Q' := []) rfl tA tB hl hh fun x => by rw [qav, <- e]; simp only [Abs.ev]; grind).2
  rw [this]; exact Nat.le_refl _
 ·omega
theorem mul_pow_rat (a b : Rat) : ∀ n : Nat, (a * b) ^ n = a ^ n * b ^ n
 | 0 => by simp [Rat.mul_one]
 | n + 1 => by rw [Rat.pow_succ, Rat.pow_succ, Rat.pow_succ, mul_pow_rat a b n]; grind
theorem lc_lsc (c : Rat) (A : List Rat) : lc (lsc c A) = c * lc A := by unfold lc; rw [qa3, lsc_get]
theorem lsc_ne {c : Rat} {A : List Rat} (h : A ≠ []) : lsc c A ≠ [] := fun h1 => h (by simpa [lsc] using h1)
theorem Rv_scale : ∀ (l : Nat) (A B : List Rat) (c : Rat), B.length <= l -> ptrim A = A -> ptrim B = B -> A ≠ [] -> B ≠ [] -> c ≠ 0 ->
  Rv (lsc c A) B = c ^ (B.length - 1) * Rv A B /\ Rv A (lsc c B) = c ^ (A.length - 1) * Rv A B := by
 intro l
 induction l with
 | zero => exact fun A B c hl _ _ _ hB => absurd (List.length_eq_zero_iff.1 (by omega)) hB
 | succ l ih =>
  intro A B c hl tA tB hA hB hc
  have hA1 := len_ne hA
  have hB1 := len_ne hB
  have tcA := lsc_trim hc tA
  have tcB := lsc_trim hc tB
  have hcA : lsc c A ≠ [] := lsc_ne hA
  rcases Nat.lt_or_ge 1 B.length with h2 | h2
  ·obtain ⟨Q, R, tQ, tR, hlt, heq⟩ := dm_ex tA tB hB
   have hic := Rat.inv_mul_cancel c hc
   have e1 : ∀ x, Abs.ev (lsc c A) x = Abs.ev (lsc c Q) x * Abs.ev B x + Abs.ev (lsc c R) x := fun x => by rw [qa7, qa7, qa7, heq]; grind
   have e2 : ∀ x, Abs.ev A x = Abs.ev (lsc c⁻¹ Q) x * Abs.ev (lsc c B) x + Abs.ev R x := fun x => by rw [qa7, qa7, heq]; grind
   rcases Classical.em (R = []) with h3 | h3
   ·subst h3
    rw [Rv_stop tcA tB hcA h2 (Q := lsc c Q) (fun x => by rw [e1]; simp only [lsc, List.map_nil, Abs.ev]; grind), Rv_stop tA tB hA h2 (Q := Q) (fun x => by rw [heq]; simp only [Abs.ev]; grind),
     Rv_stop tA tcB hA (by rw [qa3]; exact h2) (Q := lsc c⁻¹ Q) (fun x => by rw [e2]; simp only [Abs.ev]; grind)]
    simp [Rat.mul_zero]
   ·have hRA := rem_len tA tB tR hlt heq
    have hR1 := len_ne h3
    obtain ⟨i1, _⟩ := ih B R c (by omega) tB tR hB h3 hc
    obtain ⟨_, i2⟩ := ih B R c (by omega) tB tR hB h3 hc
    rw [Rv_step tcA tB hcA h2 (lsc_trim hc tR) (lsc_ne h3) (by rw [qa3]; exact hlt) e1, Rv_step tA tB hA h2 tR h3 hlt heq, Rv_step tA tcB hA (by rw [qa3]; exact h2) tR h3 (by rw [qa3]; exact hlt) e2, i2, i1]
    simp only [qa3, lc_lsc]
    refine ⟨by grind, ?_⟩
    rw [mul_pow_rat, show A.length - 1 = (A.length - R.length) + (R.length - 1) by omega, rpow_add]
    grind
  ·have hone : B.length = 1 := by omega
   rw [qbg tcA tB hcA hone, qbg tA tB hA hone, qbg tA tcB hA (by rw [qa3]; exact hone), lc_lsc, qa3, hone, mul_pow_rat]
   simp [Rat.one_mul]
open Go Go.Abs Go.Abs.M Go.Proofs
theorem Rv_swap_lt {A B : List Rat} (tA : ptrim A = A) (tB : ptrim B = B) (hA : A ≠ []) (h : A.length < B.length) : Rv A B = (-1) ^ ((A.length - 1) * (B.length - 1)) * Rv B A := by
 have hA1 := len_ne hA
 rw [Rv_step tA tB hA (by omega) (Q := []) tA hA h fun x => by simp only [Abs.ev]; grind]
 rw [Nat.sub_self, Rat.pow_zero, Rat.one_mul]
theorem qbe (P : List Rat) {j : Nat} (h : P.length <= j) : P.getD j 0 = 0 := by rw [List.getD_eq_getElem?_getD, List.getElem?_eq_none h]; rfl
theorem ladd_get : ∀ (P Q : List Rat) (j : Nat), (ladd P Q).getD j 0 = P.getD j 0 + Q.getD j 0
 | [], Q, j => by simp [ladd, Rat.zero_add]
 | p :: P, [], j => by simp [ladd, Rat.add_zero]
 | p :: P, q :: Q, 0 => by simp [ladd]
 | p :: P, q :: Q, j + 1 => by have := ladd_get P Q j; simpa [ladd] using this
theorem pow_one (n : Nat) : (1 : Rat) ^ n = 1 := by
 induction n with
 | zero => rfl
 | succ n ih => rw [Rat.pow_succ, ih, Rat.mul_one]
theorem Rv_add_mul {A B R : List Rat} {c : Rat} (tA : ptrim A = A) (tB : ptrim B = B) (tR : ptrim R = R) (hc : c ≠ 0) (hB : B ≠ []) (hR : R ≠ []) (hlen : A.length = B.length) (e : ∀ x, Abs.ev A x = c * Abs.ev B x + Abs.ev R x) :
  Rv A R = c ^ (R.length - 1) * Rv B R := by
 have hB1 := len_ne hB
 have hR1 := len_ne hR
 have hA : A ≠ [] := fun h => hB1 (by rw [<- hlen, h]; rfl)
 rcases Nat.lt_or_ge 1 R.length with h2 | h2
 ·obtain ⟨Q, S, tQ, tS, hlt, heq⟩ := dm_ex tB tR hR
  have e1 : ∀ x, Abs.ev A x = Abs.ev (ladd (lsc c Q) [1]) x * Abs.ev R x + Abs.ev (lsc c S) x := fun x => by
   rw [e, heq, qa7, ev_ladd, qa7]; simp only [Abs.ev]; grind
  rcases Classical.em (S = []) with h3 | h3
  ·subst h3
   rw [Rv_stop tA tR hA h2 (Q := ladd (lsc c Q) [1]) fun x => by rw [e1]; simp only [lsc, List.map_nil, Abs.ev]; grind, Rv_stop tB tR hB h2 (Q := Q) fun x => by rw [heq]; simp only [Abs.ev]; grind]
   simp [Rat.mul_zero]
  ·rw [Rv_step tA tR hA h2 (lsc_trim hc tS) (lsc_ne h3) (by rw [qa3]; exact hlt) e1, Rv_step tB tR hB h2 tS h3 hlt heq, (Rv_scale _ R S c (Nat.le_refl _) tR tS hR h3 hc).2, qa3, hlen]
   grind
 ·have hone : R.length = 1 := by omega
  rw [qbg tA tR hA hone, qbg tB tR hB hone, hlen, hone]
  simp [Rat.one_mul]
theorem pow_inv_r {a b : Rat} (h : a * b = 1) (n : Nat) : a ^ n * b ^ n = 1 := by rw [<- mul_pow_rat, h, pow_one]
theorem Rv_swap_eq {A B : List Rat} (tA : ptrim A = A) (tB : ptrim B = B) (hA : A ≠ []) (hB : B ≠ []) (h : A.length = B.length) : Rv A B = (-1) ^ ((A.length - 1) * (B.length - 1)) * Rv B A := by
 have hA1 := len_ne hA
 have hB1 := len_ne hB
 rcases Nat.lt_or_ge 1 B.length with h2 | h2
 ·have nA := lc_ne tA hA
  have nB := lc_ne tB hB
  have iA := Rat.mul_inv_cancel _ nA
  have iB := Rat.mul_inv_cancel _ nB
  obtain ⟨c, hcd⟩ : ∃ c, c = lc A * (lc B)⁻¹ := ⟨_, rfl⟩
  obtain ⟨d, hdd⟩ : ∃ d, d = lc B * (lc A)⁻¹ := ⟨_, rfl⟩
  have hcd1 : c * d = 1 := by rw [hcd, hdd]; grind
  have hc : c ≠ 0 := fun h => by rw [h] at hcd1; simp [Rat.zero_mul] at hcd1
  have hd : d ≠ 0 := fun h => by rw [h] at hcd1; simp [Rat.mul_zero] at hcd1
  obtain ⟨R, hRd⟩ : ∃ R, R = ptrim (ladd A (lsc (-c) B)) := ⟨_, rfl⟩
  have tR : ptrim R = R := by rw [hRd]; exact qaq _
  have eR : ∀ x, Abs.ev R x = Abs.ev A x - c * Abs.ev B x := fun x => by rw [hRd, qav, ev_ladd, qa7]; grind
  have lR : R.length < B.length := by
   have : R.length <= B.length - 1 := by
    rw [hRd]
    refine trim_len_le fun j hj => ?_
    rw [ladd_get, lsc_get]
    rcases Nat.lt_or_ge j B.length with hh | hh
    ·have hj' : j = B.length - 1 := by omega
     have e1 : A.getD j 0 = lc A := by unfold lc; rw [h, hj']
     have e2 : B.getD j 0 = lc B := by unfold lc; rw [hj']
     rw [e1, e2, hcd]; grind
    ·rw [qbe A (by omega), qbe B hh]; grind
   omega
  have eA : ∀ x, Abs.ev A x = c * Abs.ev B x + Abs.ev R x := fun x => by rw [eR]; grind
  have eA1 : ∀ x, Abs.ev A x = Abs.ev [c] x * Abs.ev B x + Abs.ev R x := fun x => by rw [eA]; simp only [Abs.ev]; grind
  have eB1 : ∀ x, Abs.ev B x = Abs.ev [d] x * Abs.ev A x + Abs.ev (lsc (-d) R) x := fun x => by rw [qa7, eR]; simp only [Abs.ev]; grind
  rcases Classical.em (R = []) with h3 | h3
  ·subst h3
   rw [Rv_stop tA tB hA h2 (Q := [c]) fun x => by rw [eA1]; simp only [Abs.ev]; grind, Rv_stop tB tA hB (by omega) (Q := [d]) fun x => by rw [eB1]; simp only [lsc, List.map_nil, Abs.ev]; grind]
   simp [Rat.mul_zero]
  ·have hR1 := len_ne h3
   have hnd : -d ≠ 0 := fun h => hd (by grind)
   rw [Rv_step tA tB hA h2 tR h3 lR eA1, Rv_step tB tA hB (by omega) (lsc_trim hnd tR) (lsc_ne h3) (by rw [qa3]; omega) eB1, (Rv_scale _ A R (-d) (Nat.le_refl _) tA tR hA h3 hnd).2, Rv_add_mul tA tB tR hc hB h3 h eA, qa3, h]
   obtain ⟨p, hp⟩ : ∃ p, B.length - R.length = p := ⟨_, rfl⟩
   obtain ⟨r, hr⟩ : ∃ r, R.length - 1 = r := ⟨_, rfl⟩
   have hl : B.length - 1 = p + r := by omega
   rw [hp, hr, hl]
   have s1 := sg_sq ((p + r) * (p + r))
   have s2 : ((-1 : Rat)) ^ ((p + r) * (p + r)) = (-1) ^ (p + r) := by
    rw [neg_one_pow, neg_one_pow, Nat.mul_mod]
    by_cases hpr : (p + r) % 2 = 0
    ·rw [hpr]
    ·rw [show (p + r) % 2 = 1 by omega]
   have s3 : (-d) ^ (p + r) = (-1) ^ (p + r) * (d ^ p * d ^ r) := by rw [<- rpow_add, <- mul_pow_rat]; congr 1; grind
   have s4 : lc A ^ p * d ^ p = lc B ^ p := by rw [<- mul_pow_rat]; congr 1; rw [hdd]; grind
   have s5 := pow_inv_r hcd1 r
   have s6 := sg_sq (p + r)
   rw [s2, s3]
   generalize ((-1 : Rat)) ^ (p + r) = s at *
   generalize lc A ^ p = a at *
   generalize lc B ^ p = b at *
   generalize d ^ p = u at *
   generalize d ^ r = w at *
   generalize c ^ r = z at *
   generalize Rv B R = v at *
   rw [<- s4]
   have : s * (a * s * (s * (u * w) * (z * v))) = (s * s) * s * (a * u) * (z * w) * v := by grind
   rw [this, s6, s5]
   grind
 ·have e1 : A.length = 1 := by omega
  have e2 : B.length = 1 := by omega
  rw [qbg tA tB hA e2, qbg tB tA hB e1, e1, e2]
  simp [Rat.one_mul]
theorem Rv_swap {A B : List Rat} (tA : ptrim A = A) (tB : ptrim B = B) (hA : A ≠ []) (hB : B ≠ []) : Rv A B = (-1) ^ ((A.length - 1) * (B.length - 1)) * Rv B A := by
 rcases Nat.lt_trichotomy A.length B.length with h | h | h
 ·exact Rv_swap_lt tA tB hA h
 ·exact Rv_swap_eq tA tB hA hB h
 ·rw [Rv_swap_lt tB tA hB h, Nat.mul_comm]
  have := sg_sq ((A.length - 1) * (B.length - 1))
  grind
open Go Go.Abs Go.Abs.M Go.Proofs
def det3 (p0 p1 p2 q0 q1 q2 r0 r1 r2 : Rat) : Rat := p0 * (q1 * r2 - q2 * r1) - p1 * (q0 * r2 - q2 * r0) + p2 * (q0 * r1 - q1 * r0)
theorem det3_mul (a b c d e f g h i p q r s t u v w x : Rat) :
  det3 (a * p + b * s + c * v) (a * q + b * t + c * w) (a * r + b * u + c * x) (d * p + e * s + f * v) (d * q + e * t + f * w) (d * r + e * u + f * x) (g * p + h * s + i * v) (g * q + h * t + i * w) (g * r + h * u + i * x)
   = det3 a b c d e f g h i * det3 p q r s t u v w x := by
 unfold det3; grind
def N3 (a0 a1 a2 r0 r1 r2 : Rat) : Rat :=
 det3 r0 r1 r2 (-(r2 * a0)) (r0 - r2 * a1) (r1 - r2 * a2) (-((r1 - r2 * a2) * a0)) (-(r2 * a0) - (r1 - r2 * a2) * a1) ((r0 - r2 * a1) - (r1 - r2 * a2) * a2)
def Nf : List Rat -> Rat -> Rat -> Rat -> Rat
 | [_], _, _, _ => 1
 | [_, _], r0, _, _ => r0
 | [a0, a1, _], r0, r1, _ => r0 * r0 - r0 * r1 * a1 + r1 * r1 * a0
 | [a0, a1, a2, _], r0, r1, r2 => N3 a0 a1 a2 r0 r1 r2
 | _, _, _, _ => 0
def Md : List Rat -> Rat -> Rat -> Rat -> Rat -> Rat -> Rat -> List Rat
 | [a0, _], b0, _, _, c0, _, _ => [b0 * c0]
 | [a0, a1, _], b0, b1, _, c0, c1, _ => [b0 * c0 - b1 * c1 * a0, b0 * c1 + b1 * c0 - b1 * c1 * a1]
 | [a0, a1, a2, _], b0, b1, b2, c0, c1, c2 =>
  [b0 * c0 + b1 * (-(c2 * a0)) + b2 * (-((c1 - c2 * a2) * a0)), b0 * c1 + b1 * (c0 - c2 * a1) + b2 * (-(c2 * a0) - (c1 - c2 * a2) * a1), b0 * c2 + b1 * (c1 - c2 * a2) + b2 * ((c0 - c2 * a1) - (c1 - c2 * a2) * a2)]
 | _, _, _, _, _, _, _ => []
theorem N3_mul (a0 a1 a2 b0 b1 b2 c0 c1 c2 : Rat) :
  N3 a0 a1 a2 (b0 * c0 + b1 * (-(c2 * a0)) + b2 * (-((c1 - c2 * a2) * a0))) (b0 * c1 + b1 * (c0 - c2 * a1) + b2 * (-(c2 * a0) - (c1 - c2 * a2) * a1)) (b0 * c2 + b1 * (c1 - c2 * a2) + b2 * ((c0 - c2 * a1) - (c1 - c2 * a2) * a2))
   = N3 a0 a1 a2 b0 b1 b2 * N3 a0 a1 a2 c0 c1 c2 := by
 unfold N3
 rw [<- det3_mul]
 congr 1 <;> grind
theorem ev3 : ∀ (R : List Rat) (x : Rat), R.length <= 3 -> Abs.ev R x = R.getD 0 0 + x * (R.getD 1 0 + x * R.getD 2 0)
 | [], x, _ => by simp [Abs.ev, Rat.mul_zero, Rat.add_zero]
 | [a], x, _ => by simp [Abs.ev, Rat.mul_zero, Rat.add_zero]
 | [a, b], x, _ => by simp [Abs.ev, Rat.mul_zero, Rat.add_zero]
 | [a, b, c], x, _ => by simp [Abs.ev, Rat.mul_zero, Rat.add_zero]
 | _ :: _ :: _ :: _ :: _, _, h => by simp at h
inductive Mo : List Rat -> Prop
 | zero : Mo [1]
 | one (a0 : Rat) : Mo [a0, 1]
 | two (a0 a1 : Rat) : Mo [a0, a1, 1]
 | three (a0 a1 a2 : Rat) : Mo [a0, a1, a2, 1]
theorem Mo.of : ∀ {A : List Rat}, A ≠ [] -> A.length <= 4 -> lc A = 1 -> Mo A
 | [], h, _, _ => absurd rfl h
 | [a], _, _, h => by simp [lc] at h; subst h; exact .zero
 | [a, b], _, _, h => by simp [lc] at h; subst h; exact .one _
 | [a, b, c], _, _, h => by simp [lc] at h; subst h; exact .two _ _
 | [a, b, c, d], _, _, h => by simp [lc] at h; subst h; exact .three _ _ _
 | _ :: _ :: _ :: _ :: _ :: _, _, h, _ => by simp at h
theorem Nf_mul {A : List Rat} (h : Mo A) (b0 b1 b2 c0 c1 c2 : Rat) : Nf A ((Md A b0 b1 b2 c0 c1 c2).getD 0 0) ((Md A b0 b1 b2 c0 c1 c2).getD 1 0) ((Md A b0 b1 b2 c0 c1 c2).getD 2 0) = Nf A b0 b1 b2 * Nf A c0 c1 c2 := by
 cases h with
 | zero => simp [Nf, Rat.one_mul]
 | one a0 => simp [Nf, Md]
 | two a0 a1 => simp [Nf, Md]; grind
 | three a0 a1 a2 => simp only [Nf, Md]; exact N3_mul _ _ _ _ _ _ _ _ _
theorem Md_ev {A B C : List Rat} (h : Mo A) (hB : B.length < A.length) (hC : C.length < A.length) : ∃ D Q : List Rat, D = Md A (B.getD 0 0) (B.getD 1 0) (B.getD 2 0) (C.getD 0 0) (C.getD 1 0) (C.getD 2 0) /\ D.length < A.length /\ ∀ x, Abs.ev B x * Abs.ev C x = Abs.ev Q x * Abs.ev A x + Abs.ev D x := by
 cases h with
 | zero =>
  simp at hB; subst hB
  exact ⟨_, [], rfl, by simp [Md], fun x => by simp [Md, Abs.ev, Rat.zero_mul, Rat.add_zero]⟩
 | one a0 =>
  refine ⟨_, [], rfl, by simp [Md], fun x => ?_⟩
  simp only [List.length_cons, List.length_nil] at hB hC
  rw [ev3 B x (by omega), ev3 C x (by omega), qbe B (j := 1) (by omega), qbe B (j := 2) (by omega), qbe C (j := 1) (by omega), qbe C (j := 2) (by omega)]
  simp only [Md, Abs.ev]; grind
 | two a0 a1 =>
  refine ⟨_, [B.getD 1 0 * C.getD 1 0], rfl, by simp [Md], fun x => ?_⟩
  simp only [List.length_cons, List.length_nil] at hB hC
  rw [ev3 B x (by omega), ev3 C x (by omega), qbe B (j := 2) (by omega), qbe C (j := 2) (by omega)]
  simp only [Md, Abs.ev]; grind
 | three a0 a1 a2 =>
  refine ⟨_, [B.getD 1 0 * C.getD 2 0 + B.getD 2 0 * C.getD 1 0 - B.getD 2 0 * C.getD 2 0 * a2, B.getD 2 0 * C.getD 2 0], rfl, by simp [Md], fun x => ?_⟩
  simp only [List.length_cons, List.length_nil] at hB hC
  rw [ev3 B x (by omega), ev3 C x (by omega)]
  simp only [Md, Abs.ev]; grind
open Go Go.Abs Go.Abs.M Go.Proofs
theorem tr1 {a : Rat} (h : a ≠ 0) : ptrim [a] = [a] := by simp [ptrim, tlen, h]
theorem tr2 {a b : Rat} (h : b ≠ 0) : ptrim [a, b] = [a, b] := by simp [ptrim, tlen, h]
theorem tr3 {a b c : Rat} (h : c ≠ 0) : ptrim [a, b, c] = [a, b, c] := by simp [ptrim, tlen, h]
theorem tr4 {a b c d : Rat} (h : d ≠ 0) : ptrim [a, b, c, d] = [a, b, c, d] := by simp [ptrim, tlen, h]
theorem Mo.tr {A : List Rat} (h : Mo A) : ptrim A = A /\ A ≠ [] /\ lc A = 1 := by
 have h1 : (1 : Rat) ≠ 0 := by decide
 cases h
 ·exact ⟨tr1 h1, by simp, rfl⟩
 ·exact ⟨tr2 h1, by simp, rfl⟩
 ·exact ⟨tr3 h1, by simp, rfl⟩
 ·exact ⟨tr4 h1, by simp, rfl⟩
theorem Rv_lin {A Q : List Rat} {b0 b1 r : Rat} (tA : ptrim A = A) (hA : A ≠ []) (hb : b1 ≠ 0) (e : ∀ x, Abs.ev A x = Abs.ev Q x * (b0 + x * b1) + r) : Rv A [b0, b1] = b1 ^ (A.length - 1) * (-1) ^ (A.length - 1) * r := by
 have tB := tr2 (a := b0) hb
 rcases Classical.em (r = 0) with h | h
 ·subst h
  rw [Rv_stop tA tB hA (by simp) (Q := Q) fun x => by rw [e]; simp only [Abs.ev]; grind]
  simp [Rat.mul_zero]
 ·rw [Rv_step tA tB hA (by simp) (Q := Q) (tr1 h) (by simp) (by simp) fun x => by rw [e]; simp only [Abs.ev]; grind, qbg tB (tr1 h) (by simp) rfl]
  simp [lc]
theorem Rv_quad {a0 a1 a2 b0 b1 b2 q0 q1 r0 r1 : Rat} (hb : b2 ≠ 0) (e3 : 1 = q1 * b2) (e2 : a2 = q1 * b1 + q0 * b2) (e1 : a1 = q1 * b0 + q0 * b1 + r1) (e0 : a0 = q0 * b0 + r0) :
  Rv [a0, a1, a2, 1] [b0, b1, b2] = b2 * b2 * (b2 * r0 * r0 - b1 * r0 * r1 + b0 * r1 * r1) := by
 have tB := tr3 (a := b0) (b := b1) hb
 have tA := tr4 (a := a0) (b := a1) (c := a2) (d := 1) (by decide)
 have ee : ∀ x, Abs.ev [a0, a1, a2, 1] x = Abs.ev [q0, q1] x * Abs.ev [b0, b1, b2] x + (r0 + x * r1) := fun x => by simp only [Abs.ev]; grind
 rcases Classical.em (r1 = 0) with h | h
 ·rcases Classical.em (r0 = 0) with h' | h'
  ·rw [Rv_stop tA tB (by simp) (by simp) (Q := [q0, q1]) fun x => by rw [ee]; grind]
   rw [h, h']; grind
  ·rw [Rv_step tA tB (by simp) (by simp) (Q := [q0, q1]) (tr1 h') (by simp) (by simp) fun x => by rw [ee]; simp only [Abs.ev]; grind, qbg tB (tr1 h') (by simp) rfl]
   simp [lc]
   grind
 ·have hi := Rat.mul_inv_cancel _ h
  rw [Rv_step tA tB (by simp) (by simp) (Q := [q0, q1]) (tr2 (a := r0) h) (by simp) (by simp) fun x => by rw [ee]; simp only [Abs.ev]; grind,
   Rv_lin (Q := [(b1 - b2 * r0 * r1⁻¹) * r1⁻¹, b2 * r1⁻¹]) (r := b0 - r0 * ((b1 - b2 * r0 * r1⁻¹) * r1⁻¹)) tB (by simp) h fun x => by simp only [Abs.ev]; grind]
  simp [lc]
  grind
theorem Rv_low {A B : List Rat} (hA : Mo A) (tB : ptrim B = B) (hB : B ≠ []) (hl : B.length < A.length) : Rv A B = Nf A (B.getD 0 0) (B.getD 1 0) (B.getD 2 0) := by
 obtain ⟨tA, nA, lA⟩ := hA.tr
 have hB1 := len_ne hB
 have nb := lc_ne tB hB
 match B, hB1 with
 | [b0], _ =>
  rw [qbg tA tB nA rfl]
  cases hA with
  | zero => simp at hl
  | one a0 => simp [lc, Nf]
  | two a0 a1 => simp [lc, Nf]; grind
  | three a0 a1 a2 => simp [lc, Nf, N3, det3]; grind
 | [b0, b1], _ =>
  have nb : b1 ≠ 0 := by simpa [lc] using nb
  have hi := Rat.mul_inv_cancel _ nb
  cases hA with
  | zero => simp at hl
  | one a0 => simp at hl
  | two a0 a1 =>
   rw [Rv_lin (Q := [(a1 - b0 * b1⁻¹) * b1⁻¹, b1⁻¹]) (r := a0 - b0 * ((a1 - b0 * b1⁻¹) * b1⁻¹)) tA nA nb fun x => by simp only [Abs.ev]; grind]
   simp [Nf]
   grind
  | three a0 a1 a2 =>
   rw [Rv_lin (Q := [(a1 - b0 * ((a2 - b0 * b1⁻¹) * b1⁻¹)) * b1⁻¹, (a2 - b0 * b1⁻¹) * b1⁻¹, b1⁻¹]) (r := a0 - b0 * ((a1 - b0 * ((a2 - b0 * b1⁻¹) * b1⁻¹)) * b1⁻¹)) tA nA nb fun x => by simp only [Abs.ev]; grind]
   simp [Nf, N3, det3]
   grind
 | [b0, b1, b2], _ =>
  have nb : b2 ≠ 0 := by simpa [lc] using nb
  have hi := Rat.mul_inv_cancel _ nb
  cases hA with
  | zero => simp at hl
  | one a0 => simp at hl
  | two a0 a1 => simp at hl
  | three a0 a1 a2 =>
   obtain ⟨q1, h1⟩ : ∃ q1, q1 = b2⁻¹ := ⟨_, rfl⟩
   obtain ⟨q0, h0⟩ : ∃ q0, q0 = (a2 - q1 * b1) * b2⁻¹ := ⟨_, rfl⟩
   have e3 : 1 = q1 * b2 := by rw [h1]; grind
   have e2 : a2 = q1 * b1 + q0 * b2 := by rw [h0]; grind
   obtain ⟨r1, e1⟩ : ∃ r1, a1 = q1 * b0 + q0 * b1 + r1 := ⟨a1 - (q1 * b0 + q0 * b1), by grind⟩
   obtain ⟨r0, e0⟩ : ∃ r0, a0 = q0 * b0 + r0 := ⟨a0 - q0 * b0, by grind⟩
   rw [Rv_quad nb e3 e2 e1 e0]
   clear hi h1 h0
   simp [Nf, N3, det3]
   subst e0 e1 e2
   grind
 | b0 :: b1 :: b2 :: b3 :: B, _ =>
  cases hA <;> simp at hl <;> omega
open Go Go.Abs Go.Abs.M Go.Proofs
theorem ugcdstep_call (Q : Abs.Rows) (s t : Bool) (r p : Abs.Rows) : ACall Tryz.prog 71 [.val (tl Q), .val (.agg [.v (.bool s), .lst false r, .v (.bool t), .lst false p])] ⟨[], [none, none]⟩ := by
 refine callZ ccOk mixed [] Tryz.func71 rfl rfl (by kernel_rfl) fun zA zB zC zD zE zF zG zH zI zJ zK zL zM zN zO zP zQ zR zS zT zU zV zX zY zZ za zb zc zd ze zg zh zi zj zk zl zm zn zo zq zr zt zu zw zx zy zz zW zth A L F hS hF => ?_
 cbv
 exact hF _ (ResLe.refl _)
def ueuSt (X Y : Abs.Rows) : St := mkSt 37 [.c (.t (.lst false X)), .c (.t (.lst false Y)), .c (.t (.v (.func (.func 71) #[] #[])))] [none, none, none]
theorem eu_round0 {W V : Nat} (hW : W <= 400000000) {A B G X K : List Rat} (hI : EuI W V A B [] []) (hE : Eu A B [] [] G X K) (hB : B ≠ []) :
  ∃ Q R c R', EuI W V B R' [] [] /\ Eu B R' [] [] G X K /\ R'.length = R.length /\ R'.length < B.length /\
   ACall Tryz.prog 23 [.val (tl (ur A)), .val (tl (ur B))] ⟨[.val (tl (ur Q)), .val (tl (ur R)), .val (ti .i64 0)], [none, none]⟩ /\
   (R = [] -> R' = [] /\ c = 1) /\ (R ≠ [] -> ACall Tryz.prog 76 [.val (tl (ur R))] ⟨[.val (.agg (qc c).row)], [none]⟩ /\ ACall Tryz.prog 21 [.val (.agg (qc c).row), .val (tl (ur R))] ⟨[.val (tl (ur R'))], [none, none]⟩) := by
 rcases hE.inv with ⟨h, _⟩ | ⟨_, Q2, R2, N2, d, e1, e2, e3, e4⟩
 ·exact absurd h hB
 obtain ⟨Q, R, c, R', hr, hl, hlt, hs, hq, hqW, cd, r0, r1⟩ := eu_step hI hB hW
 obtain ⟨u1, u2, u3⟩ := e1.uniq hI.tb hr
 subst u1 u2 u3
 have u4 : N2 = [] := tr_nil e2 fun x => by rw [e3]; simp only [Abs.ev]; grind
 subst u4
 exact ⟨Q2, R, d, R2, hI.next hB hr hs hq rfl (Nat.zero_le _) (fun v _ _ => (CF.zero _).congr fun j => by simp), e4, hl, by omega, cd, r0, r1⟩
theorem eu_run0 {W V : Nat} (hW : W <= 400000000) : ∀ (l : Nat) (A B : List Rat), B.length <= l -> EuI W V A B [] [] -> ∃ G X K, Eu A B [] [] G X K /\ ptrim G = G /\ CF W (fun j => G.getD j 0) /\ G.length <= 200 := by
 have stop : ∀ (A : List Rat), EuI W V A [] [] [] -> ∃ G X K, Eu A [] [] [] G X K /\ ptrim G = G /\ CF W (fun j => G.getD j 0) /\ G.length <= 200 := fun A h => by
  obtain ⟨s, c1, c2, c3⟩ := h.sz
  have a3 := h.la
  simp only [List.length_nil, Nat.pow_zero, Nat.mul_one] at c3
  have : s + 1 <= (s + 1) * (A.length + 1 - 0 + 1) := Nat.le_mul_of_pos_right _ (by omega)
  exact ⟨A, [], [], .nil A [] [], h.ta, c1.mono (by omega), a3⟩
 intro l
 induction l with
 | zero =>
  intro A B hl h
  have : B = [] := List.length_eq_zero_iff.1 (by omega)
  subst this
  exact stop A h
 | succ l ih =>
  intro A B hl h
  rcases Classical.em (B = []) with h0 | h0
  ·subst h0; exact stop A h
  ·obtain ⟨Q, R, c, R', hr, _, hlt, hs, hq, hqW, _⟩ := eu_step h h0 hW
   have hl' := hr.len
   obtain ⟨G, X, K, e, rest⟩ := ih B R' (by omega) (h.next h0 hr hs hq rfl (Nat.zero_le _) (fun v _ _ => (CF.zero _).congr fun j => by simp))
   exact ⟨G, X, K, .step h0 hr rfl (fun x => by simp only [Abs.ev]; grind) e, rest⟩
theorem ueuclid_gcd {W V : Nat} (hW : W <= 400000000) {A0 B0 G X K : List Rat} (hI : EuI W V A0 B0 [] []) (hE : Eu A0 B0 [] [] G X K) :
  ACall Tryz.prog 70 [.val (tl (ur A0)), .val (tl (ur B0)), .val (.c (.v (.func (.func 71) #[] #[])))] ⟨[.val (tl (ur G))], [none, none, none]⟩ := by
 obtain ⟨T, hT⟩ : ∃ T, T = ur G := ⟨_, rfl⟩
 obtain ⟨P, hP⟩ : ∃ T, T = ur A0 := ⟨_, rfl⟩
 obtain ⟨S, hS0⟩ : ∃ T, T = ur B0 := ⟨_, rfl⟩
 rw [<- hT, <- hP, <- hS0]
 refine callZ ccOk mixed [.val] Tryz.func70 rfl rfl (by kernel_rfl) fun zA zB zC zD zE zF zG zH zI zJ zK zL zM zN zO zP zQ zR zS zT zU zV zX zY zZ za zb zc zd ze zg zh zi zj zk zl zm zn zo zq zr zt zu zw zx zy zz zW zth A L F hS hF => ?_
 cbv
 refine loopZ ccOk mixed hS (fun (i : Nat) s' => ∃ (A' B' : List Rat) (X' Y : Abs.Rows), B'.length = i /\ EuI W V A' B' [] [] /\ Eu A' B' [] [] G X K /\ X' = ur A' /\ Y = ur B' /\ s' = ueuSt X' Y) (n := B0.length) (s0 := ueuSt P S) (qaz ?_ ?_) rfl (by show 3 <= 3; omega) ?_ ?_
 ·simp [leT, ueuSt, mkSt]
 ·simp [leH, ueuSt, mkSt]
 ·exact ⟨A0, B0, P, S, rfl, hI, hE, hP, hS0, rfl⟩
 ·rintro i s1 ⟨A', B', X', Y, hi, hI', hE', hX, hY, hs1⟩
  by_cases hB : B' = []
  ·subst hB
   have hG : X' = T := by
    rcases hE'.inv with ⟨_, h, _⟩ | ⟨h, _⟩
    ·rw [hX, hT, h]
    ·exact absurd rfl h
   have l1 : zO 0 (zY (zh Y)) = false := by rw [hS.lt, hS.ofN, hS.len, hY, qag]; rfl
   subst hG
   subst hs1
   cbv
   refine bF l1 ?_
   exact hF _ (ResLe.refl _)
  ·obtain ⟨Q, R, c, R', hI2, hE2, hl, hlt, cd, r0, r1⟩ := eu_round0 hW hI' hE' hB
   have hB1 : B'.length ≠ 0 := fun h0 => hB (List.length_eq_zero_iff.1 h0)
   have hlt' : R'.length < B'.length := hlt
   have hYl : Y.length = B'.length := by rw [hY, qag]
   have hRl : (ur R).length = R.length := qag R
   have hmm : R'.length < i := by omega
   obtain ⟨s, t, r, p, hrow, _⟩ := qrow c
   obtain ⟨s1, t1, r1', p1, hrow1, _⟩ := qrow 1
   have cw := pwhole_row 1 (by omega) (by omega)
   rw [show ((1 : Int) : Rat) = 1 from rfl, hrow1] at cw
   rw [<- hX, <- hY] at cd
   have l1 : zO 0 (zY (zh Y)) = true := by rw [hS.lt, hS.ofN, hS.len, hYl]; exact decide_eq_true (by omega)
   have cst := ugcdstep_call (ur Q) s t r p
   by_cases hR : R = []
   ·obtain ⟨r01, r02⟩ := r0 hR
    have l2 : zO 0 (zY (zh (ur R))) = false := by rw [hS.lt, hS.ofN, hS.len, hRl, hR]; rfl
    have hrr : ur R = ur R' := by rw [hR, r01]
    have e1 : [Tree.v (.bool s), .lst false r, .v (.bool t), .lst false p] = [Tree.v (.bool s1), .lst false r1', .v (.bool t1), .lst false p1] := by rw [<- hrow, <- hrow1, r02]
    rw [e1] at cst
    have hnx : ∃ (A' B'' : List Rat) (X' Y' : Abs.Rows), B''.length = R'.length /\ EuI W V A' B'' [] [] /\ Eu A' B'' [] [] G X K /\ X' = ur A' /\ Y' = ur B'' /\ ueuSt Y (ur R) = ueuSt X' Y' := ⟨B', R', Y, ur R', rfl, hI2, hE2, hY, rfl, by rw [hrr]⟩
    generalize ur R = UR at *
    generalize ur Q = UQ at *
    subst hs1
    cbv
    refine bT l1 ?_
    refine ⟨_, hS.call (cd), ?_⟩
    cbv
    refine ⟨_, hS.call (cw), ?_⟩
    cbv
    refine bF (l2) ?_
    refine ⟨_, hS.call (cst), ?_⟩
    cbv
    exact again (s' := ueuSt Y UR) (m := R'.length) (by simp [leT, ueuSt, mkSt]) (by simp [leH, ueuSt, mkSt]) rfl (by show 3 <= 3; omega) hmm hnx
   ·obtain ⟨r11, r12⟩ := r1 hR
    have hR1 : R.length ≠ 0 := fun h0 => hR (List.length_eq_zero_iff.1 h0)
    have l2 : zO 0 (zY (zh (ur R))) = true := by rw [hS.lt, hS.ofN, hS.len, hRl]; exact decide_eq_true (by omega)
    rw [hrow] at r11 r12
    have hnx : ∃ (A' B'' : List Rat) (X' Y' : Abs.Rows), B''.length = R'.length /\ EuI W V A' B'' [] [] /\ Eu A' B'' [] [] G X K /\ X' = ur A' /\ Y' = ur B'' /\ ueuSt Y (ur R') = ueuSt X' Y' := ⟨B', R', Y, ur R', rfl, hI2, hE2, hY, rfl, rfl⟩
    generalize ur R = UR at *
    generalize ur Q = UQ at *
    generalize ur R' = UR' at *
    subst hs1
    cbv
    refine bT l1 ?_
    refine ⟨_, hS.call (cd), ?_⟩
    cbv
    refine ⟨_, hS.call (cw), ?_⟩
    cbv
    refine bT (l2) ?_
    refine ⟨_, hS.call (r11), ?_⟩
    cbv
    refine ⟨_, hS.call (r12), ?_⟩
    cbv
    refine ⟨_, hS.call (cst), ?_⟩
    cbv
    exact again (s' := ueuSt Y UR') (m := R'.length) (by simp [leT, ueuSt, mkSt]) (by simp [leH, ueuSt, mkSt]) rfl (by show 3 <= 3; omega) hmm hnx
open Go Go.Abs Go.Abs.M Go.Proofs
structure IsG (A B G : List Rat) : Prop where
 tr : ptrim G = G
 da : Dv G A
 db : Dv G B
 gr : ∀ D, Dv D A -> Dv D B -> Dv D G
 mon : G ≠ [] -> Mon G
theorem IsG.uniq {A B G H : List Rat} (h : IsG A B G) (h' : IsG A B H) : G = H := by
 have d1 := h'.gr G h.da h.db
 have d2 := h.gr H h'.da h'.db
 rcases Classical.em (G = []) with h0 | h0
 ·obtain ⟨K, hK⟩ := d1
  rw [h0]
  exact (tr_nil h'.tr fun x => by rw [hK, h0]; simp only [Abs.ev]; grind).symm
 rcases Classical.em (H = []) with h1 | h1
 ·obtain ⟨K, hK⟩ := d2
  exact absurd (tr_nil h.tr fun x => by rw [hK, h1]; simp only [Abs.ev]; grind) h0
 exact mon_uniq h.tr h'.tr (h.mon h0) (h'.mon h1) d1 d2
theorem IsG.symm {A B G : List Rat} (h : IsG A B G) : IsG B A G := ⟨h.tr, h.db, h.da, fun D a b => h.gr D b a, h.mon⟩
theorem IsG.nil {A B G : List Rat} (hA : ptrim A = A) (hB : ptrim B = B) (h : IsG A B G) : G = [] ↔ A = [] /\ B = [] := by
 refine ⟨fun h0 => ?_, fun ⟨h1, h2⟩ => ?_⟩
 ·obtain ⟨K, hK⟩ := h.da
  obtain ⟨L, hL⟩ := h.db
  exact ⟨tr_nil hA fun x => by rw [hK, h0]; simp only [Abs.ev]; grind, tr_nil hB fun x => by rw [hL, h0]; simp only [Abs.ev]; grind⟩
 ·obtain ⟨K, hK⟩ := h.gr [] (h1 ▸ Dv.refl []) (h2 ▸ Dv.refl [])
  exact tr_nil h.tr fun x => by rw [hK]; simp only [Abs.ev]; grind
theorem eu_start {W s n : Nat} {A B : List Rat} (hA : ptrim A = A) (hB : ptrim B = B) (cA : CF s (fun j => A.getD j 0)) (cB : CF s (fun j => B.getD j 0)) (hn : A.length <= n) {m : Nat} (hm : B.length <= m) (hW : (s + 1) * (n + 2) * 3 ^ m <= W) (hl : n + 2 * m <= 190) {v V : Nat} {U N : List Rat} (hU : ptrim U = U) (hN : ptrim N = N) (cU : CF v (fun j => U.getD j 0)) (cN : CF v (fun j => N.getD j 0)) (lU : U.length <= 1) (lN : N.length <= 1) (hV : (v + 4 * W + 4) * 2 ^ m <= V) : EuI W V A B U N :=
 ⟨hA, hB, hU, hN, ⟨s, cA, cB, Nat.le_trans (Nat.mul_le_mul (Nat.mul_le_mul_left _ (by omega)) (Nat.pow_le_pow_right (by omega) hm)) hW⟩, ⟨v, cU, cN, Nat.le_trans (Nat.mul_le_mul_left _ (Nat.pow_le_pow_right (by omega) hm)) hV⟩, by omega, by omega, by omega⟩
theorem isg_of {A B U N X K R G : List Rat} (hE : Eu A B U N R X K) (hG : ptrim G = G) (hR : ptrim R = R) (h1 : R = [] -> G = []) (h2 : R ≠ [] -> ∀ x, Abs.ev G x = (R.getD (R.length - 1) 0)⁻¹ * Abs.ev R x) : IsG A B G := by
 obtain ⟨d1, d2, d3⟩ := hE.dvd
 rcases Classical.em (R = []) with h0 | h0
 ·have hG0 := h1 h0
  rw [hG0, <- h0]
  exact ⟨hR, d1, d2, d3, fun h => absurd h0 h⟩
 ·have hL := tr_last hR h0
  have hi := Rat.inv_mul_cancel _ hL
  generalize hLe : R.getD (R.length - 1) 0 = L at *
  have hi0 : L⁻¹ ≠ 0 := fun h1 => by rw [h1, Rat.zero_mul] at hi; exact absurd hi (by decide)
  have hGe : G = lsc L⁻¹ R := tr_inj hG (lsc_trim hi0 hR) fun x => by rw [h2 h0, qa7]
  refine ⟨hG, hGe ▸ d1.scale hi0, hGe ▸ d2.scale hi0, fun D e1 e2 => ?_, fun h => ⟨h, ?_⟩⟩
  ·exact Dv.lin (U := [L⁻¹]) (V := []) (d3 D e1 e2) (d3 D e1 e2) fun x => by rw [h2 h0]; simp only [Abs.ev]; grind
  ·rw [hGe, lsc_get, qa3, hLe, hi]
theorem pb_gcd {f g : Rat -> Rat} {n m s : Nat} {A0 B0 : List Rat} (W : Nat) (hA : PB f n s A0) (hB : PB g m s B0) (hW : (s + 1) * (n + 2) * 3 ^ m <= W) (hW2 : W <= 400000000) (hl : n + 2 * m <= 190) :
  ∃ G, IsG A0 B0 G /\ CF W (fun j => G.getD j 0) /\ G.length <= 200 /\ ACall Tryz.prog 25 [.val (tl (ur A0)), .val (tl (ur B0))] ⟨[.val (tl (ur G))], [none, none]⟩ := by
 have hz : ∀ v, CF v (fun j => ([] : List Rat).getD j 0) := fun v => (CF.zero v).congr fun j => by simp
 have hI : EuI W ((0 + 4 * W + 4) * 2 ^ m) A0 B0 [] [] := eu_start hA.tr hB.tr hA.cf hB.cf hA.len hB.len hW hl rfl rfl (hz 0) (hz 0) (Nat.zero_le _) (Nat.zero_le _) (Nat.le_refl _)
 obtain ⟨R, X, K, hE, tR, cR, lR⟩ := eu_run0 hW2 _ A0 B0 (Nat.le_refl _) hI
 have ce := ueuclid_gcd hW2 hI hE
 have hm : ∃ G, ptrim G = G /\ (R = [] -> G = []) /\ (R ≠ [] -> ∀ x, Abs.ev G x = (R.getD (R.length - 1) 0)⁻¹ * Abs.ev R x) /\ CF W (fun j => G.getD j 0) /\ G.length <= 200 /\ ACall Tryz.prog 32 [.val (tl (ur R))] ⟨[.val (tl (ur G))], [none]⟩ := by
  rcases Classical.em (R = []) with h0 | h0
  ·subst h0
   exact ⟨[], rfl, fun _ => rfl, fun h => absurd rfl h, hz W, Nat.zero_le _, umonic_nil⟩
  ·have hP : PB (Abs.ev R) 200 W R := ⟨tR, fun x => rfl, lR, cR⟩
   obtain ⟨G, hG, cG⟩ := pl_monic hP.pl h0 (by omega) (by omega)
   refine ⟨G, hG.tr, fun h => absurd h h0, fun _ => hG.ev, ?_, hG.len, cG⟩
   have hL := tr_last tR h0
   exact (cR.div (R.length - 1) hL).congr fun j => by
    rw [ev_coef (P := G) (Q := lsc (R.getD (R.length - 1) 0)⁻¹ R) (fun x => by rw [hG.ev, qa7]) j, lsc_get]
 obtain ⟨G, tG, g1, g2, cG, lG, cm⟩ := hm
 refine ⟨G, isg_of hE tG tR g1 g2, cG, lG, ?_⟩
 generalize ur A0 = X1 at *
 generalize ur B0 = X2 at *
 generalize ur R = X3 at *
 generalize ur G = X4 at *
 refine callZ ccOk mixed [.val] Tryz.func25 rfl rfl (by kernel_rfl) fun zA zB zC zD zE zF zG zH zI zJ zK zL zM zN zO zP zQ zR zS zT zU zV zX zY zZ za zb zc zd ze zg zh zi zj zk zl zm zn zo zq zr zt zu zw zx zy zz zW zth A L F hS hF => ?_
 cbv
 refine ⟨_, hS.call (ce), ?_⟩
 cbv
 refine ⟨_, hS.call (cm), ?_⟩
 cbv
 exact hF _ (ResLe.refl _)
open Go Go.Abs Go.Abs.M Go.Proofs
theorem Nf_zero {A : List Rat} (h : Mo A) (h2 : 2 <= A.length) : Nf A 0 0 0 = 0 := by
 cases h with
 | zero => simp at h2
 | one a0 => simp [Nf]
 | two a0 a1 => simp [Nf]; grind
 | three a0 a1 a2 => simp [Nf, N3, det3]; grind
theorem Rv_norm {A X D Q : List Rat} (hA : Mo A) (tX : ptrim X = X) (hX : X ≠ []) (hD : D.length < A.length) (e : ∀ x, Abs.ev X x = Abs.ev Q x * Abs.ev A x + Abs.ev D x) : Rv A X = Nf A (D.getD 0 0) (D.getD 1 0) (D.getD 2 0) := by
 obtain ⟨tA, nA, lA⟩ := hA.tr
 have hX1 := len_ne hX
 have hA1 := len_ne nA
 obtain ⟨R, hR⟩ : ∃ R, R = ptrim D := ⟨_, rfl⟩
 have tR : ptrim R = R := by rw [hR]; exact qaq _
 have lR : R.length < A.length := by
  have := trim_len_le (P := D) (n := D.length) fun j hj => qbe D hj
  rw [hR]; omega
 have eR : ∀ x, Abs.ev X x = Abs.ev Q x * Abs.ev A x + Abs.ev R x := fun x => by rw [hR, qav]; exact e x
 have gD : ∀ j, D.getD j 0 = R.getD j 0 := fun j => by rw [hR, ptrim_get]
 rw [gD, gD, gD]
 rcases Nat.lt_or_ge X.length A.length with h | h
 ·have : ptrim Q = [] /\ R = X := div_uniq (qaq Q) tR rfl tX tA lR h fun x => by rw [qav, <- eR]; simp only [Abs.ev]; grind
  rw [this.2]
  exact Rv_low hA tX hX h
 ·rcases Nat.lt_or_ge 1 A.length with h1 | h1
  ·rw [Rv_swap tA tX nA hX]
   rcases Classical.em (R = []) with h0 | h0
   ·rw [Rv_stop tX tA hX h1 (Q := Q) fun x => by rw [eR, h0]; simp only [Abs.ev]; grind, h0]
    have := Nf_zero hA h1
    simp only [List.getD_nil]
    rw [this, Rat.mul_zero]
   ·rw [Rv_step tX tA hX h1 tR h0 lR eR, lA, pow_one, Rv_low hA tR h0 lR, Nat.mul_comm (X.length - 1)]
    have := sg_sq ((A.length - 1) * (X.length - 1))
    grind
  ·have hA2 : A.length = 1 := by omega
   have h3 : Rv A X = 1 := by
    rcases Nat.lt_or_ge 1 X.length with h2 | h2
    ·rw [Rv_swap tA tX nA hX, qbg tX tA hX hA2, lA, pow_one, hA2]
     simp [Rat.mul_one]
    ·rw [qbg tA tX nA (by omega), hA2]; simp
   rw [h3]
   cases hA with
   | zero => rfl
   | one a0 => simp at hA2
   | two a0 a1 => simp at hA2
   | three a0 a1 a2 => simp at hA2
theorem Rv_mul_mo {A B C P : List Rat} (hA : Mo A) (tB : ptrim B = B) (hB : B ≠ []) (tC : ptrim C = C) (hC : C ≠ []) (tP : ptrim P = P) (e : ∀ x, Abs.ev P x = Abs.ev B x * Abs.ev C x) : Rv A P = Rv A B * Rv A C := by
 obtain ⟨tA, nA, lA⟩ := hA.tr
 have hP : P ≠ [] := fun h => by
  obtain ⟨x, hx⟩ := tr_ne tB hB
  obtain h1 | h1 := ev_mul_zero (P := B) (B := C) fun x => by rw [<- e, h]; rfl
  ·exact hB (tr_nil tB h1)
  ·exact hC (tr_nil tC h1)
 obtain ⟨Q1, R1, _, _, l1, e1⟩ := dm_ex tB tA nA
 obtain ⟨Q2, R2, _, _, l2, e2⟩ := dm_ex tC tA nA
 obtain ⟨D, Q, hD, lD, eD⟩ := Md_ev hA l1 l2
 rw [Rv_norm hA tP hP (D := D) (Q := ladd (ladd (lmul (lmul Q1 Q2) A) (lmul Q1 R2)) (ladd (lmul Q2 R1) Q)) lD fun x => by
  rw [e, e1, e2]
  have := eD x
  simp only [ev_ladd, ev_lmul]
  grind, Rv_norm hA tB hB l1 e1, Rv_norm hA tC hC l2 e2, hD]
 exact Nf_mul hA _ _ _ _ _ _
theorem Rv_mul {A B C P : List Rat} (tA : ptrim A = A) (hA : A ≠ []) (l4 : A.length <= 4) (tB : ptrim B = B) (hB : B ≠ []) (tC : ptrim C = C) (hC : C ≠ []) (tP : ptrim P = P) (e : ∀ x, Abs.ev P x = Abs.ev B x * Abs.ev C x) : Rv A P = Rv A B * Rv A C := by
 have hP : P ≠ [] := fun h => by
  obtain h1 | h1 := ev_mul_zero (P := B) (B := C) fun x => by rw [<- e, h]; rfl
  ·exact hB (tr_nil tB h1)
  ·exact hC (tr_nil tC h1)
 have hn := lc_ne tA hA
 have hi := Rat.inv_mul_cancel _ hn
 have hin : (lc A)⁻¹ ≠ 0 := fun h => by rw [h] at hi; simp [Rat.zero_mul] at hi
 have hm : Mo (lsc (lc A)⁻¹ A) := Mo.of (lsc_ne hA) (by rw [qa3]; exact l4) (by rw [lc_lsc, hi])
 have key : ∀ {X}, ptrim X = X -> X ≠ [] -> Rv (lsc (lc A)⁻¹ A) X = ((lc A)⁻¹) ^ (X.length - 1) * Rv A X := fun tX hX => (Rv_scale _ A _ _ (Nat.le_refl _) tA tX hA hX hin).1
 have h := Rv_mul_mo hm tB hB tC hC tP e
 rw [key tP hP, key tB hB, key tC hC] at h
 have hl := tr_len tB tC tP e hB hC
 have hB1 := len_ne hB
 have hC1 := len_ne hC
 rw [show P.length - 1 = (B.length - 1) + (C.length - 1) by omega, rpow_add] at h
 have k1 := pow_inv_r hi (B.length - 1)
 have k2 := pow_inv_r hi (C.length - 1)
 generalize ((lc A)⁻¹) ^ (B.length - 1) = u at *
 generalize ((lc A)⁻¹) ^ (C.length - 1) = w at *
 generalize (lc A) ^ (B.length - 1) = u' at *
 generalize (lc A) ^ (C.length - 1) = w' at *
 generalize Rv A P = p at *
 generalize Rv A B = b at *
 generalize Rv A C = c at *
 have h5 : (u * u') * (w * w') * p = (u * u') * (w * w') * (b * c) := by
  have : (u * u') * (w * w') * p = u' * w' * (u * w * p) := by grind
  rw [this, h]; grind
 rw [k1, k2] at h5
 grind
theorem pow_ne {a : Rat} (h : a ≠ 0) (n : Nat) : a ^ n ≠ 0 := fun h1 => by
 have := pow_inv_r (Rat.mul_inv_cancel _ h) n
 rw [h1, Rat.zero_mul] at this
 exact absurd this (by decide)
theorem Rv_zero : ∀ (l : Nat) (A B G : List Rat), B.length <= l -> ptrim A = A -> ptrim B = B -> A ≠ [] -> B ≠ [] -> IsG A B G -> (Rv A B = 0 ↔ 1 < G.length) := by
 intro l
 induction l with
 | zero => exact fun A B G hl _ _ _ hB => absurd (List.length_eq_zero_iff.1 (by omega)) hB
 | succ l ih =>
  intro A B G hl tA tB hA hB hG
  have hB1 := len_ne hB
  rcases Nat.lt_or_ge 1 B.length with h2 | h2
  ·obtain ⟨Q, R, tQ, tR, hlt, heq⟩ := dm_ex tA tB hB
   rcases Classical.em (R = []) with h3 | h3
   ·have e1 : ∀ x, Abs.ev A x = Abs.ev Q x * Abs.ev B x := fun x => by rw [heq, h3]; simp only [Abs.ev]; grind
    have hd : Dv B G := hG.gr B ⟨Q, e1⟩ (Dv.refl B)
    have hG0 : G ≠ [] := fun h => hA ((IsG.nil tA tB hG).1 h).1
    have := (Dv.len tB hG.tr hd hG0).2
    exact ⟨fun _ => by omega, fun _ => Rv_stop tA tB hA h2 e1⟩
   ·have hG' : IsG B R G := ⟨hG.tr, hG.db, Dv.lin hG.da hG.db (U := [1]) (V := lsc (-1) Q) fun x => by rw [qa7, heq]; simp only [Abs.ev]; grind,
     fun D a b => hG.gr D (Dv.lin a b (U := Q) (V := [1]) fun x => by rw [heq]; simp only [Abs.ev]; grind) a, hG.mon⟩
    rw [<- ih B R G (by omega) tB tR hB h3 hG', Rv_step tA tB hA h2 tR h3 hlt heq]
    have n1 := pow_ne (lc_ne tB hB) (A.length - R.length)
    have n2 : ((-1 : Rat)) ^ ((A.length - 1) * (B.length - 1)) ≠ 0 := pow_ne (by decide) _
    rw [Rat.mul_eq_zero, Rat.mul_eq_zero]
    exact ⟨fun h => (h.resolve_left fun h => h.elim n1 n2), .inr⟩
  ·have hone : B.length = 1 := by omega
   have := (Dv.len hG.tr tB hG.db hB).2
   rw [qbg tA tB hA hone]
   exact ⟨fun h => absurd h (pow_ne (lc_ne tB hB) _), fun h => by omega⟩
theorem Rv_root {B : List Rat} {t : Rat} (tB : ptrim B = B) (hB : B ≠ []) : Rv [-t, 1] B = Abs.ev B t := by
 have hA : Mo [-t, 1] := .one _
 obtain ⟨tA, nA, lA⟩ := hA.tr
 obtain ⟨Q, R, tQ, tR, hlt, heq⟩ := dm_ex tB tA nA
 rw [Rv_norm hA tB hB hlt heq, heq]
 simp only [List.length_cons, List.length_nil] at hlt
 rw [ev3 R t (by omega), qbe R (j := 1) (by omega), qbe R (j := 2) (by omega)]
 simp only [Nf, Abs.ev]
 grind
open Go Go.Abs Go.Abs.M Go.Proofs
open Go Go.Abs Go.Abs.M Go.Proofs
open Go Go.Abs Go.Abs.M Go.Proofs
def RW.pl (x : RW) : RW := ⟨x.n, x.d, 0⟩
theorem RW.pl_ok {x : RW} (h : x.ok) : x.pl.ok := ⟨h.n1, h.n2, h.d1, h.d2, by show (0 : Int) <= 0; omega, by show (0 : Int) < 256; omega⟩
theorem rwrows_app (xs : List RW) (x : RW) : rwrows (xs ++ [x]) = rwrows xs ++ [x.row] := by simp [rwrows]
theorem rwrows_len (xs : List RW) : (rwrows xs).length = xs.length := by simp [rwrows]
def rplSt (R : Abs.Rows) (D : Int) (len : Nat) (r : Abs.Rows) (i : Int) : St := mkSt 31 [.c (.t (.lst false R)), vi .i64 D, .junk, .junk, .junk, .c (.sl 2 0 len false), vi .i64 i] [none, none, some (.rows 3 r true false)]
theorem rplain_call (xs : List RW) (hx : ∀ x ∈ xs, x.ok) (D : Int) (hD : 0 <= D) (hD2 : D <= 100) (hlx : xs.length * 3 <= 140737488355328) :
  ACall Tryz.prog 24 [.val (tl (rwrows xs)), .val (ti .i64 D)] ⟨[.val (tl (ur (ptrim (((xs.map RW.pl).take (D.toNat + 1)).map RW.q))))], [none, none]⟩ := by
 have cmd := umade_call (xs.map RW.pl) (fun x hx' => by obtain ⟨y, hy, rfl⟩ := List.mem_map.1 hx'; exact RW.pl_ok (hx y hy)) D hD hD2 (by rw [List.length_map]; omega)
 obtain ⟨R, hR⟩ : ∃ R, R = rwrows xs := ⟨_, rfl⟩
 obtain ⟨n, hn⟩ : ∃ n, n = xs.length := ⟨_, rfl⟩
 obtain ⟨ys, hys⟩ : ∃ ys, ys = xs.map RW.pl := ⟨_, rfl⟩
 rw [<- hys] at cmd ⊢
 have hRl : R.length = n := by rw [hR, hn]; simp [rwrows]
 have hget : ∀ i, i < n -> ∃ x : RW, ys[i]? = some x.pl /\ R[i]? = some x.row := fun i hi => by
  have h : xs[i]? = some xs[i] := List.getElem?_eq_getElem (by omega)
  have h2 : (rwrows xs)[i]? = some (xs[i]).row := by simp [rwrows, h]
  rw [<- hR] at h2
  exact ⟨_, by rw [hys, List.getElem?_map, h]; rfl, h2⟩
 have hyl : ys.length = n := by rw [hys, List.length_map, hn]
 rw [<- hR]
 generalize hT : ur (ptrim ((ys.take (D.toNat + 1)).map RW.q)) = T at *
 rw [<- hn] at hlx
 clear hR hx hys
 refine callZ ccOk mixed [.val] Tryz.func24 rfl rfl (by kernel_rfl) fun zA zB zC zD zE zF zG zH zI zJ zK zL zM zN zO zP zQ zR zS zT zU zV zX zY zZ za zb zc zd ze zg zh zi zj zk zl zm zn zo zq zr zt zu zw zx zy zz zW zth A L F hS hF => ?_
 have hlx2 : zh R = n := by rw [hS.len, hRl]
 obtain ⟨N, hN, hN2⟩ : ∃ N : Int, N = n /\ zY (zh R) = N := ⟨_, rfl, by rw [hlx2, hS.ofN]⟩
 cbv
 have hN : N = (n : Int) := hN
 refine loopZR ccOk mixed hS (fun (m : Nat) s' => ∃ (i : Nat) (I : Int) (r : Abs.Rows), I = i /\ i + m = n /\ r = rwrows (ys.take i) /\ s' = rplSt R D i r I) (n := n) (s0 := rplSt R D 0 [] 0) (qaz ?_ ?_) rfl (by show 2 <= 3; omega) ?_ ?_
 ·simp [leT, rplSt, mkSt, vi, vb]
 ·simp [leH, rplSt, mkSt]
 ·exact ⟨0, 0, [], rfl, by omega, rfl, rfl⟩
 ·rintro m s1 ⟨i, I, r, hI, him, hr, hs1⟩
  have hrl : r.length = i := by rw [hr, rwrows_len, List.length_take]; omega
  by_cases hi : i < n
  ·have l1 : zO I (zY (zh R)) = true := by rw [hN2, hS.lt]; exact decide_eq_true (by omega)
   obtain ⟨x, hxi, hnth⟩ := hget i hi
   have g1 : zP 0 I = true := by rw [hS.le]; exact decide_eq_true (by omega)
   have hz : zi R (zV I) = some [.v (.int .i8 x.n), .v (.int .i8 x.d), .v (.int .u8 x.k)] := by rw [hS.nat, hI, Int.toNat_natCast, hS.nth, hnth]; rfl
   obtain ⟨row, hrw⟩ : ∃ row, row = [Tree.v (.int .i8 x.n), .v (.int .i8 x.d), .v (.int .u8 0)] := ⟨_, rfl⟩
   have hr4 : row.length = 3 := by rw [hrw]; rfl
   have u0 : zo [row] 0 1 = [row] := by rw [hS.part]; rfl
   have u1 : zn 0 1 [row] = true := by rw [hS.fit]; rfl
   have u2 : zQ (za (zh [row]) 0) = true := by rw [hS.len, hS.neq, hS.not]; rfl
   have u3 : zu 3 [row] = true := by rw [hS.wide]; simp [hr4]
   have u4 : ze i (zh [row]) 3 = true := by rw [hS.len, hS.room]; exact decide_eq_true (by unfold capBytes; simp only [List.length_cons, List.length_nil]; omega)
   have u5 : za (zb 0 i) (zh r) = true := by rw [hS.nadd, hS.neq, hS.len, hrl, Nat.zero_add]; exact decide_eq_true rfl
   have u6 : zb i (zh [row]) = i + 1 := by rw [hS.len, hS.nadd]; rfl
   obtain ⟨r2, hr2⟩ : ∃ r2, r2 = rwrows (ys.take (i + 1)) := ⟨_, rfl⟩
   have u7 : zq r 0 [row] = r2 := by
    rw [hS.ext, List.drop_zero, hr, hr2, List.take_add_one, hxi, Option.toList_some, rwrows_app, hrw]; rfl
   obtain ⟨I', hI', i1⟩ : ∃ I' : Int, I' = ((i + 1 : Nat) : Int) /\ zA .i64 (zB I 1) = I' := ⟨I + 1, by omega, by rw [hS.add, hS.wrap, wrap_i64 (by omega) (by omega)]⟩
   have hmm : m - 1 < m := by omega
   have hnx : ∃ (i2 : Nat) (I2 : Int) (r' : Abs.Rows), I2 = i2 /\ i2 + (m - 1) = n /\ r' = rwrows (ys.take i2) /\ rplSt R D (i + 1) r2 I' = rplSt R D i2 r' I2 := ⟨i + 1, I', r2, hI', by omega, hr2, rfl⟩
   clear hget hr hr2 hrl
   subst hs1
   cbv
   refine bT l1 ?_
   rw [hz]
   cbv
   refine nd (g1) ?_
   rw [hz]
   cbv
   refine nd (g1) ?_
   rw [<- hrw, u0]
   refine nd (u1) ?_
   refine nd (u2) ?_
   refine nd (u3) ?_
   refine nd (u4) ?_
   refine nd (u5) ?_
   refine againR [(2, 4)] (s' := rplSt R D (i + 1) r2 I') (k := m - 1) ?_ ?_ ?_ ?_ rfl (by show 2 <= 3; omega) hmm hnx
   ·simp [leTR, rplSt, mkSt, vi, AV.ren, AV.noTup, Cell.ren, renF, i1, u6]
   ·simp [leHR, rplSt, mkSt, Abs.look, renF, Blk.ren, u7]
   ·simp [liveR, rplSt, mkSt]
   ·simp
  ·have l1 : zO I (zY (zh R)) = false := by rw [hN2, hS.lt]; exact decide_eq_false (by omega)
   have hrT : r = rwrows ys := by rw [hr, show i = ys.length by omega, List.take_length]
   rw [<- hrT] at cmd
   have f1 : zn 0 i r = true := by rw [hS.fit]; exact decide_eq_true (by omega)
   have f2 : zo r 0 i = r := by rw [hS.part, List.drop_zero, List.take_of_length_le (by omega)]
   clear hget hr
   subst hs1
   cbv
   refine bF l1 (nd f1 ?_)
   rw [f2]
   refine ⟨_, hS.call (cmd), ?_⟩
   cbv
   exact hF _ (ResLe.refl _)
end Go.Proofs.YtdhidmcjglokcaaGreat
end
