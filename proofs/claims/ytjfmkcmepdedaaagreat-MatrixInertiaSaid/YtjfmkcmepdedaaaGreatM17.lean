/-
  A part of the proof: MtS, MtG, MtI, MxJ1k, MsZ1k.
-/
import Derived.Test.YtjfmkcmepdedaaaGreatM16
set_option maxHeartbeats 0
set_option maxRecDepth 100000
set_option linter.unusedVariables false
set_option linter.unusedSimpArgs false
set_option linter.unusedSectionVars false
section
namespace Go.Abs
def tr (w:Nat) (v:RV):RV:=fun y=>if y < w then v y else 0
theorem tr_lt {w y:Nat} {v:RV} (h:y < w):tr w v y=v y:=if_pos h
theorem tr_ge {w y:Nat} {v:RV} (h:w<=y):tr w v y=0:=if_neg (by omega)
theorem sp_tr {n w:Nat} {E M:Nat->RV} (hM:∀ i,i < n->∀ y,M i y=tr w (E i) y) {v:RV} (hv:Sp (Rs n E) v):Sp (Rs n M) (tr w v):=by
 induction hv with
 | mem h=>
  obtain ⟨i,hi,e⟩:=h
  exact (Sp.row hi).cast fun y=>by rw [e,hM i hi]
 | zero=>exact Sp.zero.cast fun y=>by unfold tr; split <;> rfl
 | add _ _ a b=>
  refine (Sp.add a b).cast fun y=>?_
  unfold tr
  split <;> grind
 | smul c _ a=>
  refine (Sp.smul c a).cast fun y=>?_
  unfold tr
  split <;> grind
theorem sumN_cut (f:Nat->Rat) {m:Nat}:∀ n,m<=n->(∀ i,m<=i->i < n->f i=0)->sumN n f=sumN m f
 | 0,h,_=>by rw [show m=0 by omega]
 | n+1,h,hz=>by
  by_cases e:m=n+1
  ·rw [e]
  ·rw [sumN,hz n (by omega) (by omega),Rat.add_zero,sumN_cut f n (by omega) fun i h1 h2=>hz i h1 (by omega)]
theorem rre_cut {n w k m:Nat} {E M b:Nat->RV} {p:Nat->Nat} (h:RRE (Rs n E) k b p) (hm:m<=k) (hp:∀ l,l < m->p l < w) (hp2:∀ l,m<=l->l < k->w<=p l) (hM:∀ i,i < n->∀ y,M i y=tr w (E i) y):RRE (Rs n M) m (fun i=>tr w (b i)) p:=by
 refine ⟨⟨fun i hi=>sp_tr hM (h.ub.mem i (by omega)),fun i hi=>?_,fun i hi l hl hne=>?_,fun v hv=>?_⟩,fun i hi j hj=>?_,fun i l h1 h2=>h.inc i l h1 (by omega)⟩
 ·show tr w (b i) (p i)=1
  rw [tr_lt (hp i hi),h.ub.one i (by omega)]
 ·show tr w (b i) (p l)=0
  rw [tr_lt (hp l hl),h.ub.off i (by omega) l (by omega) hne]
 ·refine ub_gen (S:=Rs n M) (fun v ⟨i,hi,e⟩ j=>?_) v hv
  subst e
  show M i j=sumN m fun l=>M i (p l)*tr w (b l) j
  rw [hM i hi]
  by_cases hj:j < w
  ·rw [tr_lt hj,h.ub.gen (E i) (.row hi) j,sumN_cut _ k hm fun l h1 h2=>by rw [h.lead l h2 j (by have:=hp2 l h1 h2; omega),Rat.mul_zero]]
   exact qab m fun l hl=>by rw [hM i hi,tr_lt (hp l hl),tr_lt hj]
  ·rw [tr_ge (by omega),qab m (g:=fun _=>0) fun l hl=>by rw [tr_ge (by omega),Rat.mul_zero],qa3]
 ·show tr w (b i) j=0
  unfold tr
  split
  ·exact h.lead i (by omega) j hj
  ·rfl
end Go.Abs
end
section
namespace Go.Abs
def uniL (n i:Nat):List Rat:=(List.replicate n 0).set i 1
def exI (n:Nat) (M:Nat->List Rat):Nat->List Rat:=fun i=>M i ++ uniL n i
theorem uniL_len (n i:Nat):(uniL n i).length=n:=by simp [uniL]
theorem exI_len {n i:Nat} {M:Nat->List Rat} (h:(M i).length=n):(exI n M i).length=n+n:=by simp [exI,uniL_len,h]
theorem uniL_rv {n i y:Nat} (hi:i < n):rv (uniL n i) y=if y=i then 1 else 0:=by
 unfold rv uniL
 rw [List.getD_eq_getElem?_getD,List.getElem?_set]
 by_cases h:i=y
 ·rw [if_pos h,if_pos (by simp; exact hi),if_pos h.symm]; rfl
 ·rw [if_neg h,if_neg (Ne.symm h),List.getElem?_replicate]
  split <;> rfl
theorem exI_lt {n i y:Nat} {M:Nat->List Rat} (h:(M i).length=n) (hy:y < n):rv (exI n M i) y=rv (M i) y:=by
 unfold rv exI
 rw [List.getD_eq_getElem?_getD,List.getD_eq_getElem?_getD,List.getElem?_append_left (by omega)]
theorem exI_ge {n i y:Nat} {M:Nat->List Rat} (h:(M i).length=n) (hi:i < n):rv (exI n M i) (n+y)=if y=i then 1 else 0:=by
 rw [<- uniL_rv (n:=n) (y:=y) hi]
 unfold rv exI
 rw [List.getD_eq_getElem?_getD,List.getD_eq_getElem?_getD,List.getElem?_append_right (by omega),h,Nat.add_sub_cancel_left]
theorem drop_rv (P:List Rat) (n y:Nat):rv (P.drop n) y=rv P (n+y):=by
 unfold rv
 rw [List.getD_eq_getElem?_getD,List.getD_eq_getElem?_getD,List.getElem?_drop]
theorem inv_facts {n:Nat} {M:Nat->List Rat} (hl:∀ i,i < n->(M i).length=n) {k:Nat} {R:Nat->List Rat} {p:Nat->Nat} (hk:k=(rdIt n (exI n M) (n+n)).k) (hR:R=(rdIt n (exI n M) (n+n)).R) (hp:p=(rdIt n (exI n M) (n+n)).p) :
  k=n/\((n ≠ 0->p (n - 1)=n - 1)->∀ i,i < n->∀ y,y < n->(sumN n fun l=>rv (M i) l*rv ((R l).drop n) y)=(if y=i then 1 else 0)/\(sumN n fun l=>rv ((R i).drop n) l*rv (M l) y)=if y=i then 1 else 0) /\
  (n ≠ 0->p (n - 1) ≠ n - 1->¬∀ v:RV,(∀ y,n<=y->v y=0)->Sp (Rs n fun i=>rv (M i)) v):=by
 have ok:=rdIt_ok (fun i hi=>exI_len (hl i hi)) (n+n)
 rw [<- hk,<- hR,<- hp] at ok
 have h:=ok.rre
 have hub:UB (Rs n fun i=>rv (exI n M i)) n (fun i=>rv (exI n M i)) (fun i=>n+i):=UB.of_rows (fun i hi=>by
  show rv (exI n M i) (n+i)=1
  rw [exI_ge (hl i hi) hi,if_pos rfl]) (fun i hi l hl' hne=>by
  show rv (exI n M i) (n+l)=0
  rw [exI_ge (hl i hi) hi,if_neg hne])
 obtain rfl:k=n:=h.ub.card hub (SpE.refl _)
 have hge:∀ l,l < k->l<=p l:=fun l=>by
  induction l with
  | zero=>intro _; omega
  | succ l ih=>
   intro hlk
   have h1:=ih (by omega)
   have h2:=ok.inc l (l+1) (by omega) hlk
   omega
 refine ⟨rfl,fun hlast i hi y hy=>?_,fun h0 hne hall=>?_⟩
 ·have hk1:=hlast (by omega)
  have hle:∀ d l,l+d=k - 1->p l<=l:=fun d=>by
   induction d with
   | zero=>intro l hl; rw [show l=k - 1 by omega,hk1]; exact Nat.le_refl _
   | succ d ih=>
    intro l hl
    have h1:=ih (l+1) (by omega)
    have h2:=ok.inc l (l+1) (by omega) (by omega)
    omega
  have hpl:∀ l,l < k->p l=l:=fun l hlk=>Nat.le_antisymm (hle (k - 1 - l) l (by omega)) (hge l hlk)
  constructor
  ·have e:=h.ub.gen (rv (exI k M i)) (.row (R:=fun i=>rv (exI k M i)) hi) (k+y)
   rw [exI_ge (hl i hi) hi] at e
   rw [e]
   exact qab k fun l hlk=>by rw [hpl l hlk,exI_lt (hl i hi) hlk,drop_rv]
  ·have e:=hub.gen (rv (R i)) (h.ub.mem i hi) y
   have e2:rv (R i) y=if y=i then 1 else 0:=by
    by_cases hyi:y=i
    ·rw [if_pos hyi,hyi]
     have:=ok.one i hi
     rw [hpl i hi] at this; exact this
    ·rw [if_neg hyi]
     have:=ok.off y hy i hi (Ne.symm hyi)
     rw [hpl y hy] at this; exact this
   rw [<- e2,e]
   exact qab k fun l hlk=>by rw [drop_rv,exI_lt (hl l hlk) hy]
 ·have hm:∃ m,m < k/\(∀ l,l < m->p l < k)/\∀ l,m<=l->l < k->k<=p l:=by
   have:∀ j,j<=k->(∀ l,l < j->p l < k) ∨ ∃ m,m < j/\(∀ l,l < m->p l < k)/\k<=p m:=fun j=>by
    induction j with
    | zero=>intro _; exact .inl (by omega)
    | succ j ih=>
     intro hj
     rcases ih (by omega) with h1 | ⟨m,h1,h2,h3⟩
     ·by_cases h4:p j < k
      ·exact .inl fun l hl=>by
        by_cases e:l=j
        ·rw [e]; exact h4
        ·exact h1 l (by omega)
      ·exact .inr ⟨j,by omega,h1,by omega⟩
     ·exact .inr ⟨m,by omega,h2,h3⟩
   rcases this k (Nat.le_refl _) with h1 | ⟨m,h1,h2,h3⟩
   ·have:=h1 (k - 1) (by omega)
    have:=hge (k - 1) (by omega)
    omega
   ·refine ⟨m,h1,h2,fun l hml hlk=>?_⟩
    by_cases e:m=l
    ·rw [<- e]; exact h3
    ·have:=ok.inc m l (by omega) hlk
     omega
  obtain ⟨m,hmk,h1,h2⟩:=hm
  have hcut:=rre_cut (w:=k) (m:=m) (M:=fun i=>rv (M i)) h (by omega) h1 h2 fun i hi y=>by
   show rv (M i) y=tr k (rv (exI k M i)) y
   by_cases hy:y < k
   ·rw [tr_lt hy,exI_lt (hl i hi) hy]
   ·rw [tr_ge (by omega)]
    unfold rv
    rw [List.getD_eq_getElem?_getD,List.getElem?_eq_none (by rw [hl i hi]; omega)]; rfl
  have hub2:UB (Rs k fun i=>fun y=>if y=i then (1:Rat) else 0) k (fun i=>fun y=>if y=i then (1:Rat) else 0) (fun i=>i):=UB.of_rows (fun i hi=>if_pos rfl) (fun i hi l hl' hne=>if_neg hne)
  have:=hcut.ub.card hub2 (SpE.of (fun i hi=>(sp_sum (rv (M i)) k (Nat.le_refl _)).cast fun y=>by
   by_cases hy:y < k
   ·rw [qbi k hy fun l hl' hne=>by rw [if_neg (Ne.symm hne),Rat.mul_zero],if_pos rfl,Rat.mul_one]
   ·rw [qab k (g:=fun _=>0) fun l hl'=>by rw [if_neg (by omega),Rat.mul_zero],qa3]
    unfold rv
    rw [List.getD_eq_getElem?_getD,List.getElem?_eq_none (by rw [hl i hi]; omega)]; rfl) fun i hi=>hall _ fun y hy=>if_neg (by omega))
  omega
end Go.Abs
end
section
namespace Go.Proofs.YtjfmkcmepdedaaaGreat
open Go Go.Abs Go.Abs.M Go.Proofs
def trL (M:Nat->List Rat) (j i:Nat):List Rat:=(List.range i).map fun l=>(M l).getD j 0
def trM (n:Nat) (M:Nat->List Rat):Nat->List Rat:=fun j=>trL M j n
theorem trL_len (M:Nat->List Rat) (j i:Nat):(trL M j i).length=i:=by simp [trL]
theorem trL_succ (M:Nat->List Rat) (j i:Nat):trL M j (i+1)=trL M j i ++ [(M i).getD j 0]:=by simp [trL,List.range_succ]
def trSt (MR r:Abs.Rows) (len:Nat) (J:Int):St:=mkSt 36 [.c (.t (.lst false MR)),.junk,.junk,.c (.sl 1 0 len false),vi .i64 J] [none,some (.rows 1 r true false)]
def trIn (MR r:Abs.Rows) (len:Nat) (J:Int) (x:Abs.Rows) (i:Nat) (I:Int):St:=mkSt 36 [.c (.t (.lst false MR)),.junk,.junk,.c (.sl 1 0 len false),vi .i64 J,.c (.sl 4 0 i false),vi .i64 I] [none,some (.rows 1 r true false),none,none,some (.rows 4 x true false)]
theorem rtrans_call (n:Nat) (hn:n<=1000) (M:Nat->List Rat) (hl:∀ i,i < n->(M i).length=n):ACall Tryz.prog 34 [.val (tl (mr n M))] ⟨[.val (tl (mr n (trM n M)))],[none]⟩:=by
 have ccol:=rcols_call n n M hl (by omega)
 rw [show (if n=0 then 0 else n)=n by split <;> omega] at ccol
 obtain ⟨N,hN⟩:∃ N:Int,N=n:=⟨_,rfl⟩
 obtain ⟨MR,hMR⟩:∃ Z,Z=mr n M:=⟨_,rfl⟩
 obtain ⟨T,hT⟩:∃ T,T=mr n (trM n M):=⟨_,rfl⟩
 rw [<- hN,<- hMR] at ccol
 rw [<- hMR,<- hT]
 have lM:MR.length=n:=by rw [hMR,mr_len]
 refine callZ ccOk mixed [.val] Tryz.func34 rfl rfl (by kernel_rfl) fun zA zB zC zD zE zF zG zH zI zJ zK zL zM zN zO zP zQ zR zT zU zV zX zY zZ zb zc zd ze zg zh zi zj zk zl zm zn zo zq zr zs zt zu zx zy zz zmget zmset zW zth A L F hS hF=>?_
 have hN2:zZ (zj MR)=N:=by rw [hS.ofN,hS.len,lM,hN]
 cbv
 have hN:N=(n:Int):=hN
 refine loopZR ccOk mixed hS (fun (m:Nat) s'=>∃ (j:Nat) (J:Int) (r:Abs.Rows),J=j/\m+j=n/\r=mr j (trM n M)/\s'=trSt MR r j J) (n:=n) (s0:=trSt MR [] 0 0) (qao ?_ ?_) rfl (Nat.succ_le_succ (Nat.zero_le _)) ?_ ?_
 ·simp [leT,trSt,mkSt,vi,vb]
 ·simp [leH,trSt,mkSt]
 ·exact ⟨0,0,[],rfl,by omega,rfl,rfl⟩
 ·rintro m s1 ⟨j,J,r,hJ,hm,hr,hs1⟩
  have hJ:J=(j:Int):=hJ
  have hrl:r.length=j:=by rw [hr,mr_len]
  by_cases hj:j < n
  ·have l1:zO J N=true:=by rw [hS.lt]; exact decide_eq_true (by omega)
   obtain ⟨U,hU⟩:∃ U,U=ur (trL M j n):=⟨_,rfl⟩
   have lU:U.length=n:=by rw [hU,qau,trL_len]
   obtain ⟨row2,hrw2⟩:∃ row2,row2=[Tree.lst false U]:=⟨_,rfl⟩
   have hr1:row2.length=1:=by rw [hrw2]; rfl
   have f1:zq 0 n U=true:=by rw [hS.fit]; exact decide_eq_true (by omega)
   have f2:zr U 0 n=U:=by rw [hS.part,List.drop_zero,List.take_of_length_le (by omega)]
   have u0:zr [row2] 0 1=[row2]:=by rw [hS.part]; rfl
   have u1:zq 0 1 [row2]=true:=by rw [hS.fit]; rfl
   have u2:zQ (zc (zj [row2]) 0)=true:=by rw [hS.len,hS.neq,hS.not]; rfl
   have u3:zx 1 [row2]=true:=by rw [hS.wide]; simp [hr1]
   have u4:zh j (zj [row2]) 24=true:=by rw [hS.len,hS.room]; exact decide_eq_true (by unfold capBytes; simp only [List.length_cons,List.length_nil]; omega)
   have u5:zc (zd 0 j) (zj r)=true:=by rw [hS.nadd,hS.neq,hS.len,hrl,Nat.zero_add]; exact decide_eq_true rfl
   have u6:zd j (zj [row2])=j+1:=by rw [hS.len,hS.nadd]; rfl
   obtain ⟨r2,hr2⟩:∃ r2,r2=mr (j+1) (trM n M):=⟨_,rfl⟩
   have u7:zs r 0 [row2]=r2:=by rw [hS.ext,List.drop_zero,hr,hr2,mr_succ,hrw2,hU]; rfl
   obtain ⟨J',hJ',i1⟩:∃ I':Int,I'=((j+1:Nat):Int)/\zA .i64 (zB J 1)=I':=⟨J+1,by omega,by rw [hS.add,hS.wrap,wrap_i64 (by omega) (by omega)]⟩
   have hmm:m - 1 < m:=by omega
   have hnx:∃ (i2:Nat) (I2:Int) (r':Abs.Rows),I2=i2/\(m - 1)+i2=n/\r'=mr i2 (trM n M)/\trSt MR r2 (j+1) J'=trSt MR r' i2 I2:=⟨j+1,J',r2,hJ',by omega,hr2,rfl⟩
   clear hr hr2 hT
   subst hs1
   cbv
   refine ⟨_,hS.call (ccol),?_⟩
   cbv
   refine bT (l1) ?_
   apply hideP (L:=L) True
   ·intro Q' hq hret
    have hN:N=(n:Int):=hN
    have hJ:J=(j:Int):=hJ
    refine loopZR ccOk mixed hS (fun (m2:Nat) s'=>∃ (i:Nat) (I:Int) (x:Abs.Rows),I=i/\m2+i=n/\x=ur (trL M j i)/\s'=trIn MR r j J x i I) (n:=n) (s0:=trIn MR r j J [] 0 0) (qao ?_ ?_) rfl (Nat.succ_le_succ (Nat.zero_le _)) ?_ ?_
    ·simp [leT,trIn,mkSt,vi,vb]
    ·simp [leH,trIn,mkSt]
    ·exact ⟨0,0,[],rfl,by omega,rfl,rfl⟩
    ·rintro m2 s2 ⟨i,I,x,hI,hm2,hx,hs2⟩
     have hI:I=(i:Int):=hI
     have lx:x.length=i:=by rw [hx,qau,trL_len]
     by_cases hi:i < n
     ·have l2:zO I N=true:=by rw [hS.lt]; exact decide_eq_true (by omega)
      obtain ⟨s,t,q,p,hrow,_⟩:=qrow ((M i).getD j 0)
      obtain ⟨Ri,hRi⟩:∃ R,R=ur (M i):=⟨_,rfl⟩
      have gR:Ri[j]?=some [.v (.bool s),.lst false q,.v (.bool t),.lst false p]:=by
       rw [hRi,<- hrow]
       exact ur_get (by rw [List.getD_eq_getElem?_getD,List.getElem?_eq_getElem (by rw [hl i hi]; exact hj)]; rfl)
      obtain ⟨cell,hcell⟩:∃ c:Abs.Rows,c=[[Tree.v (.bool s),.lst false q,.v (.bool t),.lst false p]]:=⟨_,rfl⟩
      have j1:zX I=i:=by rw [hS.nat]; omega
      have j2:zk MR i=some [.lst false Ri]:=by rw [hS.nth,hMR,hRi]; exact mr_get hi
      have j3:zX J=j:=by rw [hS.nat]; omega
      have j4:zk Ri j=some [.v (.bool s),.lst false q,.v (.bool t),.lst false p]:=by rw [hS.nth]; exact gR
      have n0:zP 0 I=true:=by rw [hS.le]; exact decide_eq_true (by omega)
      have n1:zP 0 J=true:=by rw [hS.le]; exact decide_eq_true (by omega)
      have c1:zr cell 0 1=cell:=by rw [hS.part,hcell]; rfl
      have c2:zq 0 1 cell=true:=by rw [hS.fit,hcell]; rfl
      have c3:zQ (zc (zj cell) 0)=true:=by rw [hS.neq,hS.len,hS.not,hcell]; rfl
      have c4:zx 4 cell=true:=by rw [hS.wide,hcell]; rfl
      have c5:zh i (zj cell) 64=true:=by rw [hS.room,hS.len,hcell]; exact decide_eq_true (by unfold capBytes; simp; omega)
      have c6:zc (zd 0 i) (zj x)=true:=by rw [hS.nadd,hS.len,hS.neq,lx,Nat.zero_add]; exact decide_eq_true rfl
      have c7:zd i (zj cell)=i+1:=by rw [hS.nadd,hS.len,hcell]; rfl
      obtain ⟨x2,hx2⟩:∃ x2,x2=ur (trL M j (i+1)):=⟨_,rfl⟩
      have c8:zs x 0 cell=x2:=by rw [hS.ext,List.drop_zero,hx,hx2,trL_succ,ur_app,hrow,hcell]
      obtain ⟨I',hI',i2⟩:∃ I':Int,I'=((i+1:Nat):Int)/\zA .i64 (zB I 1)=I':=⟨I+1,by omega,by rw [hS.add,hS.wrap,wrap_i64 (by omega) (by omega)]⟩
      have hm3:m2 - 1 < m2:=by omega
      have hnx2:∃ (i3:Nat) (I3:Int) (x3:Abs.Rows),I3=i3/\(m2 - 1)+i3=n/\x3=ur (trL M j i3)/\trIn MR r j J x2 (i+1) I'=trIn MR r j J x3 i3 I3:=⟨i+1,I',x2,hI',by omega,hx2,rfl⟩
      clear hx hx2 hI'
      subst hs2
      cbv
      rw [hN2]
      refine bT l2 ?_
      rw [j1,j2]
      cbv
      refine nd n0 ?_
      rw [j3,j4]
      cbv
      rw [<- hcell,c1]
      refine nd n1 (nd c2 (nd c3 (nd c4 (nd c5 (nd c6 ?_)))))
      rw [c7,c8,i2]
      refine againR [(4,6)] (s':=trIn MR r j J x2 (i+1) I') (k:=m2 - 1) ?_ ?_ ?_ ?_ rfl (Nat.succ_le_succ (Nat.zero_le _)) hm3 hnx2
      ·simp [leTR,trIn,mkSt,vi,AV.ren,AV.noTup,Cell.ren,renF]
      ·simp [leHR,trIn,mkSt,Abs.look,renF,Blk.ren,Cell.ren]
      ·simp [liveR,trIn,mkSt,renF]
      ·simp
     ·have l2:zO I N=false:=by rw [hS.lt]; exact decide_eq_false (by omega)
      obtain rfl:i=n:=by omega
      obtain rfl:x=U:=by rw [hx,hU]
      obtain rfl:I=N:=by omega
      clear hx
      subst hs2
      cbv
      rw [hN2]
      refine bF l2 ?_
      exact hq trivial
   ·intro _
    cbv
    refine nd f1 ?_
    rw [f2,<- hrw2,u0]
    refine nd (u1) ?_
    refine nd (u2) ?_
    refine nd (u3) ?_
    refine nd (u4) ?_
    refine nd (u5) ?_
    refine againR [(1,6)] (s':=trSt MR r2 (j+1) J') (k:=m - 1) ?_ ?_ ?_ ?_ rfl (Nat.succ_le_succ (Nat.zero_le _)) hmm hnx
    ·simp [leTR,trSt,mkSt,vi,AV.ren,AV.noTup,Cell.ren,renF,i1,u6]
    ·simp [leHR,trSt,mkSt,Abs.look,renF,Blk.ren,u7,Cell.ren]
    ·simp [liveR,trSt,mkSt,renF]
    ·simp
  ·have l1:zO J N=false:=by rw [hS.lt]; exact decide_eq_false (by omega)
   have hrT:r=T:=by rw [hr,hT,show j=n by omega]
   have f1:zq 0 j r=true:=by rw [hS.fit]; exact decide_eq_true (by omega)
   have f2:zr r 0 j=r:=by rw [hS.part,List.drop_zero,List.take_of_length_le (by omega)]
   subst hrT
   subst hs1
   cbv
   refine ⟨_,hS.call (ccol),?_⟩
   cbv
   refine bF l1 (nd f1 ?_)
   rw [f2]
   exact hF _ (ResLe.refl _)
open Go Go.Abs Go.Abs.M Go.Proofs
def swl (l k:Nat) (P:List Rat):List Rat:=(P.set l (P.getD k 0)).set k (P.getD l 0)
theorem swl_len (l k:Nat) (P:List Rat):(swl l k P).length=P.length:=by simp [swl]
theorem swl_rv {l k:Nat} {P:List Rat} (hl:l < P.length) (hk:k < P.length) (j:Nat):rv (swl l k P) j=rv P (if j=k then l else if j=l then k else j):=by
 unfold rv swl
 rw [List.getD_eq_getElem?_getD,List.getElem?_set]
 by_cases a:j=k
 ·rw [if_pos a.symm,if_pos (by simp; omega),if_pos a]; rfl
 ·rw [if_neg (Ne.symm a),if_neg a,List.getElem?_set]
  by_cases b:j=l
  ·rw [if_pos b.symm,if_pos (by omega),if_pos b]; rfl
  ·rw [if_neg (Ne.symm b),if_neg b,<- List.getD_eq_getElem?_getD]
theorem swl_qs {l k K:Nat} {P:List Rat} (hl:l < P.length) (hk:k < P.length) (h:∀ q ∈ P,Qs q K):∀ q ∈ swl l k P,Qs q K:=fun q hq=>by
 have g:∀ y,y < P.length->Qs (P.getD y 0) K:=fun y hy=>h _ (by rw [List.getD_eq_getElem?_getD,List.getElem?_eq_getElem hy]; exact List.getElem_mem _)
 rcases List.mem_or_eq_of_mem_set hq with h1 | h1
 ·rcases List.mem_or_eq_of_mem_set h1 with h2 | h2
  ·exact h q h2
  ·rw [h2]; exact g k hk
 ·rw [h1]; exact g l hl
def mrp (n k l w:Nat) (X:Nat->Abs.Rows):List (Option Blk):=some (.var ((List.range n).map fun q=>.sl ((if q=k then l else if q=l then k else q)+1) 0 w false)) :: (List.range n).map fun q=>some (.rows 4 (X q) true false)
theorem sr4 (a b c d e f g h:Tree):setRange [a,b,c,d] 0 [e,f,g,h]=[e,f,g,h]:=rfl
theorem qbo {P:List Rat} {k:Nat} (hk:k < P.length):∃ (s t:Bool) (r p:Abs.Rows),(qc (P.getD k 0)).row=[.v (.bool s),.lst false r,.v (.bool t),.lst false p]/\(ur P)[k]?=some [.v (.bool s),.lst false r,.v (.bool t),.lst false p]:=by
 obtain ⟨s,t,r,p,h,_⟩:=qrow (P.getD k 0)
 exact ⟨s,t,r,p,h,by rw [<- h]; exact ur_get (by rw [List.getD_eq_getElem?_getD,List.getElem?_eq_getElem hk]; rfl)⟩
theorem ms_row {P:List Rat} {k l:Nat} (hk:k < P.length) (hl:l < P.length):∃ (s t s2 t2 s3 t3:Bool) (r p r2 p2 r3 p3:Abs.Rows),(ur P)[k]?=some [.v (.bool s),.lst false r,.v (.bool t),.lst false p]/\(ur P)[l]?=some [.v (.bool s2),.lst false r2,.v (.bool t2),.lst false p2] /\
  ((ur P).set l [.v (.bool s),.lst false r,.v (.bool t),.lst false p])[k]?=some [.v (.bool s3),.lst false r3,.v (.bool t3),.lst false p3] /\
  ((ur P).set l [.v (.bool s),.lst false r,.v (.bool t),.lst false p]).set k [.v (.bool s2),.lst false r2,.v (.bool t2),.lst false p2]=ur (swl l k P):=by
 obtain ⟨s,t,r,p,h1,h2⟩:=qbo hk
 obtain ⟨s2,t2,r2,p2,h3,h4⟩:=qbo hl
 obtain ⟨s3,t3,r3,p3,h5,h6⟩:=qbo (P:=P.set l (P.getD k 0)) (k:=k) (by simpa using hk)
 exact ⟨s,t,s2,t2,s3,t3,r,p,r2,p2,r3,p3,h2,h4,by rw [<- h1,ur_set]; exact h6,by rw [<- h1,<- h3,ur_set,ur_set]; rfl⟩
def ms1St (n:Nat) (X:Nat->Abs.Rows) (K I:Int):St:=mkSt 118 [.c (.sl 0 0 n false),vi .i64 K,.junk,.junk,vb false,vi .i64 n,vi .i64 I] (mrh n n X)
def ms2St (n k l:Nat) (X:Nat->Abs.Rows) (K I Q:Int):St:=mkSt 118 [.c (.sl 0 0 n false),vi .i64 K,.junk,.junk,vb false,vi .i64 n,vi .i64 I,.junk,.junk,.junk,.junk,.junk,.junk,.junk,.junk,.junk,.junk,.junk,.junk,.junk,.junk,.junk,.junk,.junk,.junk,.junk,.junk,.junk,.junk,.junk,.junk,.junk,.junk,.junk,.junk,.junk,.junk,.junk,.junk,.junk,.junk,.junk,.junk,.junk,.c (.sl 0 0 n false),vi .i64 n,vi .i64 Q] (mrp n k l n X)
end Go.Proofs.YtjfmkcmepdedaaaGreat
end
