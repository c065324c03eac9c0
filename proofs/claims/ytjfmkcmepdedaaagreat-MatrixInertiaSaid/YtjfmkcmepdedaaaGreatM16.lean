/-
  A part of the proof: MxD1k.
-/
import Derived.Test.YtjfmkcmepdedaaaGreatM15
set_option maxHeartbeats 0
set_option maxRecDepth 100000
set_option linter.unusedVariables false
set_option linter.unusedSimpArgs false
set_option linter.unusedSectionVars false
section
namespace Go.Proofs.YtjfmkcmepdedaaaGreat
open Go Go.Abs Go.Abs.M Go.Proofs
theorem msquare_call (n:Nat) (M:Nat->List Rat) (h:∀ i,i < n->(M i).length=n) (hn:n < 9223372036854775808):HCall Tryz.prog 54 ⟨[.c (.t (.lst false (mr n M)))],[]⟩ ⟨[vb true],[]⟩:=by
 have cw:=mwidth_call n n M h hn
 rw [show (if n=0 then 0 else n)=n by split <;> omega] at cw
 obtain ⟨X,hX⟩:∃ X,X=mr n M:=⟨_,rfl⟩
 have lX:X.length=n:=by rw [hX,mr_len]
 obtain ⟨T,hT⟩:∃ T:Int,T=(n:Int):=⟨_,rfl⟩
 rw [<- hX,<- hT] at cw
 rw [<- hX]
 refine hcallZ ccOk mixed Tryz.func54 rfl rfl (by kernel_rfl) rfl (by simp) fun zA zB zC zD zE zF zG zH zI zJ zK zL zM zN zO zP zQ zR zT zU zV zX zY zZ zb zc zd ze zg zh zi zj zk zl zm zn zo zq zr zs zt zu zx zy zz zmget zmset zW zth A L G hS hG=>?_
 have e1:zM T (zZ (zj X))=true:=by rw [hS.eq,hS.ofN,hS.len,lX]; exact decide_eq_true hT
 cbv
 refine ⟨_,hS.hcall cw,?_⟩
 cbv
 rw [e1]
 refine endR hG [] ?_ ?_ ?_ ?_
 ·simp [leTR,vb,AV.ren,AV.noTup,Cell.ren]
 ·simp [leHR]
 ·simp [liveR]
 ·simp
def dtv (n:Nat):Nat->Nat->(Nat->List Rat)->Rat->Rat
 | 0,_,_,d=>d
 | m+1,j,R,d=>if pvt R j (n - j) j=-1 then 0 else dtv n m (j+1) (dstep R j (pvt R j (n - j) j).toNat) ((if (pvt R j (n - j) j).toNat=j then d else -d)*(R (pvt R j (n - j) j).toNat).getD j 0)
theorem dtv_all {n:Nat} {M:Nat->List Rat}:∀ m j R d,m+j=n->DtI n j M R->dtv n m j R d ≠ 0->∃ R',DtI n n M R'
 | 0,j,R,d,h,hR,_=>⟨R,by rw [show n=j by omega] at hR ⊢; exact hR⟩
 | m+1,j,R,d,h,hR,hd=>by
  unfold dtv at hd
  rcases pvt_spec R j (n - j) j with ⟨h1,h2⟩ | ⟨l,h1,h2,h3,h4⟩
  ·rw [if_pos h1] at hd; exact absurd rfl hd
  ·rw [if_neg (by omega),h3,Int.toNat_natCast] at hd
   exact dtv_all m (j+1) _ _ (by omega) (hR.step h1 (by omega) h4) hd
theorem dswp_qs {n j l K:Nat} {R:Nat->List Rat} (hq:∀ i,i < n->∀ q ∈ R i,Qs q K) (hj:j < n) (hl:l < n):∀ i,i < n->∀ q ∈ dswp R j l i,Qs q K:=fun i hi=>by
 unfold dswp
 split
 ·exact hq l hl
 ·split
  ·exact hq j hj
  ·exact hq i hi
theorem dstep_qs {n j l K:Nat} {R:Nat->List Rat} (lR:∀ i,i < n->(R i).length=n) (hq:∀ i,i < n->∀ q ∈ R i,Qs q K) (hj:j < n) (hl:l < n) (h0:(R l).getD j 0 ≠ 0) (hK:1<=K):∀ i,i < n->∀ q ∈ dstep R j l i,Qs q (5*K):=fun i hi=>by
 have qS:=dswp_qs hq hj hl
 have lS:=dswp_len lR hj hl
 unfold dstep
 split
 ·exact fun q h=>(qS i hi q h).mono (by omega)
 ·exact fun q h=>(elm_qs (qS i hi) (hq l hl) (by rw [lS i hi,lR l hl]) (by rw [lS i hi]; exact hj) h0 q h).mono (by omega)
theorem dt_round {n j m K:Nat} {M R:Nat->List Rat} {d D:Rat} (hn:n<=4) (hj:j < n) (hm:m+1+j=n) (hR:DtI n j M R) (hq:∀ i,i < n->∀ q ∈ R i,Qs q K) (hd:Qs d K) (hK1:1<=K) (hK2:K<=100000000) {J:Int} (hJ:J=j) {X:Nat->Abs.Rows} (hX:∀ i,i < n->X i=ur (R i)) (hD:dtv n (m+1) j R d=D) :
  ∃ T:Int,HCall Tryz.prog 57 ⟨[.c (.sl 0 0 n false),vi .i64 J,vi .i64 J],mrh n n X⟩ ⟨[vi .i64 T],mrh n n X⟩ /\
   ((T=-1/\D=0) ∨ ∃ (l:Nat) (x d2 d3:Rat) (X2:Nat->Abs.Rows) (R2:Nat->List Rat),j<=l/\l < n/\T=(l:Int)/\(X l)[j]?=some (qc x).row/\(l=j->d2=d)/\ACall Tryz.prog 38 [.val (.agg (qc d).row)] ⟨[.val (.agg (qc (-d)).row)],[none]⟩/\(l ≠ j->d2=-d) /\
    ACall Tryz.prog 35 [.val (.agg (qc d2).row),.val (.agg (qc x).row)] ⟨[.val (.agg (qc d3).row)],[none,none]⟩ /\
    HCall Tryz.prog 58 ⟨[.c (.sl 0 (j+1) (n - j - 1) false),.c (.sl 1 0 n false),vi .i64 J],mrk n j n (fun i=>if i=j then X l else if i=l then X j else X i)⟩ ⟨[],mrk n j n X2⟩ /\
    DtI n (j+1) M R2/\(∀ i,i < n->X2 i=ur (R2 i))/\(∀ i,i < n->∀ q ∈ R2 i,Qs q (5*K))/\Qs d3 (5*K)/\dtv n m (j+1) R2 d3=D):=by
 obtain ⟨T,hT⟩:∃ T:Int,T=pvt R j (n - j) j:=⟨_,rfl⟩
 refine ⟨T,mpiv n hn R n j j (by omega) (by omega) hj hR.len hJ hJ hT hX,?_⟩
 unfold dtv at hD
 rcases pvt_spec R j (n - j) j with ⟨h1,h2⟩ | ⟨l,h1,h2,h3,h4⟩
 ·rw [if_pos h1] at hD
  exact .inl ⟨hT.trans h1,hD.symm⟩
 ·have hln:l < n:=by omega
  rw [if_neg (by omega),h3,Int.toNat_natCast] at hD
  have lR:=hR.len
  have gL:(R l)[j]?=some ((R l).getD j 0):=by rw [List.getD_eq_getElem?_getD,List.getElem?_eq_getElem (by rw [lR l hln]; exact hj)]; rfl
  have hx:Qs ((R l).getD j 0) K:=hq l hln _ (List.mem_of_getElem? gL)
  have hd2:Qs (if l=j then d else -d) K:=by
   split
   ·exact hd
   ·exact Qs.neg hd
  have lS:=dswp_len lR hj hln
  have qS:=dswp_qs hq hj hln
  have hSj:dswp R j l j=R l:=if_pos rfl
  refine .inr ⟨l,(R l).getD j 0,if l=j then d else -d,_,fun i=>if j+1<=i/\i < j+1+(n - j - 1) then ur (elm (dswp R j l i) (dswp R j l j) j) else ur (dswp R j l i),dstep R j l,h1,hln,hT.trans h3,by rw [hX l hln]; exact ur_get gL,fun e=>if_pos e,(pneg_row hd (by omega)).2,fun e=>if_neg e,(pmul_row hd2 hx (by omega)).2,?_,hR.step h1 hln h4,?_,?_,(pmul_row hd2 hx (by omega)).1.mono (by omega),hD⟩
  ·refine melim n (j+1) (n - j - 1) j hn hj (.inr ⟨rfl,rfl⟩) (dswp R j l) n j K (by omega) hj (by omega) lS qS (by rw [hSj]; exact h4) hJ (fun i hi=>?_) (fun i hi=>rfl)
   show (if i=j then X l else if i=l then X j else X i)=ur (dswp R j l i)
   unfold dswp
   split
   ·exact hX l hln
   ·split
    ·exact hX j hj
    ·exact hX i hi
  ·intro i hi
   show (if j+1<=i/\i < j+1+(n - j - 1) then ur (elm (dswp R j l i) (dswp R j l j) j) else ur (dswp R j l i))=ur (dstep R j l i)
   unfold dstep
   by_cases h:i<=j
   ·rw [if_neg (by omega),if_pos h]
   ·rw [if_pos (by omega),if_neg h,hSj]
  ·exact dstep_qs lR hq hj hln h4 hK1
def dtSt (n:Nat) (X:Nat->Abs.Rows) (s t:Bool) (r p:Abs.Rows) (J:Int):St:=mkSt 67 [.junk,.junk,.c (.ptr 1 0 0),.junk,.c (.sl 2 0 n false),.c (.ptr 12 0 0),.junk,.junk,.junk,.junk,.junk,.junk,.junk,.junk,.junk,.junk,vi .i64 n,vi .i64 J] (none :: some (.var (rawZ.map .t)) :: some (.var ((List.range n).map fun q=>.sl (q+3) 0 n false)) :: ((List.range n).map fun q=>some (.rows 4 (X q) true false)) ++ List.replicate (9 - n) none ++ [some (.var [.t (.v (.bool s)),.t (.lst false r),.t (.v (.bool t)),.t (.lst false p)])])
theorem mdet_call (n:Nat) (hn:n<=4) (M:Nat->List Rat) (B:Nat) (hl:∀ i,i < n->(M i).length=n) (hB:1<=B) (hB2:B<=100000) (hq:∀ i,i < n->∀ q ∈ M i,Qs q B) :
  ACall Tryz.prog 14 [.val (tl (mr n M))] ⟨[.val (.agg (qc (dtv n n 0 M 1)).row),.val (ti .i64 0)],[none]⟩:=by
 have csq:=msquare_call n M hl (by omega)
 obtain ⟨X0,hX0⟩:∃ X:Nat->Abs.Rows,X=fun i=>ur (M i):=⟨_,rfl⟩
 have ca:=mqapp n hn M n (by omega) hl (X:=X0) fun i _=>by rw [hX0]
 have cw1:=pwhole_row 1 (by omega) (by omega)
 have cw0:=pwhole_row 0 (by omega) (by omega)
 obtain ⟨D,hD⟩:∃ D,D=dtv n n 0 M 1:=⟨_,rfl⟩
 obtain ⟨DR,hDR⟩:∃ r,r=(qc D).row:=⟨_,rfl⟩
 obtain ⟨s1,t1,r1,p1,hrow1,_⟩:=qrow ((1:Int):Rat)
 obtain ⟨s0,t0,r0,p0,hrow0,_⟩:=qrow ((0:Int):Rat)
 rw [hrow1] at cw1
 rw [hrow0] at cw0
 rw [<- hD,<- hDR]
 obtain ⟨MR,hMR⟩:∃ R,R=mr n M:=⟨_,rfl⟩
 rw [<- hMR] at csq ca ⊢
 have hst:∃ R,DtI n 0 M R/\(∀ i,i < n->X0 i=ur (R i))/\(∀ i,i < n->∀ q ∈ R i,Qs q (5 ^ 0*B))/\dtv n n 0 R 1=D:=⟨M,.start hl,fun i _=>by rw [hX0],fun i hi q h=>(hq i hi q h).mono (by omega),hD.symm⟩
 have h11:((1:Int):Rat)=1:=rfl
 have hrd:=fun (j m:Nat) (R:Nat->List Rat) (d:Rat) (J:Int) (X:Nat->Abs.Rows) (hj:j < n) (hm:m+1+j=n) (h1:DtI n j M R) (h2:∀ i,i < n->∀ q ∈ R i,Qs q (5 ^ j*B)) (h3:Qs d (5 ^ j*B)) (h4:J=j) (h5:∀ i,i < n->X i=ur (R i)) (h6:dtv n (m+1) j R d=D)=>dt_round hn hj hm h1 h2 h3 (Nat.mul_pos (Nat.pow_pos (by omega)) hB) (Nat.le_trans (Nat.mul_le_mul (Nat.pow_le_pow_right (by omega) (show j<=4 by omega)) hB2) (by omega)) h4 h5 h6
 rw [h11] at hrow1
 clear hD hMR hl hq hX0
 obtain ⟨V,hV⟩:∃ V:Nat->Nat->(Nat->List Rat)->Rat->Rat,V=dtv n:=⟨_,rfl⟩
 obtain ⟨I,hI⟩:∃ I:Nat->(Nat->List Rat)->Prop,I=fun j R=>DtI n j M R:=⟨_,rfl⟩
 have hst:∃ R,I 0 R/\(∀ i,i < n->X0 i=ur (R i))/\(∀ i,i < n->∀ q ∈ R i,Qs q (5 ^ 0*B))/\V n 0 R 1=D:=by rw [hI,hV]; exact hst
 have hV0:∀ j R d,V 0 j R d=d:=fun j R d=>by rw [hV]; rfl
 have L4:LN n:=trivial
 obtain ⟨N,hN⟩:∃ N,N=n:=⟨_,rfl⟩
 obtain rfl | rfl | rfl | rfl | rfl:n=0 ∨ n=1 ∨ n=2 ∨ n=3 ∨ n=4:=by omega
 all_goals
  refine callZ ccOk mixed [.val,.val] Tryz.func14 rfl rfl (by kernel_rfl) fun zA zB zC zD zE zF zG zH zI zJ zK zL zM zN zO zP zQ zR zT zU zV zX zY zZ zb zc zd ze zg zh zi zj zk zl zm zn zo zq zr zs zt zu zx zy zz zmget zmset zW zth A L F hS hF=>?_
  obtain rfl:zZ=fun a:Nat=>(a:Int):=by funext a; exact hS.ofN a
  obtain ⟨za,rfl⟩:=hS.addL
  obtain ⟨zw,rfl⟩:=hS.wrapL
  have hv:L4.v=N:=hN.symm
  have y0:zQ true=false:=by rw [hS.not]; rfl
  cbv
  refine ⟨_,hS.hcall csq,?_⟩
  cbv
  refine bF y0 ?_
  refine ⟨_,hS.hcall ca,?_⟩
  cbv
  refine ⟨_,hS.call (cw1),?_⟩
  cbv
  refine loopZR ccOk mixed hS (fun (m:Nat) s'=>∃ (j:Nat) (J:Int) (X:Nat->Abs.Rows) (R:Nat->List Rat) (d:Rat) (s t:Bool) (r p:Abs.Rows),J=j/\m+j=L4.v/\I j R/\(∀ i,i < L4.v->X i=ur (R i))/\(∀ i,i < L4.v->∀ q ∈ R i,Qs q (5 ^ j*B))/\Qs d (5 ^ j*B)/\V m j R d=D/\(qc d).row=[.v (.bool s),.lst false r,.v (.bool t),.lst false p]/\s'=dtSt L4.v X s t r p J) (n:=L4.v) (s0:=dtSt L4.v X0 s1 t1 r1 p1 0) (qao ?_ ?_) rfl (Nat.succ_le_succ (Nat.zero_le _)) ?_ ?_
  ·simp [leT,dtSt,mkSt,vi,vb,LN.v]
  ·simp [leH,dtSt,mkSt,rawZ,LN.v,List.range,List.range.loop,List.replicate]
  ·obtain ⟨R,e1,e2,e3,e4⟩:=hst
   exact ⟨0,0,X0,R,1,s1,t1,r1,p1,rfl,rfl,e1,e2,e3,Qs.whole (n:=1) (by decide) (by omega),e4,hrow1,rfl⟩
  ·rintro m sx ⟨j,J,X,R,d,s,t,r,p,hJ,hm,hR,hX,hqs,hd,hVD,hrow,hs1⟩
   have hJ:J=(j:Int):=hJ
   have Lj:LN j:=trivial
   by_cases hjn:j=L4.v
   ·have l1:zO J (L4.v:Int)=false:=by rw [hS.lt]; exact decide_eq_false (by omega)
    obtain rfl:m=0:=by omega
    have e:DR=[.v (.bool s),.lst false r,.v (.bool t),.lst false p]:=by rw [hDR,<- hVD,hV0,hrow]
    clear hrd hst hR hX hqs hVD hDR hV0
    subst e
    subst hs1
    cbv
    refine bF l1 ?_
    exact hF _ (ResLe.refl _)
   ·have hj:j < L4.v:=by omega
    have l1:zO (Int.ofNat j) (L4.v:Int)=true:=by rw [hS.lt]; exact decide_eq_true (show (j:Int) < _ by omega)
    have b1:zY (Int.ofNat j) L4.v=true:=by rw [hS.inb]; exact decide_eq_true ⟨Int.natCast_nonneg j,show (j:Int) < _ by omega⟩
    have b2:zb 0 (Int.ofNat j)=j:=by rw [hS.idx]; simp
    have hmm:m - 1 < m:=by omega
    obtain ⟨T,cpv,hc⟩:=hrd j (m - 1) R d J X hj (by show m - 1+1+j=L4.v; omega) (by rw [hI] at hR; exact hR) hqs hd hJ hX (by rw [show m - 1+1=m by omega,<- hV]; exact hVD)
    rcases hc with ⟨hT,hD0⟩ | ⟨l,x,d2,d3,X2,R2,h1,hln,hT,u,hda,cneg,hdb,cmul,ce,hR2,hX2,hqs2,hd3,hV3⟩
    ·have z0:zO (-1) 0=true:=by rw [hS.lt]; rfl
     have e:DR=[.v (.bool s0),.lst false r0,.v (.bool t0),.lst false p0]:=by rw [hDR,hD0]; exact hrow0
     subst hT
     clear hrd hst hR hX hqs hVD hDR hV0
     have hj4:j=0 ∨ j=1 ∨ j=2 ∨ j=3:=by omega
     subst e
     obtain rfl | rfl | rfl | rfl:=hj4
     all_goals first | (exfalso; omega) | skip
     all_goals
      subst hJ
      subst hs1
      cbv
      refine bT l1 ?_
      refine ⟨_,hS.hcall cpv,?_⟩
      cbv
      refine bT z0 ?_
      refine ⟨_,hS.call (cw0),?_⟩
      cbv
      exact hF _ (ResLe.refl _)
    ·obtain ⟨s3,t3,r3,p3,hrow3,_⟩:=qrow d3
     obtain ⟨sx,tx,rx,px,hrowx,_⟩:=qrow x
     obtain ⟨sn,tn,rn,pn,hrown,_⟩:=qrow (-d)
     rw [hrowx] at u
     rw [hrow,hrown] at cneg
     have hnx:∃ (j':Nat) (J':Int) (X':Nat->Abs.Rows) (R':Nat->List Rat) (d':Rat) (s' t':Bool) (r' p':Abs.Rows),J'=j'/\m - 1+j'=L4.v/\I j' R'/\(∀ i,i < L4.v->X' i=ur (R' i))/\(∀ i,i < L4.v->∀ q ∈ R' i,Qs q (5 ^ j'*B))/\Qs d' (5 ^ j'*B)/\V (m - 1) j' R' d'=D/\(qc d').row=[.v (.bool s'),.lst false r',.v (.bool t'),.lst false p']/\dtSt L4.v X2 s3 t3 r3 p3 (Int.ofNat (j+1))=dtSt L4.v X' s' t' r' p' J':=
      ⟨j+1,Int.ofNat (j+1),X2,R2,d3,s3,t3,r3,p3,rfl,by omega,by rw [hI]; exact hR2,hX2,by rw [Nat.pow_succ,Nat.mul_comm (5 ^ j),Nat.mul_assoc]; exact hqs2,by rw [Nat.pow_succ,Nat.mul_comm (5 ^ j),Nat.mul_assoc]; exact hd3,by rw [hV]; exact hV3,hrow3,rfl⟩
     have u2:zk (X l) j=some [.v (.bool sx),.lst false rx,.v (.bool tx),.lst false px]:=by rw [hS.nth]; exact u
     have z0:zO (Int.ofNat l) 0=false:=by rw [hS.lt]; exact decide_eq_false (show ¬((l:Int) < 0) by omega)
     have Ll:LN l:=trivial
     by_cases hlj:l=j
     ·subst hlj
      rw [hda rfl,hrow,hrowx,hrow3] at cmul
      have z1:zN (Int.ofNat l) (Int.ofNat l)=false:=by rw [hS.ne]; exact decide_eq_false (by simp)
      clear hrd hst hR hX hqs hVD hDR hV0 hR2 hX2 hqs2 hd3 hV3 hda hdb
      obtain rfl | rfl | rfl | rfl:l=0 ∨ l=1 ∨ l=2 ∨ l=3:=by omega
      all_goals first | (exfalso; omega) | skip
      all_goals
       subst hT
       subst hJ
       subst hs1
       cbv
       refine bT l1 ?_
       refine ⟨_,hS.hcall cpv,?_⟩
       cbv
       refine bF z0 (bF z1 ?_)
       refine nd b1 ?_
       rw [b2,u2]
       cbv
       refine ⟨_,hS.call (cmul),?_⟩
       cbv
       refine ⟨_,hS.hcall ce,?_⟩
       cbv
       refine againR [] (s':=dtSt L4.v X2 s3 t3 r3 p3 (Int.ofNat (Lj.v+1))) (k:=m - 1) ?_ ?_ ?_ ?_ rfl (Nat.succ_le_succ (Nat.zero_le _)) hmm hnx
       ·simp [leTR,dtSt,mkSt,vi,AV.ren,AV.noTup,Cell.ren,renF,LN.v]
       ·simp [leHR,dtSt,mkSt,rawZ,Abs.look,renF,Blk.ren,Cell.ren,LN.v,List.range,List.range.loop,List.replicate]
       ·simp [liveR,dtSt,mkSt,rawZ,renF,LN.v,List.range,List.range.loop,List.replicate]
       ·simp
     ·rw [hdb hlj,hrown,hrowx,hrow3] at cmul
      have z1:zN (Int.ofNat l) (Int.ofNat j)=true:=by rw [hS.ne]; exact decide_eq_true (show ¬((l:Int)=(j:Int)) by omega)
      have hlN:l < N:=by rw [<- hv]; exact hln
      have hjl:j < l:=by omega
      clear hrd hst hR hX hqs hVD hDR hV0 hR2 hX2 hqs2 hd3 hV3 hda hdb hln hj
      obtain rfl | rfl | rfl | rfl:j=0 ∨ j=1 ∨ j=2 ∨ j=3:=by omega
      all_goals first | (exfalso; omega) | skip
      all_goals obtain rfl | rfl | rfl:l=1 ∨ l=2 ∨ l=3:=by omega
      all_goals first | (exfalso; omega) | skip
      all_goals
       subst hT
       subst hJ
       subst hs1
       cbv
       refine bT l1 ?_
       refine ⟨_,hS.hcall cpv,?_⟩
       cbv
       refine bF z0 (bT z1 ?_); cbv; refine ⟨_,hS.call cneg,?_⟩; cbv
       refine nd b1 ?_
       rw [b2,u2]
       cbv
       refine ⟨_,hS.call (cmul),?_⟩
       cbv
       refine ⟨_,hS.hcall ce,?_⟩
       cbv
       refine againR [(Lj.v+3,Ll.v+3),(Ll.v+3,Lj.v+3)] (s':=dtSt L4.v X2 s3 t3 r3 p3 (Int.ofNat (Lj.v+1))) (k:=m - 1) ?_ ?_ ?_ ?_ rfl (Nat.succ_le_succ (Nat.zero_le _)) hmm hnx
       ·simp [leTR,dtSt,mkSt,vi,AV.ren,AV.noTup,Cell.ren,renF,LN.v]
       ·simp [leHR,dtSt,mkSt,rawZ,Abs.look,renF,Blk.ren,Cell.ren,LN.v,List.range,List.range.loop,List.replicate]
       ·simp [liveR,dtSt,mkSt,rawZ,renF,LN.v,List.range,List.range.loop,List.replicate]
       ·simp [LN.v]
end Go.Proofs.YtjfmkcmepdedaaaGreat
end
