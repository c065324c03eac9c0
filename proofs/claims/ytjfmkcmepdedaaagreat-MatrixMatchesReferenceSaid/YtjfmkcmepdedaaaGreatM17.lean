/-
  A part of the proof: MxG1k.
-/
import Derived.Test.YtjfmkcmepdedaaaGreatM16
set_option maxHeartbeats 0
set_option maxRecDepth 100000
set_option linter.unusedVariables false
set_option linter.unusedSimpArgs false
set_option linter.unusedSectionVars false
section
namespace Go.Proofs.YtjfmkcmepdedaaaGreat
open Go Go.Abs Go.Abs.M Go.Proofs
def slSt (n i w:Nat) (MR BR:Abs.Rows) (E:Nat->Abs.Rows) (W0 I:Int):St:=mkSt 73 [.junk,.c (.t (.lst false BR)),.junk,.junk,.junk,.junk,vi .i64 W0,.c (.sl 2 0 n false),.junk,.junk,.junk,.junk,.junk,.junk,.junk,.junk,.junk,.junk,.junk,.junk,.junk,.junk,.junk,.junk,.junk,.c (.t (.lst false MR)),vi .i64 n,vi .i64 I] (none :: none :: mqh n i 3 w E)
def slSt2 (b w:Nat) (RR PV:Abs.Rows) (cp:Bool) (X:Abs.Rows) (W0 K I:Int):St:=mkSt 73 [.junk,.junk,.junk,.junk,.junk,.junk,vi .i64 W0,.junk,.junk,.junk,.c (.t (.lst false RR)),.junk,.c (.sl b 0 w false),.junk,.junk,.junk,.junk,.junk,.junk,.junk,.junk,.junk,.junk,.junk,.junk,.junk,.junk,.junk,.junk,.junk,.junk,.junk,.junk,.junk,.junk,.junk,.junk,.junk,.junk,.junk,.junk,.junk,.junk,.junk,.junk,.junk,.junk,.junk,.junk,.junk,.junk,.junk,.junk,.junk,.c (.t (.lst cp PV)),vi .i64 K,vi .i64 I] (List.replicate b none ++ [some (.rows 4 X true false)])
theorem msolve_call (n:Nat) (hn:n<=4) (M:Nat->List Rat) (w B:Nat) (hw:w<=900) (hw0:n=0->w=0) (hl:∀ i,i < n->(M i).length=w) (D:List Rat) (hD:D.length=n) (hB:1<=B) (hB2:B<=400000) (hq:∀ i,i < n->∀ q ∈ M i,Qs q B) (hqD:∀ q ∈ D,Qs q B)
  {v k:Nat} (hv:v=if n=0 then 0 else w+1) {R:Nat->List Rat} {p:Nat->Nat} (hk:k=(rdIt n (exM M D) v).k) (hR:R=(rdIt n (exM M D) v).R) (hp:p=(rdIt n (exM M D) v).p)
  {T:TV} {ec:Int} (hT:(isP p k w=true/\T=.c (.lst true [])/\ec=111) ∨ (isP p k w=false/\T=tl (ur (srow w R p k))/\ec=0)) :
  ACall Tryz.prog 31 [.val (tl (mr n M)),.val (tl (ur D))] ⟨[.val T,.val (ti .i64 ec)],[none,none]⟩:=by
 have cw:=mwidth_call n w M hl (by omega)
 rw [show (if n=0 then 0 else w)=w by split <;> omega] at cw
 have cz:=mzeros_call w (by omega)
 obtain ⟨E,hE⟩:∃ E:Nat->Abs.Rows,∀ i,i < n->E i=ur (exM M D i):=⟨fun i=>ur (exM M D i),fun _ _=>rfl⟩
 have hlx:∀ i,i < n->(exM M D i).length=v:=fun i hi=>by rw [exM_len (hl i hi),hv,if_neg (by omega)]
 have gD:∀ i,i < n->D[i]?=some (D.getD i 0):=fun i hi=>by rw [List.getD_eq_getElem?_getD,List.getElem?_eq_getElem (by omega)]; rfl
 have hqx:∀ i,i < n->∀ q ∈ exM M D i,Qs q B:=fun i hi q hq'=>by
  rcases List.mem_append.1 hq' with h | h
  ·exact hq i hi q h
  ·obtain rfl:=List.mem_singleton.1 h
   exact hqD _ (List.mem_of_getElem? (gD i hi))
 have cr:=mred_own n hn (exM M D) v w B (fun h=>by rw [hv,if_neg h]) (fun h=>by rw [hv,if_pos h]) (by rw [hv]; split <;> omega) hlx hB hB2 hqx hE
 have ok:=rdIt_ok hlx v
 rw [<- hk,<- hR,<- hp] at cr ok
 have hkn:k<=4:=by have:=ok.kn; omega
 have cc:=scont_call (pl p k) w (by rw [pl_len]; omega) (isP p k w) (by rw [isP_iff,pl_mem])
 obtain ⟨MR,hMR⟩:∃ X,X=mr n M:=⟨_,rfl⟩
 obtain ⟨BR,hBR⟩:∃ X,X=ur D:=⟨_,rfl⟩
 obtain ⟨RR,hRR⟩:∃ X,X=mr k R:=⟨_,rfl⟩
 obtain ⟨PV,hPV⟩:∃ X,X=W .i64 (pl p k):=⟨_,rfl⟩
 obtain ⟨cp,hcp⟩:∃ X,X=decide (k=0):=⟨_,rfl⟩
 obtain ⟨W0,hW0⟩:∃ X:Int,X=(w:Int):=⟨_,rfl⟩
 obtain ⟨K,hK⟩:∃ K:Int,K=(k:Int):=⟨_,rfl⟩
 obtain ⟨Z,hZ⟩:∃ Z,Z=ur (List.replicate w 0):=⟨_,rfl⟩
 rw [<- hMR,<- hW0] at cw
 rw [<- hRR,<- hPV,<- hcp] at cr
 rw [<- hW0,<- hPV] at cc
 rw [<- hW0,<- hZ] at cz
 have cc:ACall Tryz.prog 81 [.val (.c (.lst cp PV)),.val (ti .i64 W0)] ⟨[.val (tb (isP p k w))],[none,none]⟩:=ACall.weak (show ArgsLe [.val (.c (.lst cp PV)),.val (ti .i64 W0)] [.val (tl PV),.val (ti .i64 W0)] from ⟨TLe.drop _ _,TLe.refl _,trivial⟩) (ResLe.refl _) cc
 have lM:MR.length=n:=by rw [hMR,qa6]
 have lB:BR.length=n:=by rw [hBR,qag,hD]
 have hPVl:PV.length=k:=by rw [hPV,qaj,pl_len]
 have lZ:Z.length=w:=by rw [hZ,qag,List.length_replicate]
 have c:∀ i,i < n->∃ (row cell:Abs.Rows) (s t:Bool) (r p:Abs.Rows),cell=[[.v (.bool s),.lst false r,.v (.bool t),.lst false p]]/\MR[i]?=some [.lst false row]/\ACall Tryz.prog 56 [.val (tl row)] ⟨[.own 4 row],[none]⟩/\BR[i]?=some [.v (.bool s),.lst false r,.v (.bool t),.lst false p]/\row.length=w/\row ++ cell=E i:=fun i hi=>by
  obtain ⟨s,t,r,p,hrow,_⟩:=qrow (D.getD i 0)
  refine ⟨_,_,s,t,r,p,rfl,by rw [hMR]; exact qbf hi,mclone_call (M i) (by rw [hl i hi]; omega),by rw [hBR,<- hrow]; exact qat (gD i hi),by rw [qag,hl i hi],?_⟩
  rw [hE i hi,exM,ur_app,<- hrow]
  try rfl
 have hx:∀ i,i < k->∃ (Ri:Abs.Rows) (s1 t1 s2 t2:Bool) (r1 p1 r2 p2:Abs.Rows),isP p k w=false->p i < w/\RR[i]?=some [.lst false Ri]/\Ri[w]?=some [.v (.bool s1),.lst false r1,.v (.bool t1),.lst false p1]/\(ur (srow w R p i))[p i]?=some [.v (.bool s2),.lst false r2,.v (.bool t2),.lst false p2]/\(ur (srow w R p i)).set (p i) [.v (.bool s1),.lst false r1,.v (.bool t1),.lst false p1]=ur (srow w R p (i+1)):=fun i hik=>by
  obtain ⟨s1,t1,r1,p1,hr1,_⟩:=qrow ((R i).getD w 0)
  obtain ⟨s2,t2,r2,p2,hr2,_⟩:=qrow (svf R p w i (p i))
  refine ⟨ur (R i),s1,t1,s2,t2,r1,p1,r2,p2,fun hPw=>?_⟩
  have hin:i < n:=by have:=ok.kn; omega
  have hv1:v=w+1:=by rw [hv,if_neg (by omega)]
  have hpw:p i < w:=by
   have:=ok.pj i hik
   have h2:p i ≠ w:=fun e=>by
    have:=(isP_iff p w k).2 ⟨i,hik,e⟩
    rw [hPw] at this; cases this
   omega
  refine ⟨hpw,by rw [hRR]; exact qbf hik,?_,?_,?_⟩
  ·rw [<- hr1]
   exact qat (by rw [List.getD_eq_getElem?_getD,List.getElem?_eq_getElem (by rw [ok.len i hin]; omega)]; rfl)
  ·rw [<- hr2]; exact qat (srow_get hpw)
  ·rw [<- hr1,<- srow_next hpw]; exact ur_set _ _ _
 have hgI:∀ i,i < k->(pl p k).getD i 0=(p i:Int):=fun i hik=>by
  rw [List.getD_eq_getElem?_getD]; simp [pl,List.getElem?_map,List.getElem?_range hik]
 have hTX:isP p k w=false->T=tl (ur (srow w R p k))/\ec=0:=fun h=>by
  rcases hT with ⟨h1,_⟩ | ⟨_,h2⟩
  ·rw [h] at h1; cases h1
  ·exact h2
 have hTY:isP p k w=true->T=.c (.lst true [])/\ec=111:=fun h=>by
  rcases hT with ⟨_,h2⟩ | ⟨h1,_⟩
  ·exact h2
  ·rw [h] at h1; cases h1
 have hZ0:Z=ur (srow w R p 0):=by rw [hZ,srow_zero w R p]
 have lS:∀ i,(ur (srow w R p i)).length=w:=fun i=>by rw [qag,srow_len]
 have hvm:n ≠ 0->v=w+1:=fun h=>by rw [hv,if_neg h]
 have hvh:∀ i,mqh n i 3 v E=mqh n i 3 v E:=fun _=>rfl
 rw [<- hMR,<- hBR]
 clear hE hlx gD hqx hq hqD hl hD ok hT hMR hBR hRR hZ hk hR hp
 obtain ⟨S,hS0⟩:∃ S:Nat->Abs.Rows,∀ i,S i=ur (srow w R p i):=⟨fun i=>ur (srow w R p i),fun _=>rfl⟩
 simp only [<- hS0] at hx hTX hZ0 lS
 clear hS0
 generalize isP p k w=bb at *
 have L4:LN n:=trivial
 obtain ⟨N,hN⟩:∃ N,N=n:=⟨_,rfl⟩
 obtain rfl | rfl | rfl | rfl | rfl:n=0 ∨ n=1 ∨ n=2 ∨ n=3 ∨ n=4:=by omega
 all_goals
  refine callZ ccOk mixed [.val,.val] Tryz.func31 rfl rfl (by kernel_rfl) fun zA zB zC zD zE zF zG zH zI zJ zK zL zM zN zO zP zQ zR zT zU zV zX zY zZ zb zc zd ze zg zh zi zj zk zl zm zn zo zq zr zs zt zu zx zy zz zmget zmset zW zth A L F hS hF=>?_
  obtain rfl:zZ=fun a:Nat=>(a:Int):=by funext a; exact hS.ofN a
  obtain ⟨za,rfl⟩:=hS.addL
  obtain ⟨zw,rfl⟩:=hS.wrapL
  have kk:∀ a:Nat,zX (Int.ofNat a)=a:=fun a=>by rw [hS.nat]; rfl
  have km:zi (Int.ofNat L4.v) (Int.ofNat L4.v) 24=true:=by rw [hS.mkok]; exact decide_eq_true (by unfold capBytes; simp [LN.v])
  have e1:zj MR=L4.v:=by rw [hS.len,lM]; rfl
  have e2:zj BR=L4.v:=by rw [hS.len,lB]; rfl
  have e3:∀ X,zN X X=false:=fun X=>by rw [hS.ne]; exact decide_eq_false (by simp)
  cbv
  rw [e1,e2]
  refine bF (e3 _) ?_
  refine ⟨_,hS.hcall cw,?_⟩
  cbv
  rw [e1]
  cbv
  refine nd km ?_
  rw [kk]
  have hW0:W0=(w:Int):=hW0
  have hK:K=(k:Int):=hK
  refine loopZR ccOk mixed hS (fun (m:Nat) s'=>∃ (i:Nat) (I:Int),I=i/\m+i=L4.v/\s'=slSt L4.v i v MR BR E W0 I) (n:=L4.v) (s0:=slSt L4.v 0 v MR BR E W0 0) (qan ?_ ?_) rfl (by simp [slSt,mkSt,mqh,LN.v]) ?_ ?_
  ·simp [leT,slSt,mkSt,vi,vb,LN.v]
  ·simp [leH,slSt,mkSt,mqh,LN.v,List.range,List.range.loop,List.replicate]
  ·exact ⟨0,0,rfl,by omega,rfl⟩
  ·rintro m sx ⟨i,I,hI,hm,hs1⟩
   have hI:I=(i:Int):=hI
   have Li:LN i:=trivial
   by_cases hin:i=L4.v
   ·have l1:zO (Int.ofNat L4.v) (Int.ofNat L4.v)=false:=by rw [hS.lt]; exact decide_eq_false (by omega)
    subst hin
    clear c hm Li
    subst hI
    subst hs1
    cbv
    refine bF l1 ?_
    refine ⟨_,hS.hcall cr,?_⟩
    cbv
    refine ⟨_,hS.call cc,?_⟩
    cbv
    cases bb with
    | true=>
     obtain ⟨rfl,rfl⟩:=hTY rfl
     refine bT rfl ?_
     exact hF _ (ResLe.refl _)
    | false=>
     obtain ⟨rfl,rfl⟩:=hTX rfl
     have e5:zj Z=w:=by rw [hS.len,lZ]
     have e6:zj PV=k:=by rw [hS.len,hPVl]
     refine bF rfl ?_
     refine ⟨_,hS.call cz,?_⟩
     cbv
     rw [e5,e6]
     refine loopZR ccOk mixed hS (fun (m:Nat) s'=>∃ (i:Nat) (I:Int) (X:Abs.Rows),I=i/\m+i=k/\X=S i/\s'=slSt2 (L4.v+17) w RR PV cp X W0 K I) (n:=k) (s0:=slSt2 (L4.v+17) w RR PV cp Z W0 K 0) (qan ?_ ?_) rfl (by simp [slSt2,mkSt,LN.v]) ?_ ?_
     ·simp [leT,slSt2,mkSt,vi,vb,LN.v,hK]
     ·simp [leH,slSt2,mkSt,LN.v,List.replicate]
     ·exact ⟨0,0,Z,rfl,by omega,hZ0,rfl⟩
     ·rintro m2 s2 ⟨i,I,X,hI,hm2,hX,hs2⟩
      have hI:I=(i:Int):=hI
      have hK:K=(k:Int):=hK
      have hW0:W0=(w:Int):=hW0
      by_cases hik:i=k
      ·have l2:zO I K=false:=by rw [hS.lt]; exact decide_eq_false (by omega)
       obtain rfl:X=S k:=by rw [hX,hik]
       have fX:zq 0 w (S k)=true:=by rw [hS.fit]; exact decide_eq_true (by rw [lS]; omega)
       have pX:zr (S k) 0 w=S k:=by rw [hS.part,List.drop_zero,List.take_of_length_le (by rw [lS]; omega)]
       subst hs2
       cbv
       refine bF l2 (nd fX ?_)
       rw [pX]
       exact hF _ (ResLe.refl _)
      ·have hik:i < k:=by omega
       have l2:zO I K=true:=by rw [hS.lt]; exact decide_eq_true (by omega)
       obtain ⟨Ri,s1,t1,s2,t2,r1,p1,r2,p2,hxx⟩:=hx i hik
       obtain ⟨hpw,x1,x2,x3,x4⟩:=hxx rfl
       rw [<- hX] at x3 x4
       obtain ⟨Pi,hPi⟩:∃ P:Int,P=(p i:Int):=⟨_,rfl⟩
       have u0:zX I=i:=by rw [hS.nat]; omega
       have n0:zP 0 I=true:=by rw [hS.le]; exact decide_eq_true (by omega)
       have n1:zP 0 W0=true:=by rw [hS.le]; exact decide_eq_true (by omega)
       have u1:zm .i64 PV i=true:=by rw [hS.isI,hPV,qaq,pl_len]; exact decide_eq_true hik
       have u7:zn PV i=Pi:=by rw [hS.getI,hPV,qak,hPi,hgI i hik]
       have u2:zk RR i=some [.lst false Ri]:=by rw [hS.nth]; exact x1
       have u3:zk Ri w=some [.v (.bool s1),.lst false r1,.v (.bool t1),.lst false p1]:=by rw [hS.nth]; exact x2
       have u4:zX W0=w:=by rw [hS.nat]; omega
       have u5:zk X (p i)=some [.v (.bool s2),.lst false r2,.v (.bool t2),.lst false p2]:=by rw [hS.nth]; exact x3
       have u6:zl X (p i) [.v (.bool s1),.lst false r1,.v (.bool t1),.lst false p1]=S (i+1):=by rw [hS.setr]; exact x4
       have b3:zY Pi w=true:=by rw [hS.inb]; exact decide_eq_true (by omega)
       have b4:zb 0 Pi=p i:=by rw [hS.idx]; omega
       obtain ⟨I',hI',i2⟩:∃ I':Int,I'=((i+1:Nat):Int)/\wrapL zw .i64 (addL za I 1)=I':=⟨I+1,by omega,by rw [hS.add,hS.wrap,wrap_i64 (by omega) (by omega)]⟩
       cbv at i2
       have hI':I'=((i+1:Nat):Int):=hI'
       have hm3:m2 - 1 < m2:=by omega
       have hnx2:∃ (i3:Nat) (I3:Int) (X3:Abs.Rows),I3=i3/\(m2 - 1)+i3=k/\X3=S i3/\slSt2 (L4.v+17) w RR PV cp (S (i+1)) W0 K I'=slSt2 (L4.v+17) w RR PV cp X3 W0 K I3:=⟨i+1,I',S (i+1),hI',by omega,rfl,rfl⟩
       generalize S (i+1)=Y at *
       generalize p i=pi at *
       clear hX hI' hx hPV hgI hTX hTY
       subst hs2
       cbv
       refine bT l2 (nd n0 ?_)
       rw [u0]
       refine nd u1 ?_
       rw [u2,u7]
       cbv
       refine nd n0 ?_
       rw [u4,u3]
       cbv
       refine nd n1 (nd b3 ?_)
       rw [b4,u5]
       cbv
       rw [u6,i2]
       refine againR [] (s':=slSt2 (L4.v+17) w RR PV cp Y W0 K I') (k:=m2 - 1) ?_ ?_ ?_ ?_ rfl (by simp [slSt2,mkSt,LN.v]) hm3 hnx2
       ·simp [leTR,slSt2,mkSt,vi,AV.ren,AV.noTup,Cell.ren,renF,LN.v]
       ·simp [leHR,slSt2,mkSt,Abs.look,renF,Blk.ren,Cell.ren,LN.v,List.replicate]
       ·simp [liveR,slSt2,mkSt,renF,LN.v,List.replicate]
       ·simp
   ·have hi:i < L4.v:=by omega
    have l1:zO (Int.ofNat i) (L4.v:Int)=true:=by rw [hS.lt]; exact decide_eq_true (show (i:Int) < _ by omega)
    obtain ⟨row,cell,s,t,r,p,c0,c1,c2,c3,c4,c5⟩:=c i hi
    have hvw:v=w+1:=hvm (by show L4.v ≠ 0; omega)
    have j1:zX (Int.ofNat i)=i:=kk i
    have j2:zk MR i=some [.lst false row]:=by rw [hS.nth]; exact c1
    have j3:zk BR i=some [.v (.bool s),.lst false r,.v (.bool t),.lst false p]:=by rw [hS.nth]; exact c3
    have n0:zP 0 (Int.ofNat i)=true:=by rw [hS.le]; exact decide_eq_true (Int.natCast_nonneg i)
    have w0:zr cell 0 1=cell:=by rw [hS.part,c0]; rfl
    have w1:zq 0 1 cell=true:=by rw [hS.fit,c0]; rfl
    have w2:zQ (zc (zj cell) 0)=true:=by rw [hS.neq,hS.len,hS.not,c0]; rfl
    have w3:zx 4 cell=true:=by rw [hS.wide,c0]; rfl
    have w4:zh (zj row) (zj cell) 64=true:=by rw [hS.room,hS.len,hS.len,c4,c0]; exact decide_eq_true (by unfold capBytes; simp; omega)
    have w5:zc (zd 0 (zj row)) (zj row)=true:=by rw [hS.nadd,hS.neq,Nat.zero_add]; exact decide_eq_true rfl
    have w6:zd (zj row) (zj cell)=v:=by rw [hS.nadd,hS.len,hS.len,c4,c0,hvw]; rfl
    have w7:zs row 0 cell=E i:=by rw [hS.ext]; exact c5
    have hnx:∃ (i3:Nat) (I3:Int),I3=i3/\(m - 1)+i3=L4.v/\slSt L4.v (i+1) v MR BR E W0 (Int.ofNat (i+1))=slSt L4.v i3 v MR BR E W0 I3:=⟨i+1,Int.ofNat (i+1),rfl,by omega,rfl⟩
    have hmm:m - 1 < m:=by omega
    have hiN:i < N:=by rw [hN]; exact hi
    clear c c1 c3 c4 c5 hx hTX hTY cr hi hvh
    subst hI
    obtain rfl | rfl | rfl | rfl:i=0 ∨ i=1 ∨ i=2 ∨ i=3:=by omega
    all_goals first | (exfalso; omega) | skip
    all_goals
     subst hs1
     cbv
     refine bT l1 ?_
     rw [show zX _=_ from j1,j2]
     cbv
     refine nd (n0) ?_
     refine ⟨_,hS.call (c2),?_⟩
     cbv
     rw [show zX _=_ from j1,j3]
     cbv
     rw [<- c0,w0,w6]
     refine nd n0 (nd w1 (nd w2 (nd w3 (nd w4 (nd w5 ?_)))))
     rw [w7]
     refine againR [(Li.v+3,Li.v+6)] (s':=slSt L4.v (Li.v+1) v MR BR E W0 (Int.ofNat (Li.v+1))) (k:=m - 1) ?_ ?_ ?_ ?_ rfl (by simp [slSt,mkSt,mqh,LN.v]) hmm hnx
     ·simp [leTR,slSt,mkSt,vi,AV.ren,AV.noTup,Cell.ren,renF,LN.v]
     ·simp [leHR,slSt,mkSt,mqh,Abs.look,renF,Blk.ren,Cell.ren,LN.v,List.range,List.range.loop]
     ·simp [liveR,slSt,mkSt,mqh,renF,LN.v,List.range,List.range.loop]
     ·simp [LN.v]
end Go.Proofs.YtjfmkcmepdedaaaGreat
end
