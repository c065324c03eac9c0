/-
  A part of the proof: MxB1k.
-/
import Derived.Test.YtjfmkcmepdedaaaGreatM14
set_option maxHeartbeats 0
set_option maxRecDepth 100000
set_option linter.unusedVariables false
set_option linter.unusedSimpArgs false
set_option linter.unusedSectionVars false
section
namespace Go.Proofs.YtjfmkcmepdedaaaGreat
open Go Go.Abs Go.Abs.M Go.Proofs
def rdoSt (n k w:Nat) (E X:Nat->Abs.Rows) (PV:Abs.Rows) (W0 J:Int):St:=mkSt 89 [.junk,.junk,.junk,.junk,.c (.sl (n+1) 0 n false),if k=0 then .c (.t (.lst true [])) else .c (.sl (2*n+2) 0 k false),.junk,.junk,.junk,.junk,.junk,.junk,.junk,.junk,vi .i64 W0,vi .i64 J] (mrh n w E ++ some (.var ((List.range n).map fun q=>.sl (q+(n+2)) 0 w false)) :: ((List.range n).map fun q=>some (.rows 4 (X q) true false)) ++ if k=0 then [] else [some (.rows 1 PV true false)])
def rdoren (n k l:Nat):List (Nat × Nat):=(2*n+2,n+(n+1)+(if k=0 then 11 else 12)) :: (List.range n).map fun q=>(q+(n+2),if q=k then n+(n+1)+(if k=0 then 4 else 5) else if q=l then k+(n+2) else q+(n+2))
theorem mred_own (n:Nat) (hn:n<=4) (M:Nat->List Rat) (w v B:Nat) (hwv:n ≠ 0->w=v+1) (hw0:n=0->w=0) (hw:w<=1000) (hl:∀ i,i < n->(M i).length=w) (hB:1<=B) (hB2:B<=400000) (hq:∀ i,i < n->∀ q ∈ M i,Qs q B) {E:Nat->Abs.Rows} (hE:∀ i,i < n->E i=ur (M i)) :
  HCall Tryz.prog 61 ⟨[.c (.sl 0 0 n false)],mrh n w E⟩ ⟨[.c (.t (.lst false (mr (rdIt n M w).k (rdIt n M w).R))),.c (.t (.lst (decide ((rdIt n M w).k=0)) (W .i64 (pl (rdIt n M w).p (rdIt n M w).k))))],mrh n w E⟩:=by
 obtain ⟨T1,hT1⟩:∃ T,T=mr (rdIt n M w).k (rdIt n M w).R:=⟨_,rfl⟩
 obtain ⟨T2,hT2⟩:∃ T,T=W .i64 (pl (rdIt n M w).p (rdIt n M w).k):=⟨_,rfl⟩
 obtain ⟨cp,hcp⟩:∃ b,b=decide ((rdIt n M w).k=0):=⟨_,rfl⟩
 have cw:=mwidth_own n w hn hw0 E
 obtain ⟨W0,hW0⟩:∃ W0:Int,W0=(w:Int):=⟨_,rfl⟩
 rw [<- hW0] at cw
 have ca:HCall Tryz.prog 55 ⟨[.c (.sl 0 0 n false),.c (.t (.v (.func (.func 56) #[] #[])))],mrh n w E⟩ ⟨[.c (.sl (n+1) 0 n false)],mrh n w E ++ mqh n n (n+2) w E⟩:=by
  by_cases h0:n=0
  ·have c:=mqapp_own n hn M 0 (by omega) (by omega) hE
   rw [hw0 h0]
   subst h0
   exact c
  ·have hv:=hwv h0
   subst hv
   exact mqapp_own n hn M v (by omega) hl hE
 have hok:=fun j=>rdIt_ok hl j
 have hrd:=fun (j k:Nat) (J:Int) (X:Nat->Abs.Rows) (hj:j < w) (hk:(rdIt n M j).k=k) (hJ:J=j) (hX:∀ i,i < n->X i=ur ((rdIt n M j).R i))=>rd_round hn hw hl hB hB2 hq hj hk hJ hX
 have hX0:∀ i,i < n->E i=ur ((rdIt n M 0).R i):=hE
 have hk0:(rdIt n M 0).k=0:=rfl
 have hp0:([]:Abs.Rows)=W .i64 (pl (rdIt n M 0).p (rdIt n M 0).k):=rfl
 rw [<- hT1,<- hT2,<- hcp]
 clear hl hq hE
 obtain ⟨I,hI⟩:∃ I,I=rdIt n M:=⟨_,rfl⟩
 rw [<- hI] at hT1 hT2 hcp hok hrd hX0 hk0 hp0
 clear hI
 have L4:LN n:=trivial
 obtain ⟨N,hN⟩:∃ N,N=n:=⟨_,rfl⟩
 obtain rfl | rfl | rfl | rfl | rfl:n=0 ∨ n=1 ∨ n=2 ∨ n=3 ∨ n=4:=by omega
 all_goals
  refine hcallZX ccOk mixed Tryz.func61 rfl rfl (by kernel_rfl) rfl (by simp [mrh]) fun zA zB zC zD zE zF zG zH zI zJ zK zL zM zN zO zP zQ zR zT zU zV zX zY zZ zb zc zd ze zg zh zi zj zk zl zm zn zo zq zr zs zt zu zx zy zz zmget zmset zW zth A L G hS hG=>?_
  obtain rfl:zZ=fun a:Nat=>(a:Int):=by funext a; exact hS.ofN a
  obtain ⟨za,rfl⟩:=hS.addL
  obtain ⟨zw,rfl⟩:=hS.wrapL
  have hv:L4.v=N:=hN.symm
  cbv
  refine ⟨_,hS.hcall ca,?_⟩
  cbv
  refine ⟨_,hS.hcall cw,?_⟩
  cbv
  have hW0:W0=(w:Int):=hW0
  refine loopZR ccOk mixed hS (fun (m:Nat) s'=>∃ (j k:Nat) (J:Int) (X:Nat->Abs.Rows) (PV:Abs.Rows),J=j/\m+j=w/\(I j).k=k/\(∀ i,i < L4.v->X i=ur ((I j).R i))/\PV=W .i64 (pl (I j).p k)/\s'=rdoSt L4.v k w E X PV W0 J) (n:=w) (s0:=rdoSt L4.v 0 w E E [] W0 0) (qan ?_ ?_) rfl (by simp [rdoSt,mkSt,mrh,LN.v]) ?_ ?_
  ·simp [leT,rdoSt,mkSt,vi,vb,LN.v]
  ·simp [leH,rdoSt,mkSt,mrh,LN.v,List.range,List.range.loop]
  ·exact ⟨0,0,0,E,[],rfl,by omega,hk0,hX0,by rw [hk0] at hp0; exact hp0,rfl⟩
  ·rintro m s1 ⟨j,k,J,X,PV,hJ,hm,hk,hX,hPV,hs1⟩
   have hJ:J=(j:Int):=hJ
   have ok:=hok j
   rw [hk] at ok
   have hkn:=ok.kn
   have hPVl:PV.length=k:=by rw [hPV,qaj,pl_len]
   have Lk:LN k:=trivial
   obtain ⟨C,hC⟩:∃ C,C=k:=⟨_,rfl⟩
   have f:∀ X:Abs.Rows,X.length=w->zq 0 w X=true:=fun X h=>by rw [hS.fit]; exact decide_eq_true (by omega)
   have pt:∀ X:Abs.Rows,X.length=w->zr X 0 w=X:=fun X h=>by rw [hS.part,List.drop_zero,List.take_of_length_le (by omega)]
   have eX:∀ i,i < L4.v->(X i).length=w:=fun i hi=>by rw [hX i hi,qag,ok.len i hi]
   by_cases hjw:j=w
   ·have l1:zO J W0=false:=by rw [hS.lt]; exact decide_eq_false (by omega)
    have g1:zq 0 k PV=true:=by rw [hS.fit]; exact decide_eq_true (by omega)
    have g2:zr PV 0 k=PV:=by rw [hS.part,List.drop_zero,List.take_of_length_le (by omega)]
    have hT1':T1=(List.range k).map fun i=>[Tree.lst false (X i)]:=by rw [hT1,<- hjw,hk]; exact mr_x fun i hi=>hX i (Nat.lt_of_lt_of_le hi hkn)
    have hT2':T2=PV:=by rw [hT2,<- hjw,hk,hPV]
    have hcp':cp=decide (k=0):=by rw [hcp,<- hjw,hk]
    have p0:∀ i,i < L4.v->zr (X i) 0 w=X i:=fun i hi=>pt _ (eX i hi)
    subst hT2'
    subst hcp'
    subst hT1'
    clear hok hrd ok hX hT1 hT2 hcp
    obtain rfl:zj=fun a:Abs.Rows=>a.length:=by funext a; exact hS.len a
    have hk4:k=0 ∨ 0 < k:=by omega
    rcases hk4 with rfl | hk4
    ·obtain rfl:T2=[]:=List.length_eq_zero_iff.1 hPVl
     subst hs1
     cbv
     refine bF l1 ?_
     repeat refine nd (f _ (eX _ (by omega))) ?_
     refine endR hG [] ?_ ?_ ?_ ?_
     ·simp [leTR,AV.ren,AV.noTup,Cell.ren,renF]
     ·simp [leHR,mrh,Abs.look,renF,Blk.ren,Cell.ren,List.range,List.range.loop]
     ·simp [liveR,mrh,renF,List.range,List.range.loop]
     ·simp
    ·obtain rfl | rfl | rfl | rfl:k=1 ∨ k=2 ∨ k=3 ∨ k=4:=by omega
     all_goals first | (exfalso; omega) | skip
     all_goals
      subst hs1
      cbv
      refine bF l1 ?_
      repeat refine nd (f _ (eX _ (by omega))) ?_
      refine nd g1 ?_
      try rw [p0 0 (by omega)]
      try rw [p0 1 (by omega)]
      try rw [p0 2 (by omega)]
      try rw [p0 3 (by omega)]
      rw [g2]
      refine endR hG [] ?_ ?_ ?_ ?_
      ·simp [leTR,AV.ren,AV.noTup,Cell.ren,renF,List.range,List.range.loop]
      ·simp [leHR,mrh,Abs.look,renF,Blk.ren,Cell.ren,List.range,List.range.loop]
      ·simp [liveR,mrh,renF,List.range,List.range.loop]
      ·simp
   ·have hj:j < w:=by omega
    have l1:zO J W0=true:=by rw [hS.lt]; exact decide_eq_true (by omega)
    have b1:zY J w=true:=by rw [hS.inb]; exact decide_eq_true (by omega)
    have b2:zb 0 J=j:=by rw [hS.idx]; omega
    obtain ⟨J',hJ',i1⟩:∃ J':Int,J'=((j+1:Nat):Int)/\wrapL zw .i64 (addL za J 1)=J':=⟨J+1,by omega,by rw [hS.add,hS.wrap,wrap_i64 (by omega) (by omega)]⟩
    cbv at i1
    have hJ':J'=((j+1:Nat):Int):=hJ'
    have hmm:m - 1 < m:=by omega
    obtain ⟨T,cpv,hc⟩:=hrd j k J X hj hk hJ hX
    rcases hc with ⟨hTl,hst⟩ | ⟨l,s,t,s2,t2,r,p,r2,p2,S,Z2,Z3,h1,hln,hTl,eS,u,cinv,cm,ce1,ce2,hk2,hZ3,hPV3⟩
    ·have z0:zO (-1) 0=true:=by rw [hS.lt]; rfl
     have hnx:∃ (j3 k3:Nat) (J3:Int) (X3:Nat->Abs.Rows) (PV3:Abs.Rows),J3=j3/\(m - 1)+j3=w/\(I j3).k=k3/\(∀ i,i < L4.v->X3 i=ur ((I j3).R i))/\PV3=W .i64 (pl (I j3).p k3)/\rdoSt L4.v C w E X PV W0 J'=rdoSt L4.v k3 w E X3 PV3 W0 J3:=⟨j+1,k,J',X,PV,hJ',by omega,by rw [hst]; exact hk,by rw [hst]; exact hX,by rw [hst]; exact hPV,by rw [hC]⟩
     subst hC
     subst hTl
     clear hok hrd ok hst hX hPV
     obtain rfl:zj=fun a:Abs.Rows=>a.length:=by funext a; exact hS.len a
     obtain rfl | rfl | rfl | rfl | rfl:C=0 ∨ C=1 ∨ C=2 ∨ C=3 ∨ C=4:=by omega
     all_goals first | (exfalso; omega) | skip
     all_goals
      subst hs1
      cbv
      refine bT l1 ?_
      refine ⟨_,hS.hcall cpv,?_⟩
      cbv
      refine bT z0 ?_
      rw [i1]
      refine againR [] (s':=rdoSt L4.v _ w E X PV W0 J') (k:=m - 1) ?_ ?_ ?_ ?_ rfl (by simp [rdoSt,mkSt,mrh,LN.v]) hmm hnx
      ·simp [leTR,rdoSt,mkSt,vi,AV.ren,AV.noTup,Cell.ren,renF,rdoren,LN.v,List.range,List.range.loop]
      ·simp [leHR,rdoSt,mkSt,mrh,Abs.look,renF,Blk.ren,Cell.ren,rdoren,LN.v,List.range,List.range.loop]
      ·simp [liveR,rdoSt,mkSt,mrh,renF,rdoren,LN.v,List.range,List.range.loop]
      ·first | (simp [rdoren,mrh,LN.v]; done) | (simp [rdoren,mrh,LN.v]; omega) | (simp [rdoren,mrh,LN.v]; intro a _; omega)
    ·obtain ⟨PV',hPV'⟩:∃ P,P=PV ++ W .i64 [J]:=⟨_,rfl⟩
     have hnx:∃ (j3 k3:Nat) (J3:Int) (X3:Nat->Abs.Rows) (PV3:Abs.Rows),J3=j3/\(m - 1)+j3=w/\(I j3).k=k3/\(∀ i,i < L4.v->X3 i=ur ((I j3).R i))/\PV3=W .i64 (pl (I j3).p k3)/\rdoSt L4.v (C+1) w E Z3 PV' W0 J'=rdoSt L4.v k3 w E X3 PV3 W0 J3:=⟨j+1,k+1,J',Z3,PV',hJ',by omega,hk2,hZ3,by rw [hPV',hPV3,hPV],by rw [hC]⟩
     have q0:zr [[Tree.v (.int .i64 J)]] 0 1=W .i64 [J]:=by rw [hS.part]; rfl
     have q1:zq 0 1 [[Tree.v (.int .i64 J)]]=true:=by rw [hS.fit]; rfl
     have q2:zj (zr [[Tree.v (.int .i64 J)]] 0 1)=1:=by rw [q0,hS.len]; rfl
     have q3:zQ (zc 1 0)=true:=by rw [hS.neq,hS.not]; rfl
     have q4:zx 1 (zr [[Tree.v (.int .i64 J)]] 0 1)=true:=by rw [q0,hS.wide]; rfl
     have q5:zh k 1 8=true:=by rw [hS.room]; exact decide_eq_true (by unfold capBytes; omega)
     have q7:zd k 1=k+1:=by rw [hS.nadd]
     have q8:zs PV 0 (zr [[Tree.v (.int .i64 J)]] 0 1)=PV':=by rw [q0,hS.ext,hPV',List.drop_zero]
     have u2:zk (X l) j=some [.v (.bool s),.lst false r,.v (.bool t),.lst false p]:=by rw [hS.nth]; exact u
     have f0:zq 0 w (X l)=true:=f _ (eX l hln)
     have p0:zr (X l) 0 w=X l:=pt _ (eX l hln)
     have z0:zO (Int.ofNat l) 0=false:=by rw [hS.lt]; exact decide_eq_false (show ¬((l:Int) < 0) by omega)
     have Ll:LN l:=trivial
     have hk4:k=0 ∨ 0 < k:=by omega
     have hln:l < N:=by rw [<- hv]; exact hln
     have hkN:k<=N:=by rw [<- hv]; exact hkn
     clear hok hrd ok hX hPV hPV' hZ3 hPV3 hk2 hkn eX u
     rcases hk4 with rfl | hk4
     ·have q6:zx 1 []=true:=by rw [hS.wide]; rfl
      obtain rfl:PV=[]:=List.length_eq_zero_iff.1 hPVl
      have zS:zj S=w:=by rw [hS.len,eS]
      subst hC
      obtain rfl:zj=fun a:Abs.Rows=>a.length:=by funext a; exact hS.len a
      cbv at q2
      cbv at zS
      obtain rfl | rfl | rfl | rfl:l=0 ∨ l=1 ∨ l=2 ∨ l=3:=by omega
      all_goals first | (exfalso; omega) | skip
      all_goals
       subst hTl
       subst hs1
       cbv
       refine bT l1 ?_
       refine ⟨_,hS.hcall cpv,?_⟩
       cbv
       refine bF z0 (nd b1 ?_)
       rw [b2,u2]
       cbv
       refine ⟨_,hS.call (cinv),?_⟩
       cbv
       refine nd (f0) ?_
       rw [p0]
       refine ⟨_,hS.call cm,?_⟩
       cbv
       rw [zS]
       refine ⟨_,hS.hcall ce1,?_⟩
       cbv
       refine ⟨_,hS.hcall ce2,?_⟩
       cbv
       refine nd q1 ?_
       rw [q2]
       refine nd q3 (nd q4 (nd q6 (nd q5 ?_)))
       rw [i1,q7,q8]
       refine againR (rdoren L4.v 0 Ll.v) (s':=rdoSt L4.v (0+1) w E Z3 PV' W0 J') (k:=m - 1) ?_ ?_ ?_ ?_ rfl (by simp [rdoSt,mkSt,mrh,LN.v]) hmm hnx
       ·simp [leTR,rdoSt,mkSt,vi,AV.ren,AV.noTup,Cell.ren,renF,rdoren,LN.v,List.range,List.range.loop]
       ·simp [leHR,rdoSt,mkSt,mrh,Abs.look,renF,Blk.ren,Cell.ren,rdoren,LN.v,List.range,List.range.loop]
       ·simp [liveR,rdoSt,mkSt,mrh,renF,rdoren,LN.v,List.range,List.range.loop]
       ·first | (simp [rdoren,mrh,LN.v]; done) | (simp [rdoren,mrh,LN.v]; omega) | (simp [rdoren,mrh,LN.v]; intro a _; omega)
     ·have q6:zc (zd 0 k) (zj PV)=true:=by rw [hS.nadd,hS.neq,hS.len,hPVl,Nat.zero_add]; exact decide_eq_true rfl
      have zS:zj S=w:=by rw [hS.len,eS]
      subst hC
      obtain rfl | rfl | rfl:C=1 ∨ C=2 ∨ C=3:=by omega
      all_goals first | (exfalso; omega) | skip
      all_goals obtain rfl | rfl | rfl:l=1 ∨ l=2 ∨ l=3:=by omega
      all_goals first | (exfalso; omega) | skip
      all_goals
       subst hTl
       subst hs1
       cbv
       refine bT l1 ?_
       refine ⟨_,hS.hcall cpv,?_⟩
       cbv
       refine bF z0 (nd b1 ?_)
       rw [b2,u2]
       cbv
       refine ⟨_,hS.call (cinv),?_⟩
       cbv
       refine nd (f0) ?_
       rw [p0]
       refine ⟨_,hS.call cm,?_⟩
       cbv
       rw [zS]
       refine ⟨_,hS.hcall ce1,?_⟩
       cbv
       refine ⟨_,hS.hcall ce2,?_⟩
       cbv
       refine nd q1 ?_
       rw [q2]
       refine nd q3 (nd q4 (nd q5 (nd q6 ?_)))
       rw [i1,q7,q8]
       refine againR (rdoren L4.v Lk.v Ll.v) (s':=rdoSt L4.v (Lk.v+1) w E Z3 PV' W0 J') (k:=m - 1) ?_ ?_ ?_ ?_ rfl (by simp [rdoSt,mkSt,mrh,LN.v]) hmm hnx
       ·simp [leTR,rdoSt,mkSt,vi,AV.ren,AV.noTup,Cell.ren,renF,rdoren,LN.v,List.range,List.range.loop]
       ·simp [leHR,rdoSt,mkSt,mrh,Abs.look,renF,Blk.ren,Cell.ren,rdoren,LN.v,List.range,List.range.loop]
       ·simp [liveR,rdoSt,mkSt,mrh,renF,rdoren,LN.v,List.range,List.range.loop]
       ·first | (simp [rdoren,mrh,LN.v]; done) | (simp [rdoren,mrh,LN.v]; omega) | (simp [rdoren,mrh,LN.v]; intro a _; omega)
end Go.Proofs.YtjfmkcmepdedaaaGreat
end
