/-
  A part of the proof: MsG1k.
-/
import Derived.Test.YtjfmkcmepdedaaaGreatM21
set_option maxHeartbeats 0
set_option maxRecDepth 100000
set_option linter.unusedVariables false
set_option linter.unusedSimpArgs false
set_option linter.unusedSectionVars false
section
namespace Go.Proofs.YtjfmkcmepdedaaaGreat
open Go Go.Abs Go.Abs.M Go.Proofs
def sgaSt (R:Abs.Rows) (N I:Int):St:=mkSt 78 [.c (.t (.lst false R)),.junk,vi .i64 0,vi .i64 0,vi .i64 0,.junk,.junk,.junk,.junk,.junk,.junk,.junk,.junk,.junk,.junk,vi .i64 N,vi .i64 I] [none]
def sgbSt (R:Abs.Rows) (N I J:Int):St:=mkSt 78 [.c (.t (.lst false R)),.junk,vi .i64 0,vi .i64 0,vi .i64 0,vi .i64 I,.junk,.junk,.junk,.junk,.junk,.junk,.junk,.junk,.junk,vi .i64 N,vi .i64 I,.junk,.junk,vi .i64 I,vi .i64 J] [none]
def sgcSt (n:Nat) (X:Nat->Abs.Rows) (P Q K:Int):St:=mkSt 78 [.junk,.junk,vi .i64 0,vi .i64 0,vi .i64 0,.junk,.junk,.c (.sl 1 0 n false),vi .i64 P,vi .i64 Q,.junk,.junk,.junk,.junk,.junk,.junk,.junk,.junk,.junk,.junk,.junk,.junk,.junk,.junk,.junk,.junk,.junk,.junk,.junk,.junk,.junk,.junk,.junk,.junk,.junk,.junk,.junk,.junk,.junk,.junk,.junk,.junk,.junk,.junk,vi .i64 n,vi .i64 K] (none :: some (.var ((List.range n).map fun q=>.sl (q+2) 0 n false)) :: ((List.range n).map fun q=>some (.rows 4 (X q) true false)) ++ List.replicate (7 - n) none)
theorem msig_walk (n:Nat) (hn:n<=4) (M:Nat->List Rat) (B:Nat) (hB:B<=1000000) (hl:∀ i,i < n->(M i).length=n) (hq:∀ i,i < n->∀ q ∈ M i,Qs q B) (hs:∀ i,i < n->∀ j,j < n->rv (M i) j=rv (M j) i) {P Q:Nat} (hrun:SgRun n 0 (fun i=>ur (M i)) 0 0 P Q) :
  ACall Tryz.prog 24 [.val (tl (mr n M))] ⟨[.val (ti .i64 (P:Int)),.val (ti .i64 (Q:Int)),.val (ti .i64 0)],[none]⟩:=by
 have csq:=msquare_call n M hl (by omega)
 obtain ⟨X0,hX0⟩:∃ X:Nat->Abs.Rows,X=fun i=>ur (M i):=⟨_,rfl⟩
 have ca:=mqapp n hn M n (by omega) hl (X:=X0) fun i _=>by rw [hX0]
 rw [<- hX0] at hrun
 obtain ⟨R,hR⟩:∃ R,R=mr n M:=⟨_,rfl⟩
 have lR:R.length=n:=by rw [hR,mr_len]
 have rowR:∀ i,i < n->R[i]?=some [.lst false (ur (M i))]:=fun i hi=>by rw [hR]; exact mr_get hi
 have hcell:∀ i,i < n->∀ j,j < n->∃ (s t:Bool) (r p:Abs.Rows),(ur (M i))[j]?=some [.v (.bool s),.lst false r,.v (.bool t),.lst false p]/\(ur (M j))[i]?=some [.v (.bool s),.lst false r,.v (.bool t),.lst false p] /\
   ACall Tryz.prog 76 [.val (.agg [.v (.bool s),.lst false r,.v (.bool t),.lst false p]),.val (.agg [.v (.bool s),.lst false r,.v (.bool t),.lst false p])] ⟨[.val (ti .i64 0)],[none,none]⟩:=fun i hi j hj=>by
  obtain ⟨s,t,r,p,h1,h2⟩:=qbo (P:=M i) (k:=j) (by rw [hl i hi]; exact hj)
  obtain ⟨s2,t2,r2,p2,h3,h4⟩:=qbo (P:=M j) (k:=i) (by rw [hl j hj]; exact hi)
  have e:(M i).getD j 0=(M j).getD i 0:=hs i hi j hj
  rw [<- e,h1] at h3
  have qx:Qs ((M i).getD j 0) 68719476736:=(hq i hi _ (by rw [List.getD_eq_getElem?_getD,List.getElem?_eq_getElem (by rw [hl i hi]; exact hj)]; exact List.getElem_mem _)).mono (by omega)
  have c:=pcmp_call _ (qc_isR ((M i).getD j 0)) (qc_isR ((M i).getD j 0)) rfl qx qx
  have e0:cmpQ ((M i).getD j 0) ((M i).getD j 0)=0:=by
   unfold cmpQ
   rw [if_neg Rat.lt_irrefl,if_neg Rat.lt_irrefl]
  rw [e0] at c
  have c:ACall Tryz.prog 76 [.val (.agg (qc ((M i).getD j 0)).row),.val (.agg (qc ((M i).getD j 0)).row)] ⟨[.val (ti .i64 0)],[none,none]⟩:=c
  rw [h1] at c
  exact ⟨s,t,r,p,h2,by rw [h4]; injection h3 with a b; injection b with b c; injection c with c d; injection d with d e; injection a with a; injection a with a; injection b with b b'; injection c with c; injection c with c; injection d with d d'; rw [a,b',c,d'],c⟩
 rw [<- hR] at csq ca ⊢
 clear hs hl hq hR hX0
 obtain ⟨rr,hrr⟩:∃ rr:Nat->Abs.Rows,rr=fun i=>ur (M i):=⟨_,rfl⟩
 have rowR2:∀ i,i < n->R[i]?=some [.lst false (rr i)]:=fun i hi=>by rw [hrr]; exact rowR i hi
 have hcell2:∀ i,i < n->∀ j,j < n->∃ (s t:Bool) (r p:Abs.Rows),(rr i)[j]?=some [.v (.bool s),.lst false r,.v (.bool t),.lst false p]/\(rr j)[i]?=some [.v (.bool s),.lst false r,.v (.bool t),.lst false p] /\
   ACall Tryz.prog 76 [.val (.agg [.v (.bool s),.lst false r,.v (.bool t),.lst false p]),.val (.agg [.v (.bool s),.lst false r,.v (.bool t),.lst false p])] ⟨[.val (ti .i64 0)],[none,none]⟩:=by rw [hrr]; exact hcell
 clear hrr hcell rowR
 obtain ⟨V,hV⟩:∃ V:Nat->(Nat->Abs.Rows)->Nat->Nat->Nat->Nat->Prop,V=SgRun n:=⟨_,rfl⟩
 have hrun2:V 0 X0 0 0 P Q:=by rw [hV]; exact hrun
 clear hrun
 have hinv:=fun (k:Nat) (X:Nat->Abs.Rows) (p q:Nat) (h:V k X p q P Q)=>SgRun.inv (n:=n) (k:=k) (X:=X) (P:=p) (Q:=q) (P':=P) (Q':=Q) (by rw [hV] at h; exact h)
 rw [<- hV] at hinv
 clear hV
 have L4:LN n:=trivial
 obtain ⟨N,hN⟩:∃ N,N=n:=⟨_,rfl⟩
 rw [<- hN] at hn rowR2 hcell2 lR
 obtain rfl | rfl | rfl | rfl | rfl:n=0 ∨ n=1 ∨ n=2 ∨ n=3 ∨ n=4:=by omega
 all_goals first | (exfalso; omega) | skip
 all_goals
  as_aux_lemma=>
   refine callZ ccOk mixed [.val,.val,.val] Tryz.func24 rfl rfl (by kernel_rfl) fun zA zB zC zD zE zF zG zH zI zJ zK zL zM zN zO zP zQ zR zT zU zV zX zY zZ zb zc zd ze zg zh zi zj zk zl zm zn zo zq zr zs zt zu zx zy zz zmget zmset zW zth A L F hS hF=>?_
   obtain rfl:zZ=fun a:Nat=>(a:Int):=by funext a; exact hS.ofN a
   obtain ⟨za,rfl⟩:=hS.addL
   obtain ⟨zw,rfl⟩:=hS.wrapL
   have hv:L4.v=N:=hN.symm
   have y0:zQ true=false:=by rw [hS.not]; rfl
   have y1:zQ false=true:=by rw [hS.not]; rfl
   have lz:zj R=L4.v:=by rw [hS.len,lR]; exact hv.symm
   cbv
   refine ⟨_,hS.hcall csq,?_⟩
   cbv
   refine bF y0 ?_
   rw [lz]
   cbv
   apply hideP (L:=L) True
   ·intro Q' hq hret
    refine loopZR ccOk mixed hS (fun (m:Nat) s'=>∃ (i:Nat) (I:Int),I=i/\m+i=N/\s'=sgaSt R (Int.ofNat L4.v) I) (n:=N) (s0:=sgaSt R (Int.ofNat L4.v) 0) (qao ?_ ?_) rfl (by show 1<=1; omega) ?_ ?_
    ·simp [leT,sgaSt,mkSt,vi,vb,LN.v]
    ·simp [leH,sgaSt,mkSt]
    ·exact ⟨0,0,rfl,by omega,rfl⟩
    ·rintro m sx ⟨i,I,hI,hm,hs1⟩
     by_cases hin:i=N
     ·obtain rfl:i=N:=hin
      have l1:zO (i:Int) (Int.ofNat L4.v)=false:=by rw [hS.lt]; exact decide_eq_false (show ¬((i:Int) < (L4.v:Int)) by omega)
      subst hI
      subst hs1
      cbv
      refine bF l1 ?_
      exact hq trivial
     ·have hin:i < N:=by omega
      have l1:zO I (Int.ofNat L4.v)=true:=by rw [hS.lt]; exact decide_eq_true (show I < (L4.v:Int) by omega)
      have n0:zP 0 I=true:=by rw [hS.le]; exact decide_eq_true (by omega)
      have j1:zX I=i:=by rw [hS.nat]; omega
      have j2:zk R i=some [.lst false (rr i)]:=by rw [hS.nth]; exact rowR2 i hin
      have hI:I=(i:Int):=hI
      have hmm:m - 1 < m:=by omega
      obtain ⟨I',hI',i1⟩:∃ I':Int,I'=((i+1:Nat):Int)/\wrapL zw .i64 (addL za I 1)=I':=⟨I+1,by omega,by rw [hS.add,hS.wrap,wrap_i64 (by omega) (by omega)]⟩
      have hnx:∃ (i2:Nat) (I2:Int),I2=i2/\(m - 1)+i2=N/\sgaSt R (Int.ofNat L4.v) I'=sgaSt R (Int.ofNat L4.v) I2:=⟨i+1,I',hI',by omega,rfl⟩
      subst hs1
      cbv
      refine bT l1 ?_
      have hI:I=(i:Int):=hI
      apply hideP (L:=L) True
      ·intro Q'' hq2 hret2
       refine loopZR ccOk mixed hS (fun (m:Nat) s'=>∃ (j:Nat) (J:Int),J=j/\m+j=i/\s'=sgbSt R (Int.ofNat L4.v) I J) (n:=i) (s0:=sgbSt R (Int.ofNat L4.v) I 0) (qao ?_ ?_) rfl (by show 1<=1; omega) ?_ ?_
       ·simp [leT,sgbSt,mkSt,vi,vb,LN.v]
       ·simp [leH,sgbSt,mkSt]
       ·exact ⟨0,0,rfl,by omega,rfl⟩
       ·rintro m2 sx ⟨j,J,hJ,hm2,hs2⟩
        by_cases hji:j=i
        ·have l2:zO I I=false:=by rw [hS.lt]; exact decide_eq_false (by omega)
         obtain rfl:J=I:=by omega
         subst hs2
         cbv
         refine bF l2 ?_
         exact hq2 trivial
        ·have hji:j < i:=by omega
         have l2:zO J I=true:=by rw [hS.lt]; exact decide_eq_true (by omega)
         have m0:zP 0 J=true:=by rw [hS.le]; exact decide_eq_true (by omega)
         have m1:zX J=j:=by rw [hS.nat]; omega
         have m2':zk R j=some [.lst false (rr j)]:=by rw [hS.nth]; exact rowR2 j (by omega)
         obtain ⟨s,t,r,p,u1,u2,cc⟩:=hcell2 i hin j (by omega)
         have x1:zk (rr i) j=some [.v (.bool s),.lst false r,.v (.bool t),.lst false p]:=by rw [hS.nth]; exact u1
         have x2:zk (rr j) i=some [.v (.bool s),.lst false r,.v (.bool t),.lst false p]:=by rw [hS.nth]; exact u2
         have d1:zN 0 0=false:=by rw [hS.ne]; rfl
         have hmm2:m2 - 1 < m2:=by omega
         obtain ⟨J',hJ',i2⟩:∃ J':Int,J'=((j+1:Nat):Int)/\wrapL zw .i64 (addL za J 1)=J':=⟨J+1,by omega,by rw [hS.add,hS.wrap,wrap_i64 (by omega) (by omega)]⟩
         have hnx2:∃ (i2:Nat) (I2:Int),I2=i2/\(m2 - 1)+i2=i/\sgbSt R (Int.ofNat L4.v) I J'=sgbSt R (Int.ofNat L4.v) I I2:=⟨j+1,J',hJ',by omega,rfl⟩
         subst hs2
         cbv
         refine bT l2 ?_
         rw [j1,j2]
         cbv
         refine nd n0 ?_
         rw [m1,x1]
         cbv
         refine nd m0 ?_
         rw [m1,m2']
         cbv
         refine nd m0 ?_
         rw [j1,x2]
         cbv
         refine nd n0 ?_
         refine ⟨_,hS.call (cc),?_⟩
         cbv
         refine bF (d1) ?_
         refine againR [] (s':=sgbSt R (Int.ofNat L4.v) I J') (k:=m2 - 1) ?_ ?_ ?_ ?_ rfl (by show 1<=1; omega) hmm2 hnx2
         ·simp [leTR,sgbSt,mkSt,vi,vb,AV.ren,AV.noTup,Cell.ren,renF,LN.v,<- i2,wrapL,addL]
         ·simp [leHR,sgbSt,mkSt]
         ·simp [liveR,sgbSt,mkSt]
         ·simp
      ·intro _
       cbv
       refine againR [] (s':=sgaSt R (Int.ofNat L4.v) I') (k:=m - 1) ?_ ?_ ?_ ?_ rfl (by show 1<=1; omega) hmm hnx
       ·simp [leTR,sgaSt,mkSt,vi,vb,AV.ren,AV.noTup,Cell.ren,renF,LN.v,<- i1,wrapL,addL]
       ·simp [leHR,sgaSt,mkSt]
       ·simp [liveR,sgaSt,mkSt]
       ·simp
   ·intro _
    cbv
    refine ⟨_,hS.hcall ca,?_⟩
    cbv
    clear rowR2 hcell2 csq ca lz lR
    refine loopZR ccOk mixed hS (fun (m:Nat) s'=>∃ (k:Nat) (I:Int) (X:Nat->Abs.Rows) (p q:Nat),I=k/\m+k=N/\p<=k/\q<=k/\V k X p q P Q/\s'=sgcSt L4.v X (Int.ofNat p) (Int.ofNat q) I) (n:=N) (s0:=sgcSt L4.v X0 (Int.ofNat 0) (Int.ofNat 0) 0) (qao ?_ ?_) rfl (Nat.succ_le_succ (Nat.zero_le _)) ?_ ?_
    ·simp [leT,sgcSt,mkSt,vi,vb,LN.v]
    ·simp [leH,sgcSt,mkSt,LN.v,List.range,List.range.loop,List.replicate]
    ·exact ⟨0,0,X0,0,0,rfl,by omega,Nat.le_refl _,Nat.le_refl _,hrun2,rfl⟩
    ·rintro m sx ⟨k,I,X,p,q,hI,hm,hp,hq,hrun,hs1⟩
     have hI:I=(k:Int):=hI
     have Lk:LN k:=trivial
     have hc:=hinv k X p q hrun
     by_cases hkN:k=N
     ·have l1:zO I (Int.ofNat L4.v)=false:=by rw [hS.lt]; exact decide_eq_false (show ¬(I < (L4.v:Int)) by omega)
      obtain ⟨e1,e2⟩:P=p/\Q=q:=by
       rcases hc with ⟨_,h1,h2⟩ | ⟨_,h1,h2,_⟩ | ⟨l,_,_,_,_,_,_,_,h1,h2,_⟩
       ·exact ⟨h1,h2⟩
       ·exact ⟨h1,h2⟩
       ·exfalso; omega
      clear hc hrun hrun2 hinv
      subst e1
      subst e2
      subst hs1
      cbv
      refine bF l1 ?_
      exact hF _ (ResLe.refl _)
     ·have hk:k < N:=by omega
      have l1:zO (Int.ofNat k) (Int.ofNat L4.v)=true:=by rw [hS.lt]; exact decide_eq_true (show (k:Int) < (L4.v:Int) by omega)
      have b1:zY (Int.ofNat k) L4.v=true:=by rw [hS.inb]; exact decide_eq_true ⟨Int.natCast_nonneg k,show (k:Int) < _ by omega⟩
      have b2:zb 0 (Int.ofNat k)=k:=by rw [hS.idx]; simp
      have hmm:m - 1 < m:=by omega
      rcases hc with ⟨h1,_⟩ | ⟨_,e1,e2,cmv⟩ | ⟨l,Y,W,sg,s,t,r,pp,hkl,hln,cmv,u,cs,ce,hrun3⟩
      ·exfalso; omega
      ·clear hrun hrun2 hinv
       subst e1
       subst e2
       obtain rfl | rfl | rfl | rfl:k=0 ∨ k=1 ∨ k=2 ∨ k=3:=by omega
       all_goals first | (exfalso; omega) | skip
       all_goals
        subst hI
        subst hs1
        cbv
        refine bT l1 ?_
        refine ⟨_,hS.hcall cmv,?_⟩
        cbv
        refine bT y1 ?_
        exact hF _ (ResLe.refl _)
      ·have u2:zk (Y l) k=some [.v (.bool s),.lst false r,.v (.bool t),.lst false pp]:=by rw [hS.nth]; exact u
       have Ll:LN l:=trivial
       have hw:∀ x,x<=4->wrapL zw .i64 (addL za (Int.ofNat x) 1)=Int.ofNat (x+1):=fun x hx=>by rw [hS.add,hS.wrap]; exact wrap_i64 (show -9223372036854775808<=(x:Int)+1 by omega) (show (x:Int)+1 < 9223372036854775808 by omega)
       clear hrun hrun2 hinv u
       by_cases hpos:0 < sg
       ·have g0:zO 0 sg=true:=by rw [hS.lt]; exact decide_eq_true hpos
        rw [if_pos hpos,if_pos hpos] at hrun3
        have hb:=hw p (by omega)
        have hnx:∃ (k':Nat) (I':Int) (X':Nat->Abs.Rows) (p' q':Nat),I'=k'/\m - 1+k'=N/\p'<=k'/\q'<=k'/\V k' X' p' q' P Q/\sgcSt L4.v W (Int.ofNat (p+1)) (Int.ofNat q) (Int.ofNat (Lk.v+1))=sgcSt L4.v X' (Int.ofNat p') (Int.ofNat q') I':=⟨k+1,Int.ofNat (k+1),W,(p+1),q,rfl,by omega,by omega,by omega,hrun3,rfl⟩
        clear hrun3
        by_cases hlk:l=k
        ·subst hlk
         obtain rfl | rfl | rfl | rfl:l=0 ∨ l=1 ∨ l=2 ∨ l=3:=by omega
         all_goals first | (exfalso; omega) | skip
         all_goals
          as_aux_lemma=>
           subst hI
           subst hs1
           cbv
           refine bT l1 ?_
           refine ⟨_,hS.hcall cmv,?_⟩
           cbv
           refine bF y0 (nd b1 ?_)
           simp only [b2,u2]
           cbv
           refine ⟨_,hS.call (cs),?_⟩
           cbv
           refine bT (g0) ?_
           refine ⟨_,hS.hcall ce,?_⟩
           cbv
           repeat (conv in (ST.toSt _)=>cbv)
           refine againR [] (s':=sgcSt L4.v W (Int.ofNat (p+1)) (Int.ofNat q) (Int.ofNat (Lk.v+1))) (k:=m - 1) ?_ ?_ ?_ ?_ rfl (Nat.succ_le_succ (Nat.zero_le _)) hmm hnx
           ·simp [leTR,sgcSt,mkSt,vi,AV.ren,AV.noTup,Cell.ren,renF,LN.v]
            obtain rfl | rfl | rfl | rfl:p=0 ∨ p=1 ∨ p=2 ∨ p=3:=by omega
            all_goals rfl
           ·simp [leHR,sgcSt,mkSt,Abs.look,renF,Blk.ren,Cell.ren,LN.v,List.range,List.range.loop,List.replicate]
           ·simp [liveR,sgcSt,mkSt,renF,LN.v,List.range,List.range.loop,List.replicate]
           ·simp [LN.v]
        ·obtain rfl | rfl | rfl:k=0 ∨ k=1 ∨ k=2:=by omega
         all_goals first | (exfalso; omega) | skip
         all_goals obtain rfl | rfl | rfl:l=1 ∨ l=2 ∨ l=3:=by omega
         all_goals first | (exfalso; omega) | skip
         all_goals
          as_aux_lemma=>
           subst hI
           subst hs1
           cbv
           refine bT l1 ?_
           refine ⟨_,hS.hcall cmv,?_⟩
           cbv
           refine bF y0 (nd b1 ?_)
           simp only [b2,u2]
           cbv
           refine ⟨_,hS.call (cs),?_⟩
           cbv
           refine bT (g0) ?_
           refine ⟨_,hS.hcall ce,?_⟩
           cbv
           repeat (conv in (ST.toSt _)=>cbv)
           refine againR [(Lk.v+2,Ll.v+2),(Ll.v+2,Lk.v+2)] (s':=sgcSt L4.v W (Int.ofNat (p+1)) (Int.ofNat q) (Int.ofNat (Lk.v+1))) (k:=m - 1) ?_ ?_ ?_ ?_ rfl (Nat.succ_le_succ (Nat.zero_le _)) hmm hnx
           ·simp [leTR,sgcSt,mkSt,vi,AV.ren,AV.noTup,Cell.ren,renF,LN.v]
            obtain rfl | rfl | rfl | rfl:p=0 ∨ p=1 ∨ p=2 ∨ p=3:=by omega
            all_goals rfl
           ·simp [leHR,sgcSt,mkSt,Abs.look,renF,Blk.ren,Cell.ren,LN.v,List.range,List.range.loop,List.replicate]
           ·simp [liveR,sgcSt,mkSt,renF,LN.v,List.range,List.range.loop,List.replicate]
           ·simp [LN.v]
       ·have g0:zO 0 sg=false:=by rw [hS.lt]; exact decide_eq_false hpos
        rw [if_neg hpos,if_neg hpos] at hrun3
        have hb:=hw q (by omega)
        have hnx:∃ (k':Nat) (I':Int) (X':Nat->Abs.Rows) (p' q':Nat),I'=k'/\m - 1+k'=N/\p'<=k'/\q'<=k'/\V k' X' p' q' P Q/\sgcSt L4.v W (Int.ofNat p) (Int.ofNat (q+1)) (Int.ofNat (Lk.v+1))=sgcSt L4.v X' (Int.ofNat p') (Int.ofNat q') I':=⟨k+1,Int.ofNat (k+1),W,p,(q+1),rfl,by omega,by omega,by omega,hrun3,rfl⟩
        clear hrun3
        by_cases hlk:l=k
        ·subst hlk
         obtain rfl | rfl | rfl | rfl:l=0 ∨ l=1 ∨ l=2 ∨ l=3:=by omega
         all_goals first | (exfalso; omega) | skip
         all_goals
          as_aux_lemma=>
           subst hI
           subst hs1
           cbv
           refine bT l1 ?_
           refine ⟨_,hS.hcall cmv,?_⟩
           cbv
           refine bF y0 (nd b1 ?_)
           simp only [b2,u2]
           cbv
           refine ⟨_,hS.call (cs),?_⟩
           cbv
           refine bF (g0) ?_
           refine ⟨_,hS.hcall ce,?_⟩
           cbv
           repeat (conv in (ST.toSt _)=>cbv)
           refine againR [] (s':=sgcSt L4.v W (Int.ofNat p) (Int.ofNat (q+1)) (Int.ofNat (Lk.v+1))) (k:=m - 1) ?_ ?_ ?_ ?_ rfl (Nat.succ_le_succ (Nat.zero_le _)) hmm hnx
           ·simp [leTR,sgcSt,mkSt,vi,AV.ren,AV.noTup,Cell.ren,renF,LN.v]
            obtain rfl | rfl | rfl | rfl:q=0 ∨ q=1 ∨ q=2 ∨ q=3:=by omega
            all_goals rfl
           ·simp [leHR,sgcSt,mkSt,Abs.look,renF,Blk.ren,Cell.ren,LN.v,List.range,List.range.loop,List.replicate]
           ·simp [liveR,sgcSt,mkSt,renF,LN.v,List.range,List.range.loop,List.replicate]
           ·simp [LN.v]
        ·obtain rfl | rfl | rfl:k=0 ∨ k=1 ∨ k=2:=by omega
         all_goals first | (exfalso; omega) | skip
         all_goals obtain rfl | rfl | rfl:l=1 ∨ l=2 ∨ l=3:=by omega
         all_goals first | (exfalso; omega) | skip
         all_goals
          as_aux_lemma=>
           subst hI
           subst hs1
           cbv
           refine bT l1 ?_
           refine ⟨_,hS.hcall cmv,?_⟩
           cbv
           refine bF y0 (nd b1 ?_)
           simp only [b2,u2]
           cbv
           refine ⟨_,hS.call (cs),?_⟩
           cbv
           refine bF (g0) ?_
           refine ⟨_,hS.hcall ce,?_⟩
           cbv
           repeat (conv in (ST.toSt _)=>cbv)
           refine againR [(Lk.v+2,Ll.v+2),(Ll.v+2,Lk.v+2)] (s':=sgcSt L4.v W (Int.ofNat p) (Int.ofNat (q+1)) (Int.ofNat (Lk.v+1))) (k:=m - 1) ?_ ?_ ?_ ?_ rfl (Nat.succ_le_succ (Nat.zero_le _)) hmm hnx
           ·simp [leTR,sgcSt,mkSt,vi,AV.ren,AV.noTup,Cell.ren,renF,LN.v]
            obtain rfl | rfl | rfl | rfl:q=0 ∨ q=1 ∨ q=2 ∨ q=3:=by omega
            all_goals rfl
           ·simp [leHR,sgcSt,mkSt,Abs.look,renF,Blk.ren,Cell.ren,LN.v,List.range,List.range.loop,List.replicate]
           ·simp [liveR,sgcSt,mkSt,renF,LN.v,List.range,List.range.loop,List.replicate]
           ·simp [LN.v]
end Go.Proofs.YtjfmkcmepdedaaaGreat
end
