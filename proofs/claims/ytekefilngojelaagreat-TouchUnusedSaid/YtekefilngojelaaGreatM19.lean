/-
  A part of the proof: TcE3t.
-/
import Derived.Test.YtekefilngojelaaGreatM12
import Derived.Test.YtekefilngojelaaGreatM18
set_option maxHeartbeats 0
set_option maxRecDepth 100000
set_option linter.unusedVariables false
set_option linter.unusedSimpArgs false
set_option linter.unusedSectionVars false
section
namespace Go.Proofs.YtekefilngojelaaGreat
open Go Go.Abs Go.Abs.M Go.Proofs
theorem F3 {l:List T2} {i:Nat} {t:T2} (h:l[i]?=some t):(bo l)[i]?=some t.row:=by simp[bo,h]
def T2.cmp (p q:T2):Int:=mD p.a p.b q.a q.b
def cN:Nat->List T2->List T2->List T2
 | 0,_,_=>[]
 | _+1,[],[]=>[]
 | f+1,p::P,[]=>p::cN f P []
 | f+1,[],q::Q=>q::cN f [] Q
 | f+1,p::P,q::Q=>if 0<p.cmp q then p::cN f P (q::Q) else if p.cmp q<0 then q::cN f (p::P) Q else
   if p.c+q.c=0 then cN f P Q else⟨p.c+q.c,p.a,p.b⟩::cN f P Q
theorem gL:∀(P Q:List T2) (f g:Nat),P.length+Q.length<=f->P.length+Q.length<=g->cN g P Q=cN f P Q
 | P,Q,0,0,_,_=>rfl
 | [],[],0,g+1,_,_=>rfl
 | [],[],f+1,0,_,_=>rfl
 | p::P,Q,0,g,h,_=>by simp at h
 | p::P,Q,f,0,_,h=>by simp at h
 | P,q::Q,0,g,h,_=>by simp at h
 | P,q::Q,f,0,_,h=>by simp at h
 | [],[],f+1,g+1,_,_=>rfl
 | p::P,[],f+1,g+1,h,h'=>by simp only[cN];rw[gL P [] f g (by simp at *;omega) (by simp at *;omega)]
 | [],q::Q,f+1,g+1,h,h'=>by simp only[cN];rw[gL [] Q f g (by simp at *;omega) (by simp at *;omega)]
 | p::P,q::Q,f+1,g+1,h,h'=>by
  simp only[cN];rw[gL P (q::Q) f g (by simp at *;omega) (by simp at *;omega),gL (p::P) Q f g (by simp at *;omega) (by simp at *;omega),gL P Q f g (by simp at *;omega) (by simp at *;omega)]
def cZ (X Y:Abs.Rows) (len:Nat) (r:Abs.Rows) (I K:Int):St:=aC 109 [.c (.t (.aa false X)),.c (.t (.aa false Y)),.aj,.aj,.aj,.c (.sl 2 0 len false),vi .i64 I,vi .i64 K] [none,none,some (.rows 12 r true false)]
theorem F4 (P Q:List T2) {a b:Nat} (hP:∀t∈P,t.ok a 30000) (hQ:∀t∈Q,t.ok b 30000) (hl:P.length<=100) (uW:Q.length<=100) (Ei:a+b<=100000) :
  aA Tryz.prog 27 [.val (tl (bo P)),.val (tl (bo Q))] ⟨[.val (tl (bo (cN (P.length+Q.length) P Q)))],[none,none]⟩:=by
 obtain⟨X,hX⟩:∃X,X=bo P:=⟨_,rfl⟩;obtain⟨Y,hY⟩:∃X,X=bo Q:=⟨_,rfl⟩;obtain⟨n,hn⟩:∃n,n=P.length:=⟨_,rfl⟩;obtain⟨l,hk⟩:∃n,n=Q.length:=⟨_,rfl⟩;have lX:X.length=n:=by rw[hX,sO,hn]
 have lY:Y.length=l:=by rw[hY,sO,hk]
 obtain⟨R,hR⟩:∃R,R=cN (P.length+Q.length) P Q:=⟨_,rfl⟩;rw[<-hX,<-hY,<-hR];rw[<-hn,<-hk]at hR;obtain⟨T,hT⟩:∃T,T=bo R:=⟨_,rfl⟩;rw[<-hT];refine aV aD mixed [.val] Tryz.func27 rfl rfl (by kernel_rfl) fun zD zE zG zH zI zJ zK zL zM zN zO zR zS zT zU zV zX zY zZ zg zh zj zu zy zz aK ah aI aH ak aq ae aE aB aG ao az aJ an aO au aP ai aM aN ay aw aL ar zW bc A L F hS hF=>?_
 obtain⟨N,hN,L3⟩:∃N:Int,N=n/\zy (ae X)=N:=⟨_,rfl,by rw[hS.aW,hS.len,lX]⟩;obtain⟨M,hM,V5⟩:∃N:Int,N=l/\zy (ae Y)=N:=⟨_,rfl,by rw[hS.aW,hS.len,lY]⟩;cbv;have hN:N=(n:Int):=hN;have hM:M=(l:Int):=hM;refine PD aD mixed hS (fun(m:Nat) s'=>∃(i k:Nat) (I K:Int) (O:List T2),I=i/\K=k/\i<=n/\k<=l/\m=(n-i)+(l-k)/\O.length<=i+k/\R=O++cN m (P.drop i) (Q.drop k)/\∃len r,r=bo O/\len=O.length/\s'=cZ X Y len r I K) (n:=n+l) (s0:=cZ X Y 0 [] 0 0) (iY ?_ ?_) rfl (by show 2<=3;omega) ?_ ?_
 ·simp[eC,cZ,aC,vi,vb]
 ·simp[eF,cZ,aC]
 ·exact⟨0,0,0,0,[],rfl,rfl,by omega,by omega,by omega,by simp,by rw[hR];rfl,0,[],rfl,rfl,rfl⟩
 ·rintro m sx ⟨i,k,I,K,O,hI,hK,hi,En,hm,hO,QF,len,r,hr,hlen,ji⟩
  obtain⟨I',hI',i0⟩:∃I':Int,I'=((i+1:Nat):Int)/\zD .i64 (zE I 1)=I':=⟨I+1,by omega,by rw[hS.add,hS.wrap,wrap_i64 (by omega) (by omega)]⟩;obtain⟨K',hK',k0⟩:∃I':Int,I'=((k+1:Nat):Int)/\zD .i64 (zE K 1)=I':=⟨K+1,by omega,by rw[hS.add,hS.wrap,wrap_i64 (by omega) (by omega)]⟩
  by_cases eQ:i=n/\k=l
  ·have c1:zU I (zy (ae X))=false:=by rw[L3,hS.lt];exact decide_eq_false (by omega)
   have c2:zU K (zy (ae Y))=false:=by rw[V5,hS.lt];exact decide_eq_false (by omega)
   have hrT:r=T:=by
    rw[hT,QF,show m=0 by omega,hr];simp[cN]
   have f1:aJ 0 len r=true:=by rw[hS.fit,hr,sO];exact decide_eq_true (by omega)
   have f2:an r 0 len=T:=by rw[hS.part,List.drop_zero,List.take_of_length_le (by rw[hr,sO];omega),hrT]
   subst ji;cbv;refine bF c1 (bF c2 (nd f1 ?_));rw[f2];exact hF _ (aS.refl _)
  ·have Ew:m-1<m:=by omega
   obtain⟨m',RF⟩:∃m',m=m'+1:=⟨m-1,by omega⟩
   by_cases hki:k=l
   ·obtain⟨p,hp⟩:∃p,P[i]?=some p:=⟨_,List.getElem?_eq_getElem (by omega)⟩
    have Ot:P.drop i=p::P.drop (i+1):=List.drop_eq_getElem_cons (by omega) |>.trans (by rw[show P[i]'(by omega)=p from Option.some.inj ((List.getElem?_eq_getElem (by omega)).symm.trans hp)])
    have QG:Q.drop k=[]:=List.drop_of_length_le (by omega);have sY:R=(O ++ [p])++cN (m-1) (P.drop (i+1)) (Q.drop k):=by
     rw[QF,RF,Ot,QG,Nat.add_sub_cancel];simp[cN]
    obtain⟨s1,t1,r1,p1,e1,_⟩:=bq p.c;obtain⟨row,oJ⟩:∃row,row=[Tree.v (.bool s1),.aa false r1,.v (.bool t1),.aa false p1,.v (.int .i64 p.a),.v (.int .i64 p.b),.v (.int .i64 0),.v (.int .i64 0),.v (.int .i64 0),.v (.int .i64 0),.v (.int .i64 0),.v (.int .i64 0)]:=⟨_,rfl⟩;have dv:p.row=row:=by rw[oJ];unfold T2.row m2;rw[e1];rfl
    have ZN:X[i]?=some [Tree.v (.bool s1),.aa false r1,.v (.bool t1),.aa false p1,.v (.int .i64 p.a),.v (.int .i64 p.b),.v (.int .i64 0),.v (.int .i64 0),.v (.int .i64 0),.v (.int .i64 0),.v (.int .i64 0),.v (.int .i64 0)]:=by rw[hX,F3 hp,dv,oJ]
    have Nr:row.length=12:=by rw[oJ];rfl
    have u0:an [row] 0 1=[row]:=by rw[hS.part];rfl
    have u1:aJ 0 1 [row]=true:=by rw[hS.fit];rfl
    have u2:zX (aK (ae [row]) 0)=true:=by rw[hS.len,hS.neq,hS.not];rfl
    have u3:ai 12 [row]=true:=by rw[hS.wide];simp[Nr]
    have u4:ak len (ae [row]) 128=true:=by rw[hS.len,hS.room];exact decide_eq_true (by unfold aF;simp only[List.length_cons,List.length_nil];omega)
    have u5:aK (ah 0 len) (ae r)=true:=by rw[hS.fc,hS.neq,hS.len,hr,sO,hlen,Nat.zero_add];exact decide_eq_true rfl
    have u6:ah len (ae [row])=len+1:=by rw[hS.len,hS.fc];rfl
    have u7:aO r 0 [row]=r ++ [row]:=by rw[hS.ext,List.drop_zero]
    have i1:=i0;have k1:K=K:=rfl;have jO:∃(iz kz:Nat) (Iz Kz:Int) (Oz:List T2),Iz=iz/\Kz=kz/\iz<=n/\kz<=l/\m-1=(n-iz)+(l-kz)/\Oz.length<=iz+kz/\R=Oz++cN (m-1) (P.drop iz) (Q.drop kz)/\∃mT rz,rz=bo Oz/\mT=Oz.length/\cZ X Y (len+1) (r ++ [row]) I' K=cZ X Y mT rz Iz Kz:=⟨i+1,k,I',K,O ++ [p],by omega,by omega,by omega,by omega,by omega,by first|omega|(rw[List.length_append,List.length_singleton];omega),sY,len+1,r ++ [row],by rw[sQ,hr,dv],by rw[List.length_append,hlen];rfl,rfl⟩
    have c1:zU I (zy (ae X))=true:=by rw[L3,hS.lt];exact decide_eq_true (by omega)
    have c2:zS K (zy (ae Y))=true:=by rw[V5,hS.eq];exact decide_eq_true (by omega)
    have j1:zj I=i:=by rw[hS.nat];omega
    have j2:aE X i=some [Tree.v (.bool s1),.aa false r1,.v (.bool t1),.aa false p1,.v (.int .i64 p.a),.v (.int .i64 p.b),.v (.int .i64 0),.v (.int .i64 0),.v (.int .i64 0),.v (.int .i64 0),.v (.int .i64 0),.v (.int .i64 0)]:=by rw[hS.nth];exact ZN
    have n0:zV 0 I=true:=by rw[hS.le];exact decide_eq_true (by omega)
    subst ji;cbv;refine bT c1 (bT c2 ?_);rw[j1,j2];cbv;refine nd (n0) ?_;rw[<-oJ,u0];refine nd (u1) ?_;refine nd (u2) ?_;refine nd (u3) ?_;refine nd (u4) ?_;refine nd (u5) ?_;refine sw [(2,6)] (s':=cZ X Y (len+1) (r ++ [row]) I' K) (k:=m-1) ?_ ?_ ?_ ?_ rfl (by show 2<=3;omega) Ew jO
    ·simp[bV,cZ,aC,vi,AV.aX,AV.bA,Cell.aX,aT,i1,k1,u6]
    ·simp[bW,cZ,aC,Abs.look,aT,aU.aX,Cell.aX,u7]
    ·simp[bf,cZ,aC,aT]
    ·simp
   ·obtain⟨q,hq⟩:∃q,Q[k]?=some q:=⟨_,List.getElem?_eq_getElem (by omega)⟩
    have QG:Q.drop k=q::Q.drop (k+1):=List.drop_eq_getElem_cons (by omega) |>.trans (by rw[show Q[k]'(by omega)=q from Option.some.inj ((List.getElem?_eq_getElem (by omega)).symm.trans hq)])
    obtain⟨s2,t2,r2,p2,e2,_⟩:=bq q.c;have Lm:q.row=[Tree.v (.bool s2),.aa false r2,.v (.bool t2),.aa false p2,.v (.int .i64 q.a),.v (.int .i64 q.b),.v (.int .i64 0),.v (.int .i64 0),.v (.int .i64 0),.v (.int .i64 0),.v (.int .i64 0),.v (.int .i64 0)]:=by unfold T2.row m2;rw[e2];rfl
    have hYk:Y[k]?=some [Tree.v (.bool s2),.aa false r2,.v (.bool t2),.aa false p2,.v (.int .i64 q.a),.v (.int .i64 q.b),.v (.int .i64 0),.v (.int .i64 0),.v (.int .i64 0),.v (.int .i64 0),.v (.int .i64 0),.v (.int .i64 0)]:=by rw[hY,F3 hq,Lm]
    have j3:zj K=k:=by rw[hS.nat];omega
    have j4:aE Y k=some [Tree.v (.bool s2),.aa false r2,.v (.bool t2),.aa false p2,.v (.int .i64 q.a),.v (.int .i64 q.b),.v (.int .i64 0),.v (.int .i64 0),.v (.int .i64 0),.v (.int .i64 0),.v (.int .i64 0),.v (.int .i64 0)]:=by rw[hS.nth];exact hYk
    have n1:zV 0 K=true:=by rw[hS.le];exact decide_eq_true (by omega)
    have c2:zS K (zy (ae Y))=false:=by rw[V5,hS.eq];exact decide_eq_false (by omega)
    by_cases iv:i=n
    ·have Ot:P.drop i=[]:=List.drop_of_length_le (by omega)
     have sY:R=(O ++ [q])++cN (m-1) (P.drop i) (Q.drop (k+1)):=by
      rw[QF,RF,Ot,QG,Nat.add_sub_cancel];simp[cN]
     obtain⟨row,oJ⟩:∃row,row=[Tree.v (.bool s2),.aa false r2,.v (.bool t2),.aa false p2,.v (.int .i64 q.a),.v (.int .i64 q.b),.v (.int .i64 0),.v (.int .i64 0),.v (.int .i64 0),.v (.int .i64 0),.v (.int .i64 0),.v (.int .i64 0)]:=⟨_,rfl⟩;have dv:q.row=row:=Lm.trans oJ.symm;have Nr:row.length=12:=by rw[oJ];rfl
     have u0:an [row] 0 1=[row]:=by rw[hS.part];rfl
     have u1:aJ 0 1 [row]=true:=by rw[hS.fit];rfl
     have u2:zX (aK (ae [row]) 0)=true:=by rw[hS.len,hS.neq,hS.not];rfl
     have u3:ai 12 [row]=true:=by rw[hS.wide];simp[Nr]
     have u4:ak len (ae [row]) 128=true:=by rw[hS.len,hS.room];exact decide_eq_true (by unfold aF;simp only[List.length_cons,List.length_nil];omega)
     have u5:aK (ah 0 len) (ae r)=true:=by rw[hS.fc,hS.neq,hS.len,hr,sO,hlen,Nat.zero_add];exact decide_eq_true rfl
     have u6:ah len (ae [row])=len+1:=by rw[hS.len,hS.fc];rfl
     have u7:aO r 0 [row]=r ++ [row]:=by rw[hS.ext,List.drop_zero]
     have i1:I=I:=rfl;have k1:=k0;have jO:∃(iz kz:Nat) (Iz Kz:Int) (Oz:List T2),Iz=iz/\Kz=kz/\iz<=n/\kz<=l/\m-1=(n-iz)+(l-kz)/\Oz.length<=iz+kz/\R=Oz++cN (m-1) (P.drop iz) (Q.drop kz)/\∃mT rz,rz=bo Oz/\mT=Oz.length/\cZ X Y (len+1) (r ++ [row]) I K'=cZ X Y mT rz Iz Kz:=⟨i,k+1,I,K',O ++ [q],by omega,by omega,by omega,by omega,by omega,by first|omega|(rw[List.length_append,List.length_singleton];omega),sY,len+1,r ++ [row],by rw[sQ,hr,dv],by rw[List.length_append,hlen];rfl,rfl⟩
     have c1:zU I (zy (ae X))=false:=by rw[L3,hS.lt];exact decide_eq_false (by omega)
     have c3:zU K (zy (ae Y))=true:=by rw[V5,hS.lt];exact decide_eq_true (by omega)
     have c4:zS I (zy (ae X))=true:=by rw[L3,hS.eq];exact decide_eq_true (by omega)
     subst ji;cbv;refine bF c1 (bT c3 (bF c2 (bF c1 (bT c4 ?_))));rw[j3,j4];cbv;refine nd (n1) ?_;rw[<-oJ,u0];refine nd (u1) ?_;refine nd (u2) ?_;refine nd (u3) ?_;refine nd (u4) ?_;refine nd (u5) ?_;refine sw [(2,8)] (s':=cZ X Y (len+1) (r ++ [row]) I K') (k:=m-1) ?_ ?_ ?_ ?_ rfl (by show 2<=3;omega) Ew jO
     ·simp[bV,cZ,aC,vi,AV.aX,AV.bA,Cell.aX,aT,i1,k1,u6]
     ·simp[bW,cZ,aC,Abs.look,aT,aU.aX,Cell.aX,u7]
     ·simp[bf,cZ,aC,aT]
     ·simp
    ·obtain⟨p,hp⟩:∃p,P[i]?=some p:=⟨_,List.getElem?_eq_getElem (by omega)⟩
     have Ot:P.drop i=p::P.drop (i+1):=List.drop_eq_getElem_cons (by omega) |>.trans (by rw[show P[i]'(by omega)=p from Option.some.inj ((List.getElem?_eq_getElem (by omega)).symm.trans hp)])
     obtain⟨s1,t1,r1,p1,e1,_⟩:=bq p.c;have Ou:p.row=[Tree.v (.bool s1),.aa false r1,.v (.bool t1),.aa false p1,.v (.int .i64 p.a),.v (.int .i64 p.b),.v (.int .i64 0),.v (.int .i64 0),.v (.int .i64 0),.v (.int .i64 0),.v (.int .i64 0),.v (.int .i64 0)]:=by unfold T2.row m2;rw[e1];rfl
     have ZN:X[i]?=some [Tree.v (.bool s1),.aa false r1,.v (.bool t1),.aa false p1,.v (.int .i64 p.a),.v (.int .i64 p.b),.v (.int .i64 0),.v (.int .i64 0),.v (.int .i64 0),.v (.int .i64 0),.v (.int .i64 0),.v (.int .i64 0)]:=by rw[hX,F3 hp,Ou]
     have j1:zj I=i:=by rw[hS.nat];omega
     have j2:aE X i=some [Tree.v (.bool s1),.aa false r1,.v (.bool t1),.aa false p1,.v (.int .i64 p.a),.v (.int .i64 p.b),.v (.int .i64 0),.v (.int .i64 0),.v (.int .i64 0),.v (.int .i64 0),.v (.int .i64 0),.v (.int .i64 0)]:=by rw[hS.nth];exact ZN
     have n0:zV 0 I=true:=by rw[hS.le];exact decide_eq_true (by omega)
     have c1:zU I (zy (ae X))=true:=by rw[L3,hS.lt];exact decide_eq_true (by omega)
     have c4:zS I (zy (ae X))=false:=by rw[L3,hS.eq];exact decide_eq_false (by omega)
     obtain⟨C,hC⟩:∃C,C=p.cmp q:=⟨_,rfl⟩;have cc:=yo p.a p.b q.a q.b;change aA _ _ _ ⟨[.val (ti .i64 (p.cmp q))],_⟩ at cc;rw[<-hC]at cc;unfold m2 at cc
     by_cases RG:0<C
     ·have d1:zU 0 C=true:=by rw[hS.lt];exact decide_eq_true RG
      have sY:R=(O ++ [p])++cN (m-1) (P.drop (i+1)) (Q.drop k):=by
       rw[QF,RF,Ot,QG,Nat.add_sub_cancel];simp[cN,<-hC,RG]
      obtain⟨row,oJ⟩:∃row,row=[Tree.v (.bool s1),.aa false r1,.v (.bool t1),.aa false p1,.v (.int .i64 p.a),.v (.int .i64 p.b),.v (.int .i64 0),.v (.int .i64 0),.v (.int .i64 0),.v (.int .i64 0),.v (.int .i64 0),.v (.int .i64 0)]:=⟨_,rfl⟩;have dv:p.row=row:=Ou.trans oJ.symm;have Nr:row.length=12:=by rw[oJ];rfl
      have u0:an [row] 0 1=[row]:=by rw[hS.part];rfl
      have u1:aJ 0 1 [row]=true:=by rw[hS.fit];rfl
      have u2:zX (aK (ae [row]) 0)=true:=by rw[hS.len,hS.neq,hS.not];rfl
      have u3:ai 12 [row]=true:=by rw[hS.wide];simp[Nr]
      have u4:ak len (ae [row]) 128=true:=by rw[hS.len,hS.room];exact decide_eq_true (by unfold aF;simp only[List.length_cons,List.length_nil];omega)
      have u5:aK (ah 0 len) (ae r)=true:=by rw[hS.fc,hS.neq,hS.len,hr,sO,hlen,Nat.zero_add];exact decide_eq_true rfl
      have u6:ah len (ae [row])=len+1:=by rw[hS.len,hS.fc];rfl
      have u7:aO r 0 [row]=r ++ [row]:=by rw[hS.ext,List.drop_zero]
      have i1:=i0;have k1:K=K:=rfl;have jO:∃(iz kz:Nat) (Iz Kz:Int) (Oz:List T2),Iz=iz/\Kz=kz/\iz<=n/\kz<=l/\m-1=(n-iz)+(l-kz)/\Oz.length<=iz+kz/\R=Oz++cN (m-1) (P.drop iz) (Q.drop kz)/\∃mT rz,rz=bo Oz/\mT=Oz.length/\cZ X Y (len+1) (r ++ [row]) I' K=cZ X Y mT rz Iz Kz:=⟨i+1,k,I',K,O ++ [p],by omega,by omega,by omega,by omega,by omega,by first|omega|(rw[List.length_append,List.length_singleton];omega),sY,len+1,r ++ [row],by rw[sQ,hr,dv],by rw[List.length_append,hlen];rfl,rfl⟩
      subst ji;cbv;refine bT c1 (bF c2 (bT c1 ?_));rw[j1,j2];cbv;refine nd (n0) ?_;rw[j3,j4];cbv;refine nd (n1) ?_;refine⟨_,hS.call (cc),?_⟩;cbv;refine bT (d1) ?_;rw[j1,j2];cbv;refine nd (n0) ?_;rw[<-oJ,u0];refine nd (u1) ?_;refine nd (u2) ?_;refine nd (u3) ?_;refine nd (u4) ?_;refine nd (u5) ?_;refine sw [(2,6)] (s':=cZ X Y (len+1) (r ++ [row]) I' K) (k:=m-1) ?_ ?_ ?_ ?_ rfl (by show 2<=3;omega) Ew jO
      ·simp[bV,cZ,aC,vi,AV.aX,AV.bA,Cell.aX,aT,i1,k1,u6]
      ·simp[bW,cZ,aC,Abs.look,aT,aU.aX,Cell.aX,u7]
      ·simp[bf,cZ,aC,aT]
      ·simp
     ·have d1:zU 0 C=false:=by rw[hS.lt];exact decide_eq_false RG
      by_cases Ul:C<0
      ·have d2:zU C 0=true:=by rw[hS.lt];exact decide_eq_true Ul
       have sY:R=(O ++ [q])++cN (m-1) (P.drop i) (Q.drop (k+1)):=by
        rw[QF,RF,Ot,QG,Nat.add_sub_cancel];simp[cN,<-hC,RG,Ul]
       obtain⟨row,oJ⟩:∃row,row=[Tree.v (.bool s2),.aa false r2,.v (.bool t2),.aa false p2,.v (.int .i64 q.a),.v (.int .i64 q.b),.v (.int .i64 0),.v (.int .i64 0),.v (.int .i64 0),.v (.int .i64 0),.v (.int .i64 0),.v (.int .i64 0)]:=⟨_,rfl⟩;have dv:q.row=row:=Lm.trans oJ.symm;have Nr:row.length=12:=by rw[oJ];rfl
       have u0:an [row] 0 1=[row]:=by rw[hS.part];rfl
       have u1:aJ 0 1 [row]=true:=by rw[hS.fit];rfl
       have u2:zX (aK (ae [row]) 0)=true:=by rw[hS.len,hS.neq,hS.not];rfl
       have u3:ai 12 [row]=true:=by rw[hS.wide];simp[Nr]
       have u4:ak len (ae [row]) 128=true:=by rw[hS.len,hS.room];exact decide_eq_true (by unfold aF;simp only[List.length_cons,List.length_nil];omega)
       have u5:aK (ah 0 len) (ae r)=true:=by rw[hS.fc,hS.neq,hS.len,hr,sO,hlen,Nat.zero_add];exact decide_eq_true rfl
       have u6:ah len (ae [row])=len+1:=by rw[hS.len,hS.fc];rfl
       have u7:aO r 0 [row]=r ++ [row]:=by rw[hS.ext,List.drop_zero]
       have i1:I=I:=rfl;have k1:=k0;have jO:∃(iz kz:Nat) (Iz Kz:Int) (Oz:List T2),Iz=iz/\Kz=kz/\iz<=n/\kz<=l/\m-1=(n-iz)+(l-kz)/\Oz.length<=iz+kz/\R=Oz++cN (m-1) (P.drop iz) (Q.drop kz)/\∃mT rz,rz=bo Oz/\mT=Oz.length/\cZ X Y (len+1) (r ++ [row]) I K'=cZ X Y mT rz Iz Kz:=⟨i,k+1,I,K',O ++ [q],by omega,by omega,by omega,by omega,by omega,by first|omega|(rw[List.length_append,List.length_singleton];omega),sY,len+1,r ++ [row],by rw[sQ,hr,dv],by rw[List.length_append,hlen];rfl,rfl⟩
       subst ji;cbv;refine bT c1 (bF c2 (bT c1 ?_));rw[j1,j2];cbv;refine nd (n0) ?_;rw[j3,j4];cbv;refine nd (n1) ?_;refine⟨_,hS.call (cc),?_⟩;cbv;refine bF (d1) ?_;refine bF (c4) ?_;rw[j1,j2];cbv;refine nd (n0) ?_;rw[j3,j4];cbv;refine nd (n1) ?_;refine⟨_,hS.call (cc),?_⟩;cbv;refine bT (d2) ?_;rw[j3,j4];cbv;refine nd (n1) ?_;rw[<-oJ,u0];refine nd (u1) ?_;refine nd (u2) ?_
       refine nd (u3) ?_;refine nd (u4) ?_;refine nd (u5) ?_;refine sw [(2,8)] (s':=cZ X Y (len+1) (r ++ [row]) I K') (k:=m-1) ?_ ?_ ?_ ?_ rfl (by show 2<=3;omega) Ew jO
       ·simp[bV,cZ,aC,vi,AV.aX,AV.bA,Cell.aX,aT,i1,k1,u6]
       ·simp[bW,cZ,aC,Abs.look,aT,aU.aX,Cell.aX,u7]
       ·simp[bf,cZ,aC,aT]
       ·simp
      ·have d2:zU C 0=false:=by rw[hS.lt];exact decide_eq_false Ul
       have hp1:=(hP p (List.mem_of_getElem? hp)).c;have Ty:=(hQ q (List.mem_of_getElem? hq)).c;obtain⟨qa,ca⟩:=sN hp1 Ty (by omega);obtain⟨S,z1,z2,cS⟩:=Ix (p.c+q.c);have hz:S=0↔p.c+q.c=0:=by
        constructor
        ·intro h
         have f1:¬p.c+q.c<0:=fun h'=>by have:=z1.2 h';omega
         have f2:¬0<p.c+q.c:=fun h'=>by have:=z2.2 h';omega
         exact Rat.le_antisymm (Rat.not_lt.1 f2) (Rat.not_lt.1 f1)
        ·intro h
         have f1:¬S<0:=fun h'=>by have:=z1.1 h';rw[h]at this;exact Rat.lt_irrefl this
         have f2:¬0<S:=fun h'=>by have:=z2.1 h';rw[h]at this;exact Rat.lt_irrefl this
         omega
       obtain⟨s3,t3,r3,p3,e3,_⟩:=bq (p.c+q.c);rw[e1,e2,e3]at ca;rw[e3]at cS
       by_cases h0:p.c+q.c=0
       ·have d3:zT S 0=false:=by rw[hS.ne];exact decide_eq_false (by simp[hz.2 h0])
        have sY:R=O++cN (m-1) (P.drop (i+1)) (Q.drop (k+1)):=by
         rw[QF,RF,Ot,QG,Nat.add_sub_cancel];simp[cN,<-hC,RG,Ul,h0]
        obtain⟨m'',afR⟩:∃x,m=x+2:=⟨m-2,by omega⟩;have ZO:cN (m-1) (P.drop (i+1)) (Q.drop (k+1))=cN (m-2) (P.drop (i+1)) (Q.drop (k+1)):=gL _ _ (m-2) (m-1) (by rw[List.length_drop,List.length_drop];omega) (by rw[List.length_drop,List.length_drop];omega);rw[ZO]at sY;have i1:=i0;have k1:=k0;have jO:∃(iz kz:Nat) (Iz Kz:Int) (Oz:List T2),Iz=iz/\Kz=kz/\iz<=n/\kz<=l/\m-2=(n-iz)+(l-kz)/\Oz.length<=iz+kz/\R=Oz++cN (m-2) (P.drop iz) (Q.drop kz)/\∃mT rz,rz=bo Oz/\mT=Oz.length/\cZ X Y len r I' K'=cZ X Y mT rz Iz Kz:=⟨i+1,k+1,I',K',O,by omega,by omega,by omega,by omega,by omega,by first|omega|(rw[List.length_append,List.length_singleton];omega),sY,len,r,hr,hlen,rfl⟩
        subst ji;cbv;refine bT c1 (bF c2 (bT c1 ?_));rw[j1,j2];cbv;refine nd (n0) ?_;rw[j3,j4];cbv;refine nd (n1) ?_;refine⟨_,hS.call (cc),?_⟩;cbv;refine bF (d1) ?_;refine bF (c4) ?_;rw[j1,j2];cbv;refine nd (n0) ?_;rw[j3,j4];cbv;refine nd (n1) ?_;refine⟨_,hS.call (cc),?_⟩;cbv;refine bF (d2) ?_;rw[j1,j2];cbv;refine nd (n0) ?_;rw[j3,j4];cbv;refine nd (n1) ?_;refine⟨_,hS.call (ca),?_⟩
        cbv;refine⟨_,hS.call (cS),?_⟩;cbv;refine bF (d3) ?_;refine sw [(2,2)] (s':=cZ X Y len r I' K') (k:=m-2) ?_ ?_ ?_ ?_ rfl (by show 2<=3;omega) (by omega) jO
        ·simp[bV,cZ,aC,vi,AV.aX,AV.bA,Cell.aX,aT,i1,k1]
        ·simp[bW,cZ,aC,Abs.look,aT,aU.aX,Cell.aX]
        ·simp[bf,cZ,aC,aT]
        ·simp
       ·have d3:zT S 0=true:=by rw[hS.ne];exact decide_eq_true (fun h=>h0 (hz.1 h))
        have sY:R=(O ++ [⟨p.c+q.c,p.a,p.b⟩])++cN (m-1) (P.drop (i+1)) (Q.drop (k+1)):=by
         rw[QF,RF,Ot,QG,Nat.add_sub_cancel];simp[cN,<-hC,RG,Ul,h0]
        have ZO:cN (m-1) (P.drop (i+1)) (Q.drop (k+1))=cN (m-2) (P.drop (i+1)) (Q.drop (k+1)):=gL _ _ (m-2) (m-1) (by rw[List.length_drop,List.length_drop];omega) (by rw[List.length_drop,List.length_drop];omega);rw[ZO]at sY;obtain⟨row,oJ⟩:∃row,row=[Tree.v (.bool s3),.aa false r3,.v (.bool t3),.aa false p3,.v (.int .i64 p.a),.v (.int .i64 p.b),.v (.int .i64 0),.v (.int .i64 0),.v (.int .i64 0),.v (.int .i64 0),.v (.int .i64 0),.v (.int .i64 0)]:=⟨_,rfl⟩
        have dv:T2.row ⟨p.c+q.c,p.a,p.b⟩=row:=by rw[oJ];unfold T2.row m2;rw[e3];rfl
        have Nr:row.length=12:=by rw[oJ];rfl
        have u0:an [row] 0 1=[row]:=by rw[hS.part];rfl
        have u1:aJ 0 1 [row]=true:=by rw[hS.fit];rfl
        have u2:zX (aK (ae [row]) 0)=true:=by rw[hS.len,hS.neq,hS.not];rfl
        have u3:ai 12 [row]=true:=by rw[hS.wide];simp[Nr]
        have u4:ak len (ae [row]) 128=true:=by rw[hS.len,hS.room];exact decide_eq_true (by unfold aF;simp only[List.length_cons,List.length_nil];omega)
        have u5:aK (ah 0 len) (ae r)=true:=by rw[hS.fc,hS.neq,hS.len,hr,sO,hlen,Nat.zero_add];exact decide_eq_true rfl
        have u6:ah len (ae [row])=len+1:=by rw[hS.len,hS.fc];rfl
        have u7:aO r 0 [row]=r ++ [row]:=by rw[hS.ext,List.drop_zero]
        have i1:=i0;have k1:=k0;have jO:∃(iz kz:Nat) (Iz Kz:Int) (Oz:List T2),Iz=iz/\Kz=kz/\iz<=n/\kz<=l/\m-2=(n-iz)+(l-kz)/\Oz.length<=iz+kz/\R=Oz++cN (m-2) (P.drop iz) (Q.drop kz)/\∃mT rz,rz=bo Oz/\mT=Oz.length/\cZ X Y (len+1) (r ++ [row]) I' K'=cZ X Y mT rz Iz Kz:=⟨i+1,k+1,I',K',O ++ [⟨p.c+q.c,p.a,p.b⟩],by omega,by omega,by omega,by omega,by omega,by first|omega|(rw[List.length_append,List.length_singleton];omega),sY,len+1,r ++ [row],by rw[sQ,hr,dv],by rw[List.length_append,hlen];rfl,rfl⟩
        subst ji;cbv;refine bT c1 (bF c2 (bT c1 ?_));rw[j1,j2];cbv;refine nd (n0) ?_;rw[j3,j4];cbv;refine nd (n1) ?_;refine⟨_,hS.call (cc),?_⟩;cbv;refine bF (d1) ?_;refine bF (c4) ?_;rw[j1,j2];cbv;refine nd (n0) ?_;rw[j3,j4];cbv;refine nd (n1) ?_;refine⟨_,hS.call (cc),?_⟩;cbv;refine bF (d2) ?_;rw[j1,j2];cbv;refine nd (n0) ?_;rw[j3,j4];cbv;refine nd (n1) ?_;refine⟨_,hS.call (ca),?_⟩
        cbv;refine⟨_,hS.call (cS),?_⟩;cbv;refine bT (d3) ?_;rw[j1,j2];cbv;refine nd (n0) ?_;rw[<-oJ,u0];refine nd (u1) ?_;refine nd (u2) ?_;refine nd (u3) ?_;refine nd (u4) ?_;refine nd (u5) ?_;refine sw [(2,13)] (s':=cZ X Y (len+1) (r ++ [row]) I' K') (k:=m-2) ?_ ?_ ?_ ?_ rfl (by show 2<=3;omega) (by omega) jO
        ·simp[bV,cZ,aC,vi,AV.aX,AV.bA,Cell.aX,aT,i1,k1,u6]
        ·simp[bW,cZ,aC,Abs.look,aT,aU.aX,Cell.aX,u7]
        ·simp[bf,cZ,aC,aT]
        ·simp
end Go.Proofs.YtekefilngojelaaGreat
end
