/- A part of the proof. -/
import Derived.Test.YtekefilngojelaaGreatM12
import Derived.Test.YtekefilngojelaaGreatM21
set_option maxHeartbeats 0
set_option maxRecDepth 100000
set_option linter.unusedVariables false
set_option linter.unusedSimpArgs false
section
namespace Go.Proofs.YtekefilngojelaaGreat
open Go Go.Abs Go.Abs.M Go.Proofs
theorem IG {l:List T2} {i:Nat} {t:T2} (h:l[i]?=some t):(aV l)[i]?=some t.row:=by simp[aV,h]
def T2.cmp (p q:T2):Int:=mL p.a p.b q.a q.b
def cN:Nat->List T2->List T2->List T2
 | 0,_,_=>[]
 | _+1,[],[]=>[]
 | f+1,p::P,[]=>p::cN f P []
 | f+1,[],q::Q=>q::cN f [] Q
 | f+1,p::P,q::Q=>if 0<p.cmp q then p::cN f P (q::Q) else if p.cmp q<0 then q::cN f (p::P) Q else
   if p.c+q.c=0 then cN f P Q else⟨p.c+q.c,p.a,p.b⟩::cN f P Q
theorem il:∀(P Q:List T2) (f g:Nat),P.length+Q.length<=f->P.length+Q.length<=g->cN g P Q=cN f P Q
 | P,Q,0,0,_,_=>rfl
 | [],[],0,g+1,_,_=>rfl
 | [],[],f+1,0,_,_=>rfl
 | p::P,Q,0,g,h,_=>by simp at h
 | p::P,Q,f,0,_,h=>by simp at h
 | P,q::Q,0,g,h,_=>by simp at h
 | P,q::Q,f,0,_,h=>by simp at h
 | [],[],f+1,g+1,_,_=>rfl
 | p::P,[],f+1,g+1,h,h'=>by simp only[cN];rw[il P [] f g (by simp at *;omega) (by simp at *;omega)]
 | [],q::Q,f+1,g+1,h,h'=>by simp only[cN];rw[il [] Q f g (by simp at *;omega) (by simp at *;omega)]
 | p::P,q::Q,f+1,g+1,h,h'=>by
  simp only[cN];rw[il P (q::Q) f g (by simp at *;omega) (by simp at *;omega),il (p::P) Q f g (by simp at *;omega) (by simp at *;omega),il P Q f g (by simp at *;omega) (by simp at *;omega)]
def dj (X Y:Abs.Rows) (len:Nat) (r:Abs.Rows) (I K:Int):St:=ae 109 [.c (.t (.aa false X)),.c (.t (.aa false Y)),.af,.af,.af,.c (.sl 2 0 len false),vi .i64 I,vi .i64 K] [none,none,some (.rows 12 r true false)]
theorem ya (P Q:List T2) {a b:Nat} (hP:∀t∈P,t.ok a 30000) (hQ:∀t∈Q,t.ok b 30000) (hl:P.length<=100) (ee:Q.length<=100) (GO:a+b<=100000) :
  ah Tryz.prog 27 [.val (tl (aV P)),.val (tl (aV Q))] ⟨[.val (tl (aV (cN (P.length+Q.length) P Q)))],[none,none]⟩:=by
 obtain⟨X,hX⟩:∃X,X=aV P:=⟨_,rfl⟩;obtain⟨Y,hY⟩:∃X,X=aV Q:=⟨_,rfl⟩;obtain⟨n,hn⟩:∃n,n=P.length:=⟨_,rfl⟩;obtain⟨l,hk⟩:∃n,n=Q.length:=⟨_,rfl⟩;have lX:X.length=n:=by rw[hX,qE,hn]
 have lY:Y.length=l:=by rw[hY,qE,hk]
 obtain⟨R,hR⟩:∃R,R=cN (P.length+Q.length) P Q:=⟨_,rfl⟩;rw[<-hX,<-hY,<-hR];rw[<-hn,<-hk]at hR;obtain⟨T,hT⟩:∃T,T=aV R:=⟨_,rfl⟩;rw[<-hT];refine ar aj mixed [.val] Tryz.func27 rfl rfl (by kernel_rfl) fun zD zE _ _ _ _ _ _ _ _ _ _ zT zU zV zX zY _ _ _ _ zu _ zz _ ao aJ _ _ aO _ ab aD _ _ _ _ a9 aE bQ _ _ aN _ _ _ _ _ _ _ _ A L F hS hF=>?_
 obtain⟨N,hN,Bb⟩:∃N:Int,N=n/\zz (ab X)=N:=⟨_,rfl,by rw[hS.aB,hS.len,lX]⟩;obtain⟨M,hM,ZT⟩:∃N:Int,N=l/\zz (ab Y)=N:=⟨_,rfl,by rw[hS.aB,hS.len,lY]⟩;cbv;have hN:N=(n:Int):=hN;have hM:M=(l:Int):=hM;refine S9 aj mixed hS (fun(m:Nat) s'=>∃(i k:Nat) (I K:Int) (O:List T2),I=i/\K=k/\i<=n/\k<=l/\m=(n-i)+(l-k)/\O.length<=i+k/\R=O++cN m (P.drop i) (Q.drop k)/\∃len r,r=aV O/\len=O.length/\s'=dj X Y len r I K) (n:=n+l) (s0:=dj X Y 0 [] 0 0) (fi ?_ ?_) rfl (by show 2<=3;omega) ?_ ?_
 ·simp[dO,dj,ae,vi,vb]
 ·simp[dP,dj,ae]
 ·exact⟨0,0,0,0,[],rfl,rfl,by omega,by omega,by omega,by simp,by rw[hR];rfl,0,[],rfl,rfl,rfl⟩
 ·rintro m sx ⟨i,k,I,K,O,hI,hK,hi,GU,hm,hO,Ui,len,r,hr,hlen,iW⟩
  obtain⟨I',hI',i0⟩:∃I':Int,I'=((i+1:Nat):Int)/\zD .i64 (zE I 1)=I':=⟨I+1,by omega,by rw[hS.add,hS.wrap,wrap_i64 (by omega) (by omega)]⟩;obtain⟨K',hK',k0⟩:∃I':Int,I'=((k+1:Nat):Int)/\zD .i64 (zE K 1)=I':=⟨K+1,by omega,by rw[hS.add,hS.wrap,wrap_i64 (by omega) (by omega)]⟩
  by_cases eL:i=n/\k=l
  ·have c1:zV I (zz (ab X))=false:=by rw[Bb,hS.lt];exact decide_eq_false (by omega)
   have c2:zV K (zz (ab Y))=false:=by rw[ZT,hS.lt];exact decide_eq_false (by omega)
   have hrT:r=T:=by
    rw[hT,Ui,show m=0 by omega,hr];simp[cN]
   have f1:a9 0 len r=true:=by rw[hS.fit,hr,qE];exact decide_eq_true (by omega)
   have f2:aE r 0 len=T:=by rw[hS.part,List.drop_zero,List.take_of_length_le (by rw[hr,qE];omega),hrT]
   subst iW;cbv;refine bF c1 (bF c2 (nd f1 ?_));rw[f2];exact hF _ (ak.refl _)
  ·have G2:m-1<m:=by omega
   obtain⟨m',Vk⟩:∃m',m=m'+1:=⟨m-1,by omega⟩
   by_cases hki:k=l
   ·obtain⟨p,hp⟩:∃p,P[i]?=some p:=⟨_,List.getElem?_eq_getElem (by omega)⟩
    have R4:P.drop i=p::P.drop (i+1):=List.drop_eq_getElem_cons (by omega) |>.trans (by rw[show P[i]'(by omega)=p from Option.some.inj ((List.getElem?_eq_getElem (by omega)).symm.trans hp)])
    have Uj:Q.drop k=[]:=List.drop_of_length_le (by omega);have uh:R=(O ++ [p])++cN (m-1) (P.drop (i+1)) (Q.drop k):=by
     rw[Ui,Vk,R4,Uj,Nat.add_sub_cancel];simp[cN]
    obtain⟨s1,t1,r1,p1,e1,_⟩:=bD p.c;obtain⟨row,pI⟩:∃row,row=[Tree.v (.bool s1),.aa false r1,.v (.bool t1),.aa false p1,.v (.int .i64 p.a),.v (.int .i64 p.b),.v (.int .i64 0),.v (.int .i64 0),.v (.int .i64 0),.v (.int .i64 0),.v (.int .i64 0),.v (.int .i64 0)]:=⟨_,rfl⟩;have da:p.row=row:=by rw[pI];unfold T2.row m2;rw[e1];rfl
    have hXi:X[i]?=some [Tree.v (.bool s1),.aa false r1,.v (.bool t1),.aa false p1,.v (.int .i64 p.a),.v (.int .i64 p.b),.v (.int .i64 0),.v (.int .i64 0),.v (.int .i64 0),.v (.int .i64 0),.v (.int .i64 0),.v (.int .i64 0)]:=by rw[hX,IG hp,da,pI]
    have QG:row.length=12:=by rw[pI];rfl
    have u0:aE [row] 0 1=[row]:=by rw[hS.part];rfl
    have u1:a9 0 1 [row]=true:=by rw[hS.fit];rfl
    have u2:zY (ao (ab [row]) 0)=true:=by rw[hS.len,hS.neq,hS.not];rfl
    have u3:aN 12 [row]=true:=by rw[hS.wide];simp[QG]
    have u4:aO len (ab [row]) 128=true:=by rw[hS.len,hS.room];exact decide_eq_true (by unfold az;simp only[List.length_cons,List.length_nil];omega)
    have u5:ao (aJ 0 len) (ab r)=true:=by rw[hS.fH,hS.neq,hS.len,hr,qE,hlen,Nat.zero_add];exact decide_eq_true rfl
    have u6:aJ len (ab [row])=len+1:=by rw[hS.len,hS.fH];rfl
    have u7:bQ r 0 [row]=r ++ [row]:=by rw[hS.ext,List.drop_zero]
    have i1:=i0;have k1:K=K:=rfl;have jW:∃(iz kz:Nat) (Iz Kz:Int) (Oz:List T2),Iz=iz/\Kz=kz/\iz<=n/\kz<=l/\m-1=(n-iz)+(l-kz)/\Oz.length<=iz+kz/\R=Oz++cN (m-1) (P.drop iz) (Q.drop kz)/\∃nW rz,rz=aV Oz/\nW=Oz.length/\dj X Y (len+1) (r ++ [row]) I' K=dj X Y nW rz Iz Kz:=⟨i+1,k,I',K,O ++ [p],by omega,by omega,by omega,by omega,by omega,by first|omega|(rw[List.length_append,List.length_singleton];omega),uh,len+1,r ++ [row],by rw[tW,hr,da],by rw[List.length_append,hlen];rfl,rfl⟩
    have c1:zV I (zz (ab X))=true:=by rw[Bb,hS.lt];exact decide_eq_true (by omega)
    have c2:zT K (zz (ab Y))=true:=by rw[ZT,hS.eq];exact decide_eq_true (by omega)
    have j1:zu I=i:=by rw[hS.nat];omega
    have j2:aD X i=some [Tree.v (.bool s1),.aa false r1,.v (.bool t1),.aa false p1,.v (.int .i64 p.a),.v (.int .i64 p.b),.v (.int .i64 0),.v (.int .i64 0),.v (.int .i64 0),.v (.int .i64 0),.v (.int .i64 0),.v (.int .i64 0)]:=by rw[hS.nth];exact hXi
    have n0:zX 0 I=true:=by rw[hS.le];exact decide_eq_true (by omega)
    subst iW;cbv;refine bT c1 (bT c2 ?_);rw[j1,j2];cbv;refine nd n0 ?_;rw[<-pI,u0];refine nd u1 ?_;refine nd u2 ?_;refine nd u3 ?_;refine nd u4 ?_;refine nd u5 ?_;refine tH [(2,6)] (s':=dj X Y (len+1) (r ++ [row]) I' K) (k:=m-1) ?_ ?_ ?_ ?_ rfl (by show 2<=3;omega) G2 jW
    ·simp[aZ,dj,ae,vi,AV.ay,AV.aI,Cell.ay,aq,i1,k1,u6]
    ·simp[a8,dj,ae,Abs.look,aq,aC.ay,Cell.ay,u7]
    ·simp[aF,dj,ae,aq]
    ·simp
   ·obtain⟨q,hq⟩:∃q,Q[k]?=some q:=⟨_,List.getElem?_eq_getElem (by omega)⟩
    have Uj:Q.drop k=q::Q.drop (k+1):=List.drop_eq_getElem_cons (by omega) |>.trans (by rw[show Q[k]'(by omega)=q from Option.some.inj ((List.getElem?_eq_getElem (by omega)).symm.trans hq)])
    obtain⟨s2,t2,r2,p2,e2,_⟩:=bD q.c;have Oe:q.row=[Tree.v (.bool s2),.aa false r2,.v (.bool t2),.aa false p2,.v (.int .i64 q.a),.v (.int .i64 q.b),.v (.int .i64 0),.v (.int .i64 0),.v (.int .i64 0),.v (.int .i64 0),.v (.int .i64 0),.v (.int .i64 0)]:=by unfold T2.row m2;rw[e2];rfl
    have hYk:Y[k]?=some [Tree.v (.bool s2),.aa false r2,.v (.bool t2),.aa false p2,.v (.int .i64 q.a),.v (.int .i64 q.b),.v (.int .i64 0),.v (.int .i64 0),.v (.int .i64 0),.v (.int .i64 0),.v (.int .i64 0),.v (.int .i64 0)]:=by rw[hY,IG hq,Oe]
    have j3:zu K=k:=by rw[hS.nat];omega
    have j4:aD Y k=some [Tree.v (.bool s2),.aa false r2,.v (.bool t2),.aa false p2,.v (.int .i64 q.a),.v (.int .i64 q.b),.v (.int .i64 0),.v (.int .i64 0),.v (.int .i64 0),.v (.int .i64 0),.v (.int .i64 0),.v (.int .i64 0)]:=by rw[hS.nth];exact hYk
    have n1:zX 0 K=true:=by rw[hS.le];exact decide_eq_true (by omega)
    have c2:zT K (zz (ab Y))=false:=by rw[ZT,hS.eq];exact decide_eq_false (by omega)
    by_cases iR:i=n
    ·have R4:P.drop i=[]:=List.drop_of_length_le (by omega)
     have uh:R=(O ++ [q])++cN (m-1) (P.drop i) (Q.drop (k+1)):=by
      rw[Ui,Vk,R4,Uj,Nat.add_sub_cancel];simp[cN]
     obtain⟨row,pI⟩:∃row,row=[Tree.v (.bool s2),.aa false r2,.v (.bool t2),.aa false p2,.v (.int .i64 q.a),.v (.int .i64 q.b),.v (.int .i64 0),.v (.int .i64 0),.v (.int .i64 0),.v (.int .i64 0),.v (.int .i64 0),.v (.int .i64 0)]:=⟨_,rfl⟩;have da:q.row=row:=Oe.trans pI.symm;have QG:row.length=12:=by rw[pI];rfl
     have u0:aE [row] 0 1=[row]:=by rw[hS.part];rfl
     have u1:a9 0 1 [row]=true:=by rw[hS.fit];rfl
     have u2:zY (ao (ab [row]) 0)=true:=by rw[hS.len,hS.neq,hS.not];rfl
     have u3:aN 12 [row]=true:=by rw[hS.wide];simp[QG]
     have u4:aO len (ab [row]) 128=true:=by rw[hS.len,hS.room];exact decide_eq_true (by unfold az;simp only[List.length_cons,List.length_nil];omega)
     have u5:ao (aJ 0 len) (ab r)=true:=by rw[hS.fH,hS.neq,hS.len,hr,qE,hlen,Nat.zero_add];exact decide_eq_true rfl
     have u6:aJ len (ab [row])=len+1:=by rw[hS.len,hS.fH];rfl
     have u7:bQ r 0 [row]=r ++ [row]:=by rw[hS.ext,List.drop_zero]
     have i1:I=I:=rfl;have k1:=k0;have jW:∃(iz kz:Nat) (Iz Kz:Int) (Oz:List T2),Iz=iz/\Kz=kz/\iz<=n/\kz<=l/\m-1=(n-iz)+(l-kz)/\Oz.length<=iz+kz/\R=Oz++cN (m-1) (P.drop iz) (Q.drop kz)/\∃nW rz,rz=aV Oz/\nW=Oz.length/\dj X Y (len+1) (r ++ [row]) I K'=dj X Y nW rz Iz Kz:=⟨i,k+1,I,K',O ++ [q],by omega,by omega,by omega,by omega,by omega,by first|omega|(rw[List.length_append,List.length_singleton];omega),uh,len+1,r ++ [row],by rw[tW,hr,da],by rw[List.length_append,hlen];rfl,rfl⟩
     have c1:zV I (zz (ab X))=false:=by rw[Bb,hS.lt];exact decide_eq_false (by omega)
     have c3:zV K (zz (ab Y))=true:=by rw[ZT,hS.lt];exact decide_eq_true (by omega)
     have c4:zT I (zz (ab X))=true:=by rw[Bb,hS.eq];exact decide_eq_true (by omega)
     subst iW;cbv;refine bF c1 (bT c3 (bF c2 (bF c1 (bT c4 ?_))));rw[j3,j4];cbv;refine nd n1 ?_;rw[<-pI,u0];refine nd u1 ?_;refine nd u2 ?_;refine nd u3 ?_;refine nd u4 ?_;refine nd u5 ?_;refine tH [(2,8)] (s':=dj X Y (len+1) (r ++ [row]) I K') (k:=m-1) ?_ ?_ ?_ ?_ rfl (by show 2<=3;omega) G2 jW
     ·simp[aZ,dj,ae,vi,AV.ay,AV.aI,Cell.ay,aq,i1,k1,u6]
     ·simp[a8,dj,ae,Abs.look,aq,aC.ay,Cell.ay,u7]
     ·simp[aF,dj,ae,aq]
     ·simp
    ·obtain⟨p,hp⟩:∃p,P[i]?=some p:=⟨_,List.getElem?_eq_getElem (by omega)⟩
     have R4:P.drop i=p::P.drop (i+1):=List.drop_eq_getElem_cons (by omega) |>.trans (by rw[show P[i]'(by omega)=p from Option.some.inj ((List.getElem?_eq_getElem (by omega)).symm.trans hp)])
     obtain⟨s1,t1,r1,p1,e1,_⟩:=bD p.c;have R6:p.row=[Tree.v (.bool s1),.aa false r1,.v (.bool t1),.aa false p1,.v (.int .i64 p.a),.v (.int .i64 p.b),.v (.int .i64 0),.v (.int .i64 0),.v (.int .i64 0),.v (.int .i64 0),.v (.int .i64 0),.v (.int .i64 0)]:=by unfold T2.row m2;rw[e1];rfl
     have hXi:X[i]?=some [Tree.v (.bool s1),.aa false r1,.v (.bool t1),.aa false p1,.v (.int .i64 p.a),.v (.int .i64 p.b),.v (.int .i64 0),.v (.int .i64 0),.v (.int .i64 0),.v (.int .i64 0),.v (.int .i64 0),.v (.int .i64 0)]:=by rw[hX,IG hp,R6]
     have j1:zu I=i:=by rw[hS.nat];omega
     have j2:aD X i=some [Tree.v (.bool s1),.aa false r1,.v (.bool t1),.aa false p1,.v (.int .i64 p.a),.v (.int .i64 p.b),.v (.int .i64 0),.v (.int .i64 0),.v (.int .i64 0),.v (.int .i64 0),.v (.int .i64 0),.v (.int .i64 0)]:=by rw[hS.nth];exact hXi
     have n0:zX 0 I=true:=by rw[hS.le];exact decide_eq_true (by omega)
     have c1:zV I (zz (ab X))=true:=by rw[Bb,hS.lt];exact decide_eq_true (by omega)
     have c4:zT I (zz (ab X))=false:=by rw[Bb,hS.eq];exact decide_eq_false (by omega)
     obtain⟨C,hC⟩:∃C,C=p.cmp q:=⟨_,rfl⟩;have cc:=tK p.a p.b q.a q.b;change ah _ _ _ ⟨[.val (ti .i64 (p.cmp q))],_⟩ at cc;rw[<-hC]at cc;unfold m2 at cc
     by_cases Vl:0<C
     ·have d1:zV 0 C=true:=by rw[hS.lt];exact decide_eq_true Vl
      have uh:R=(O ++ [p])++cN (m-1) (P.drop (i+1)) (Q.drop k):=by
       rw[Ui,Vk,R4,Uj,Nat.add_sub_cancel];simp[cN,<-hC,Vl]
      obtain⟨row,pI⟩:∃row,row=[Tree.v (.bool s1),.aa false r1,.v (.bool t1),.aa false p1,.v (.int .i64 p.a),.v (.int .i64 p.b),.v (.int .i64 0),.v (.int .i64 0),.v (.int .i64 0),.v (.int .i64 0),.v (.int .i64 0),.v (.int .i64 0)]:=⟨_,rfl⟩;have da:p.row=row:=R6.trans pI.symm;have QG:row.length=12:=by rw[pI];rfl
      have u0:aE [row] 0 1=[row]:=by rw[hS.part];rfl
      have u1:a9 0 1 [row]=true:=by rw[hS.fit];rfl
      have u2:zY (ao (ab [row]) 0)=true:=by rw[hS.len,hS.neq,hS.not];rfl
      have u3:aN 12 [row]=true:=by rw[hS.wide];simp[QG]
      have u4:aO len (ab [row]) 128=true:=by rw[hS.len,hS.room];exact decide_eq_true (by unfold az;simp only[List.length_cons,List.length_nil];omega)
      have u5:ao (aJ 0 len) (ab r)=true:=by rw[hS.fH,hS.neq,hS.len,hr,qE,hlen,Nat.zero_add];exact decide_eq_true rfl
      have u6:aJ len (ab [row])=len+1:=by rw[hS.len,hS.fH];rfl
      have u7:bQ r 0 [row]=r ++ [row]:=by rw[hS.ext,List.drop_zero]
      have i1:=i0;have k1:K=K:=rfl;have jW:∃(iz kz:Nat) (Iz Kz:Int) (Oz:List T2),Iz=iz/\Kz=kz/\iz<=n/\kz<=l/\m-1=(n-iz)+(l-kz)/\Oz.length<=iz+kz/\R=Oz++cN (m-1) (P.drop iz) (Q.drop kz)/\∃nW rz,rz=aV Oz/\nW=Oz.length/\dj X Y (len+1) (r ++ [row]) I' K=dj X Y nW rz Iz Kz:=⟨i+1,k,I',K,O ++ [p],by omega,by omega,by omega,by omega,by omega,by first|omega|(rw[List.length_append,List.length_singleton];omega),uh,len+1,r ++ [row],by rw[tW,hr,da],by rw[List.length_append,hlen];rfl,rfl⟩
      subst iW;cbv;refine bT c1 (bF c2 (bT c1 ?_));rw[j1,j2];cbv;refine nd n0 ?_;rw[j3,j4];cbv;refine nd n1 ?_;refine⟨_,hS.call cc,?_⟩;cbv;refine bT d1 ?_;rw[j1,j2];cbv;refine nd n0 ?_;rw[<-pI,u0];refine nd u1 ?_;refine nd u2 ?_;refine nd u3 ?_;refine nd u4 ?_;refine nd u5 ?_;refine tH [(2,6)] (s':=dj X Y (len+1) (r ++ [row]) I' K) (k:=m-1) ?_ ?_ ?_ ?_ rfl (by show 2<=3;omega) G2 jW
      ·simp[aZ,dj,ae,vi,AV.ay,AV.aI,Cell.ay,aq,i1,k1,u6]
      ·simp[a8,dj,ae,Abs.look,aq,aC.ay,Cell.ay,u7]
      ·simp[aF,dj,ae,aq]
      ·simp
     ·have d1:zV 0 C=false:=by rw[hS.lt];exact decide_eq_false Vl
      by_cases Yb:C<0
      ·have d2:zV C 0=true:=by rw[hS.lt];exact decide_eq_true Yb
       have uh:R=(O ++ [q])++cN (m-1) (P.drop i) (Q.drop (k+1)):=by
        rw[Ui,Vk,R4,Uj,Nat.add_sub_cancel];simp[cN,<-hC,Vl,Yb]
       obtain⟨row,pI⟩:∃row,row=[Tree.v (.bool s2),.aa false r2,.v (.bool t2),.aa false p2,.v (.int .i64 q.a),.v (.int .i64 q.b),.v (.int .i64 0),.v (.int .i64 0),.v (.int .i64 0),.v (.int .i64 0),.v (.int .i64 0),.v (.int .i64 0)]:=⟨_,rfl⟩;have da:q.row=row:=Oe.trans pI.symm;have QG:row.length=12:=by rw[pI];rfl
       have u0:aE [row] 0 1=[row]:=by rw[hS.part];rfl
       have u1:a9 0 1 [row]=true:=by rw[hS.fit];rfl
       have u2:zY (ao (ab [row]) 0)=true:=by rw[hS.len,hS.neq,hS.not];rfl
       have u3:aN 12 [row]=true:=by rw[hS.wide];simp[QG]
       have u4:aO len (ab [row]) 128=true:=by rw[hS.len,hS.room];exact decide_eq_true (by unfold az;simp only[List.length_cons,List.length_nil];omega)
       have u5:ao (aJ 0 len) (ab r)=true:=by rw[hS.fH,hS.neq,hS.len,hr,qE,hlen,Nat.zero_add];exact decide_eq_true rfl
       have u6:aJ len (ab [row])=len+1:=by rw[hS.len,hS.fH];rfl
       have u7:bQ r 0 [row]=r ++ [row]:=by rw[hS.ext,List.drop_zero]
       have i1:I=I:=rfl;have k1:=k0;have jW:∃(iz kz:Nat) (Iz Kz:Int) (Oz:List T2),Iz=iz/\Kz=kz/\iz<=n/\kz<=l/\m-1=(n-iz)+(l-kz)/\Oz.length<=iz+kz/\R=Oz++cN (m-1) (P.drop iz) (Q.drop kz)/\∃nW rz,rz=aV Oz/\nW=Oz.length/\dj X Y (len+1) (r ++ [row]) I K'=dj X Y nW rz Iz Kz:=⟨i,k+1,I,K',O ++ [q],by omega,by omega,by omega,by omega,by omega,by first|omega|(rw[List.length_append,List.length_singleton];omega),uh,len+1,r ++ [row],by rw[tW,hr,da],by rw[List.length_append,hlen];rfl,rfl⟩
       subst iW;cbv;refine bT c1 (bF c2 (bT c1 ?_));rw[j1,j2];cbv;refine nd n0 ?_;rw[j3,j4];cbv;refine nd n1 ?_;refine⟨_,hS.call cc,?_⟩;cbv;refine bF d1 ?_;refine bF c4 ?_;rw[j1,j2];cbv;refine nd n0 ?_;rw[j3,j4];cbv;refine nd n1 ?_;refine⟨_,hS.call cc,?_⟩;cbv;refine bT d2 ?_;rw[j3,j4];cbv;refine nd n1 ?_;rw[<-pI,u0];refine nd u1 ?_;refine nd u2 ?_;refine nd u3 ?_;refine nd u4 ?_
       refine nd u5 ?_;refine tH [(2,8)] (s':=dj X Y (len+1) (r ++ [row]) I K') (k:=m-1) ?_ ?_ ?_ ?_ rfl (by show 2<=3;omega) G2 jW
       ·simp[aZ,dj,ae,vi,AV.ay,AV.aI,Cell.ay,aq,i1,k1,u6]
       ·simp[a8,dj,ae,Abs.look,aq,aC.ay,Cell.ay,u7]
       ·simp[aF,dj,ae,aq]
       ·simp
      ·have d2:zV C 0=false:=by rw[hS.lt];exact decide_eq_false Yb
       have hp1:=(hP p (List.mem_of_getElem? hp)).c;have WE:=(hQ q (List.mem_of_getElem? hq)).c;obtain⟨qa,ca⟩:=tV hp1 WE (by omega);obtain⟨S,z1,z2,cS⟩:=Lz (p.c+q.c);have hz:S=0↔p.c+q.c=0:=by
        constructor
        ·intro h
         have f1:¬p.c+q.c<0:=fun h'=>by have:=z1.2 h';omega
         have f2:¬0<p.c+q.c:=fun h'=>by have:=z2.2 h';omega
         exact Rat.le_antisymm (Rat.not_lt.1 f2) (Rat.not_lt.1 f1)
        ·intro h
         have f1:¬S<0:=fun h'=>by have:=z1.1 h';rw[h]at this;exact Rat.lt_irrefl this
         have f2:¬0<S:=fun h'=>by have:=z2.1 h';rw[h]at this;exact Rat.lt_irrefl this
         omega
       obtain⟨s3,t3,r3,p3,e3,_⟩:=bD (p.c+q.c);rw[e1,e2,e3]at ca;rw[e3]at cS
       by_cases h0:p.c+q.c=0
       ·have d3:zU S 0=false:=by rw[hS.ne];exact decide_eq_false (by simp[hz.2 h0])
        have uh:R=O++cN (m-1) (P.drop (i+1)) (Q.drop (k+1)):=by
         rw[Ui,Vk,R4,Uj,Nat.add_sub_cancel];simp[cN,<-hC,Vl,Yb,h0]
        obtain⟨m'',ait⟩:∃x,m=x+2:=⟨m-2,by omega⟩;have hp2:cN (m-1) (P.drop (i+1)) (Q.drop (k+1))=cN (m-2) (P.drop (i+1)) (Q.drop (k+1)):=il _ _ (m-2) (m-1) (by rw[List.length_drop,List.length_drop];omega) (by rw[List.length_drop,List.length_drop];omega);rw[hp2]at uh;have i1:=i0;have k1:=k0;have jW:∃(iz kz:Nat) (Iz Kz:Int) (Oz:List T2),Iz=iz/\Kz=kz/\iz<=n/\kz<=l/\m-2=(n-iz)+(l-kz)/\Oz.length<=iz+kz/\R=Oz++cN (m-2) (P.drop iz) (Q.drop kz)/\∃nW rz,rz=aV Oz/\nW=Oz.length/\dj X Y len r I' K'=dj X Y nW rz Iz Kz:=⟨i+1,k+1,I',K',O,by omega,by omega,by omega,by omega,by omega,by first|omega|(rw[List.length_append,List.length_singleton];omega),uh,len,r,hr,hlen,rfl⟩
        subst iW;cbv;refine bT c1 (bF c2 (bT c1 ?_));rw[j1,j2];cbv;refine nd n0 ?_;rw[j3,j4];cbv;refine nd n1 ?_;refine⟨_,hS.call cc,?_⟩;cbv;refine bF d1 ?_;refine bF c4 ?_;rw[j1,j2];cbv;refine nd n0 ?_;rw[j3,j4];cbv;refine nd n1 ?_;refine⟨_,hS.call cc,?_⟩;cbv;refine bF d2 ?_;rw[j1,j2];cbv;refine nd n0 ?_;rw[j3,j4];cbv;refine nd n1 ?_;refine⟨_,hS.call ca,?_⟩;cbv;refine⟨_,hS.call cS,?_⟩
        cbv;refine bF d3 ?_;refine tH [(2,2)] (s':=dj X Y len r I' K') (k:=m-2) ?_ ?_ ?_ ?_ rfl (by show 2<=3;omega) (by omega) jW
        ·simp[aZ,dj,ae,vi,AV.ay,AV.aI,Cell.ay,aq,i1,k1]
        ·simp[a8,dj,ae,Abs.look,aq,aC.ay,Cell.ay]
        ·simp[aF,dj,ae,aq]
        ·simp
       ·have d3:zU S 0=true:=by rw[hS.ne];exact decide_eq_true (fun h=>h0 (hz.1 h))
        have uh:R=(O ++ [⟨p.c+q.c,p.a,p.b⟩])++cN (m-1) (P.drop (i+1)) (Q.drop (k+1)):=by
         rw[Ui,Vk,R4,Uj,Nat.add_sub_cancel];simp[cN,<-hC,Vl,Yb,h0]
        have hp2:cN (m-1) (P.drop (i+1)) (Q.drop (k+1))=cN (m-2) (P.drop (i+1)) (Q.drop (k+1)):=il _ _ (m-2) (m-1) (by rw[List.length_drop,List.length_drop];omega) (by rw[List.length_drop,List.length_drop];omega);rw[hp2]at uh;obtain⟨row,pI⟩:∃row,row=[Tree.v (.bool s3),.aa false r3,.v (.bool t3),.aa false p3,.v (.int .i64 p.a),.v (.int .i64 p.b),.v (.int .i64 0),.v (.int .i64 0),.v (.int .i64 0),.v (.int .i64 0),.v (.int .i64 0),.v (.int .i64 0)]:=⟨_,rfl⟩
        have da:T2.row ⟨p.c+q.c,p.a,p.b⟩=row:=by rw[pI];unfold T2.row m2;rw[e3];rfl
        have QG:row.length=12:=by rw[pI];rfl
        have u0:aE [row] 0 1=[row]:=by rw[hS.part];rfl
        have u1:a9 0 1 [row]=true:=by rw[hS.fit];rfl
        have u2:zY (ao (ab [row]) 0)=true:=by rw[hS.len,hS.neq,hS.not];rfl
        have u3:aN 12 [row]=true:=by rw[hS.wide];simp[QG]
        have u4:aO len (ab [row]) 128=true:=by rw[hS.len,hS.room];exact decide_eq_true (by unfold az;simp only[List.length_cons,List.length_nil];omega)
        have u5:ao (aJ 0 len) (ab r)=true:=by rw[hS.fH,hS.neq,hS.len,hr,qE,hlen,Nat.zero_add];exact decide_eq_true rfl
        have u6:aJ len (ab [row])=len+1:=by rw[hS.len,hS.fH];rfl
        have u7:bQ r 0 [row]=r ++ [row]:=by rw[hS.ext,List.drop_zero]
        have i1:=i0;have k1:=k0;have jW:∃(iz kz:Nat) (Iz Kz:Int) (Oz:List T2),Iz=iz/\Kz=kz/\iz<=n/\kz<=l/\m-2=(n-iz)+(l-kz)/\Oz.length<=iz+kz/\R=Oz++cN (m-2) (P.drop iz) (Q.drop kz)/\∃nW rz,rz=aV Oz/\nW=Oz.length/\dj X Y (len+1) (r ++ [row]) I' K'=dj X Y nW rz Iz Kz:=⟨i+1,k+1,I',K',O ++ [⟨p.c+q.c,p.a,p.b⟩],by omega,by omega,by omega,by omega,by omega,by first|omega|(rw[List.length_append,List.length_singleton];omega),uh,len+1,r ++ [row],by rw[tW,hr,da],by rw[List.length_append,hlen];rfl,rfl⟩
        subst iW;cbv;refine bT c1 (bF c2 (bT c1 ?_));rw[j1,j2];cbv;refine nd n0 ?_;rw[j3,j4];cbv;refine nd n1 ?_;refine⟨_,hS.call cc,?_⟩;cbv;refine bF d1 ?_;refine bF c4 ?_;rw[j1,j2];cbv;refine nd n0 ?_;rw[j3,j4];cbv;refine nd n1 ?_;refine⟨_,hS.call cc,?_⟩;cbv;refine bF d2 ?_;rw[j1,j2];cbv;refine nd n0 ?_;rw[j3,j4];cbv;refine nd n1 ?_;refine⟨_,hS.call ca,?_⟩;cbv;refine⟨_,hS.call cS,?_⟩
        cbv;refine bT d3 ?_;rw[j1,j2];cbv;refine nd n0 ?_;rw[<-pI,u0];refine nd u1 ?_;refine nd u2 ?_;refine nd u3 ?_;refine nd u4 ?_;refine nd u5 ?_;refine tH [(2,13)] (s':=dj X Y (len+1) (r ++ [row]) I' K') (k:=m-2) ?_ ?_ ?_ ?_ rfl (by show 2<=3;omega) (by omega) jW
        ·simp[aZ,dj,ae,vi,AV.ay,AV.aI,Cell.ay,aq,i1,k1,u6]
        ·simp[a8,dj,ae,Abs.look,aq,aC.ay,Cell.ay,u7]
        ·simp[aF,dj,ae,aq]
        ·simp
end Go.Proofs.YtekefilngojelaaGreat
end
