/- A part. -/
import Derived.Test.YtekefilngojelaaGreatM11
import Derived.Test.YtekefilngojelaaGreatM18
set_option maxHeartbeats 0
set_option maxRecDepth 100000
set_option linter.unusedVariables false
set_option linter.unusedSimpArgs false
section
namespace Go.Proofs.YtekefilngojelaaGreat
open Go Go.Abs Go.Abs.M Go.Proofs
theorem Ik {l:List T2} {i:Nat} {t:T2} (h:l[i]?=some t):(aP l)[i]?=some t.row:=by simp[aP,h]
def T2.cmp (p q:T2):Int:=mU p.a p.b q.a q.b
def bN:Nat->List T2->List T2->List T2
 | 0,_,_=>[]
 | _+1,[],[]=>[]
 | f+1,p::P,[]=>p::bN f P []
 | f+1,[],q::Q=>q::bN f [] Q
 | f+1,p::P,q::Q=>if 0<p.cmp q then p::bN f P (q::Q) else if p.cmp q<0 then q::bN f (p::P) Q else
   if p.c+q.c=0 then bN f P Q else⟨p.c+q.c,p.a,p.b⟩::bN f P Q
theorem mG {a b:Nat} {B:Int}:∀(f:Nat) (P Q:List T2),(∀t∈P,t.ok a B)->(∀t∈Q,t.ok b B)->(bN f P Q).length<=P.length+Q.length/\∀t∈bN f P Q,t.ok (a+b+1) B
 | 0,P,Q,hP,hQ=>⟨by simp[bN],by simp[bN]⟩
 | f+1,[],[],hP,hQ=>⟨by simp[bN],by simp[bN]⟩
 | f+1,p::P,[],hP,hQ=>by
  obtain⟨h1,h2⟩:=mG f P [] (fun t h=>hP t (List.mem_cons_of_mem _ h)) hQ;refine⟨by simp only[bN,List.length_cons]at *;omega,fun t ht=>?_⟩;rcases List.mem_cons.1 ht with rfl|h
  ·exact(hP _ List.mem_cons_self).mono (by omega) (Int.le_refl _)
  ·exact h2 t h
 | f+1,[],q::Q,hP,hQ=>by
  obtain⟨h1,h2⟩:=mG f [] Q hP (fun t h=>hQ t (List.mem_cons_of_mem _ h));refine⟨by simp only[bN,List.length_cons]at *;omega,fun t ht=>?_⟩;rcases List.mem_cons.1 ht with rfl|h
  ·exact(hQ _ List.mem_cons_self).mono (by omega) (Int.le_refl _)
  ·exact h2 t h
 | f+1,p::P,q::Q,hP,hQ=>by
  have gP:=fun t h=>hP t (List.mem_cons_of_mem _ h)
  have gQ:=fun t h=>hQ t (List.mem_cons_of_mem _ h)
  unfold bN;split
  ·obtain⟨h1,h2⟩:=mG f P (q::Q) gP hQ
   refine⟨by simp only[List.length_cons]at *;omega,fun t ht=>?_⟩;rcases List.mem_cons.1 ht with rfl|h
   ·exact(hP _ List.mem_cons_self).mono (by omega) (Int.le_refl _)
   ·exact h2 t h
  ·split
   ·obtain⟨h1,h2⟩:=mG f (p::P) Q hP gQ
    refine⟨by simp only[List.length_cons]at *;omega,fun t ht=>?_⟩;rcases List.mem_cons.1 ht with rfl|h
    ·exact(hQ _ List.mem_cons_self).mono (by omega) (Int.le_refl _)
    ·exact h2 t h
   ·obtain⟨h1,h2⟩:=mG f P Q gP gQ
    split
    ·exact⟨by simp only[List.length_cons]at *;omega,h2⟩
    ·refine⟨by simp only[List.length_cons]at *;omega,fun t ht=>?_⟩
     rcases List.mem_cons.1 ht with rfl|h
     ·have h3:=hP p List.mem_cons_self
      exact⟨Ba h3.c (hQ q List.mem_cons_self).c,h3.a,h3.b⟩
     ·exact h2 t h
theorem iF:∀(P Q:List T2) (f g:Nat),P.length+Q.length<=f->P.length+Q.length<=g->bN g P Q=bN f P Q
 | P,Q,0,0,_,_=>rfl
 | [],[],0,g+1,_,_=>rfl
 | [],[],f+1,0,_,_=>rfl
 | p::P,Q,0,g,h,_=>by simp at h
 | p::P,Q,f,0,_,h=>by simp at h
 | P,q::Q,0,g,h,_=>by simp at h
 | P,q::Q,f,0,_,h=>by simp at h
 | [],[],f+1,g+1,_,_=>rfl
 | p::P,[],f+1,g+1,h,h'=>by simp only[bN];rw[iF P [] f g (by simp at *;omega) (by simp at *;omega)]
 | [],q::Q,f+1,g+1,h,h'=>by simp only[bN];rw[iF [] Q f g (by simp at *;omega) (by simp at *;omega)]
 | p::P,q::Q,f+1,g+1,h,h'=>by
  simp only[bN];rw[iF P (q::Q) f g (by simp at *;omega) (by simp at *;omega),iF (p::P) Q f g (by simp at *;omega) (by simp at *;omega),iF P Q f g (by simp at *;omega) (by simp at *;omega)]
def dm (X Y:Abs.Rows) (len:Nat) (r:Abs.Rows) (I K:Int):St:=ae 109 [.c (.t (.aa false X)),.c (.t (.aa false Y)),.af,.af,.af,.c (.sl 2 0 len false),vi .i64 I,vi .i64 K] [none,none,some (.rows 12 r true false)]
theorem qS (P Q:List T2) {a b:Nat} (hP:∀t∈P,t.ok a 30000) (hQ:∀t∈Q,t.ok b 30000) (hl:P.length<=100) (fM:Q.length<=100) (GA:a+b<=100000) :
  aH 27 [.val (tl (aP P)),.val (tl (aP Q))] ⟨[.val (tl (aP (bN (P.length+Q.length) P Q)))],[none,none]⟩:=by
 obtain⟨X,hX⟩:=aq (aP P);obtain⟨Y,hY⟩:=aq (aP Q);obtain⟨n,hn⟩:=aq (P.length);obtain⟨l,hk⟩:=aq (Q.length);have lX:X.length=n:=by rw[hX,pK,hn]
 have lY:Y.length=l:=by rw[hY,pK,hk]
 obtain⟨R,hR⟩:=aq (bN (P.length+Q.length) P Q);rw[<-hX,<-hY,<-hR];rw[<-hn,<-hk]at hR;obtain⟨T,hT⟩:=aq (aP R);rw[<-hT];refine an ai mixed [.val] Tryz.func27 rfl rfl (by kernel_rfl) fun zD zE _ _ _ _ _ _ _ _ _ _ zT zU zV zX zY _ _ _ _ zu _ zz _ ay aK _ _ aQ _ ab aB _ _ _ _ a9 aD bV _ _ aM _ _ _ _ _ _ _ _ A L F hS hF=>?_
 obtain⟨N,hN,FG⟩:∃N:Int,N=n/\zz (ab X)=N:=⟨_,rfl,by rw[hS.az,hS.len,lX]⟩;obtain⟨M,hM,YQ⟩:∃N:Int,N=l/\zz (ab Y)=N:=⟨_,rfl,by rw[hS.az,hS.len,lY]⟩;cbv;have hN:N=(n:Int):=hN;have hM:M=(l:Int):=hM;refine SD ai mixed hS (fun(m:Nat) s'=>∃(i k:Nat) (I K:Int) (O:List T2),I=i/\K=k/\i<=n/\k<=l/\m=(n-i)+(l-k)/\O.length<=i+k/\R=O++bN m (P.drop i) (Q.drop k)/\∃len r,r=aP O/\len=O.length/\s'=dm X Y len r I K) (n:=n+l) (s0:=dm X Y 0 [] 0 0) (fy ?_ ?_) rfl (by show 2<=3;omega) ?_ ?_
 ·simp[dS,dm,ae,vi,vb]
 ·simp[dU,dm,ae]
 ·exact⟨0,0,0,0,[],rfl,rfl,by omega,by omega,by omega,by simp,by rw[hR];rfl,0,[],rfl,rfl,rfl⟩
 ·rintro m sx ⟨i,k,I,K,O,hI,hK,hi,GG,hm,hO,TR,len,r,hr,hlen,ji⟩
  obtain⟨I',hI',i0⟩:∃I':Int,I'=((i+1:Nat):Int)/\zD .i64 (zE I 1)=I':=⟨I+1,by omega,by rw[hS.add,hS.wrap,wrap_i64 (by omega) (by omega)]⟩;obtain⟨K',hK',k0⟩:∃I':Int,I'=((k+1:Nat):Int)/\zD .i64 (zE K 1)=I':=⟨K+1,by omega,by rw[hS.add,hS.wrap,wrap_i64 (by omega) (by omega)]⟩
  by_cases eU:i=n/\k=l
  ·have c1:zV I (zz (ab X))=false:=by rw[FG,hS.lt];exact decide_eq_false (by omega)
   have c2:zV K (zz (ab Y))=false:=by rw[YQ,hS.lt];exact decide_eq_false (by omega)
   have hrT:r=T:=by
    rw[hT,TR,show m=0 by omega,hr];simp[bN]
   have f1:a9 0 len r=true:=by rw[hS.fit,hr,pK];exact decide_eq_true (by omega)
   have f2:aD r 0 len=T:=by rw[hS.part,List.drop_zero,List.take_of_length_le (by rw[hr,pK];omega),hrT]
   subst ji;cbv;refine bF c1 (bF c2 (nd f1 ?_));rw[f2];exact aC hF
  ·have GN:m-1<m:=by omega
   obtain⟨m',UP⟩:∃m',m=m'+1:=⟨m-1,by omega⟩
   by_cases hki:k=l
   ·obtain⟨p,hp⟩:∃p,P[i]?=some p:=⟨_,List.getElem?_eq_getElem (by omega)⟩
    have Ry:P.drop i=p::P.drop (i+1):=List.drop_eq_getElem_cons (by omega) |>.trans (by rw[show P[i]'(by omega)=p from Option.some.inj ((List.getElem?_eq_getElem (by omega)).symm.trans hp)])
    have TT:Q.drop k=[]:=List.drop_of_length_le (by omega);have uq:R=(O ++ [p])++bN (m-1) (P.drop (i+1)) (Q.drop k):=by
     rw[TR,UP,Ry,TT,Nat.add_sub_cancel];simp[bN]
    obtain⟨s1,t1,r1,p1,e1,_⟩:=bX p.c;obtain⟨row,pS⟩:=aq ([Tree.v (.bool s1),.aa false r1,.v (.bool t1),.aa false p1,.v (.int .i64 p.a),.v (.int .i64 p.b),.v (.int .i64 0),.v (.int .i64 0),.v (.int .i64 0),.v (.int .i64 0),.v (.int .i64 0),.v (.int .i64 0)]);have dk:p.row=row:=by rw[pS];unfold T2.row m2;rw[e1];rfl
    have hXi:X[i]?=some [Tree.v (.bool s1),.aa false r1,.v (.bool t1),.aa false p1,.v (.int .i64 p.a),.v (.int .i64 p.b),.v (.int .i64 0),.v (.int .i64 0),.v (.int .i64 0),.v (.int .i64 0),.v (.int .i64 0),.v (.int .i64 0)]:=by rw[hX,Ik hp,dk,pS]
    have Qn:row.length=12:=by rw[pS];rfl
    have u0:aD [row] 0 1=[row]:=by rw[hS.part];rfl
    have u1:a9 0 1 [row]=true:=by rw[hS.fit];rfl
    have u2:zY (ay (ab [row]) 0)=true:=by rw[hS.len,hS.neq,hS.not];rfl
    have u3:aM 12 [row]=true:=by rw[hS.wide];simp[Qn]
    have u4:aQ len (ab [row]) 128=true:=by rw[hS.len,hS.room];exact decide_eq_true (by unfold au;simp only[List.length_cons,List.length_nil];omega)
    have u5:ay (aK 0 len) (ab r)=true:=by rw[hS.fN,hS.neq,hS.len,hr,pK,hlen,Nat.zero_add];exact decide_eq_true rfl
    have u6:aK len (ab [row])=len+1:=by rw[hS.len,hS.fN];rfl
    have u7:bV r 0 [row]=r ++ [row]:=by rw[hS.ext,List.drop_zero]
    have i1:=i0;have k1:K=K:=rfl;have j7:∃(iz kz:Nat) (Iz Kz:Int) (Oz:List T2),Iz=iz/\Kz=kz/\iz<=n/\kz<=l/\m-1=(n-iz)+(l-kz)/\Oz.length<=iz+kz/\R=Oz++bN (m-1) (P.drop iz) (Q.drop kz)/\∃od rz,rz=aP Oz/\od=Oz.length/\dm X Y (len+1) (r ++ [row]) I' K=dm X Y od rz Iz Kz:=⟨i+1,k,I',K,O ++ [p],by omega,by omega,by omega,by omega,by omega,by first|omega|(rw[List.length_append,List.length_singleton];omega),uq,len+1,r ++ [row],by rw[ue,hr,dk],by rw[List.length_append,hlen];rfl,rfl⟩
    have c1:zV I (zz (ab X))=true:=by rw[FG,hS.lt];exact decide_eq_true (by omega)
    have c2:zT K (zz (ab Y))=true:=by rw[YQ,hS.eq];exact decide_eq_true (by omega)
    have j1:zu I=i:=by rw[hS.nat];omega
    have j2:aB X i=some [Tree.v (.bool s1),.aa false r1,.v (.bool t1),.aa false p1,.v (.int .i64 p.a),.v (.int .i64 p.b),.v (.int .i64 0),.v (.int .i64 0),.v (.int .i64 0),.v (.int .i64 0),.v (.int .i64 0),.v (.int .i64 0)]:=by rw[hS.nth];exact hXi
    have n0:zX 0 I=true:=dT (hS.le ..) (by omega);subst ji;cbv;refine bT c1 (bT c2 ?_);rw[j1,j2];cbv;apply nd n0;rw[<-pS,u0];apply nd u1;apply nd u2;apply nd u3;apply nd u4;apply nd u5;refine tP [(2,6)] (s':=dm X Y (len+1) (r ++ [row]) I' K) (k:=m-1) ?_ ?_ ?_ ?_ rfl (by show 2<=3;omega) GN j7
    ·simp[bd,dm,ae,vi,AV.aw,AV.aJ,Cell.aw,ak,i1,k1,u6]
    ·simp[bf,dm,ae,Abs.look,ak,aA.aw,Cell.aw,u7]
    ·simp[aF,dm,ae,ak]
    ·simp
   ·obtain⟨q,hq⟩:∃q,Q[k]?=some q:=⟨_,List.getElem?_eq_getElem (by omega)⟩
    have TT:Q.drop k=q::Q.drop (k+1):=List.drop_eq_getElem_cons (by omega) |>.trans (by rw[show Q[k]'(by omega)=q from Option.some.inj ((List.getElem?_eq_getElem (by omega)).symm.trans hq)])
    obtain⟨s2,t2,r2,p2,e2,_⟩:=bX q.c;have NO:q.row=[Tree.v (.bool s2),.aa false r2,.v (.bool t2),.aa false p2,.v (.int .i64 q.a),.v (.int .i64 q.b),.v (.int .i64 0),.v (.int .i64 0),.v (.int .i64 0),.v (.int .i64 0),.v (.int .i64 0),.v (.int .i64 0)]:=by unfold T2.row m2;rw[e2];rfl
    have hYk:Y[k]?=some [Tree.v (.bool s2),.aa false r2,.v (.bool t2),.aa false p2,.v (.int .i64 q.a),.v (.int .i64 q.b),.v (.int .i64 0),.v (.int .i64 0),.v (.int .i64 0),.v (.int .i64 0),.v (.int .i64 0),.v (.int .i64 0)]:=by rw[hY,Ik hq,NO]
    have j3:zu K=k:=by rw[hS.nat];omega
    have j4:aB Y k=some [Tree.v (.bool s2),.aa false r2,.v (.bool t2),.aa false p2,.v (.int .i64 q.a),.v (.int .i64 q.b),.v (.int .i64 0),.v (.int .i64 0),.v (.int .i64 0),.v (.int .i64 0),.v (.int .i64 0),.v (.int .i64 0)]:=by rw[hS.nth];exact hYk
    have n1:zX 0 K=true:=dT (hS.le ..) (by omega);have c2:zT K (zz (ab Y))=false:=by rw[YQ,hS.eq];exact decide_eq_false (by omega)
    by_cases jc:i=n
    ·have Ry:P.drop i=[]:=List.drop_of_length_le (by omega)
     have uq:R=(O ++ [q])++bN (m-1) (P.drop i) (Q.drop (k+1)):=by
      rw[TR,UP,Ry,TT,Nat.add_sub_cancel];simp[bN]
     obtain⟨row,pS⟩:=aq ([Tree.v (.bool s2),.aa false r2,.v (.bool t2),.aa false p2,.v (.int .i64 q.a),.v (.int .i64 q.b),.v (.int .i64 0),.v (.int .i64 0),.v (.int .i64 0),.v (.int .i64 0),.v (.int .i64 0),.v (.int .i64 0)]);have dk:q.row=row:=NO.trans pS.symm;have Qn:row.length=12:=by rw[pS];rfl
     have u0:aD [row] 0 1=[row]:=by rw[hS.part];rfl
     have u1:a9 0 1 [row]=true:=by rw[hS.fit];rfl
     have u2:zY (ay (ab [row]) 0)=true:=by rw[hS.len,hS.neq,hS.not];rfl
     have u3:aM 12 [row]=true:=by rw[hS.wide];simp[Qn]
     have u4:aQ len (ab [row]) 128=true:=by rw[hS.len,hS.room];exact decide_eq_true (by unfold au;simp only[List.length_cons,List.length_nil];omega)
     have u5:ay (aK 0 len) (ab r)=true:=by rw[hS.fN,hS.neq,hS.len,hr,pK,hlen,Nat.zero_add];exact decide_eq_true rfl
     have u6:aK len (ab [row])=len+1:=by rw[hS.len,hS.fN];rfl
     have u7:bV r 0 [row]=r ++ [row]:=by rw[hS.ext,List.drop_zero]
     have i1:I=I:=rfl;have k1:=k0;have j7:∃(iz kz:Nat) (Iz Kz:Int) (Oz:List T2),Iz=iz/\Kz=kz/\iz<=n/\kz<=l/\m-1=(n-iz)+(l-kz)/\Oz.length<=iz+kz/\R=Oz++bN (m-1) (P.drop iz) (Q.drop kz)/\∃od rz,rz=aP Oz/\od=Oz.length/\dm X Y (len+1) (r ++ [row]) I K'=dm X Y od rz Iz Kz:=⟨i,k+1,I,K',O ++ [q],by omega,by omega,by omega,by omega,by omega,by first|omega|(rw[List.length_append,List.length_singleton];omega),uq,len+1,r ++ [row],by rw[ue,hr,dk],by rw[List.length_append,hlen];rfl,rfl⟩
     have c1:zV I (zz (ab X))=false:=by rw[FG,hS.lt];exact decide_eq_false (by omega)
     have c3:zV K (zz (ab Y))=true:=by rw[YQ,hS.lt];exact decide_eq_true (by omega)
     have c4:zT I (zz (ab X))=true:=by rw[FG,hS.eq];exact decide_eq_true (by omega)
     subst ji;cbv;refine bF c1 (bT c3 (bF c2 (bF c1 (bT c4 ?_))));rw[j3,j4];cbv;apply nd n1;rw[<-pS,u0];apply nd u1;apply nd u2;apply nd u3;apply nd u4;apply nd u5;refine tP [(2,8)] (s':=dm X Y (len+1) (r ++ [row]) I K') (k:=m-1) ?_ ?_ ?_ ?_ rfl (by show 2<=3;omega) GN j7
     ·simp[bd,dm,ae,vi,AV.aw,AV.aJ,Cell.aw,ak,i1,k1,u6]
     ·simp[bf,dm,ae,Abs.look,ak,aA.aw,Cell.aw,u7]
     ·simp[aF,dm,ae,ak]
     ·simp
    ·obtain⟨p,hp⟩:∃p,P[i]?=some p:=⟨_,List.getElem?_eq_getElem (by omega)⟩
     have Ry:P.drop i=p::P.drop (i+1):=List.drop_eq_getElem_cons (by omega) |>.trans (by rw[show P[i]'(by omega)=p from Option.some.inj ((List.getElem?_eq_getElem (by omega)).symm.trans hp)])
     obtain⟨s1,t1,r1,p1,e1,_⟩:=bX p.c;have Rz:p.row=[Tree.v (.bool s1),.aa false r1,.v (.bool t1),.aa false p1,.v (.int .i64 p.a),.v (.int .i64 p.b),.v (.int .i64 0),.v (.int .i64 0),.v (.int .i64 0),.v (.int .i64 0),.v (.int .i64 0),.v (.int .i64 0)]:=by unfold T2.row m2;rw[e1];rfl
     have hXi:X[i]?=some [Tree.v (.bool s1),.aa false r1,.v (.bool t1),.aa false p1,.v (.int .i64 p.a),.v (.int .i64 p.b),.v (.int .i64 0),.v (.int .i64 0),.v (.int .i64 0),.v (.int .i64 0),.v (.int .i64 0),.v (.int .i64 0)]:=by rw[hX,Ik hp,Rz]
     have j1:zu I=i:=by rw[hS.nat];omega
     have j2:aB X i=some [Tree.v (.bool s1),.aa false r1,.v (.bool t1),.aa false p1,.v (.int .i64 p.a),.v (.int .i64 p.b),.v (.int .i64 0),.v (.int .i64 0),.v (.int .i64 0),.v (.int .i64 0),.v (.int .i64 0),.v (.int .i64 0)]:=by rw[hS.nth];exact hXi
     have n0:zX 0 I=true:=dT (hS.le ..) (by omega);have c1:zV I (zz (ab X))=true:=by rw[FG,hS.lt];exact decide_eq_true (by omega)
     have c4:zT I (zz (ab X))=false:=by rw[FG,hS.eq];exact decide_eq_false (by omega)
     obtain⟨C,hC⟩:=aq (p.cmp q);have cc:=tS p.a p.b q.a q.b;change eP _ _ _ ⟨[.val (ti .i64 (p.cmp q))],_⟩ at cc;rw[<-hC]at cc;unfold m2 at cc
     by_cases UQ:0<C
     ·have d1:zV 0 C=true:=dT (hS.lt ..) UQ
      have uq:R=(O ++ [p])++bN (m-1) (P.drop (i+1)) (Q.drop k):=by
       rw[TR,UP,Ry,TT,Nat.add_sub_cancel];simp[bN,<-hC,UQ]
      obtain⟨row,pS⟩:=aq ([Tree.v (.bool s1),.aa false r1,.v (.bool t1),.aa false p1,.v (.int .i64 p.a),.v (.int .i64 p.b),.v (.int .i64 0),.v (.int .i64 0),.v (.int .i64 0),.v (.int .i64 0),.v (.int .i64 0),.v (.int .i64 0)]);have dk:p.row=row:=Rz.trans pS.symm;have Qn:row.length=12:=by rw[pS];rfl
      have u0:aD [row] 0 1=[row]:=by rw[hS.part];rfl
      have u1:a9 0 1 [row]=true:=by rw[hS.fit];rfl
      have u2:zY (ay (ab [row]) 0)=true:=by rw[hS.len,hS.neq,hS.not];rfl
      have u3:aM 12 [row]=true:=by rw[hS.wide];simp[Qn]
      have u4:aQ len (ab [row]) 128=true:=by rw[hS.len,hS.room];exact decide_eq_true (by unfold au;simp only[List.length_cons,List.length_nil];omega)
      have u5:ay (aK 0 len) (ab r)=true:=by rw[hS.fN,hS.neq,hS.len,hr,pK,hlen,Nat.zero_add];exact decide_eq_true rfl
      have u6:aK len (ab [row])=len+1:=by rw[hS.len,hS.fN];rfl
      have u7:bV r 0 [row]=r ++ [row]:=by rw[hS.ext,List.drop_zero]
      have i1:=i0;have k1:K=K:=rfl;have j7:∃(iz kz:Nat) (Iz Kz:Int) (Oz:List T2),Iz=iz/\Kz=kz/\iz<=n/\kz<=l/\m-1=(n-iz)+(l-kz)/\Oz.length<=iz+kz/\R=Oz++bN (m-1) (P.drop iz) (Q.drop kz)/\∃od rz,rz=aP Oz/\od=Oz.length/\dm X Y (len+1) (r ++ [row]) I' K=dm X Y od rz Iz Kz:=⟨i+1,k,I',K,O ++ [p],by omega,by omega,by omega,by omega,by omega,by first|omega|(rw[List.length_append,List.length_singleton];omega),uq,len+1,r ++ [row],by rw[ue,hr,dk],by rw[List.length_append,hlen];rfl,rfl⟩
      subst ji;cbv;refine bT c1 (bF c2 (bT c1 ?_));rw[j1,j2];cbv;apply nd n0;rw[j3,j4];cbv;apply nd n1;refine hS.cl cc ?_;cbv;apply bT d1;rw[j1,j2];cbv;apply nd n0;rw[<-pS,u0];apply nd u1;apply nd u2;apply nd u3;apply nd u4;apply nd u5;refine tP [(2,6)] (s':=dm X Y (len+1) (r ++ [row]) I' K) (k:=m-1) ?_ ?_ ?_ ?_ rfl (by show 2<=3;omega) GN j7
      ·simp[bd,dm,ae,vi,AV.aw,AV.aJ,Cell.aw,ak,i1,k1,u6]
      ·simp[bf,dm,ae,Abs.look,ak,aA.aw,Cell.aw,u7]
      ·simp[aF,dm,ae,ak]
      ·simp
     ·have d1:zV 0 C=false:=dF (hS.lt ..) UQ
      by_cases Xh:C<0
      ·have d2:zV C 0=true:=dT (hS.lt ..) Xh
       have uq:R=(O ++ [q])++bN (m-1) (P.drop i) (Q.drop (k+1)):=by
        rw[TR,UP,Ry,TT,Nat.add_sub_cancel];simp[bN,<-hC,UQ,Xh]
       obtain⟨row,pS⟩:=aq ([Tree.v (.bool s2),.aa false r2,.v (.bool t2),.aa false p2,.v (.int .i64 q.a),.v (.int .i64 q.b),.v (.int .i64 0),.v (.int .i64 0),.v (.int .i64 0),.v (.int .i64 0),.v (.int .i64 0),.v (.int .i64 0)]);have dk:q.row=row:=NO.trans pS.symm;have Qn:row.length=12:=by rw[pS];rfl
       have u0:aD [row] 0 1=[row]:=by rw[hS.part];rfl
       have u1:a9 0 1 [row]=true:=by rw[hS.fit];rfl
       have u2:zY (ay (ab [row]) 0)=true:=by rw[hS.len,hS.neq,hS.not];rfl
       have u3:aM 12 [row]=true:=by rw[hS.wide];simp[Qn]
       have u4:aQ len (ab [row]) 128=true:=by rw[hS.len,hS.room];exact decide_eq_true (by unfold au;simp only[List.length_cons,List.length_nil];omega)
       have u5:ay (aK 0 len) (ab r)=true:=by rw[hS.fN,hS.neq,hS.len,hr,pK,hlen,Nat.zero_add];exact decide_eq_true rfl
       have u6:aK len (ab [row])=len+1:=by rw[hS.len,hS.fN];rfl
       have u7:bV r 0 [row]=r ++ [row]:=by rw[hS.ext,List.drop_zero]
       have i1:I=I:=rfl;have k1:=k0;have j7:∃(iz kz:Nat) (Iz Kz:Int) (Oz:List T2),Iz=iz/\Kz=kz/\iz<=n/\kz<=l/\m-1=(n-iz)+(l-kz)/\Oz.length<=iz+kz/\R=Oz++bN (m-1) (P.drop iz) (Q.drop kz)/\∃od rz,rz=aP Oz/\od=Oz.length/\dm X Y (len+1) (r ++ [row]) I K'=dm X Y od rz Iz Kz:=⟨i,k+1,I,K',O ++ [q],by omega,by omega,by omega,by omega,by omega,by first|omega|(rw[List.length_append,List.length_singleton];omega),uq,len+1,r ++ [row],by rw[ue,hr,dk],by rw[List.length_append,hlen];rfl,rfl⟩
       subst ji;cbv;refine bT c1 (bF c2 (bT c1 ?_));rw[j1,j2];cbv;apply nd n0;rw[j3,j4];cbv;apply nd n1;refine hS.cl cc ?_;cbv;apply bF d1;apply bF c4;rw[j1,j2];cbv;apply nd n0;rw[j3,j4];cbv;apply nd n1;refine hS.cl cc ?_;cbv;apply bT d2;rw[j3,j4];cbv;apply nd n1;rw[<-pS,u0];apply nd u1;apply nd u2;apply nd u3;apply nd u4;apply nd u5;refine tP [(2,8)] (s':=dm X Y (len+1) (r ++ [row]) I K') (k:=m-1) ?_ ?_ ?_ ?_ rfl (by show 2<=3;omega) GN j7
       ·simp[bd,dm,ae,vi,AV.aw,AV.aJ,Cell.aw,ak,i1,k1,u6]
       ·simp[bf,dm,ae,Abs.look,ak,aA.aw,Cell.aw,u7]
       ·simp[aF,dm,ae,ak]
       ·simp
      ·have d2:zV C 0=false:=dF (hS.lt ..) Xh
       have hp1:=(hP p (List.mem_of_getElem? hp)).c;have Wa:=(hQ q (List.mem_of_getElem? hq)).c;obtain⟨qa,ca⟩:=ud hp1 Wa (by omega);obtain⟨S,z1,z2,cS⟩:=Ld (p.c+q.c);have hz:S=0↔p.c+q.c=0:=by
        constructor
        ·intro h
         have f1:¬p.c+q.c<0:=fun h'=>by have:=z1.2 h';omega
         have f2:¬0<p.c+q.c:=fun h'=>by have:=z2.2 h';omega
         exact Rat.le_antisymm (Rat.not_lt.1 f2) (Rat.not_lt.1 f1)
        ·intro h
         have f1:¬S<0:=fun h'=>by have:=z1.1 h';rw[h]at this;exact Rat.lt_irrefl this
         have f2:¬0<S:=fun h'=>by have:=z2.1 h';rw[h]at this;exact Rat.lt_irrefl this
         omega
       obtain⟨s3,t3,r3,p3,e3,_⟩:=bX (p.c+q.c);rw[e1,e2,e3]at ca;rw[e3]at cS
       by_cases h0:p.c+q.c=0
       ·have d3:zU S 0=false:=dF (hS.ne ..) (by simp[hz.2 h0])
        have uq:R=O++bN (m-1) (P.drop (i+1)) (Q.drop (k+1)):=by
         rw[TR,UP,Ry,TT,Nat.add_sub_cancel];simp[bN,<-hC,UQ,Xh,h0]
        obtain⟨m'',agP⟩:∃x,m=x+2:=⟨m-2,by omega⟩;have hp2:bN (m-1) (P.drop (i+1)) (Q.drop (k+1))=bN (m-2) (P.drop (i+1)) (Q.drop (k+1)):=iF _ _ (m-2) (m-1) (by rw[List.length_drop,List.length_drop];omega) (by rw[List.length_drop,List.length_drop];omega);rw[hp2]at uq;have i1:=i0;have k1:=k0;have j7:∃(iz kz:Nat) (Iz Kz:Int) (Oz:List T2),Iz=iz/\Kz=kz/\iz<=n/\kz<=l/\m-2=(n-iz)+(l-kz)/\Oz.length<=iz+kz/\R=Oz++bN (m-2) (P.drop iz) (Q.drop kz)/\∃od rz,rz=aP Oz/\od=Oz.length/\dm X Y len r I' K'=dm X Y od rz Iz Kz:=⟨i+1,k+1,I',K',O,by omega,by omega,by omega,by omega,by omega,by first|omega|(rw[List.length_append,List.length_singleton];omega),uq,len,r,hr,hlen,rfl⟩
        subst ji;cbv;refine bT c1 (bF c2 (bT c1 ?_));rw[j1,j2];cbv;apply nd n0;rw[j3,j4];cbv;apply nd n1;refine hS.cl cc ?_;cbv;apply bF d1;apply bF c4;rw[j1,j2];cbv;apply nd n0;rw[j3,j4];cbv;apply nd n1;refine hS.cl cc ?_;cbv;apply bF d2;rw[j1,j2];cbv;apply nd n0;rw[j3,j4];cbv;apply nd n1;refine hS.cl ca ?_;cbv;refine hS.cl cS ?_;cbv;apply bF d3;refine tP [(2,2)] (s':=dm X Y len r I' K') (k:=m-2) ?_ ?_ ?_ ?_ rfl (by show 2<=3;omega) (by omega) j7
        ·simp[bd,dm,ae,vi,AV.aw,AV.aJ,Cell.aw,ak,i1,k1]
        ·simp[bf,dm,ae,Abs.look,ak,aA.aw,Cell.aw]
        ·simp[aF,dm,ae,ak]
        ·simp
       ·have d3:zU S 0=true:=dT (hS.ne ..) (fun h=>h0 (hz.1 h))
        have uq:R=(O ++ [⟨p.c+q.c,p.a,p.b⟩])++bN (m-1) (P.drop (i+1)) (Q.drop (k+1)):=by
         rw[TR,UP,Ry,TT,Nat.add_sub_cancel];simp[bN,<-hC,UQ,Xh,h0]
        have hp2:bN (m-1) (P.drop (i+1)) (Q.drop (k+1))=bN (m-2) (P.drop (i+1)) (Q.drop (k+1)):=iF _ _ (m-2) (m-1) (by rw[List.length_drop,List.length_drop];omega) (by rw[List.length_drop,List.length_drop];omega);rw[hp2]at uq;obtain⟨row,pS⟩:=aq ([Tree.v (.bool s3),.aa false r3,.v (.bool t3),.aa false p3,.v (.int .i64 p.a),.v (.int .i64 p.b),.v (.int .i64 0),.v (.int .i64 0),.v (.int .i64 0),.v (.int .i64 0),.v (.int .i64 0),.v (.int .i64 0)])
        have dk:T2.row ⟨p.c+q.c,p.a,p.b⟩=row:=by rw[pS];unfold T2.row m2;rw[e3];rfl
        have Qn:row.length=12:=by rw[pS];rfl
        have u0:aD [row] 0 1=[row]:=by rw[hS.part];rfl
        have u1:a9 0 1 [row]=true:=by rw[hS.fit];rfl
        have u2:zY (ay (ab [row]) 0)=true:=by rw[hS.len,hS.neq,hS.not];rfl
        have u3:aM 12 [row]=true:=by rw[hS.wide];simp[Qn]
        have u4:aQ len (ab [row]) 128=true:=by rw[hS.len,hS.room];exact decide_eq_true (by unfold au;simp only[List.length_cons,List.length_nil];omega)
        have u5:ay (aK 0 len) (ab r)=true:=by rw[hS.fN,hS.neq,hS.len,hr,pK,hlen,Nat.zero_add];exact decide_eq_true rfl
        have u6:aK len (ab [row])=len+1:=by rw[hS.len,hS.fN];rfl
        have u7:bV r 0 [row]=r ++ [row]:=by rw[hS.ext,List.drop_zero]
        have i1:=i0;have k1:=k0;have j7:∃(iz kz:Nat) (Iz Kz:Int) (Oz:List T2),Iz=iz/\Kz=kz/\iz<=n/\kz<=l/\m-2=(n-iz)+(l-kz)/\Oz.length<=iz+kz/\R=Oz++bN (m-2) (P.drop iz) (Q.drop kz)/\∃od rz,rz=aP Oz/\od=Oz.length/\dm X Y (len+1) (r ++ [row]) I' K'=dm X Y od rz Iz Kz:=⟨i+1,k+1,I',K',O ++ [⟨p.c+q.c,p.a,p.b⟩],by omega,by omega,by omega,by omega,by omega,by first|omega|(rw[List.length_append,List.length_singleton];omega),uq,len+1,r ++ [row],by rw[ue,hr,dk],by rw[List.length_append,hlen];rfl,rfl⟩
        subst ji;cbv;refine bT c1 (bF c2 (bT c1 ?_));rw[j1,j2];cbv;apply nd n0;rw[j3,j4];cbv;apply nd n1;refine hS.cl cc ?_;cbv;apply bF d1;apply bF c4;rw[j1,j2];cbv;apply nd n0;rw[j3,j4];cbv;apply nd n1;refine hS.cl cc ?_;cbv;apply bF d2;rw[j1,j2];cbv;apply nd n0;rw[j3,j4];cbv;apply nd n1;refine hS.cl ca ?_;cbv;refine hS.cl cS ?_;cbv;apply bT d3;rw[j1,j2];cbv;apply nd n0
        rw[<-pS,u0];apply nd u1;apply nd u2;apply nd u3;apply nd u4;apply nd u5;refine tP [(2,13)] (s':=dm X Y (len+1) (r ++ [row]) I' K') (k:=m-2) ?_ ?_ ?_ ?_ rfl (by show 2<=3;omega) (by omega) j7
        ·simp[bd,dm,ae,vi,AV.aw,AV.aJ,Cell.aw,ak,i1,k1,u6]
        ·simp[bf,dm,ae,Abs.look,ak,aA.aw,Cell.aw,u7]
        ·simp[aF,dm,ae,ak]
        ·simp
end Go.Proofs.YtekefilngojelaaGreat
end
