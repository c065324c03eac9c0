/- A part of the proof. -/
import Derived.Test.YtekefilngojelaaGreatM11
set_option maxHeartbeats 0
set_option maxRecDepth 100000
set_option linter.unusedVariables false
set_option linter.unusedSimpArgs false
section
namespace Go.Proofs.YtekefilngojelaaGreat
open Go Go.Abs Go.Abs.M Go.Proofs
theorem Bj {x y:Rat} (h1:Qs x 1000000):ah Tryz.prog 127 [.val (.agg (qc x).row),.val (.agg (qc y).row)] ⟨[.val (tb (decide (x=y)))],[none,none]⟩:=
 FX _ (fJ x) (fJ y) (by simp) (h1.mono (by omega))
theorem F9 {x y:Rat} (h1:Qs x 1000000) (h2:Qs y 1000000):ah Tryz.prog 99 [.val (.agg (qc x).row),.val (.agg (qc y).row)] ⟨[.val (ti .i64 (jh x y))],[none,none]⟩:=
 HX _ (fJ x) (fJ y) rfl (h1.mono (by omega)) (h2.mono (by omega))
theorem RE {x:Rat} (h:Qs x 1000000):ah Tryz.prog 122 [.val (.agg (qc x).row)] ⟨[.val (tb true)],[none]⟩:=
 rN true ⟨fun _=>Ni x,fun _=>rfl⟩ (jo _) (jo _) (show nl x.num.natAbs<=_ from by have:=h.1;omega) (show nl (x.den:Int).natAbs<=_ from by rw[Int.natAbs_natCast];have:=h.2;omega)
theorem tX (q:Rat):ah Tryz.prog 62 [.val (.agg (qc q).row)] ⟨[.val (ti .i64 (bC q.num 0))],[none]⟩:=jX _ (fJ q).n rfl
deriving instance DecidableEq for T2
theorem tY {t u:T2}:t=u↔t.c=u.c/\t.a=u.a/\t.b=u.b:=by
 obtain⟨c,a,b⟩:=t;obtain⟨d,e,f⟩:=u;simp
theorem H2 (t u:T2) (ht:Qs t.c 1000):ah Tryz.prog 93 [.val (.agg t.row),.val (.agg u.row)] ⟨[.val (tb (decide (t=u)))],[none,none]⟩:=by
 have cs:=Bj (x:=t.c) (y:=u.c) (ht.mono (by omega));obtain⟨s1,v1,r1,p1,e1,w1⟩:=xB t;obtain⟨s2,v2,r2,p2,e2,w2⟩:=xB u;rw[e1,e2]at cs;rw[w1,w2];obtain⟨B,hB⟩:∃B,B=decide (t.c=u.c):=⟨_,rfl⟩;rw[<-hB]at cs;obtain⟨D,hD⟩:∃B,B=decide (t=u):=⟨_,rfl⟩;rw[<-hD];unfold nO;have hT:t.a=u.a/\t.b=u.b->B=D:=fun h=>by rw[hB,hD,decide_eq_decide,tY];exact⟨fun e=>⟨e,h⟩,fun e=>e.1⟩
 have hE:¬(t.a=u.a/\t.b=u.b)->false=D:=fun h=>by rw[hD];exact(decide_eq_false fun e=>h (tY.1 e).2).symm
 generalize t.a=a,t.b=b,u.a=c,u.b=d at *;refine ar aj mixed [.val] Tryz.func93 rfl rfl (by kernel_rfl) ?_;intros;rename_i zT _ _ _ _ _ _ _ _ _ _ _ _ _ _ _ _ _ _ _ _ _ _ _ _ _ _ _ _ _ _ _ _ _ _ _ _ _ _ A L F hS hF;have z0:zT 0 0=true:=by rw[hS.eq];rfl
 cbv
 by_cases h:a=c/\b=d
 ·have z1:zT a c=true:=by rw[hS.eq];exact decide_eq_true h.1
  have z2:zT b d=true:=by rw[hS.eq];exact decide_eq_true h.2
  refine bT (by rw[z0,z1,z2]) ?_;refine⟨_,hS.call cs,?_⟩;cbv;exact bn hF (jz (hT h))
 ·refine bF ?_ (bn hF (jz (hE h)))
  by_cases h1:a=c
  ·have z1:zT a c=true:=by rw[hS.eq];exact decide_eq_true h1
   have z2:zT b d=false:=by rw[hS.eq];exact decide_eq_false fun e=>h ⟨h1,e⟩
   rw[z1,z2]
  ·have z1:zT a c=false:=by rw[hS.eq];exact decide_eq_false h1
   rw[z1]
def Bk (X Y:Abs.Rows) (I:Int):St:=ae 27 [.c (.t (.aa false X)),.c (.t (.aa false Y)),.af,.af,vb false,vi .i64 I] [none,none]
theorem uR (l k:List T2) (hl:∀t∈l,t.ok 1000 30000) (hn:l.length<=1000) (hk:k.length<=1000):ah Tryz.prog 56 [.val (tl (aV l)),.val (tl (aV k))] ⟨[.val (tb (decide (l=k)))],[none,none]⟩:=by
 obtain⟨X,hX⟩:∃X,X=aV l:=⟨_,rfl⟩;obtain⟨Y,hY⟩:∃X,X=aV k:=⟨_,rfl⟩;obtain⟨n,fD⟩:∃n,n=l.length:=⟨_,rfl⟩;obtain⟨D,hD⟩:∃B,B=decide (l=k):=⟨_,rfl⟩;have lX:X.length=n:=by rw[hX,qE,fD]
 have lY:Y.length=k.length:=by rw[hY,qE]
 rw[<-hX,<-hY,<-hD];refine ar aj mixed [.val] Tryz.func56 rfl rfl (by kernel_rfl) ?_;intros;rename_i zU _ _ zY _ _ _ _ _ _ zz _ _ _ _ _ _ _ ab aD _ _ _ _ _ _ _ _ _ _ _ _ _ _ _ _ _ _ A L F hS hF;have lE:=hS.eU lX;cbv
 by_cases RF:n=k.length
 ·have z:zU (zz (ab X)) (zz (ab Y))=false:=by rw[hS.ne,hS.aB,hS.aB,hS.len,hS.len,lX,lY,RF];simp
  refine bF z ?_;refine nA aj mixed hS (n:=n) (fun i (d:Unit)=>Bk X Y (Int.ofNat i)) (fun i d=>l.take i=k.take i) (a0:=()) (fi ?_ ?_) rfl (Nat.le_refl 2) rfl ?_ ?_
  ·simp[dO,Bk,ae,vi,vb]
  ·simp[dP,Bk,ae]
  ·intro i d hi hd
   obtain⟨l1,i1,j1,n0⟩:=hS.gC lX hi (by omega);obtain⟨t,s,v,r,p,ht,gt,_,hr,wt,eC,_⟩:=iN (l:=l) (i:=i) (by omega);obtain⟨u,s2,v2,r2,p2,hu,gu,_,js,wu,Tz,_⟩:=iN (l:=k) (i:=i) (by omega);have j2:aD X i=some (nO s r v p t.a t.b):=by rw[hS.nth,hX];exact hr
   have j3:aD Y i=some (nO s2 r2 v2 p2 u.a u.b):=by rw[hS.nth,hY];exact js
   have cs:=H2 t u (hl t ht).c;rw[wt,wu]at cs
   by_cases Jy:t=u
   ·rw[decide_eq_true Jy]at cs
    have hR:l.take (i+1)=k.take (i+1):=by rw[eC,Tz,hd,Jy]
    have y:zY true=false:=by rw[hS.not];rfl
    generalize t.a=a,t.b=b,u.a=a2,u.b=b2 at *;unfold nO at cs;cbv;refine bT l1 ?_;rw[j1,j2];cbv;refine nd n0 ?_;rw[j1,j3];cbv;refine nd n0 ?_;refine⟨_,hS.call cs,?_⟩;cbv;refine bF y ?_;refine aQ [] () ?_ ?_ ?_ ?_ rfl (Nat.le_refl 2) hR
    ·simp[aZ,Bk,ae,vi,vb,AV.ay,AV.aI,Cell.ay,i1]
    ·simp[a8,Bk,ae]
    ·simp[aF,Bk,ae]
    ·simp
   ·rw[decide_eq_false Jy]at cs
    have y:zY false=true:=by rw[hS.not];rfl
    have Nx:false=D:=by
     rw[hD];exact(decide_eq_false fun e=>Jy (by rw[e,gu]at gt;exact(Option.some.inj gt).symm)).symm
    generalize t.a=a,t.b=b,u.a=a2,u.b=b2 at *;unfold nO at cs;cbv;refine bT l1 ?_;rw[j1,j2];cbv;refine nd n0 ?_;rw[j1,j3];cbv;refine nd n0 ?_;refine⟨_,hS.call cs,?_⟩;cbv;refine bT y ?_;exact bn hF (jz Nx)
  ·intro d hd
   have WW:true=D:=by
    rw[hD];refine(decide_eq_true ?_).symm;rw[List.take_of_length_le (by omega),List.take_of_length_le (by omega)]at hd;exact hd
   cbv;refine bF lE ?_;exact bn hF (jz WW)
 ·have z:zU (zz (ab X)) (zz (ab Y))=true:=by rw[hS.ne,hS.aB,hS.aB,hS.len,hS.len,lX,lY];exact decide_eq_true (by omega)
  have Nx:false=D:=by rw[hD];exact(decide_eq_false fun e=>RF (by rw[fD,e])).symm
  exact bT z (bn hF (jz Nx))
def iO:List T2->List T2->Int
 | [],[]=>0
 | [],_::_=>-1
 | _::_,[]=>1
 | t::l,u::k=>if mL t.a t.b u.a u.b≠0 then mL t.a t.b u.a u.b else if jh t.c u.c≠0 then jh t.c u.c else iO l k
def Bl (X Y:Abs.Rows) (I:Int):St:=ae 74 [.c (.t (.aa false X)),.c (.t (.aa false Y)),.af,.af,vi .i64 0,vi .i64 I] [none,none]
theorem xC (l k:List T2) (hl:∀t∈l,t.ok 1000 30000) (ee:∀t∈k,t.ok 1000 30000) (hn:l.length<=1000) (hk:k.length<=1000):ah Tryz.prog 58 [.val (tl (aV l)),.val (tl (aV k))] ⟨[.val (ti .i64 (iO l k))],[none,none]⟩:=by
 obtain⟨X,hX⟩:∃X,X=aV l:=⟨_,rfl⟩;obtain⟨Y,hY⟩:∃X,X=aV k:=⟨_,rfl⟩;obtain⟨n1,LW⟩:∃n,n=l.length:=⟨_,rfl⟩;obtain⟨n2,Ft⟩:∃n,n=k.length:=⟨_,rfl⟩;obtain⟨n,HO⟩:∃n,n=min n1 n2:=⟨_,rfl⟩;obtain⟨D,hD⟩:∃B,B=iO l k:=⟨_,rfl⟩;have lX:X.length=n1:=by rw[hX,qE,LW]
 have lY:Y.length=n2:=by rw[hY,qE,Ft]
 rw[<-hX,<-hY,<-hD];refine ar aj mixed [.val] Tryz.func58 rfl rfl (by kernel_rfl) ?_;intros;rename_i zU zV _ _ _ _ _ _ _ _ zz _ _ _ _ _ _ _ ab aD _ _ _ _ _ _ _ _ _ _ _ _ _ _ _ _ _ _ A L F hS hF;have xN:zz (ab X)=(n1:Int):=by rw[hS.aB,hS.len,lX]
 have yN:zz (ab Y)=(n2:Int):=by rw[hS.aB,hS.len,lY]
 cbv;refine nA aj mixed hS (n:=n) (fun i (d:Unit)=>Bl X Y (Int.ofNat i)) (fun i d=>D=iO (l.drop i) (k.drop i)) (a0:=()) (fi ?_ ?_) rfl (Nat.le_refl 2) hD ?_ ?_
 ·simp[dO,Bl,ae,vi,vb]
 ·simp[dP,Bl,ae]
 ·intro i d hi hd
  obtain⟨l1,i1,j1,n0⟩:=hS.gC lX (i:=i) (by omega) (by omega);obtain⟨l2,_,_,_⟩:=hS.gC lY (i:=i) (by omega) (by omega);obtain⟨t,s,v,r,p,ht,gt,q1,hr,wt,_,eC⟩:=iN (l:=l) (i:=i) (by omega);obtain⟨u,s2,v2,r2,p2,hu,gu,q2,js,wu,_,Tz⟩:=iN (l:=k) (i:=i) (by omega);have j2:aD X i=some (nO s r v p t.a t.b):=by rw[hS.nth,hX];exact hr
  have j3:aD Y i=some (nO s2 r2 v2 p2 u.a u.b):=by rw[hS.nth,hY];exact js
  have cm:=tK t.a t.b u.a u.b;have cq:=F9 (x:=t.c) (y:=u.c) ((hl t ht).c.mono (by omega)) ((ee u hu).c.mono (by omega));rw[q1,q2]at cq;rw[eC,Tz]at hd;unfold iO at hd;obtain⟨e,he⟩:∃e,e=mL t.a t.b u.a u.b:=⟨_,rfl⟩;obtain⟨g,hg⟩:∃e,e=jh t.c u.c:=⟨_,rfl⟩;rw[<-he]at cm hd;rw[<-hg]at cq hd
  by_cases U8:e=0
  ·have y:zU e 0=false:=by rw[hS.ne];exact decide_eq_false (by simpa using U8)
   rw[if_neg (by simpa using U8)]at hd
   by_cases FH:g=0
   ·have y2:zU g 0=false:=by rw[hS.ne];exact decide_eq_false (by simpa using FH)
    rw[if_neg (by simpa using FH)]at hd;generalize t.a=a,t.b=b,u.a=a2,u.b=b2 at *;unfold m2 at cm;cbv;refine bT l1 (bT l2 ?_);rw[j1,j2];cbv;refine nd n0 ?_;rw[j1,j3];cbv;refine nd n0 ?_;refine⟨_,hS.call cm,?_⟩;cbv;refine bF y ?_;rw[j1,j2];cbv;refine nd n0 ?_;rw[j1,j3];cbv;refine nd n0 ?_;refine⟨_,hS.call cq,?_⟩;cbv;refine bF y2 ?_;refine aQ [] () ?_ ?_ ?_ ?_ rfl (Nat.le_refl 2) hd
    ·simp[aZ,Bl,ae,vi,vb,AV.ay,AV.aI,Cell.ay,i1]
    ·simp[a8,Bl,ae]
    ·simp[aF,Bl,ae]
    ·simp
   ·have y2:zU g 0=true:=by rw[hS.ne];exact decide_eq_true FH
    rw[if_pos FH]at hd;generalize t.a=a,t.b=b,u.a=a2,u.b=b2 at *;unfold m2 at cm;cbv;refine bT l1 (bT l2 ?_);rw[j1,j2];cbv;refine nd n0 ?_;rw[j1,j3];cbv;refine nd n0 ?_;refine⟨_,hS.call cm,?_⟩;cbv;refine bF y ?_;rw[j1,j2];cbv;refine nd n0 ?_;rw[j1,j3];cbv;refine nd n0 ?_;refine⟨_,hS.call cq,?_⟩;cbv;refine bT y2 ?_;rw[j1,j2];cbv;refine nd n0 ?_;rw[j1,j3];cbv;refine nd n0 ?_
    refine⟨_,hS.call cq,?_⟩;cbv;exact bn hF (kl hd.symm)
  ·have y:zU e 0=true:=by rw[hS.ne];exact decide_eq_true U8
   rw[if_pos U8]at hd;generalize t.a=a,t.b=b,u.a=a2,u.b=b2 at *;unfold m2 at cm;cbv;refine bT l1 (bT l2 ?_);rw[j1,j2];cbv;refine nd n0 ?_;rw[j1,j3];cbv;refine nd n0 ?_;refine⟨_,hS.call cm,?_⟩;cbv;refine bT y ?_;rw[j1,j2];cbv;refine nd n0 ?_;rw[j1,j3];cbv;refine nd n0 ?_;refine⟨_,hS.call cm,?_⟩;cbv;exact bn hF (kl hd.symm)
 ·intro d hd
  have xN:zz (ab X)=(n1:Int):=xN;have yN:zz (ab Y)=(n2:Int):=yN;have key:D=if n1<n2 then -1 else if n2<n1 then 1 else 0:=by
   rw[hd];rcases Nat.lt_trichotomy n1 n2 with h|h|h
   ·rw[if_pos h,List.drop_of_length_le (show l.length<=n by omega),List.drop_eq_getElem_cons (show n<k.length by omega)];rfl
   ·rw[if_neg (by omega),if_neg (by omega),List.drop_of_length_le (show l.length<=n by omega),List.drop_of_length_le (show k.length<=n by omega)];rfl
   ·rw[if_neg (by omega),if_pos h,List.drop_of_length_le (show k.length<=n by omega),List.drop_eq_getElem_cons (show n<l.length by omega)];rfl
  have fin:(n1<n2->Br (zV (zz (ab X)) (zz (ab Y))) (F ⟨[.val (ti .i64 (-1))],[none,none]⟩) (Br (zV (zz (ab Y)) (zz (ab X))) (F ⟨[.val (ti .i64 1)],[none,none]⟩) (F ⟨[.val (ti .i64 0)],[none,none]⟩))):=fun h=>bT (by rw[xN,yN,hS.lt];exact decide_eq_true (by omega)) (bn hF (kl (by rw[key,if_pos h])))
  have PE:Br (zV (zz (ab X)) (zz (ab Y))) (F ⟨[.val (ti .i64 (-1))],[none,none]⟩) (Br (zV (zz (ab Y)) (zz (ab X))) (F ⟨[.val (ti .i64 1)],[none,none]⟩) (F ⟨[.val (ti .i64 0)],[none,none]⟩)):=by
   rcases Nat.lt_trichotomy n1 n2 with h|h|h
   ·exact fin h
   ·exact bF (by rw[xN,yN,hS.lt];exact decide_eq_false (by omega)) (bF (by rw[xN,yN,hS.lt];exact decide_eq_false (by omega)) (bn hF (kl (by rw[key,if_neg (by omega),if_neg (by omega)]))))
   ·exact bF (by rw[xN,yN,hS.lt];exact decide_eq_false (by omega)) (bT (by rw[xN,yN,hS.lt];exact decide_eq_true (by omega)) (bn hF (kl (by rw[key,if_neg (by omega),if_pos h]))))
  by_cases h:n1<=n2
  ·have lE:zV (Int.ofNat n) (zz (ab X))=false:=by rw[xN,hS.lt];exact decide_eq_false (show ¬(n:Int)<n1 by omega)
   cbv;exact bF lE PE
  ·have lE:zV (Int.ofNat n) (zz (ab X))=true:=by rw[xN,hS.lt];exact decide_eq_true (show(n:Int)<n1 by omega)
   have TA:zV (Int.ofNat n) (zz (ab Y))=false:=by rw[yN,hS.lt];exact decide_eq_false (show ¬(n:Int)<n2 by omega)
   cbv;exact bT lE (bF TA PE)
end Go.Proofs.YtekefilngojelaaGreat
end
