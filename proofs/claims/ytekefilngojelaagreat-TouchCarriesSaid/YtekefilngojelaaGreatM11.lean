/- A part. -/
import Derived.Test.YtekefilngojelaaGreatM10
set_option maxHeartbeats 0
set_option maxRecDepth 100000
set_option linter.unusedVariables false
set_option linter.unusedSimpArgs false
section
namespace Go.Proofs.YtekefilngojelaaGreat
open Go Go.Abs Go.Abs.M Go.Proofs
theorem Bh {x y:Rat} (h1:Qs x 1000000):aH 127 [.val (.agg (qc x).row),.val (.agg (qc y).row)] ⟨[.val (tb (decide (x=y)))],[none,none]⟩:=
 FL _ (fP x) (fP y) (by simp) (h1.mono (by omega))
theorem FT {x y:Rat} (h1:Qs x 1000000) (h2:Qs y 1000000):aH 99 [.val (.agg (qc x).row),.val (.agg (qc y).row)] ⟨[.val (ti .i64 (jt x y))],[none,none]⟩:=
 HN _ (fP x) (fP y) rfl (h1.mono (by omega)) (h2.mono (by omega))
theorem Re {x:Rat} (h:Qs x 1000000):aH 122 [.val (.agg (qc x).row)] ⟨[.val (tb true)],[none]⟩:=
 rS true ⟨fun _=>MY x,fun _=>rfl⟩ (jz _) (jz _) (show nl x.num.natAbs<=_ from by have:=h.1;omega) (show nl (x.den:Int).natAbs<=_ from by rw[Int.natAbs_natCast];have:=h.2;omega)
theorem ug (q:Rat):aH 62 [.val (.agg (qc q).row)] ⟨[.val (ti .i64 (bH q.num 0))],[none]⟩:=j8 _ (fP q).n rfl
deriving instance DecidableEq for T2
theorem uh {t u:T2}:t=u↔t.c=u.c/\t.a=u.a/\t.b=u.b:=by
 obtain⟨c,a,b⟩:=t;obtain⟨d,e,f⟩:=u;simp
theorem HR (t u:T2) (ht:Qs t.c 1000):aH 93 [.val (.agg t.row),.val (.agg u.row)] ⟨[.val (tb (decide (t=u)))],[none,none]⟩:=by
 have cs:=Bh (x:=t.c) (y:=u.c) (ht.mono (by omega));obtain⟨s1,v1,r1,p1,e1,w1⟩:=xz t;obtain⟨s2,v2,r2,p2,e2,w2⟩:=xz u;rw[e1,e2]at cs;rw[w1,w2];obtain⟨B,hB⟩:=aq (decide (t.c=u.c));rw[<-hB]at cs;obtain⟨D,hD⟩:=aq (decide (t=u));rw[<-hD];unfold na;have hT:t.a=u.a/\t.b=u.b->B=D:=fun h=>by rw[hB,hD,decide_eq_decide,uh];exact⟨fun e=>⟨e,h⟩,fun e=>e.1⟩
 have hE:¬(t.a=u.a/\t.b=u.b)->false=D:=fun h=>by rw[hD];exact(decide_eq_false fun e=>h (uh.1 e).2).symm
 generalize t.a=a,t.b=b,u.a=c,u.b=d at *;refine an ai mixed [.val] Tryz.func93 rfl rfl (by kernel_rfl) ?_;intros;rename_i zT _ _ _ _ _ _ _ _ _ _ _ _ _ _ _ _ _ _ _ _ _ _ _ _ _ _ _ _ _ _ _ _ _ _ _ _ _ _ A L F hS hF;have z0:zT 0 0=true:=by rw[hS.eq];rfl
 cbv
 by_cases h:a=c/\b=d
 ·have z1:zT a c=true:=dT (hS.eq ..) h.1
  have z2:zT b d=true:=dT (hS.eq ..) h.2;apply bT (by rw[z0,z1,z2]);refine hS.cl cs ?_;cbv;exact bc hF (jf (hT h))
 ·refine bF ?_ (bc hF (jf (hE h)))
  by_cases h1:a=c
  ·have z1:zT a c=true:=dT (hS.eq ..) h1
   have z2:zT b d=false:=dF (hS.eq ..) fun e=>h ⟨h1,e⟩
   rw[z1,z2]
  ·have z1:zT a c=false:=dF (hS.eq ..) h1
   rw[z1]
def Bi (X Y:Abs.Rows) (I:Int):St:=ae 27 [.c (.t (.aa false X)),.c (.t (.aa false Y)),.af,.af,vb false,vi .i64 I] [none,none]
theorem nX (l k:List T2) (hl:∀t∈l,t.ok 1000 30000) (hn:l.length<=1000) (hk:k.length<=1000):aH 56 [.val (tl (aP l)),.val (tl (aP k))] ⟨[.val (tb (decide (l=k)))],[none,none]⟩:=by
 obtain⟨X,hX⟩:=aq (aP l);obtain⟨Y,hY⟩:=aq (aP k);obtain⟨n,fx⟩:=aq (l.length);obtain⟨D,hD⟩:=aq (decide (l=k));have lX:X.length=n:=by rw[hX,pK,fx]
 have lY:Y.length=k.length:=by rw[hY,pK]
 rw[<-hX,<-hY,<-hD];refine an ai mixed [.val] Tryz.func56 rfl rfl (by kernel_rfl) ?_;intros;rename_i zU _ _ zY _ _ _ _ _ _ zz _ _ _ _ _ _ _ ab aB _ _ _ _ _ _ _ _ _ _ _ _ _ _ _ _ _ _ A L F hS hF;have lE:=hS.fh lX;cbv
 by_cases Nc:n=k.length
 ·have z:zU (zz (ab X)) (zz (ab Y))=false:=by rw[hS.ne,hS.az,hS.az,hS.len,hS.len,lX,lY,Nc];simp
  apply bF z;refine mV ai mixed hS (n:=n) (fun i (d:Unit)=>Bi X Y (Int.ofNat i)) (fun i d=>l.take i=k.take i) (a0:=()) (fy ?_ ?_) rfl (Nat.le_refl 2) rfl ?_ ?_
  ·simp[dS,Bi,ae,vi,vb]
  ·simp[dU,Bi,ae]
  ·intro i d hi hd
   obtain⟨l1,i1,j1,n0⟩:=hS.ic lX hi (by omega);obtain⟨t,s,v,r,p,ht,gt,_,hr,wt,fc,_⟩:=ig (l:=l) (i:=i) (by omega);obtain⟨u,s2,v2,r2,p2,hu,gu,_,kH,wu,PH,_⟩:=ig (l:=k) (i:=i) (by omega);have j2:aB X i=some (na s r v p t.a t.b):=by rw[hS.nth,hX];exact hr
   have j3:aB Y i=some (na s2 r2 v2 p2 u.a u.b):=by rw[hS.nth,hY];exact kH
   have cs:=HR t u (hl t ht).c;rw[wt,wu]at cs
   by_cases Dz:t=u
   ·rw[decide_eq_true Dz]at cs
    have hR:l.take (i+1)=k.take (i+1):=by rw[fc,PH,hd,Dz]
    have y:zY true=false:=by rw[hS.not];rfl
    generalize t.a=a,t.b=b,u.a=a2,u.b=b2 at *;unfold na at cs;cbv;apply bT l1;rw[j1,j2];cbv;apply nd n0;rw[j1,j3];cbv;apply nd n0;refine hS.cl cs ?_;cbv;apply bF y;refine aU [] () ?_ ?_ ?_ ?_ rfl (Nat.le_refl 2) hR
    ·simp[bd,Bi,ae,vi,vb,AV.aw,AV.aJ,Cell.aw,i1]
    ·simp[bf,Bi,ae]
    ·simp[aF,Bi,ae]
    ·simp
   ·rw[decide_eq_false Dz]at cs
    have y:zY false=true:=by rw[hS.not];rfl
    have HS:false=D:=by
     rw[hD];exact(decide_eq_false fun e=>Dz (by rw[e,gu]at gt;exact(Option.some.inj gt).symm)).symm
    generalize t.a=a,t.b=b,u.a=a2,u.b=b2 at *;unfold na at cs;cbv;apply bT l1;rw[j1,j2];cbv;apply nd n0;rw[j1,j3];cbv;apply nd n0;refine hS.cl cs ?_;cbv;apply bT y;exact bc hF (jf HS)
  ·intro d hd
   have Te:true=D:=by
    rw[hD];refine(decide_eq_true ?_).symm;rw[List.take_of_length_le (by omega),List.take_of_length_le (by omega)]at hd;exact hd
   cbv;apply bF lE;exact bc hF (jf Te)
 ·have z:zU (zz (ab X)) (zz (ab Y))=true:=by rw[hS.ne,hS.az,hS.az,hS.len,hS.len,lX,lY];exact decide_eq_true (by omega)
  have HS:false=D:=by rw[hD];exact(decide_eq_false fun e=>Nc (by rw[fx,e])).symm
  exact bT z (bc hF (jf HS))
def iZ:List T2->List T2->Int
 | [],[]=>0
 | [],_::_=>-1
 | _::_,[]=>1
 | t::l,u::k=>if mU t.a t.b u.a u.b≠0 then mU t.a t.b u.a u.b else if jt t.c u.c≠0 then jt t.c u.c else iZ l k
def Bj (X Y:Abs.Rows) (I:Int):St:=ae 74 [.c (.t (.aa false X)),.c (.t (.aa false Y)),.af,.af,vi .i64 0,vi .i64 I] [none,none]
theorem xA (l k:List T2) (hl:∀t∈l,t.ok 1000 30000) (fM:∀t∈k,t.ok 1000 30000) (hn:l.length<=1000) (hk:k.length<=1000):aH 58 [.val (tl (aP l)),.val (tl (aP k))] ⟨[.val (ti .i64 (iZ l k))],[none,none]⟩:=by
 obtain⟨X,hX⟩:=aq (aP l);obtain⟨Y,hY⟩:=aq (aP k);obtain⟨n1,Q0⟩:=aq (l.length);obtain⟨n2,Ka⟩:=aq (k.length);obtain⟨n,HE⟩:=aq (min n1 n2);obtain⟨D,hD⟩:=aq (iZ l k);have lX:X.length=n1:=by rw[hX,pK,Q0]
 have lY:Y.length=n2:=by rw[hY,pK,Ka]
 rw[<-hX,<-hY,<-hD];refine an ai mixed [.val] Tryz.func58 rfl rfl (by kernel_rfl) ?_;intros;rename_i zU zV _ _ _ _ _ _ _ _ zz _ _ _ _ _ _ _ ab aB _ _ _ _ _ _ _ _ _ _ _ _ _ _ _ _ _ _ A L F hS hF;have xN:zz (ab X)=(n1:Int):=by rw[hS.az,hS.len,lX]
 have yN:zz (ab Y)=(n2:Int):=by rw[hS.az,hS.len,lY]
 cbv;refine mV ai mixed hS (n:=n) (fun i (d:Unit)=>Bj X Y (Int.ofNat i)) (fun i d=>D=iZ (l.drop i) (k.drop i)) (a0:=()) (fy ?_ ?_) rfl (Nat.le_refl 2) hD ?_ ?_
 ·simp[dS,Bj,ae,vi,vb]
 ·simp[dU,Bj,ae]
 ·intro i d hi hd
  obtain⟨l1,i1,j1,n0⟩:=hS.ic lX (i:=i) (by omega) (by omega);obtain⟨l2,_,_,_⟩:=hS.ic lY (i:=i) (by omega) (by omega);obtain⟨t,s,v,r,p,ht,gt,q1,hr,wt,_,fc⟩:=ig (l:=l) (i:=i) (by omega);obtain⟨u,s2,v2,r2,p2,hu,gu,q2,kH,wu,_,PH⟩:=ig (l:=k) (i:=i) (by omega);have j2:aB X i=some (na s r v p t.a t.b):=by rw[hS.nth,hX];exact hr
  have j3:aB Y i=some (na s2 r2 v2 p2 u.a u.b):=by rw[hS.nth,hY];exact kH
  have cm:=tS t.a t.b u.a u.b;have cq:=FT (x:=t.c) (y:=u.c) ((hl t ht).c.mono (by omega)) ((fM u hu).c.mono (by omega));rw[q1,q2]at cq;rw[fc,PH]at hd;unfold iZ at hd;obtain⟨e,he⟩:=aq (mU t.a t.b u.a u.b);obtain⟨g,hg⟩:=aq (jt t.c u.c);rw[<-he]at cm hd;rw[<-hg]at cq hd
  by_cases UD:e=0
  ·have y:zU e 0=false:=dF (hS.ne ..) (by simpa using UD)
   rw[if_neg (by simpa using UD)]at hd
   by_cases Fv:g=0
   ·have y2:zU g 0=false:=dF (hS.ne ..) (by simpa using Fv)
    rw[if_neg (by simpa using Fv)]at hd;generalize t.a=a,t.b=b,u.a=a2,u.b=b2 at *;unfold m2 at cm;cbv;refine bT l1 (bT l2 ?_);rw[j1,j2];cbv;apply nd n0;rw[j1,j3];cbv;apply nd n0;refine hS.cl cm ?_;cbv;apply bF y;rw[j1,j2];cbv;apply nd n0;rw[j1,j3];cbv;apply nd n0;refine hS.cl cq ?_;cbv;apply bF y2;refine aU [] () ?_ ?_ ?_ ?_ rfl (Nat.le_refl 2) hd
    ·simp[bd,Bj,ae,vi,vb,AV.aw,AV.aJ,Cell.aw,i1]
    ·simp[bf,Bj,ae]
    ·simp[aF,Bj,ae]
    ·simp
   ·have y2:zU g 0=true:=dT (hS.ne ..) Fv
    rw[if_pos Fv]at hd;generalize t.a=a,t.b=b,u.a=a2,u.b=b2 at *;unfold m2 at cm;cbv;refine bT l1 (bT l2 ?_);rw[j1,j2];cbv;apply nd n0;rw[j1,j3];cbv;apply nd n0;refine hS.cl cm ?_;cbv;apply bF y;rw[j1,j2];cbv;apply nd n0;rw[j1,j3];cbv;apply nd n0;refine hS.cl cq ?_;cbv;apply bT y2;rw[j1,j2];cbv;apply nd n0;rw[j1,j3];cbv;apply nd n0;refine hS.cl cq ?_;cbv;exact bc hF (kx hd.symm)
  ·have y:zU e 0=true:=dT (hS.ne ..) UD
   rw[if_pos UD]at hd;generalize t.a=a,t.b=b,u.a=a2,u.b=b2 at *;unfold m2 at cm;cbv;refine bT l1 (bT l2 ?_);rw[j1,j2];cbv;apply nd n0;rw[j1,j3];cbv;apply nd n0;refine hS.cl cm ?_;cbv;apply bT y;rw[j1,j2];cbv;apply nd n0;rw[j1,j3];cbv;apply nd n0;refine hS.cl cm ?_;cbv;exact bc hF (kx hd.symm)
 ·intro d hd
  have xN:zz (ab X)=(n1:Int):=xN;have yN:zz (ab Y)=(n2:Int):=yN;have key:D=if n1<n2 then -1 else if n2<n1 then 1 else 0:=by
   rw[hd];rcases Nat.lt_trichotomy n1 n2 with h|h|h
   ·rw[if_pos h,List.drop_of_length_le (show l.length<=n by omega),List.drop_eq_getElem_cons (show n<k.length by omega)];rfl
   ·rw[if_neg (by omega),if_neg (by omega),List.drop_of_length_le (show l.length<=n by omega),List.drop_of_length_le (show k.length<=n by omega)];rfl
   ·rw[if_neg (by omega),if_pos h,List.drop_of_length_le (show k.length<=n by omega),List.drop_eq_getElem_cons (show n<l.length by omega)];rfl
  have fin:(n1<n2->Br (zV (zz (ab X)) (zz (ab Y))) (F ⟨[.val (ti .i64 (-1))],[none,none]⟩) (Br (zV (zz (ab Y)) (zz (ab X))) (F ⟨[.val (ti .i64 1)],[none,none]⟩) (F ⟨[.val (ti .i64 0)],[none,none]⟩))):=fun h=>bT (by rw[xN,yN,hS.lt];exact decide_eq_true (by omega)) (bc hF (kx (by rw[key,if_pos h])))
  have Pm:Br (zV (zz (ab X)) (zz (ab Y))) (F ⟨[.val (ti .i64 (-1))],[none,none]⟩) (Br (zV (zz (ab Y)) (zz (ab X))) (F ⟨[.val (ti .i64 1)],[none,none]⟩) (F ⟨[.val (ti .i64 0)],[none,none]⟩)):=by
   rcases Nat.lt_trichotomy n1 n2 with h|h|h
   ·exact fin h
   ·exact bF (by rw[xN,yN,hS.lt];exact decide_eq_false (by omega)) (bF (by rw[xN,yN,hS.lt];exact decide_eq_false (by omega)) (bc hF (kx (by rw[key,if_neg (by omega),if_neg (by omega)]))))
   ·exact bF (by rw[xN,yN,hS.lt];exact decide_eq_false (by omega)) (bT (by rw[xN,yN,hS.lt];exact decide_eq_true (by omega)) (bc hF (kx (by rw[key,if_neg (by omega),if_pos h]))))
  by_cases h:n1<=n2
  ·have lE:zV (Int.ofNat n) (zz (ab X))=false:=by rw[xN,hS.lt];exact decide_eq_false (show ¬(n:Int)<n1 by omega)
   cbv;exact bF lE Pm
  ·have lE:zV (Int.ofNat n) (zz (ab X))=true:=by rw[xN,hS.lt];exact decide_eq_true (show(n:Int)<n1 by omega)
   have UE:zV (Int.ofNat n) (zz (ab Y))=false:=by rw[yN,hS.lt];exact decide_eq_false (show ¬(n:Int)<n2 by omega)
   cbv;exact bT lE (bF UE Pm)
end Go.Proofs.YtekefilngojelaaGreat
end
