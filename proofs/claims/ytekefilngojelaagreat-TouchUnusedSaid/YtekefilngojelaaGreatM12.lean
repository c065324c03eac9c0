/-
  A part of the proof: TcC3t.
-/
import Derived.Test.YtekefilngojelaaGreatM11
set_option maxHeartbeats 0
set_option maxRecDepth 100000
set_option linter.unusedVariables false
set_option linter.unusedSimpArgs false
set_option linter.unusedSectionVars false
section
namespace Go.Proofs.YtekefilngojelaaGreat
open Go Go.Abs Go.Abs.M Go.Proofs
theorem H6 {x y:Rat} (h1:Qs x 1000000):aA Tryz.prog 127 [.val (.agg (qc x).row),.val (.agg (qc y).row)] ⟨[.val (tb (decide (x=y)))],[none,none]⟩:=
 DG _ (ff x) (ff y) (by simp) (h1.mono (by omega))
theorem KL {x y:Rat} (h1:Qs x 1000000) (h2:Qs y 1000000):aA Tryz.prog 99 [.val (.agg (qc x).row),.val (.agg (qc y).row)] ⟨[.val (ti .i64 (jl x y))],[none,none]⟩:=
 FC _ (ff x) (ff y) rfl (h1.mono (by omega)) (h2.mono (by omega))
theorem yE (q:Rat):aA Tryz.prog 62 [.val (.agg (qc q).row)] ⟨[.val (ti .i64 (bO q.num 0))],[none]⟩:=mO _ (ff q).n rfl
deriving instance DecidableEq for T2
theorem sR {t u:T2}:t=u↔t.c=u.c/\t.a=u.a/\t.b=u.b:=by
 obtain⟨c,a,b⟩:=t;obtain⟨d,e,f⟩:=u;simp
theorem FH (t u:T2) (ht:Qs t.c 1000):aA Tryz.prog 93 [.val (.agg t.row),.val (.agg u.row)] ⟨[.val (tb (decide (t=u)))],[none,none]⟩:=by
 have cs:=H6 (x:=t.c) (y:=u.c) (ht.mono (by omega));obtain⟨s1,v1,r1,p1,e1,w1⟩:=wq t;obtain⟨s2,v2,r2,p2,e2,w2⟩:=wq u;rw[e1,e2]at cs;rw[w1,w2];obtain⟨B,hB⟩:∃B,B=decide (t.c=u.c):=⟨_,rfl⟩;rw[<-hB]at cs;obtain⟨D,hD⟩:∃B,B=decide (t=u):=⟨_,rfl⟩;rw[<-hD];unfold pR;have hT:t.a=u.a/\t.b=u.b->B=D:=fun h=>by rw[hB,hD,decide_eq_decide,sR];exact⟨fun e=>⟨e,h⟩,fun e=>e.1⟩
 have hE:¬(t.a=u.a/\t.b=u.b)->false=D:=fun h=>by rw[hD];exact(decide_eq_false fun e=>h (sR.1 e).2).symm
 generalize t.a=a at *;generalize t.b=b at *;generalize u.a=c at *;generalize u.b=d at *;refine aV aD mixed [.val] Tryz.func93 rfl rfl (by kernel_rfl) fun zD zE zG zH zI zJ zK zL zM zN zO zR zS zT zU zV zX zY zZ zg zh zj zu zy zz aK ah aI aH ak aq ae aE aB aG ao az aJ an aO au aP ai aM aN ay aw aL ar zW bc A L F hS hF=>?_
 have z0:zS 0 0=true:=by rw[hS.eq];rfl
 cbv
 by_cases h:a=c/\b=d
 ·have z1:zS a c=true:=by rw[hS.eq];exact decide_eq_true h.1
  have z2:zS b d=true:=by rw[hS.eq];exact decide_eq_true h.2
  refine bT (by rw[z0,z1,z2]) ?_;refine⟨_,hS.call (cs),?_⟩;cbv;exact bX hF (tJ (hT h))
 ·refine bF ?_ (bX hF (tJ (hE h)))
  by_cases h1:a=c
  ·have z1:zS a c=true:=by rw[hS.eq];exact decide_eq_true h1
   have z2:zS b d=false:=by rw[hS.eq];exact decide_eq_false fun e=>h ⟨h1,e⟩
   rw[z1,z2]
  ·have z1:zS a c=false:=by rw[hS.eq];exact decide_eq_false h1
   rw[z1]
def yF (X Y:Abs.Rows) (I:Int):St:=aC 27 [.c (.t (.aa false X)),.c (.t (.aa false Y)),.aj,.aj,vb false,vi .i64 I] [none,none]
theorem DN (l k:List T2) (hl:∀t∈l,t.ok 1000 30000) (hn:l.length<=1000) (hk:k.length<=1000):aA Tryz.prog 56 [.val (tl (bo l)),.val (tl (bo k))] ⟨[.val (tb (decide (l=k)))],[none,none]⟩:=by
 obtain⟨X,hX⟩:∃X,X=bo l:=⟨_,rfl⟩;obtain⟨Y,hY⟩:∃X,X=bo k:=⟨_,rfl⟩;obtain⟨n,kZ⟩:∃n,n=l.length:=⟨_,rfl⟩;obtain⟨D,hD⟩:∃B,B=decide (l=k):=⟨_,rfl⟩;have lX:X.length=n:=by rw[hX,sO,kZ]
 have lY:Y.length=k.length:=by rw[hY,sO]
 rw[<-hX,<-hY,<-hD];refine aV aD mixed [.val] Tryz.func56 rfl rfl (by kernel_rfl) fun zD zE zG zH zI zJ zK zL zM zN zO zR zS zT zU zV zX zY zZ zg zh zj zu zy zz aK ah aI aH ak aq ae aE aB aG ao az aJ an aO au aP ai aM aN ay aw aL ar zW bc A L F hS hF=>?_
 have lE:=hS.qQ lX;cbv
 by_cases Of:n=k.length
 ·have z:zT (zy (ae X)) (zy (ae Y))=false:=by rw[hS.ne,hS.aW,hS.aW,hS.len,hS.len,lX,lY,Of];simp
  refine bF z ?_;refine nN aD mixed hS (n:=n) (fun i (d:Unit)=>yF X Y (Int.ofNat i)) (fun i d=>l.take i=k.take i) (a0:=()) (iY ?_ ?_) rfl (Nat.le_refl 2) rfl ?_ ?_
  ·simp[eC,yF,aC,vi,vb]
  ·simp[eF,yF,aC]
  ·intro i d hi hd
   obtain⟨l1,i1,j1,n0⟩:=hS.xt lX hi (by omega);obtain⟨t,s,v,r,p,ht,gt,_,hr,wt,il,_⟩:=j6 (l:=l) (i:=i) (by omega);obtain⟨u,s2,v2,r2,p2,hu,gu,_,eL,wu,Qa,_⟩:=j6 (l:=k) (i:=i) (by omega);have j2:aE X i=some (pR s r v p t.a t.b):=by rw[hS.nth,hX];exact hr
   have j3:aE Y i=some (pR s2 r2 v2 p2 u.a u.b):=by rw[hS.nth,hY];exact eL
   have cs:=FH t u (hl t ht).c;rw[wt,wu]at cs
   by_cases GU:t=u
   ·rw[decide_eq_true GU]at cs
    have hR:l.take (i+1)=k.take (i+1):=by rw[il,Qa,hd,GU]
    have y:zX true=false:=by rw[hS.not];rfl
    generalize t.a=a at *;generalize t.b=b at *;generalize u.a=a2 at *;generalize u.b=b2 at *;unfold pR at cs;cbv;refine bT l1 ?_;rw[j1,j2];cbv;refine nd n0 ?_;rw[j1,j3];cbv;refine nd (n0) ?_;refine⟨_,hS.call (cs),?_⟩;cbv;refine bF (y) ?_;refine bR [] () ?_ ?_ ?_ ?_ rfl (Nat.le_refl 2) hR
    ·simp[bV,yF,aC,vi,vb,AV.aX,AV.bA,Cell.aX,i1]
    ·simp[bW,yF,aC]
    ·simp[bf,yF,aC]
    ·simp
   ·rw[decide_eq_false GU]at cs
    have y:zX false=true:=by rw[hS.not];rfl
    have KM:false=D:=by
     rw[hD];exact(decide_eq_false fun e=>GU (by rw[e,gu]at gt;exact(Option.some.inj gt).symm)).symm
    generalize t.a=a at *;generalize t.b=b at *;generalize u.a=a2 at *;generalize u.b=b2 at *;unfold pR at cs;cbv;refine bT l1 ?_;rw[j1,j2];cbv;refine nd n0 ?_;rw[j1,j3];cbv;refine nd (n0) ?_;refine⟨_,hS.call (cs),?_⟩;cbv;refine bT (y) ?_;exact bX hF (tJ KM)
  ·intro d hd
   have TO:true=D:=by
    rw[hD];refine(decide_eq_true ?_).symm;rw[List.take_of_length_le (by omega),List.take_of_length_le (by omega)]at hd;exact hd
   cbv;refine bF lE ?_;exact bX hF (tJ TO)
 ·have z:zT (zy (ae X)) (zy (ae Y))=true:=by rw[hS.ne,hS.aW,hS.aW,hS.len,hS.len,lX,lY];exact decide_eq_true (by omega)
  have KM:false=D:=by rw[hD];exact(decide_eq_false fun e=>Of (by rw[kZ,e])).symm
  exact bT z (bX hF (tJ KM))
def iK:List T2->List T2->Int
 | [],[]=>0
 | [],_::_=>-1
 | _::_,[]=>1
 | t::l,u::k=>if mD t.a t.b u.a u.b≠0 then mD t.a t.b u.a u.b else if jl t.c u.c≠0 then jl t.c u.c else iK l k
def yG (X Y:Abs.Rows) (I:Int):St:=aC 74 [.c (.t (.aa false X)),.c (.t (.aa false Y)),.aj,.aj,vi .i64 0,vi .i64 I] [none,none]
theorem FI (l k:List T2) (hl:∀t∈l,t.ok 1000 30000) (uW:∀t∈k,t.ok 1000 30000) (hn:l.length<=1000) (hk:k.length<=1000):aA Tryz.prog 58 [.val (tl (bo l)),.val (tl (bo k))] ⟨[.val (ti .i64 (iK l k))],[none,none]⟩:=by
 obtain⟨X,hX⟩:∃X,X=bo l:=⟨_,rfl⟩;obtain⟨Y,hY⟩:∃X,X=bo k:=⟨_,rfl⟩;obtain⟨n1,N0⟩:∃n,n=l.length:=⟨_,rfl⟩;obtain⟨n2,tH⟩:∃n,n=k.length:=⟨_,rfl⟩;obtain⟨n,Ft⟩:∃n,n=min n1 n2:=⟨_,rfl⟩;obtain⟨D,hD⟩:∃B,B=iK l k:=⟨_,rfl⟩;have lX:X.length=n1:=by rw[hX,sO,N0]
 have lY:Y.length=n2:=by rw[hY,sO,tH]
 rw[<-hX,<-hY,<-hD];refine aV aD mixed [.val] Tryz.func58 rfl rfl (by kernel_rfl) fun zD zE zG zH zI zJ zK zL zM zN zO zR zS zT zU zV zX zY zZ zg zh zj zu zy zz aK ah aI aH ak aq ae aE aB aG ao az aJ an aO au aP ai aM aN ay aw aL ar zW bc A L F hS hF=>?_
 have xN:zy (ae X)=(n1:Int):=by rw[hS.aW,hS.len,lX]
 have yN:zy (ae Y)=(n2:Int):=by rw[hS.aW,hS.len,lY]
 cbv;refine nN aD mixed hS (n:=n) (fun i (d:Unit)=>yG X Y (Int.ofNat i)) (fun i d=>D=iK (l.drop i) (k.drop i)) (a0:=()) (iY ?_ ?_) rfl (Nat.le_refl 2) hD ?_ ?_
 ·simp[eC,yG,aC,vi,vb]
 ·simp[eF,yG,aC]
 ·intro i d hi hd
  obtain⟨l1,i1,j1,n0⟩:=hS.xt lX (i:=i) (by omega) (by omega);obtain⟨l2,_,_,_⟩:=hS.xt lY (i:=i) (by omega) (by omega);obtain⟨t,s,v,r,p,ht,gt,q1,hr,wt,_,il⟩:=j6 (l:=l) (i:=i) (by omega);obtain⟨u,s2,v2,r2,p2,hu,gu,q2,eL,wu,_,Qa⟩:=j6 (l:=k) (i:=i) (by omega);have j2:aE X i=some (pR s r v p t.a t.b):=by rw[hS.nth,hX];exact hr
  have j3:aE Y i=some (pR s2 r2 v2 p2 u.a u.b):=by rw[hS.nth,hY];exact eL
  have cm:=yo t.a t.b u.a u.b;have cq:=KL (x:=t.c) (y:=u.c) ((hl t ht).c.mono (by omega)) ((uW u hu).c.mono (by omega));rw[q1,q2]at cq;rw[il,Qa]at hd;unfold iK at hd;obtain⟨e,he⟩:∃e,e=mD t.a t.b u.a u.b:=⟨_,rfl⟩;obtain⟨g,hg⟩:∃e,e=jl t.c u.c:=⟨_,rfl⟩;rw[<-he]at cm hd;rw[<-hg]at cq hd
  by_cases Ry:e=0
  ·have y:zT e 0=false:=by rw[hS.ne];exact decide_eq_false (by simpa using Ry)
   rw[if_neg (by simpa using Ry)]at hd
   by_cases yt:g=0
   ·have y2:zT g 0=false:=by rw[hS.ne];exact decide_eq_false (by simpa using yt)
    rw[if_neg (by simpa using yt)]at hd;generalize t.a=a at *;generalize t.b=b at *;generalize u.a=a2 at *;generalize u.b=b2 at *;unfold m2 at cm;cbv;refine bT l1 (bT l2 ?_);rw[j1,j2];cbv;refine nd n0 ?_;rw[j1,j3];cbv;refine nd (n0) ?_;refine⟨_,hS.call (cm),?_⟩;cbv;refine bF y ?_;rw[j1,j2];cbv;refine nd n0 ?_;rw[j1,j3];cbv;refine nd (n0) ?_;refine⟨_,hS.call (cq),?_⟩;cbv;refine bF (y2) ?_
    refine bR [] () ?_ ?_ ?_ ?_ rfl (Nat.le_refl 2) hd
    ·simp[bV,yG,aC,vi,vb,AV.aX,AV.bA,Cell.aX,i1]
    ·simp[bW,yG,aC]
    ·simp[bf,yG,aC]
    ·simp
   ·have y2:zT g 0=true:=by rw[hS.ne];exact decide_eq_true yt
    rw[if_pos yt]at hd;generalize t.a=a at *;generalize t.b=b at *;generalize u.a=a2 at *;generalize u.b=b2 at *;unfold m2 at cm;cbv;refine bT l1 (bT l2 ?_);rw[j1,j2];cbv;refine nd n0 ?_;rw[j1,j3];cbv;refine nd (n0) ?_;refine⟨_,hS.call (cm),?_⟩;cbv;refine bF y ?_;rw[j1,j2];cbv;refine nd n0 ?_;rw[j1,j3];cbv;refine nd (n0) ?_;refine⟨_,hS.call (cq),?_⟩;cbv;refine bT (y2) ?_;rw[j1,j2]
    cbv;refine nd n0 ?_;rw[j1,j3];cbv;refine nd (n0) ?_;refine⟨_,hS.call (cq),?_⟩;cbv;exact bX hF (lh hd.symm)
  ·have y:zT e 0=true:=by rw[hS.ne];exact decide_eq_true Ry
   rw[if_pos Ry]at hd;generalize t.a=a at *;generalize t.b=b at *;generalize u.a=a2 at *;generalize u.b=b2 at *;unfold m2 at cm;cbv;refine bT l1 (bT l2 ?_);rw[j1,j2];cbv;refine nd n0 ?_;rw[j1,j3];cbv;refine nd (n0) ?_;refine⟨_,hS.call (cm),?_⟩;cbv;refine bT y ?_;rw[j1,j2];cbv;refine nd n0 ?_;rw[j1,j3];cbv;refine nd (n0) ?_;refine⟨_,hS.call (cm),?_⟩;cbv;exact bX hF (lh hd.symm)
 ·intro d hd
  have xN:zy (ae X)=(n1:Int):=xN;have yN:zy (ae Y)=(n2:Int):=yN;have key:D=if n1<n2 then -1 else if n2<n1 then 1 else 0:=by
   rw[hd];rcases Nat.lt_trichotomy n1 n2 with h|h|h
   ·rw[if_pos h,List.drop_of_length_le (show l.length<=n by omega),List.drop_eq_getElem_cons (show n<k.length by omega)];rfl
   ·rw[if_neg (by omega),if_neg (by omega),List.drop_of_length_le (show l.length<=n by omega),List.drop_of_length_le (show k.length<=n by omega)];rfl
   ·rw[if_neg (by omega),if_pos h,List.drop_of_length_le (show k.length<=n by omega),List.drop_eq_getElem_cons (show n<l.length by omega)];rfl
  have fin:(n1<n2->Br (zU (zy (ae X)) (zy (ae Y))) (F ⟨[.val (ti .i64 (-1))],[none,none]⟩) (Br (zU (zy (ae Y)) (zy (ae X))) (F ⟨[.val (ti .i64 1)],[none,none]⟩) (F ⟨[.val (ti .i64 0)],[none,none]⟩))):=fun h=>bT (by rw[xN,yN,hS.lt];exact decide_eq_true (by omega)) (bX hF (lh (by rw[key,if_pos h])))
  have MN:Br (zU (zy (ae X)) (zy (ae Y))) (F ⟨[.val (ti .i64 (-1))],[none,none]⟩) (Br (zU (zy (ae Y)) (zy (ae X))) (F ⟨[.val (ti .i64 1)],[none,none]⟩) (F ⟨[.val (ti .i64 0)],[none,none]⟩)):=by
   rcases Nat.lt_trichotomy n1 n2 with h|h|h
   ·exact fin h
   ·exact bF (by rw[xN,yN,hS.lt];exact decide_eq_false (by omega)) (bF (by rw[xN,yN,hS.lt];exact decide_eq_false (by omega)) (bX hF (lh (by rw[key,if_neg (by omega),if_neg (by omega)]))))
   ·exact bF (by rw[xN,yN,hS.lt];exact decide_eq_false (by omega)) (bT (by rw[xN,yN,hS.lt];exact decide_eq_true (by omega)) (bX hF (lh (by rw[key,if_neg (by omega),if_pos h]))))
  by_cases h:n1<=n2
  ·have lE:zU (Int.ofNat n) (zy (ae X))=false:=by rw[xN,hS.lt];exact decide_eq_false (show ¬(n:Int)<n1 by omega)
   cbv;exact bF lE MN
  ·have lE:zU (Int.ofNat n) (zy (ae X))=true:=by rw[xN,hS.lt];exact decide_eq_true (show(n:Int)<n1 by omega)
   have TP:zU (Int.ofNat n) (zy (ae Y))=false:=by rw[yN,hS.lt];exact decide_eq_false (show ¬(n:Int)<n2 by omega)
   cbv;exact bT lE (bF TP MN)
end Go.Proofs.YtekefilngojelaaGreat
end
