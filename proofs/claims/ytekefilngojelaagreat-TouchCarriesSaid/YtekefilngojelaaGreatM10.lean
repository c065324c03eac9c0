/- A part. -/
import Derived.Test.YtekefilngojelaaGreatM9
set_option maxHeartbeats 0
set_option maxRecDepth 100000
set_option linter.unusedVariables false
set_option linter.unusedSimpArgs false
section
namespace Go.Proofs.YtekefilngojelaaGreat
open Go Go.Abs Go.Abs.M Go.Proofs
theorem aaX (d:Int):(bH d 0<=0↔d<=0)/\(bH d 0<1↔d<=0):=by
 unfold bH
 by_cases h:d<0
 ·rw[if_pos h];omega
 ·rw[if_neg h];split<;>omega
theorem aaY (g:Int):bH g 1=0↔g=1:=by
 unfold bH
 by_cases h:g<1
 ·rw[if_pos h];omega
 ·rw[if_neg h];split<;>omega
theorem HI {n:Nat} (h:(dg n).length=1):(dg n).getD 0 0=n:=by
 have e:=jH n
 match hd:dg n,h with
 | [w],_=>
  rw[hd]at e;simp[M.val]at e;simpa using e
theorem Kr {x:Int} {s:Bool} {r:Abs.Rows} (hx:eZ x s r):aH 173 [.val (.agg (iT s r))] ⟨[.val (tb (decide (x=1)))],[none]⟩:=by
 obtain⟨n,hn⟩:=aq (nl x.natAbs);have hlen:r.length=n:=by rw[hn];exact hx.m.len
 obtain⟨b,hb⟩:=aq (decide (x=1));rw[<-hb];have ji:s=true->false=b:=fun h=>by rw[hb];refine(decide_eq_false ?_).symm;have:=hx.s;rw[h]at this;have:=of_decide_eq_true this.symm;omega
 have Q0:n≠1->false=b:=fun h=>by
  rw[hb];refine(decide_eq_false ?_).symm;rintro rfl;exact h (by rw[hn];rfl)
 have hg:n=1->s=false->decide ((dg x.natAbs).getD 0 0=1)=b:=fun h h'=>by
  rw[HI (by rw[<-h,hn];rfl),hb];have:=hx.s;rw[h']at this;have:=of_decide_eq_false this.symm
  by_cases h1:x=1
  ·rw[decide_eq_true h1];exact decide_eq_true (by omega)
  ·rw[decide_eq_false h1];exact decide_eq_false (by omega)
 have hr:=hx.m;unfold mO at hr;generalize dg x.natAbs=l at hg hr;clear hx hb;refine an ai mixed [.val] Tryz.func173 rfl rfl (by kernel_rfl) ?_;intros;rename_i zT _ _ zX zY _ _ _ _ zu _ zz _ _ _ _ _ _ _ ab _ _ aL ar _ _ _ _ _ _ _ _ _ _ _ _ _ _ _ A L F hS hF;have e0:zY s=!s:=hS.not s;have e1:zT (zz (ab r)) 1=decide (n=1):=by
  rw[hS.len,hlen,hS.eq,hS.az]
  by_cases h:n=1
  ·rw[decide_eq_true h];exact decide_eq_true (by omega)
  ·rw[decide_eq_false h];exact decide_eq_false (by omega)
 have e2:zX 0 0=true:=by rw[hS.le];rfl
 have e3:n=1->aL .u32 r (zu 0)=true:=fun h=>by rw[hS.nat,hS.gM,hr,kY];rw[hr,jr]at hlen;exact decide_eq_true (by simp;omega)
 have e4:n=1->s=false->zT (ar r (zu 0)) 1=b:=fun h h'=>by rw[hS.nat,hS.eq,hS.dK,hr,m8];exact hg h h'
 clear hg hr hlen;cbv;refine⟨fun h=>⟨fun h'=>?_,fun h'=>?_⟩,fun h=>?_⟩
 all_goals rw[e0]at h
 ·rw[e1]at h'
  have h':=of_decide_eq_true h';exact nd e2 (nd (e3 h') (bc hF (jf (e4 h' (by simpa using h)))))
 ·rw[e1]at h'
  exact bc hF (jf (Q0 (of_decide_eq_false h')))
 ·exact bc hF (jf (ji (by simpa using h)))
theorem HJ {s t:Bool} {l m:List Int} {b:Bool} (hl:Wd l) (hm:Wd m) (hb:b=true↔Du s l t m) :
  (lf s l=false/\b=false)∨(lf s l=true/\lf t m=false/\b=false) ∨
  (lf s l=true/\lf t m=true/\∃n d:Int,eZ n s (W .u32 l)/\eZ d t (W .u32 m)/\nl n.natAbs=l.length/\nl d.natAbs=m.length/\(b=true↔0<d/\Int.gcd n d=1)):=by
 have I8:¬Du s l t m->b=false:=fun h=>by
  cases b with
  | false=>rfl
  | true=>exact absurd (hb.1 rfl) h
 cases h1:lf s l with
 | false=>exact .inl ⟨rfl,I8 fun h=>by rw[h.lf.1]at h1;cases h1⟩
 | true=>
  cases h2:lf t m with
  | false=>exact .inr (.inl ⟨rfl,rfl,I8 fun h=>by rw[h.lf.2]at h2;cases h2⟩)
  | true=>
   obtain⟨n,hn,n1⟩:=I7 hl h1;obtain⟨d,hd,d1⟩:=I7 hm h2;exact .inr (.inr ⟨rfl,rfl,n,d,hn,hd,n1,d1,hb.trans (Du.iff hn hd)⟩)
theorem rS {s t:Bool} {l m:List Int} (b:Bool) (hb:b=true↔Du s l t m) (hl:Wd l) (hm:Wd m) (l1:l.length<=274877906944) (m1:m.length<=274877906944) :
  aH 122 [.val (.agg (iT s (W .u32 l)++iT t (W .u32 m)))] ⟨[.val (tb b)],[none]⟩:=by
 have c1:=rR s l (by omega);have c2:=rR t m (by omega);rcases HJ hl hm hb with⟨h1,h2⟩|⟨h1,h2,h3⟩|⟨h1,h2,n,d,hn,hd,n1,d1,Yt⟩
 ·rw[h1]at c1
  subst h2;generalize W .u32 l=r,W .u32 m=q at *;refine an ai mixed [.val] Tryz.func122 rfl rfl (by kernel_rfl) ?_;intros;rename_i zT _ zV _ zY _ _ _ _ _ _ _ _ _ _ _ _ _ _ _ _ _ _ _ _ _ _ _ _ _ _ _ _ _ _ _ _ _ _ A L F hS hF;have e1:zY false=true:=hS.not false;cbv;refine hS.cl c1 ?_;cbv;apply bT e1;exact aC hF
 ·rw[h1]at c1
  rw[h2]at c2;subst h3;generalize W .u32 l=r,W .u32 m=q at *;refine an ai mixed [.val] Tryz.func122 rfl rfl (by kernel_rfl) ?_;intros;rename_i zT _ zV _ zY _ _ _ _ _ _ _ _ _ _ _ _ _ _ _ _ _ _ _ _ _ _ _ _ _ _ _ _ _ _ _ _ _ _ A L F hS hF;have e1:zY false=true:=hS.not false;have e2:zY true=false:=hS.not true;cbv;refine hS.cl c1 ?_;cbv;apply bF e2;refine hS.cl c2 ?_;cbv;apply bT e1;exact aC hF
 ·rw[h1]at c1
  rw[h2]at c2;have c3:=mi (bH d 0) hd rfl;obtain⟨w,hw,c5⟩:=oI hn hd (by omega) (by omega);obtain⟨u,v,ho,c6⟩:=fY 1 (by omega) (by omega);have hgl:nl (Int.gcd n d:Int).natAbs<=2199023255552:=by
   rw[Int.natAbs_natCast]
   by_cases h:n=0
   ·subst h
    have:Int.gcd 0 d=d.natAbs:=by simp[Int.gcd]
    rw[this];omega
   ·have:Int.gcd n d<=n.natAbs:=Nat.gcd_le_left _ (by omega)
    have:=Fp this;omega
  have c7:=AX (bH (Int.gcd n d:Int) 1) hw ho rfl hgl (Nat.le_trans (tU (k:=1) (by omega)) (by omega));have k1:=(aaX d).2;have k2:=aaY (Int.gcd n d:Int);have f1:d<=0->false=b:=fun h=>by
   cases b with
   | false=>rfl
   | true=>have:=(Yt.1 rfl).1;omega
  have f3:0<d->decide (bH (Int.gcd n d:Int) 1=0)=b:=fun h=>by
   cases b with
   | false=>exact decide_eq_false fun e=>absurd (Yt.2 ⟨h,by have:=k2.1 e;omega⟩) (by simp)
   | true=>exact decide_eq_true (k2.2 (by have:=(Yt.1 rfl).2;omega))
  generalize bH d 0=c at *;generalize bH (Int.gcd n d:Int) 1=k at *;clear Yt hn hd hw ho k2;generalize W .u32 l=r,W .u32 m=q at *;refine an ai mixed [.val] Tryz.func122 rfl rfl (by kernel_rfl) ?_;intros;rename_i zT _ zV _ zY _ _ _ _ _ _ _ _ _ _ _ _ _ _ _ _ _ _ _ _ _ _ _ _ _ _ _ _ _ _ _ _ _ _ A L F hS hF;have e2:zY true=false:=hS.not true;have e3:zV c 1=decide (c<1):=hS.lt ..;have e4:zT k 0=decide (k=0):=hS.eq ..
  cbv;refine hS.cl c1 ?_;cbv;apply bF e2;refine hS.cl c2 ?_;cbv;apply bF e2;refine hS.cl c3 ?_;cbv;refine⟨fun h=>?_,fun h=>?_⟩
  all_goals rw[e3]at h
  ·exact bc hF (jf (f1 (k1.1 (of_decide_eq_true h))))
  ·have h:=of_decide_eq_false h
   refine hS.cl c5 ?_;cbv;refine hS.cl c6 ?_;cbv;refine hS.cl c7 ?_;cbv;exact bc hF (jf (e4.trans (f3 (by omega))))
end Go.Proofs.YtekefilngojelaaGreat
end
section
namespace Go.Abs
open Go.Abs.M
structure QC where
 s:Bool
 l:List Int
 t:Bool
 m:List Int
def QC.row (c:QC):List Tree:=iT c.s (W .u32 c.l)++iT c.t (W .u32 c.m)
def QC.can (c:QC):Prop:=Du c.s c.l c.t c.m
structure QC.ok (c:QC) (k:Nat):Prop where
 l:Wd c.l
 m:Wd c.m
 ll:c.l.length<=k
 lm:c.m.length<=k
def j6 (cs:List QC):Rows:=cs.map QC.row
theorem Ks (cs:List QC):(j6 cs).length=cs.length:=by simp[j6]
theorem Kt {cs:List QC} {i:Nat} {c:QC} (h:cs[i]?=some c):(j6 cs)[i]?=some c.row:=by simp[j6,h]
theorem QC.sign {c:QC} (h:c.can):∃x:Int,eZ x c.s (W .u32 c.l)/\(x=0↔c.l=[]):=by
 obtain⟨q,h1,h2⟩:=h;refine⟨q.num,h1,?_⟩;have hl:c.l=dg q.num.natAbs:=FF h1.m;rw[hl,iA];omega
def Wm (cs:List QC):Prop:=(∀c∈cs,c.can)/\∀c,cs.getLast?=some c->c.l≠[]
theorem Py (p:Prop):∃b:Bool,b=true↔p:=by
 rcases Classical.em p with h|h
 ·exact⟨true,fun _=>h,fun _=>rfl⟩
 ·exact⟨false,fun h'=>(by cases h'),fun h'=>absurd h' h⟩
end Go.Abs
namespace Go.Abs
open Go.Abs.M
def qc (q:Rat):QC:=⟨decide (q.num<0),dg q.num.natAbs,decide ((q.den:Int)<0),dg (q.den:Int).natAbs⟩
theorem fP (q:Rat):xq q (qc q).s (W .u32 (qc q).l) (qc q).t (W .u32 (qc q).m):=⟨⟨rfl,rfl⟩,⟨rfl,rfl⟩⟩
theorem tZ {q:Rat} {s t:Bool} {r p:Rows} (h:xq q s r t p):iT s r++iT t p=(qc q).row:=by
 have h1:=h.n.s;have h2:=h.n.m;have h3:=h.d.s;have h4:=h.d.m;unfold mO at h2 h4;subst h1 h2 h3 h4;rfl
theorem MY (q:Rat):(qc q).can:=⟨q,fP q⟩
def ur (P:List Rat):Rows:=j6 (P.map qc)
theorem xr (P:List Rat):(ur P).length=P.length:=by simp[ur,j6]
theorem Ta {P:List Rat} {i:Nat} {q:Rat} (h:P[i]?=some q):(ur P)[i]?=some (qc q).row:=by simp[ur,j6,h]
theorem MZ (P:List Rat) (q:Rat):ur (P ++ [q])=ur P ++ [(qc q).row]:=by simp[ur,j6]
theorem Pz (P:List Rat) (k:Nat):(ur P).take k=ur (P.take k):=by simp[ur,j6,List.map_take]
def gX:List Rat->Nat->Nat
 | _,0=>0
 | P,k+1=>if P.getD k 0=0 then gX P k else k+1
def bW (P:List Rat):List Rat:=P.take (gX P P.length)
theorem rT (P:List Rat):∀k,gX P k<=k
 | 0=>Nat.le_refl _
 | k+1=>by unfold gX;split;have:=rT P k;omega;omega
theorem ua (P:List Rat):∀k,gX P k≠0->P.getD (gX P k-1) 0≠0
 | 0,h=>absurd rfl h
 | k+1,h=>by
  unfold gX at h ⊢;split
  ·rename_i h0;rw[if_pos h0]at h;exact ua P k h
  ·rename_i h0;simpa using h0
theorem M0 (P:List Rat):Wm ((bW P).map qc):=by
 refine⟨fun c hc=>?_,fun c hc hl=>?_⟩
 ·obtain⟨q,_,rfl⟩:=List.mem_map.1 hc
  exact MY q
 ·have hle:=rT P P.length
  rw[List.getLast?_map]at hc;obtain⟨q,hq,rfl⟩:=Option.map_eq_some_iff.1 hc;unfold bW at hq;rw[List.getLast?_eq_getElem?,List.length_take,Nat.min_eq_left hle]at hq;have dh:gX P P.length≠0:=by
   intro h0;rw[h0]at hq;simp at hq
  have h1:=ua P P.length dh;rw[List.getElem?_take,if_pos (by omega)]at hq;rw[List.getD_eq_getElem?_getD,hq]at h1;have h2:q.num=0:=by
   have:dg q.num.natAbs=[]:=hl;have:=iA.1 this;omega
  exact h1 (by simpa using Rat.num_eq_zero.1 h2)
end Go.Abs
namespace Go.Abs
end Go.Abs
namespace Go.Abs
def yT (R:List Rat) (c:Rat) (B:List Rat) (k:Nat):Nat->List Rat
 | 0=>R
 | i+1=>(yT R c B k i).set (i+k) ((yT R c B k i).getD (i+k) 0+c*B.getD i 0)
def Dw (R:List Rat) (c:Rat) (B:List Rat) (k:Nat):List Rat:=yT R c B k B.length
theorem nU (R:List Rat) (c:Rat) (B:List Rat) (k:Nat):∀i,(yT R c B k i).length=R.length
 | 0=>rfl
 | i+1=>by unfold yT;rw[List.length_set,nU R c B k i]
theorem xt {R:List Rat} {c:Rat} {B:List Rat} {k:Nat}:∀(i j:Nat),i+k<=R.length->(yT R c B k i).getD j 0=if k<=j/\j<k+i then R.getD j 0+c*B.getD (j-k) 0 else R.getD j 0
 | 0,j,_=>by rw[if_neg (by omega)];rfl
 | i+1,j,h=>by
  have ih:=xt (R:=R) (c:=c) (B:=B) (k:=k) i;have hl:=nU R c B k i;unfold yT;rw[List.getD_eq_getElem?_getD,List.getElem?_set]
  by_cases hj:i+k=j
  ·subst hj
   rw[if_pos rfl,if_pos (by omega),Option.getD_some,ih _ (by omega),if_neg (by omega),if_pos (by omega),show i+k-k=i by omega]
  ·rw[if_neg hj,<-List.getD_eq_getElem?_getD,ih j (by omega)]
   by_cases h2:k<=j/\j<k+i
   ·rw[if_pos h2,if_pos (by omega)]
   ·rw[if_neg h2,if_neg (by omega)]
end Go.Abs
end
section
namespace Go.Proofs.YtekefilngojelaaGreat
open Go Go.Abs Go.Abs.M Go.Proofs
def dH (R:Abs.Rows) (ps:Bool) (pr:Abs.Rows) (N i:Int):St:=ae 25 [.c (.t (.aa false R)),.af,.c (.ptr 1 0 0),.c (.ptr 4 0 0),.af,.af,.af,.c (.t (.aa false R)),vi .i64 N,vi .i64 i] [none,some (.var [.t (.v (.bool false)),.t (.aa true [])]),none,none,some (.var [.t (.v (.bool ps)),.t (.aa false pr)])]
theorem vO {x:Int} {s:Bool} {r:Abs.Rows} (hx:eZ x s r):∃b:Bool,(b=true↔x=1)/\aH 173 [.val (.agg (iT s r))] ⟨[.val (tb b)],[none]⟩:=⟨decide (x=1),by simp,Kr hx⟩
theorem pI {x y:Int} {s t:Bool} {r q:Abs.Rows} (hx:eZ x s r) (hy:eZ y t q) (h1:nl x.natAbs<=274877906944) (h2:nl y.natAbs<=274877906944) :
  ∃u w,eZ (x*y) u w/\aH 163 [.val (tl [iT s r,iT t q])] ⟨[.val (.agg (iT u w))],[none]⟩:=by
 obtain⟨u,w,h⟩:∃u w,eZ (x*y) u w:=⟨_,_,.mk' _⟩;obtain⟨a,b,ho,co⟩:=MX 1 (by omega) (by omega);have n1:nl (1:Int).natAbs<=274877906944:=Nat.le_trans (tU (k:=1) (by omega)) (by omega);refine⟨u,w,h,?_⟩;obtain⟨R,hR⟩:=aq (([[.v (.bool s),.aa false r],[.v (.bool t),.aa false q]]:Abs.Rows));rw[show([iT s r,iT t q]:Abs.Rows)=R from hR.symm];refine an ai mixed [.val] Tryz.func163 rfl rfl (by kernel_rfl) fun zD zE _ _ _ _ _ _ _ _ _ _ _ _ zV zX _ _ _ _ _ zu _ zz _ _ _ _ _ _ _ ab aB _ _ _ _ _ _ _ _ _ _ _ _ _ _ _ _ _ _ A L F hS hF=>?_
 obtain⟨N,hN,FG⟩:∃N:Int,N=2/\zz (ab R)=N:=⟨_,rfl,by rw[hS.len,hS.az,hR];rfl⟩;have JS:aB R (zu 0)=some [.v (.bool s),.aa false r]:=by rw[hS.nat,hS.nth,hR];rfl
 have Cu:aB R (zu 1)=some [.v (.bool t),.aa false q]:=by rw[hS.nat,hS.nth,hR];rfl
 clear hR;cbv;refine hS.cl co ?_;cbv;refine fW ai mixed hS (fun(m:Nat) s'=>∃(ps:Bool) (pr:Abs.Rows),(m=2/\eZ 1 ps pr/\s'=dH R ps pr N 0)∨(m=1/\eZ x ps pr/\s'=dH R ps pr N 1)∨(m=0/\eZ (x*y) ps pr/\s'=dH R ps pr N 2)) (n:=2) (s0:=dH R a b N 0) (fy ?_ ?_) rfl (by show 1<=5;omega) ?_ ?_
 ·simp[dS,dH,ae,vi,FG]
 ·simp[dU,dH,ae]
 ·exact⟨a,b,.inl ⟨rfl,ho,rfl⟩⟩
 ·rintro m s1 ⟨ps,pr,⟨yu,hp,ji⟩|⟨yu,hp,ji⟩|⟨yu,hp,ji⟩⟩
  ·have GN:m-1<m:=by omega
   have GO:∀us ur,eZ (1*x) us ur->∃(ps:Bool) (pr:Abs.Rows),(m-1=2/\eZ 1 ps pr/\dH R us ur N 1=dH R ps pr N 0)∨(m-1=1/\eZ x ps pr/\dH R us ur N 1=dH R ps pr N 1)∨(m-1=0/\eZ (x*y) ps pr/\dH R us ur N 1=dH R ps pr N 2):=fun us ur hu=>
    ⟨us,ur,.inr (.inl ⟨by omega,hu.of (Int.one_mul x),rfl⟩)⟩
   have k1:zV 0 N=true:=dT (hS.lt ..) (by omega);have g0:zX 0 0=true:=by rw[hS.le];rfl
   obtain⟨b1,mZ,c1⟩:=vO hx;obtain⟨b2,nk,c2⟩:=vO hp;obtain⟨mu,mw,hm,c3⟩:=A9 hp hx (by omega) (by omega);have ii:zD .i64 (zE 0 1)=1:=by rw[hS.add,hS.wrap];rfl
   cases b1 with
   | true=>
    have h1:=mZ.1 rfl;have j7:=GO ps pr (hp.of (by rw[h1,Int.mul_one]));subst ji;cbv;apply bT k1;rw[JS];cbv;apply nd g0;refine hS.cl c1 ?_;cbv;refine bT ((rfl:true=true)) ?_;exact again (s':=dH R ps pr N 1) (m:=m-1) (by simp[dS,dH,ae,vi,ii]) (by simp[dU,dH,ae]) rfl (by show 1<=5;omega) GN j7
   | false=>
    cases b2 with
    | true=>
     have h2:=nk.1 rfl;have j7:=GO s r (hx.of (by rw[h2,Int.one_mul]));subst ji;cbv;apply bT k1;rw[JS];cbv;apply nd g0;refine hS.cl c1 ?_;cbv;refine bF ((rfl:false=false)) ?_;refine hS.cl c2 ?_;cbv;refine bT ((rfl:true=true)) ?_;exact again (s':=dH R s r N 1) (m:=m-1) (by simp[dS,dH,ae,vi,ii]) (by simp[dU,dH,ae]) rfl (by show 1<=5;omega) GN j7
    | false=>
     have j7:=GO mu mw hm;subst ji;cbv;apply bT k1;rw[JS];cbv;apply nd g0;refine hS.cl c1 ?_;cbv;refine bF ((rfl:false=false)) ?_;refine hS.cl c2 ?_;cbv;refine bF ((rfl:false=false)) ?_;refine hS.cl c3 ?_;cbv;exact again (s':=dH R mu mw N 1) (m:=m-1) (by simp[dS,dH,ae,vi,ii]) (by simp[dU,dH,ae]) rfl (by show 1<=5;omega) GN j7
  ·have GN:m-1<m:=by omega
   have GO:∀us ur,eZ (x*y) us ur->∃(ps:Bool) (pr:Abs.Rows),(m-1=2/\eZ 1 ps pr/\dH R us ur N 2=dH R ps pr N 0)∨(m-1=1/\eZ x ps pr/\dH R us ur N 2=dH R ps pr N 1)∨(m-1=0/\eZ (x*y) ps pr/\dH R us ur N 2=dH R ps pr N 2):=fun us ur hu=>
    ⟨us,ur,.inr (.inr ⟨by omega,hu,rfl⟩)⟩
   have k1:zV 1 N=true:=dT (hS.lt ..) (by omega);have g0:zX 0 1=true:=by rw[hS.le];rfl
   obtain⟨b1,mZ,c1⟩:=vO hy;obtain⟨b2,nk,c2⟩:=vO hp;obtain⟨mu,mw,hm,c3⟩:=A9 hp hy (by omega) (by omega);have ii:zD .i64 (zE 1 1)=2:=by rw[hS.add,hS.wrap];rfl
   cases b1 with
   | true=>
    have h1:=mZ.1 rfl;have j7:=GO ps pr (hp.of (by rw[h1,Int.mul_one]));subst ji;cbv;apply bT k1;rw[Cu];cbv;apply nd g0;refine hS.cl c1 ?_;cbv;refine bT ((rfl:true=true)) ?_;exact again (s':=dH R ps pr N 2) (m:=m-1) (by simp[dS,dH,ae,vi,ii]) (by simp[dU,dH,ae]) rfl (by show 1<=5;omega) GN j7
   | false=>
    cases b2 with
    | true=>
     have h2:=nk.1 rfl;have j7:=GO t q (hy.of (by rw[h2,Int.one_mul]));subst ji;cbv;apply bT k1;rw[Cu];cbv;apply nd g0;refine hS.cl c1 ?_;cbv;refine bF ((rfl:false=false)) ?_;refine hS.cl c2 ?_;cbv;refine bT ((rfl:true=true)) ?_;exact again (s':=dH R t q N 2) (m:=m-1) (by simp[dS,dH,ae,vi,ii]) (by simp[dU,dH,ae]) rfl (by show 1<=5;omega) GN j7
    | false=>
     have j7:=GO mu mw hm;subst ji;cbv;apply bT k1;rw[Cu];cbv;apply nd g0;refine hS.cl c1 ?_;cbv;refine bF ((rfl:false=false)) ?_;refine hS.cl c2 ?_;cbv;refine bF ((rfl:false=false)) ?_;refine hS.cl c3 ?_;cbv;exact again (s':=dH R mu mw N 2) (m:=m-1) (by simp[dS,dH,ae,vi,ii]) (by simp[dU,dH,ae]) rfl (by show 1<=5;omega) GN j7
  ·have k1:zV 2 N=false:=dF (hS.lt ..) (by omega)
   obtain⟨e1,e2⟩:=hp.inj h;subst e1 e2;subst ji;cbv;apply bF k1;exact aC hF
def rU (n k:Int):Int:=if k%8=7 then n*(4611686018427387904+k)*(4611686018427387904+k)+k else n
def nV (d k:Int):Int:=if k%8=6 then(if d=0 then 1 else d)*(4611686018427387904+k)*(4611686018427387904+k) else if d=0 then 1 else d
def FH (n d k:Int):Rat:=Rat.divInt (rU n k) (nV d k)
theorem PA {n d k:Int} (n1:-128<=n) (n2:n<128) (d1:-128<=d) (d2:d<128) (k1:0<=k) (k2:k<256):nl (rU n k).natAbs<=8/\nl (nV d k).natAbs<=8/\nV d k≠0:=by
 have b:nl (4611686018427387904+k).natAbs<=2:=tU (by omega);have sa:nl n.natAbs<=1:=tU (by omega);have sb:nl d.natAbs<=1:=tU (by omega);have s1:nl (1:Int).natAbs<=1:=tU (by omega);have sk:nl k.natAbs<=1:=tU (by omega);refine⟨?_,?_,?_⟩
 ·unfold rU
  split
  ·have h1:=vL (n.natAbs*(4611686018427387904+k).natAbs) (4611686018427387904+k).natAbs
   have h2:=vL n.natAbs (4611686018427387904+k).natAbs;have h3:=xm (n*(4611686018427387904+k)*(4611686018427387904+k)).natAbs k.natAbs;rw[Int.natAbs_mul,Int.natAbs_mul]at h3;have h4:=Fp (Int.natAbs_add_le (n*(4611686018427387904+k)*(4611686018427387904+k)) k);rw[Int.natAbs_mul,Int.natAbs_mul]at h4;omega
  ·omega
 ·have key:∀x:Int,nl x.natAbs<=1->nl (x*(4611686018427387904+k)*(4611686018427387904+k)).natAbs<=8:=fun x hx=>by
   rw[Int.natAbs_mul,Int.natAbs_mul];have h1:=vL (x.natAbs*(4611686018427387904+k).natAbs) (4611686018427387904+k).natAbs;have h2:=vL x.natAbs (4611686018427387904+k).natAbs;omega
  unfold nV;split
  ·exact key _ (by split<;>omega)
  ·split<;>omega
 ·unfold nV
  split
  ·exact Int.mul_ne_zero (Int.mul_ne_zero (by split<;>omega) (by omega)) (by omega)
  ·split<;>omega
theorem FI (n d k:Int) (n1:-128<=n) (n2:n<128) (d1:-128<=d) (d2:d<128) (k1:0<=k) (k2:k<256) :
  ∃u w v p,xq (FH n d k) u w v p/\aH 70 [.val (.agg [.v (.int .i8 n),.v (.int .i8 d),.v (.int .u8 k)])] ⟨[.val (.agg (iT u w++iT v p))],[none]⟩:=by
 obtain⟨a1,a2,ha,ca⟩:=fY n (by omega) (by omega);obtain⟨b1,b2,hb,cb⟩:=fY d (by omega) (by omega);obtain⟨f1,f2,hf,cf⟩:=fY 1 (by omega) (by omega);obtain⟨c1,c2,hc,cc⟩:=fY (4611686018427387904+k) (by omega) (by omega);obtain⟨e1,e2,he,ce⟩:=fY k (by omega) (by omega);obtain⟨s1,s2,s3⟩:=PA n1 n2 d1 d2 k1 k2;have sc:nl (4611686018427387904+k).natAbs<=2:=tU (by omega)
 have sa:nl n.natAbs<=2:=tU (by omega);have sb:nl d.natAbs<=2:=tU (by omega);have Yu:nl (1:Int).natAbs<=2:=tU (by omega);have sk:nl k.natAbs<=2:=tU (by omega);obtain⟨D,hD⟩:=aq (if d=0 then 1 else d);obtain⟨g1,g2,hg,Eb,sg⟩:∃g1 g2,eZ D g1 g2/\(if d=0 then g1=f1/\g2=f2 else g1=b1/\g2=b2)/\nl D.natAbs<=2:=by
  by_cases h:d=0
  ·rw[if_pos h]at hD;subst hD;exact⟨f1,f2,hf,by rw[if_pos h];exact⟨rfl,rfl⟩,Yu⟩
  ·rw[if_neg h]at hD;subst hD;exact⟨b1,b2,hb,by rw[if_neg h];exact⟨rfl,rfl⟩,sb⟩
 obtain⟨tY,mR⟩:=aq (4611686018427387904+k);have Wn:k%8=7->rU n k=n*tY*tY+k:=fun h=>by unfold rU;rw[if_pos h,mR]
 have eN:¬k%8=7->rU n k=n:=fun h=>by unfold rU;rw[if_neg h]
 have Wo:k%8=6->nV d k=D*tY*tY:=fun h=>by unfold nV;rw[if_pos h,mR,hD]
 have eD:¬k%8=6->nV d k=D:=fun h=>by unfold nV;rw[if_neg h,hD]
 unfold FH;rw[<-mR]at hc cc sc;obtain⟨i1,i2,hi,ci⟩:=Kk ha hc (by omega) (by omega);obtain⟨j1,j2,hj,cj⟩:=Kk hi hc (by rw[Int.natAbs_mul];have:=vL n.natAbs tY.natAbs;omega) (by omega);have sj:nl (n*tY*tY).natAbs<=7:=by
  rw[Int.natAbs_mul,Int.natAbs_mul];have h1:=vL (n.natAbs*tY.natAbs) tY.natAbs;have h2:=vL n.natAbs tY.natAbs;omega
 obtain⟨l1,l2,hl,cl⟩:=AZ hj he (by omega) (by omega);obtain⟨m1,m2,hm,cm⟩:=Kk hg hc (by omega) (by omega);obtain⟨o1,o2,ho,co⟩:=Kk hm hc (by rw[Int.natAbs_mul];have:=vL D.natAbs tY.natAbs;omega) (by omega)
 by_cases h7:k%8=7
 ·have h6:¬k%8=6:=by omega
  rw[Wn h7]at s1;rw[eD h6]at s2 s3;rw[Wn h7,eD h6];obtain⟨u,w,v,p,hq,cq⟩:=UA hl hg s3 (by omega) (by omega);refine⟨u,w,v,p,hq,?_⟩;clear hq s1 s2 s3 sj sg sk Yu sb sa sc hD hc Wn eN Wo eD;refine an ai mixed [.val] Tryz.func70 rfl rfl (by kernel_rfl) fun zD zE _ _ _ zJ _ _ _ _ _ _ zT _ _ _ _ _ _ _ _ _ _ _ _ _ _ _ _ _ _ _ _ _ _ _ _ _ _ _ _ _ _ _ _ _ _ _ _ _ _ A L F hS hF=>?_
  have w1:zD .i64 n=n:=by rw[hS.wrap,wrap_i64 (by omega) (by omega)]
  have w2:zD .i64 d=d:=by rw[hS.wrap,wrap_i64 (by omega) (by omega)]
  have w3:zD .i64 k=k:=by rw[hS.wrap,wrap_i64 (by omega) (by omega)]
  have w4:zD .i64 (zE 4611686018427387904 k)=tY:=by rw[hS.wrap,hS.add,wrap_i64 (by omega) (by omega),mR]
  have w5:zT (zJ k 8) 7=true:=by rw[hS.eq,hS.rem,Int.tmod_eq_emod_of_nonneg k1];exact decide_eq_true h7
  have w6:zT (zJ k 8) 6=false:=by rw[hS.eq,hS.rem,Int.tmod_eq_emod_of_nonneg k1];exact decide_eq_false h6
  cbv;rw[w1];refine hS.cl ca ?_;cbv;rw[w2];refine hS.cl cb ?_;cbv;refine⟨fun hh=>?_,fun hh=>?_⟩
  all_goals rw[hS.eq]at hh
  ·rw[if_pos (of_decide_eq_true hh)]at Eb
   obtain⟨rfl,rfl⟩:=Eb;refine hS.cl cf ?_;cbv;rw[w3,w4];refine hS.cl cc ?_;cbv;apply bT w5;refine hS.cl ci ?_;cbv;refine hS.cl cj ?_;cbv;rw[w3];refine hS.cl ce ?_;cbv;refine hS.cl cl ?_;cbv;apply bF w6;refine hS.cl cq ?_;cbv;exact aC hF
  ·rw[if_neg (of_decide_eq_false hh)]at Eb
   obtain⟨rfl,rfl⟩:=Eb;rw[w3,w4];refine hS.cl cc ?_;cbv;apply bT w5;refine hS.cl ci ?_;cbv;refine hS.cl cj ?_;cbv;rw[w3];refine hS.cl ce ?_;cbv;refine hS.cl cl ?_;cbv;apply bF w6;refine hS.cl cq ?_;cbv;exact aC hF
 ·by_cases h6:k%8=6
  ·rw[eN h7]at s1
   rw[Wo h6]at s2 s3;rw[eN h7,Wo h6];obtain⟨u,w,v,p,hq,cq⟩:=UA ha ho s3 (by omega) (by omega);refine⟨u,w,v,p,hq,?_⟩;clear hq s1 s2 s3 sj sg sk Yu sb sa sc hD hc Wn eN Wo eD;refine an ai mixed [.val] Tryz.func70 rfl rfl (by kernel_rfl) fun zD zE _ _ _ zJ _ _ _ _ _ _ zT _ _ _ _ _ _ _ _ _ _ _ _ _ _ _ _ _ _ _ _ _ _ _ _ _ _ _ _ _ _ _ _ _ _ _ _ _ _ A L F hS hF=>?_
   have w1:zD .i64 n=n:=by rw[hS.wrap,wrap_i64 (by omega) (by omega)]
   have w2:zD .i64 d=d:=by rw[hS.wrap,wrap_i64 (by omega) (by omega)]
   have w3:zD .i64 k=k:=by rw[hS.wrap,wrap_i64 (by omega) (by omega)]
   have w4:zD .i64 (zE 4611686018427387904 k)=tY:=by rw[hS.wrap,hS.add,wrap_i64 (by omega) (by omega),mR]
   have w5:zT (zJ k 8) 7=false:=by rw[hS.eq,hS.rem,Int.tmod_eq_emod_of_nonneg k1];exact decide_eq_false h7
   have w6:zT (zJ k 8) 6=true:=by rw[hS.eq,hS.rem,Int.tmod_eq_emod_of_nonneg k1];exact decide_eq_true h6
   cbv;rw[w1];refine hS.cl ca ?_;cbv;rw[w2];refine hS.cl cb ?_;cbv;refine⟨fun hh=>?_,fun hh=>?_⟩
   all_goals rw[hS.eq]at hh
   ·rw[if_pos (of_decide_eq_true hh)]at Eb
    obtain⟨rfl,rfl⟩:=Eb;refine hS.cl cf ?_;cbv;rw[w3,w4];refine hS.cl cc ?_;cbv;apply bF w5;apply bT w6;refine hS.cl cm ?_;cbv;refine hS.cl co ?_;cbv;refine hS.cl cq ?_;cbv;exact aC hF
   ·rw[if_neg (of_decide_eq_false hh)]at Eb
    obtain⟨rfl,rfl⟩:=Eb;rw[w3,w4];refine hS.cl cc ?_;cbv;apply bF w5;apply bT w6;refine hS.cl cm ?_;cbv;refine hS.cl co ?_;cbv;refine hS.cl cq ?_;cbv;exact aC hF
  ·rw[eN h7]at s1
   rw[eD h6]at s2 s3;rw[eN h7,eD h6];obtain⟨u,w,v,p,hq,cq⟩:=UA ha hg s3 (by omega) (by omega);refine⟨u,w,v,p,hq,?_⟩;clear hq s1 s2 s3 sj sg sk Yu sb sa sc hD hc Wn eN Wo eD;refine an ai mixed [.val] Tryz.func70 rfl rfl (by kernel_rfl) fun zD zE _ _ _ zJ _ _ _ _ _ _ zT _ _ _ _ _ _ _ _ _ _ _ _ _ _ _ _ _ _ _ _ _ _ _ _ _ _ _ _ _ _ _ _ _ _ _ _ _ _ A L F hS hF=>?_
   have w1:zD .i64 n=n:=by rw[hS.wrap,wrap_i64 (by omega) (by omega)]
   have w2:zD .i64 d=d:=by rw[hS.wrap,wrap_i64 (by omega) (by omega)]
   have w3:zD .i64 k=k:=by rw[hS.wrap,wrap_i64 (by omega) (by omega)]
   have w4:zD .i64 (zE 4611686018427387904 k)=tY:=by rw[hS.wrap,hS.add,wrap_i64 (by omega) (by omega),mR]
   have w5:zT (zJ k 8) 7=false:=by rw[hS.eq,hS.rem,Int.tmod_eq_emod_of_nonneg k1];exact decide_eq_false h7
   have w6:zT (zJ k 8) 6=false:=by rw[hS.eq,hS.rem,Int.tmod_eq_emod_of_nonneg k1];exact decide_eq_false h6
   cbv;rw[w1];refine hS.cl ca ?_;cbv;rw[w2];refine hS.cl cb ?_;cbv;refine⟨fun hh=>?_,fun hh=>?_⟩
   all_goals rw[hS.eq]at hh
   ·rw[if_pos (of_decide_eq_true hh)]at Eb
    obtain⟨rfl,rfl⟩:=Eb;refine hS.cl cf ?_;cbv;rw[w3,w4];refine hS.cl cc ?_;cbv;apply bF w5;apply bF w6;refine hS.cl cq ?_;cbv;exact aC hF
   ·rw[if_neg (of_decide_eq_false hh)]at Eb
    obtain⟨rfl,rfl⟩:=Eb;rw[w3,w4];refine hS.cl cc ?_;cbv;apply bF w5;apply bF w6;refine hS.cl cq ?_;cbv;exact aC hF
theorem rV {n d:Int} {k:Nat} (hd:d≠0) (h1:nl n.natAbs<=k) (h2:nl d.natAbs<=k):Qs (Rat.divInt n d) k:=by
 constructor
 ·rw[<-mn hd]
  have:=Fp (Int.natAbs_ediv_le_natAbs n (if d<0 then -(Int.gcd n d:Int) else(Int.gcd n d:Int)));omega
 ·have e:=mo (n:=n) hd
  have:=Fp (Int.natAbs_ediv_le_natAbs d (if d<0 then -(Int.gcd n d:Int) else(Int.gcd n d:Int)));rw[e,Int.natAbs_natCast]at this;omega
theorem Qs.mono {x:Rat} {a b:Nat} (h:Qs x a) (GA:a<=b):Qs x b:=⟨Nat.le_trans h.1 GA,Nat.le_trans h.2 GA⟩
theorem Ba {x y:Rat} {a b:Nat} (hx:Qs x a) (hy:Qs y b):Qs (x+y) (a+b+1):=by
 obtain⟨x1,x2⟩:=hx;obtain⟨y1,y2⟩:=hy;have J6:=x.den_nz;have qF:=y.den_nz;have h:x+y=Rat.divInt (x.num*y.den+y.num*x.den) (x.den*y.den):=by
  rw[<-Rat.divInt_add_divInt _ _ (by omega) (by omega),Rat.num_divInt_den,Rat.num_divInt_den]
 rw[h];have n1:=vL x.num.natAbs y.den;have n2:=vL y.num.natAbs x.den;have n3:=vL x.den y.den;refine rV (Int.mul_ne_zero (by omega) (by omega)) ?_ ?_
 ·have h1:=Fp (Int.natAbs_add_le (x.num*y.den) (y.num*x.den))
  have h2:=xm (x.num*y.den).natAbs (y.num*x.den).natAbs;rw[Int.natAbs_mul,Int.natAbs_mul,Int.natAbs_natCast,Int.natAbs_natCast]at h2;rw[Int.natAbs_mul,Int.natAbs_mul,Int.natAbs_natCast,Int.natAbs_natCast]at h1;omega
 ·rw[Int.natAbs_mul,Int.natAbs_natCast,Int.natAbs_natCast];omega
theorem ub {x y:Rat} {a b:Nat} (hx:Qs x a) (hy:Qs y b):Qs (x*y) (a+b):=by
 obtain⟨x1,x2⟩:=hx;obtain⟨y1,y2⟩:=hy;have J6:=x.den_nz;have qF:=y.den_nz;have h:x*y=Rat.divInt (x.num*y.num) (x.den*y.den):=by
  rw[<-Rat.divInt_mul_divInt,Rat.num_divInt_den,Rat.num_divInt_den]
 rw[h];have n1:=vL x.num.natAbs y.num.natAbs;have n3:=vL x.den y.den;refine rV (Int.mul_ne_zero (by omega) (by omega)) ?_ ?_
 ·rw[Int.natAbs_mul];omega
 ·rw[Int.natAbs_mul,Int.natAbs_natCast,Int.natAbs_natCast];omega
def rW (R:Abs.Rows) (i:Int):St:=ae 29 [.c (.t (.aa false R)),.af,vb false,vi .i64 i] [none]
theorem FJ (cs:List QC) (b:Bool) (hb:b=true↔Wm cs) (hl:cs.length<=1000)
  (hv:∀c∈cs,∃b1:Bool,(b1=true↔c.can)/\aH 122 [.val (.agg c.row)] ⟨[.val (tb b1)],[none]⟩)
  (hs:∀c∈cs,c.can->∃k:Int,(k=0↔c.l=[])/\aH 62 [.val (.agg c.row)] ⟨[.val (ti .i64 k)],[none]⟩) :
  aH 125 [.val (tl (j6 cs))] ⟨[.val (tb b)],[none]⟩:=by
 obtain⟨R,hR⟩:=aq (j6 cs);obtain⟨n,hn⟩:=aq (cs.length);have hRl:R.length=n:=by rw[hR,Ks,hn]
 have gn:∀i,i<n->∃c∈cs,cs[i]?=some c/\∃(s t:Bool) (r q:Abs.Rows),c.row=[.v (.bool s),.aa false r,.v (.bool t),.aa false q]/\R[i]?=some c.row:=fun i hi=>by
  have h:cs[i]?=some cs[i]:=List.getElem?_eq_getElem (by omega);have h2:=Kt h;rw[<-hR]at h2;exact⟨_,List.mem_of_getElem? h,h,_,_,_,_,rfl,h2⟩
 have I8:∀c∈cs,¬c.can->false=b:=fun c hc h=>by
  cases b with
  | false=>rfl
  | true=>exact absurd ((hb.1 rfl).1 c hc) h
 have eU:(∀i c,i<n->cs[i]?=some c->c.can)->(n=0->true=b)/\∀c,cs[n-1]?=some c->decide (c.l≠[])=b:=fun h=>by
  have jA:∀c∈cs,c.can:=fun c hc=>by
   obtain⟨i,hi⟩:=List.getElem?_of_mem hc;exact h i c (by rw[hn];exact(List.getElem?_eq_some_iff.1 hi).1) hi
  refine⟨fun h0=>?_,fun c hc=>?_⟩
  ·have:cs=[]:=List.length_eq_zero_iff.1 (by omega)
   exact(hb.2 ⟨jA,fun c hc=>by rw[this]at hc;cases hc⟩).symm
  ·have A5:cs.getLast?=some c:=by rw[List.getLast?_eq_getElem?,<-hn];exact hc
   cases b with
   | false=>exact decide_eq_false fun dh=>absurd (hb.2 ⟨jA,fun c' LW=>by rw[A5]at LW;cases LW;exact dh⟩) (by simp)
   | true=>exact decide_eq_true ((hb.1 rfl).2 c A5)
 rw[<-hR];clear hR hb;refine an ai mixed [.val] Tryz.func125 rfl rfl (by kernel_rfl) fun zD zE zG _ _ _ _ _ _ _ _ _ zT zU zV zX zY _ _ _ _ zu _ zz _ _ _ _ _ _ _ ab aB _ _ _ _ _ _ _ _ _ _ _ _ _ _ _ _ _ _ A L F hS hF=>?_
 have Lw:ab R=n:=by rw[hS.len,hRl]
 have y1:zY true=false:=hS.not true;have y2:zY false=true:=hS.not false;obtain⟨N,hN,FG⟩:∃N:Int,N=n/\zz (ab R)=N:=⟨_,rfl,by rw[Lw,hS.az]⟩;cbv;have hN:N=(n:Int):=hN;refine fW ai mixed hS (fun(j:Nat) s'=>∃(i:Nat) (I:Int),I=i/\i+j=n/\(∀k c,k<i->cs[k]?=some c->c.can)/\s'=rW R I) (n:=n) (s0:=rW R 0) (fy ?_ ?_) rfl (Nat.le_refl 1) ?_ ?_
 ·simp[dS,rW,ae,vi,vb]
 ·simp[dU,rW,ae]
 ·exact⟨0,0,rfl,by omega,fun k c hk=>by omega,rfl⟩
 ·rintro j s1 ⟨i,I,hI,Ed,nu,ji⟩
  have aa0:zu I=i:=by rw[hS.nat];omega
  have g0:zX 0 I=true:=dT (hS.le ..) (by omega)
  by_cases hi:i<n
  ·have l1:zV I (zz (ab R))=true:=by rw[FG,hS.lt];exact decide_eq_true (by omega)
   obtain⟨c,hc,M3,s,t,r,q,dk,M4⟩:=gn i hi;obtain⟨b1,mZ,cv⟩:=hv c hc;have hz:aB R (zu I)=some [.v (.bool s),.aa false r,.v (.bool t),.aa false q]:=by rw[aa0,hS.nth,M4,dk]
   rw[dk]at cv;have hf:=I8 c hc;cases b1 with
   | false=>
    have hfb:=hf fun h=>absurd (mZ.2 h) (by simp)
    clear gn hv hs I8 eU nu hf;subst ji;cbv;apply bT l1;rw[hz];cbv;apply nd g0;refine hS.cl cv ?_;cbv;apply bT y2;exact bc hF (jf hfb)
   | true=>
    have hjj:j-1<j:=by omega
    obtain⟨I',hI',i1⟩:∃I':Int,I'=((i+1:Nat):Int)/\zD .i64 (zE I 1)=I':=⟨I+1,by omega,by rw[hS.add,hS.wrap,wrap_i64 (by omega) (by omega)]⟩;have j7:∃(i2:Nat) (I2:Int),I2=i2/\i2+(j-1)=n/\(∀k c,k<i2->cs[k]?=some c->c.can)/\rW R I'=rW R I2:=⟨i+1,I',hI',by omega,fun k c' hk LW=>by
     by_cases h:k=i
     ·rw[h,M3]at LW;cases LW;exact mZ.1 rfl
     ·exact nu k c' (by omega) LW,rfl⟩
    clear gn hv hs I8 eU nu hf mZ;subst ji;cbv;apply bT l1;rw[hz];cbv;apply nd g0;refine hS.cl cv ?_;cbv;apply bF y1;exact again (s':=rW R I') (m:=j-1) (by simp[dS,rW,ae,vi,vb,i1]) (by simp[dU,rW,ae]) rfl (Nat.le_refl 1) hjj j7
  ·have l1:zV I (zz (ab R))=false:=by rw[FG,hS.lt];exact decide_eq_false (by omega)
   have jc:i=n:=by omega
   obtain⟨he1,QY⟩:=eU fun k c hk hc=>nu k c (by omega) hc
   have e0:zT (zz (ab R)) 0=decide (n=0):=by
    rw[FG,hS.eq]
    by_cases h:n=0
    ·rw[decide_eq_true h];exact decide_eq_true (by omega)
    ·rw[decide_eq_false h];exact decide_eq_false (by omega)
   by_cases JH:n=0
   ·have hT:=he1 JH
    rw[decide_eq_true JH]at e0;clear gn hv hs I8 eU nu;subst ji;cbv;exact bF l1 (bT e0 (bc hF (jf hT)))
   ·rw[decide_eq_false JH]at e0
    obtain⟨c,hc,M3,s,t,r,q,dk,M4⟩:=gn (n-1) (by omega);obtain⟨k,hk,cg⟩:=hs c hc (nu (n-1) c (by omega) M3);have gz:=QY c M3;obtain⟨J,hJ,j1⟩:∃J:Int,J=((n-1:Nat):Int)/\zD .i64 (zG (zz (ab R)) 1)=J:=⟨N-1,by omega,by rw[FG,hS.sub,hS.wrap,wrap_i64 (by omega) (by omega)]⟩;have g1:zX 0 J=true:=dT (hS.le ..) (by omega);have hz:aB R (zu J)=some [.v (.bool s),.aa false r,.v (.bool t),.aa false q]:=by rw[hS.nat,hJ,Int.toNat_natCast,hS.nth,M4,dk]
    rw[dk]at cg;have e9:zU k 0=b:=by
     rw[hS.ne,<-gz]
     by_cases h:k=0
     ·rw[decide_eq_false (by omega),decide_eq_false (by have:=hk.1 h;simp[this])]
     ·rw[decide_eq_true h];exact(decide_eq_true (p:=¬c.l=[]) fun h'=>h (hk.2 h')).symm
    clear gn hv hs I8 eU nu he1 QY hk gz hc M3;subst ji;cbv;refine bF l1 (bF e0 ?_);rw[j1,hz];cbv;apply nd g1;refine hS.cl cg ?_;cbv;exact bc hF (jf e9)
def rX (R:Abs.Rows) (n:Int):St:=ae 22 [.c (.t (.aa false R)),.af,.af,vi .i64 n] [none]
theorem FK (P:List Rat) (hl:P.length<=1000)
  (hs:∀q:Rat,∃k:Int,(k=0↔q=0)/\aH 62 [.val (.agg (qc q).row)] ⟨[.val (ti .i64 k)],[none]⟩) :
  aH 108 [.val (tl (ur P))] ⟨[.val (tl (ur (bW P)))],[none]⟩:=by
 obtain⟨R,hR⟩:=aq (ur P);obtain⟨n,hn⟩:=aq (P.length);have hRl:R.length=n:=by rw[hR,xr,hn]
 have gn:∀i,i<n->∃q:Rat,P.getD i 0=q/\∃(s t:Bool) (r p:Abs.Rows),(qc q).row=[.v (.bool s),.aa false r,.v (.bool t),.aa false p]/\R[i]?=some (qc q).row:=fun i hi=>by
  have h:P[i]?=some P[i]:=List.getElem?_eq_getElem (by omega);have h2:=Ta h;rw[<-hR]at h2;exact⟨_,by rw[List.getD_eq_getElem?_getD,h];rfl,_,_,_,_,rfl,h2⟩
 have SF:(R.all fun r=>r.length==4)=true:=by
  refine List.all_eq_true.2 fun r hr=>?_
  rw[hR]at hr;obtain⟨c,_,rfl⟩:=List.mem_map.1 hr;rfl
 obtain⟨T,hT⟩:=aq (gX P P.length);obtain⟨Q,hQ⟩:=aq (ur (bW P));have eU:∀k,gX P k=T->k<=n->T=k->Q=(R.drop 0).take k:=fun k _ _ hk=>by
  rw[hQ,hR,List.drop_zero,Pz,<-hk,hT];rfl
 rw[<-hR,<-hQ];rw[<-hn]at hT;clear hR hQ;refine an ai mixed [.val] Tryz.func108 rfl rfl (by kernel_rfl) fun zD _ zG _ _ _ _ _ _ _ _ _ zT _ zV zX _ _ _ _ _ zu _ zz _ _ _ _ bI _ _ ab aB _ _ _ _ _ aD _ _ _ aM _ _ _ _ _ _ _ _ A L F hS hF=>?_
 have Lw:ab R=n:=by rw[hS.len,hRl]
 obtain⟨N,hN,FG⟩:∃N:Int,N=n/\zz (ab R)=N:=⟨_,rfl,by rw[Lw,hS.az]⟩;cbv;have hN:N=(n:Int):=hN;refine fW ai mixed hS (fun(k:Nat) s'=>∃I:Int,I=k/\k<=n/\gX P k=T/\s'=rX R I) (n:=n) (s0:=rX R N) (fy ?_ ?_) rfl (Nat.le_refl 1) ?_ ?_
 ·simp[dS,rX,ae,vi,vb,FG]
 ·simp[dU,rX,ae]
 ·exact⟨N,hN,Nat.le_refl _,hT.symm,rfl⟩
 ·rintro k s1 ⟨I,hI,hk,Wp,ji⟩
  have w1:bI 0 I (ab R)=true:=by rw[hS.cut,Lw];exact decide_eq_true (by omega)
  have w2:aM 4 R=true:=by rw[hS.wide];exact SF
  have w3:aD R 0 (zu I)=(R.drop 0).take k:=by rw[hS.part,hS.nat,hI,Int.toNat_natCast]
  by_cases Of:k=0
  ·have l1:zV 0 I=false:=dF (hS.lt ..) (by omega)
   have hq:=eU k Wp hk (by rw[<-Wp,Of];rfl);subst ji;cbv;refine bF l1 (nd w1 (nd w2 ?_));rw[w3,<-hq];exact aC hF
  ·have l1:zV 0 I=true:=dT (hS.lt ..) (by omega)
   obtain⟨q,hqi,s,t,r,p,dk,M4⟩:=gn (k-1) (by omega);obtain⟨c,hc,cg⟩:=hs q;obtain⟨J,hJ,j1⟩:∃J:Int,J=((k-1:Nat):Int)/\zD .i64 (zG I 1)=J:=⟨I-1,by omega,by rw[hS.sub,hS.wrap,wrap_i64 (by omega) (by omega)]⟩;have g1:zX 0 J=true:=dT (hS.le ..) (by omega);have hz:aB R (zu J)=some [.v (.bool s),.aa false r,.v (.bool t),.aa false p]:=by rw[hS.nat,hJ,Int.toNat_natCast,hS.nth,M4,dk]
   rw[dk]at cg;have L9:gX P k=if q=0 then gX P (k-1) else k:=by
    obtain⟨m,rfl⟩:∃m,k=m+1:=⟨k-1,by omega⟩;rw[Nat.add_sub_cancel]at hqi;rw[Nat.add_sub_cancel];show(if P.getD m 0=0 then gX P m else m+1)=_
    rw[hqi]
   by_cases Kl:q=0
   ·have e1:zT c 0=true:=dT (hS.eq ..) (hc.2 Kl)
    rw[if_pos Kl]at L9;have hkk:k-1<k:=by omega
    have j7:∃I2:Int,I2=((k-1:Nat):Int)/\k-1<=n/\gX P (k-1)=T/\rX R J=rX R I2:=⟨J,hJ,by omega,by rw[<-L9];exact Wp,rfl⟩;clear gn hs eU;subst ji;cbv;apply bT l1;rw[j1,hz];cbv;apply nd g1;refine hS.cl cg ?_;cbv;apply bT e1;exact again (s':=rX R J) (m:=k-1) (by simp[dS,rX,ae,vi,vb,j1]) (by simp[dU,rX,ae]) rfl (Nat.le_refl 1) hkk j7
   ·have e1:zT c 0=false:=dF (hS.eq ..) fun h=>Kl (hc.1 h)
    rw[if_neg Kl]at L9;have hq:=eU k Wp hk (by rw[<-Wp,L9]);clear gn hs eU;subst ji;cbv;apply bT l1;rw[j1,hz];cbv;apply nd g1;refine hS.cl cg ?_;cbv;apply bF e1;apply nd w1;apply nd w2;rw[w3,<-hq];exact aC hF
structure RW where
 n:Int
 d:Int
 k:Int
structure RW.ok (x:RW):Prop where
 n1:-128<=x.n
 n2:x.n<128
 d1:-128<=x.d
 d2:x.d<128
 k1:0<=x.k
 k2:x.k<256
def RW.row (x:RW):List Tree:=[.v (.int .i8 x.n),.v (.int .i8 x.d),.v (.int .u8 x.k)]
def RW.q (x:RW):Rat:=FH x.n x.d x.k
theorem xu {x:Int} {s t:Bool} {r q:Abs.Rows} (c:Int) (hx:eZ x s r) (hc:c=bH x 0):aH 161 [.val (.agg (iT s r++iT t q))] ⟨[.val (ti .i64 c)],[none]⟩:=by
 have c1:=qN c hx hc;refine an ai mixed [.val] Tryz.func161 rfl rfl (by kernel_rfl) ?_;intros;rename_i A L F hS hF;cbv;refine hS.cl c1 ?_;cbv;exact aC hF
theorem j8 {x:Int} {s t:Bool} {r q:Abs.Rows} (c:Int) (hx:eZ x s r) (hc:c=bH x 0):aH 62 [.val (.agg (iT s r++iT t q))] ⟨[.val (ti .i64 c)],[none]⟩:=by
 have c1:=mi c hx hc;refine an ai mixed [.val] Tryz.func62 rfl rfl (by kernel_rfl) ?_;intros;rename_i A L F hS hF;cbv;refine hS.cl c1 ?_;cbv;exact aC hF
theorem M5 (x:Int):bH x 0=0↔x=0:=by
 unfold bH
 by_cases h:x<0
 ·rw[if_pos h];omega
 ·rw[if_neg h];split<;>omega
theorem Dx (cs:List QC) (b:Bool) (hb:b=true↔Wm cs) (hw:∀c∈cs,c.ok 1000) (hl:cs.length<=1000):aH 125 [.val (tl (j6 cs))] ⟨[.val (tb b)],[none]⟩:=by
 refine FJ cs b hb hl (fun c hc=>?_) (fun c hc aa1=>?_)
 ·obtain⟨b1,mZ⟩:=Py c.can
  have h:=hw c hc;exact⟨b1,mZ,rS b1 mZ h.l h.m (by have:=h.ll;omega) (by have:=h.lm;omega)⟩
 ·obtain⟨x,h1,h2⟩:=QC.sign aa1
  exact⟨bH x 0,(M5 x).trans h2,j8 _ h1 rfl⟩
theorem HK (P:List Rat) (hl:P.length<=1000):aH 108 [.val (tl (ur P))] ⟨[.val (tl (ur (bW P)))],[none]⟩:=
 FK P hl fun q=>⟨bH q.num 0,(M5 q.num).trans Rat.num_eq_zero,j8 _ (fP q).n rfl⟩
theorem Qs.neg {x:Rat} {k:Nat} (h:Qs x k):Qs (-x) k:=⟨by show nl (-x.num).natAbs<=k;rw[Int.natAbs_neg];exact h.1,h.2⟩
theorem PC (x:Rat):Int.gcd x.num x.den=1:=by
 have:=x.reduced;unfold Nat.Coprime at this;unfold Int.gcd;rw[Int.natAbs_natCast];exact this
def jt (x y:Rat):Int:=if x<y then -1 else if y<x then 1 else 0
theorem xw (x y:Rat):jt x y=bH (x.num*y.den) (y.num*x.den):=by
 unfold jt bH
 by_cases h:x<y
 ·rw[if_pos h,if_pos ((Rat.lt_iff x y).1 h)]
 ·rw[if_neg h,if_neg (fun h'=>h ((Rat.lt_iff x y).2 h'))]
  by_cases h2:y<x
  ·rw[if_pos h2,if_pos ((Rat.lt_iff y x).1 h2)]
  ·rw[if_neg h2,if_neg (fun h'=>h2 ((Rat.lt_iff y x).2 h'))]
theorem HL {a b c d:Int} (hc:0<c) (hd:0<d) (h:bH a 0≠bH b 0):bH (a*d) (b*c)=if bH a 0<bH b 0 then -1 else 1:=by
 have key:∀ {x y:Int},0<y->(0<x->0<x*y)/\(x<0->x*y<0)/\(x=0->x*y=0):=fun {x y} hy=>⟨fun h=>Int.mul_pos h hy,fun h=>Int.mul_neg_of_neg_of_pos h hy,fun h=>by rw[h,Int.zero_mul]⟩
 obtain⟨a1,a2,a3⟩:=key (x:=a) hd;obtain⟨b1,b2,b3⟩:=key (x:=b) hc;generalize a*d=A,b*c=B at *;unfold bH at h ⊢;rcases Int.lt_trichotomy a 0 with ha|ha|ha<;>rcases Int.lt_trichotomy b 0 with hb|hb|hb
 all_goals (repeat' split)<;>omega
theorem Ku {x y:Rat} {s t s' t':Bool} {r q r' q':Abs.Rows} (c:Int) (hx:xq x s r t q) (hy:xq y s' r' t' q') (hc:c=jt x y) (h1:Qs x 68719476736) (h2:Qs y 68719476736) :
  aH 145 [.val (.agg (iT s r++iT t q)),.val (.agg (iT s' r'++iT t' q'))] ⟨[.val (ti .i64 c)],[none,none]⟩:=by
 obtain⟨x1,x2⟩:=h1;obtain⟨y1,y2⟩:=h2;have J6:=x.den_pos;have qF:=y.den_pos;have n1:=vL x.num.natAbs y.den;have n2:=vL y.num.natAbs x.den;rw[xw]at hc;have cx:=xu (t:=t) (q:=q) (bH x.num 0) hx.n rfl;have cy:=xu (t:=t') (q:=q') (bH y.num 0) hy.n rfl;obtain⟨a,b,ha,ca⟩:=pI hx.n hy.d (by omega) (by rw[Int.natAbs_natCast];omega);obtain⟨a',b',Wk,Wl⟩:=pI hy.n hx.d (by omega) (by rw[Int.natAbs_natCast];omega)
 have m1:nl (x.num*y.den).natAbs<=2199023255552:=by rw[Int.natAbs_mul,Int.natAbs_natCast];omega
 have m2:nl (y.num*x.den).natAbs<=2199023255552:=by rw[Int.natAbs_mul,Int.natAbs_natCast];omega
 have cc:=Ko c ha Wk hc m1 m2;have hsg:=HL (a:=x.num) (b:=y.num) (c:=x.den) (d:=y.den) (by omega) (by omega);rw[<-hc]at hsg;generalize bH x.num 0=sx,bH y.num 0=sy at *;clear hc;refine an ai mixed [.val] Tryz.func145 rfl rfl (by kernel_rfl) ?_;intros;rename_i zU zV _ _ _ _ _ _ _ _ _ _ _ _ _ _ _ _ _ _ _ _ _ _ a9 aD _ _ _ _ _ _ _ _ _ _ _ _ A L F hS hF;have zf:∀(a b:Bool) (c d:Abs.Rows),a9 0 2 [[.v (.bool a),.aa false c],[.v (.bool b),.aa false d]]=true:=fun a b c d=>by rw[hS.fit];rfl
 have zp:∀(a b:Bool) (c d:Abs.Rows),aD [[.v (.bool a),.aa false c],[.v (.bool b),.aa false d]] 0 2=[[.v (.bool a),.aa false c],[.v (.bool b),.aa false d]]:=fun a b c d=>by rw[hS.part];rfl
 have e1:zU sx sy=decide (sx≠sy):=hS.ne ..;have e2:zV sx sy=decide (sx<sy):=hS.lt ..
 by_cases h:sx≠sy
 ·have OO:=hsg h
  rw[decide_eq_true h]at e1
  by_cases h2:sx<sy
  ·rw[if_pos h2]at OO
   rw[decide_eq_true h2]at e2;subst OO;cbv;refine hS.cl cx ?_;cbv;refine hS.cl cy ?_;cbv;apply bT e1;apply bT e2;exact aC hF
  ·rw[if_neg h2]at OO
   rw[decide_eq_false h2]at e2;subst OO;cbv;refine hS.cl cx ?_;cbv;refine hS.cl cy ?_;cbv;apply bT e1;apply bF e2;exact aC hF
 ·rw[decide_eq_false h]at e1
  cbv;refine hS.cl cx ?_;cbv;refine hS.cl cy ?_;cbv;apply bF e1;apply nd (zf ..);rw[zp];refine hS.cl ca ?_;cbv;apply nd (zf ..);rw[zp];refine hS.cl Wl ?_;cbv;refine hS.cl cc ?_;cbv;exact aC hF
theorem Tb {x:Rat} (h:x≠0):(x⁻¹).num=(if x.num<0 then -(x.den:Int) else x.den)/\((x⁻¹).den:Int)=if x.num<0 then -x.num else x.num:=by
 have hn:x.num≠0:=fun e=>h (Rat.num_eq_zero.1 e)
 have hd:=x.den_pos;rw[Rat.inv_def];have ln:=mn (n:=(x.den:Int)) (d:=x.num) hn;have ld:=mo (n:=(x.den:Int)) (d:=x.num) hn;have hg:Int.gcd (x.den:Int) x.num=1:=by rw[Int.gcd_comm];exact PC x
 rw[hg]at ln ld;rw[<-ln,<-ld]
 by_cases h0:x.num<0
 ·rw[if_pos h0,if_pos h0,if_pos h0];simp
 ·rw[if_neg h0,if_neg h0,if_neg h0];simp
theorem HM {x:Rat} {s t:Bool} {r q:Abs.Rows} (hx:xq x s r t q) (h1:Qs x 68719476736) :
  ∃u w,xq (-x) u w t q/\aH 98 [.val (.agg (iT s r++iT t q))] ⟨[.val (.agg (iT u w++iT t q))],[none]⟩:=by
 obtain⟨u,w,h,c⟩:=AY hx.n (by have:=h1.1;omega);refine⟨u,w,⟨h,hx.d⟩,?_⟩;refine an ai mixed [.val] Tryz.func98 rfl rfl (by kernel_rfl) ?_;intros;rename_i A L F hS hF;cbv;refine hS.cl c ?_;cbv;exact aC hF
theorem Dy (n:Int) (h1:-9223372036854775808<=n) (h2:n<9223372036854775808):∃s r v p,xq (n:Rat) s r v p/\aH 37 [.val (ti .i64 n)] ⟨[.val (.agg (iT s r++iT v p))],[none]⟩:=by
 obtain⟨s,r,h,c⟩:=fY n h1 h2;obtain⟨v,p,h3,c2⟩:=fY 1 (by omega) (by omega);refine⟨s,r,v,p,⟨by rw[Rat.num_intCast];exact h,by rw[Rat.den_intCast];exact h3⟩,?_⟩;refine an ai mixed [.val] Tryz.func37 rfl rfl (by kernel_rfl) ?_;intros;rename_i A L F hS hF;cbv;refine hS.cl c ?_;cbv;refine hS.cl c2 ?_;cbv;exact aC hF
theorem HN {x y:Rat} {s t s' t':Bool} {r q r' q':Abs.Rows} (c:Int) (hx:xq x s r t q) (hy:xq y s' r' t' q') (hc:c=jt x y) (h1:Qs x 68719476736) (h2:Qs y 68719476736) :
  aH 99 [.val (.agg (iT s r++iT t q)),.val (.agg (iT s' r'++iT t' q'))] ⟨[.val (ti .i64 c)],[none,none]⟩:=by
 obtain⟨x1,x2⟩:=h1;obtain⟨y1,y2⟩:=h2;have n1:=vL x.num.natAbs y.den;have n2:=vL y.num.natAbs x.den;rw[xw]at hc;obtain⟨a,b,ha,ca⟩:=Kk hx.n hy.d (by omega) (by rw[Int.natAbs_natCast];omega);obtain⟨a',b',Wk,Wl⟩:=Kk hy.n hx.d (by omega) (by rw[Int.natAbs_natCast];omega);have m1:nl (x.num*y.den).natAbs<=2199023255552:=by rw[Int.natAbs_mul,Int.natAbs_natCast];omega
 have m2:nl (y.num*x.den).natAbs<=2199023255552:=by rw[Int.natAbs_mul,Int.natAbs_natCast];omega
 have cc:=AX c ha Wk hc m1 m2;refine an ai mixed [.val] Tryz.func99 rfl rfl (by kernel_rfl) ?_;intros;rename_i A L F hS hF;cbv;refine hS.cl ca ?_;cbv;refine hS.cl Wl ?_;cbv;refine hS.cl cc ?_;cbv;exact aC hF
def my (s t:Bool) (r q:Abs.Rows) (i:Int):St:=ae 38 [.af,.af,.c (.ptr 2 0 0),.c (.ptr 3 0 0),.af,vi .i64 i] [none,none,some (.var [.t (.v (.bool s)),.t (.aa false r)]),some (.var [.t (.v (.bool t)),.t (.aa false q)])]
theorem rY {x y:Int} {s t:Bool} {r q:Abs.Rows} (hx:eZ x s r) (hy:eZ y t q) (G4:nl x.natAbs<=2199023255552):aH 152 [.val (.agg (iT s r)),.val (.agg (iT t q))] ⟨[.val (tb (decide (x=y)))],[none,none]⟩:=by
 have hl:r.length=nl x.natAbs:=hx.m.len;have hm:q.length=nl y.natAbs:=hy.m.len;have dh:s≠t->x≠y:=fun h e=>h (by rw[hx.s,hy.s,e])
 have hle:nl x.natAbs≠nl y.natAbs->x≠y:=fun h e=>h (by rw[e])
 have hwe:∀i,(dg x.natAbs).getD i 0≠(dg y.natAbs).getD i 0->x≠y:=fun i h e=>h (by rw[e])
 have heq:s=t->nl x.natAbs=nl y.natAbs->(dg x.natAbs).take (nl x.natAbs)=(dg y.natAbs).take (nl x.natAbs)->x=y:=fun h1 h2 h3=>by
  have e1:(dg x.natAbs).take (nl x.natAbs)=dg x.natAbs:=List.take_of_length_le (Nat.le_refl _);have e2:(dg y.natAbs).take (nl x.natAbs)=dg y.natAbs:=List.take_of_length_le (by rw[h2];exact Nat.le_refl _);rw[e1,e2]at h3;have h4:=congrArg val h3;rw[jH,jH]at h4;have h5:=hx.s;rw[h1,hy.s]at h5;have h6:(y<0)↔(x<0):=by
   constructor
   ·intro h;rw[decide_eq_true h]at h5;exact of_decide_eq_true h5.symm
   ·intro h;rw[decide_eq_true h]at h5;exact of_decide_eq_true h5
  omega
 have gx:∀i:Nat,ZI.cJ.dK r i=(dg x.natAbs).getD i 0:=fun i=>by rw[hx.m,m8]
 have gy:∀i:Nat,ZI.cJ.dK q i=(dg y.natAbs).getD i 0:=fun i=>by rw[hy.m,m8]
 have ix:∀i:Nat,i<nl x.natAbs->ZI.cJ.gM .u32 r i=true:=fun i h=>by rw[hx.m,kY];exact decide_eq_true h
 have iy:∀i:Nat,i<nl y.natAbs->ZI.cJ.gM .u32 q i=true:=fun i h=>by rw[hy.m,kY];exact decide_eq_true h
 have IU:∀i:Nat,i<nl x.natAbs->nl x.natAbs=nl y.natAbs->(dg x.natAbs).take i=(dg y.natAbs).take i->(dg x.natAbs).getD i 0=(dg y.natAbs).getD i 0->(dg x.natAbs).take (i+1)=(dg y.natAbs).take (i+1):=fun i h h' h2 h3=>by
  have a1:i<(dg x.natAbs).length:=h;have a2:i<(dg y.natAbs).length:=(show i<nl y.natAbs by omega);rw[List.take_succ_eq_append_getElem a1,List.take_succ_eq_append_getElem a2,h2];rw[List.getD_eq_getElem?_getD,List.getD_eq_getElem?_getD,List.getElem?_eq_getElem a1,List.getElem?_eq_getElem a2,Option.getD_some,Option.getD_some]at h3;rw[h3]
 refine an ai mixed [.val] Tryz.func152 rfl rfl (by kernel_rfl) fun zD zE _ _ _ _ _ _ _ _ _ _ _ zU zV zX _ _ _ _ _ zu _ zz _ _ _ _ _ _ _ ab _ _ aL ar _ _ _ _ _ _ _ _ _ _ _ _ _ _ _ A L F hS hF=>?_
 have f0:x≠y->F ⟨[.val (.c (.v (.bool false)))],[none,none]⟩:=fun h=>bc hF (by rw[decide_eq_false h];rfl)
 have f1:x=y->F ⟨[.val (.c (.v (.bool true)))],[none,none]⟩:=fun h=>bc hF (by rw[decide_eq_true h];rfl)
 have e0:zU (zz (ab r)) (zz (ab q))=decide (nl x.natAbs≠nl y.natAbs):=by
  rw[hS.ne,hS.len,hS.len,hS.az,hS.az,hl,hm]
  by_cases h:nl x.natAbs=nl y.natAbs
  ·rw[decide_eq_false (show ¬nl x.natAbs≠nl y.natAbs by omega)];exact decide_eq_false (by omega)
  ·rw[decide_eq_true h];exact decide_eq_true (by omega)
 have Lw:ab r=nl x.natAbs:=by rw[hS.len,hl]
 generalize hLx:nl x.natAbs=Lx at *;cbv;refine⟨fun h=>f0 ?_,fun h=>⟨fun h'=>f0 ?_,fun h'=>?_⟩⟩
 all_goals rw[hS.bne]at h
 ·exact dh (by intro e;subst e;simp at h)
 all_goals rw[e0]at h'
 ·exact hle (of_decide_eq_true h')
 ·have dR:s=t:=by cases s<;>cases t<;>first|rfl|(simp at h)
  have UC:Lx=nl y.natAbs:=by have:=of_decide_eq_false h';omega
  refine fW ai mixed hS (fun(k:Nat) s'=>∃i:Nat,i+k=Lx/\(dg x.natAbs).take i=(dg y.natAbs).take i/\s'=my s t r q (zz i)) (n:=Lx) (s0:=my s t r q (zz 0)) (fy ?_ ?_) rfl (by show 2<=4;omega) ?_ ?_
  ·simp[dS,my,ae,vi,hS.az]
  ·simp[dU,my,ae]
  ·exact⟨0,by omega,rfl,rfl⟩
  ·rintro k _ ⟨i,hi,he,rfl⟩
   obtain⟨i1,OI⟩:=aq (i+1);have c1:zV (zz i) (zz (ab r))=decide (k≠0):=by
    rw[Lw,hS.lt,hS.az,hS.az]
    by_cases h:k=0
    ·rw[decide_eq_false (show ¬k≠0 by omega)];exact decide_eq_false (by omega)
    ·rw[decide_eq_true h];exact decide_eq_true (by omega)
   have c2:zX 0 (zz i)=true:=by rw[hS.le,hS.az];exact decide_eq_true (by omega)
   have c3:zu (zz i)=i:=by rw[hS.nat,hS.az];omega
   have c4:i<Lx->aL .u32 r (zu (zz i))=true:=fun h=>by rw[c3,hS.gM];exact ix i h
   have c5:i<Lx->aL .u32 q (zu (zz i))=true:=fun h=>by rw[c3,hS.gM];exact iy i (by omega)
   have c6:zU (ar r (zu (zz i))) (ar q (zu (zz i)))=decide ((dg x.natAbs).getD i 0≠(dg y.natAbs).getD i 0):=by
    rw[c3,hS.ne,hS.dK,hS.dK,gx,gy]
   have c7:i<Lx->zD .i64 (zE (zz i) 1)=zz i1:=fun h=>by rw[hS.wrap,hS.add,hS.az,hS.az,wrap_i64 (by omega) (by omega),OI];omega
   have nx:i<Lx->(dg x.natAbs).getD i 0=(dg y.natAbs).getD i 0->(dg x.natAbs).take i1=(dg y.natAbs).take i1:=fun h h2=>by rw[OI];exact IU i h UC he h2
   have ki:k≠0->i<Lx:=by omega
   have k1:k≠0->i1+(k-1)=Lx/\k-1<k:=by omega
   have kz:k=0->x=y:=fun h=>heq dR UC (by rw[show i=Lx by omega]at he;exact he)
   clear hi OI IU ix iy gx gy;cbv;refine⟨fun h=>?_,fun h=>f1 ?_⟩
   all_goals rw[c1]at h
   ·have hk:=of_decide_eq_true h
    refine nd c2 (nd (c4 (ki hk)) (nd c2 (nd (c5 (ki hk)) ⟨fun h2=>f0 ?_,fun h2=>?_⟩)))
    all_goals rw[c6]at h2
    ·exact hwe i (of_decide_eq_true h2)
    ·rw[c7 (ki hk)]
     exact again (s':=my s t r q (zz i1)) (m:=k-1) (by simp[dS,my,ae,vi]) (by simp[dU,my,ae]) rfl (by show 2<=4;omega) (k1 hk).2 ⟨i1,(k1 hk).1,nx (ki hk) (Decidable.not_not.mp (of_decide_eq_false h2)),rfl⟩
   ·exact kz (Decidable.not_not.mp (of_decide_eq_false h))
theorem FL {x y:Rat} {s t s' t':Bool} {r q r' q':Abs.Rows} (b:Bool) (hx:xq x s r t q) (hy:xq y s' r' t' q') (hb:b=true↔x=y) (h1:Qs x 68719476736) :
  aH 127 [.val (.agg (iT s r++iT t q)),.val (.agg (iT s' r'++iT t' q'))] ⟨[.val (tb b)],[none,none]⟩:=by
 have c1:=rY hx.n hy.n (by have:=h1.1;omega);have c2:=rY hx.d hy.d (by rw[Int.natAbs_natCast];have:=h1.2;omega);have dh:x.num≠y.num->false=b:=fun h=>by
  cases b with
  | false=>rfl
  | true=>exact absurd (by rw[hb.1 rfl]) h
 have hde:x.num=y.num->decide ((x.den:Int)=y.den)=b:=fun h=>by
  cases b with
  | false=>exact decide_eq_false fun h2=>absurd (hb.2 (Rat.ext h (by omega))) (by simp)
  | true=>exact decide_eq_true (by rw[hb.1 rfl])
 by_cases h:x.num=y.num
 ·rw[decide_eq_true h]at c1
  rw[hde h]at c2;refine an ai mixed [.val] Tryz.func127 rfl rfl (by kernel_rfl) ?_;intros;rename_i A L F hS hF;cbv;refine hS.cl c1 ?_;cbv;refine bT ((rfl:true=true)) ?_;refine hS.cl c2 ?_;cbv;exact aC hF
 ·rw[decide_eq_false h]at c1
  have hf:=dh h;subst hf;refine an ai mixed [.val] Tryz.func127 rfl rfl (by kernel_rfl) ?_;intros;rename_i A L F hS hF;cbv;refine hS.cl c1 ?_;cbv;refine bF ((rfl:false=false)) ?_;exact aC hF
def mz (P:List Rat) (c:Rat) (B:List Rat) (k:Nat):List Rat:=Dw (P++List.replicate (max P.length (B.length+k)-P.length) 0) c B k
theorem HO (P:List Rat) (c:Rat) (B:List Rat) (k:Nat):(mz P c B k).length=max P.length (B.length+k):=by
 unfold mz Dw;rw[nU,List.length_append,List.length_replicate];omega
theorem HP (P:List Rat) (c:Rat) (B:List Rat) (k j:Nat):(mz P c B k).getD j 0=P.getD j 0+if k<=j then c*B.getD (j-k) 0 else 0:=by
 have hp:∀m,(P++List.replicate m (0:Rat)).getD j 0=P.getD j 0:=fun m=>by
  rw[List.getD_eq_getElem?_getD,List.getD_eq_getElem?_getD,List.getElem?_append];split
  ·rfl
  ·rename_i h
   rw[List.getElem?_eq_none (by omega:P.length<=j),List.getElem?_replicate];split<;>rfl
 unfold mz Dw;rw[xt _ _ (by rw[List.length_append,List.length_replicate];omega),hp]
 by_cases h:k<=j
 ·rw[if_pos h]
  by_cases h2:j<k+B.length
  ·rw[if_pos ⟨h,h2⟩]
  ·rw[if_neg (by omega),List.getD_eq_getElem?_getD,List.getD_eq_getElem?_getD (l:=B),List.getElem?_eq_none (by omega:B.length<=j-k)]
   rw[Option.getD_none,Rat.mul_zero,Rat.add_zero]
 ·rw[if_neg (by omega),if_neg h,Rat.add_zero]
theorem Qs.whole {n:Int} {k:Nat} (h:n.natAbs<4294967296) (hk:1<=k):Qs ((n:Int):Rat) k:=
 ⟨Nat.le_trans (tU (k:=1) (by simp only[Rat.num_intCast];omega)) hk,Nat.le_trans (tU (k:=1) (by simp only[Rat.den_intCast];omega)) hk⟩
def pJ (P B R:List Rat):Nat->List Rat
 | 0=>R
 | i+1=>Dw (pJ P B R i) (P.getD i 0) B i
def xx (P B:List Rat):List Rat:=pJ P B (List.replicate (P.length+B.length-1) 0) P.length
theorem oJ (P B R:List Rat):∀i,(pJ P B R i).length=R.length
 | 0=>rfl
 | i+1=>by unfold pJ Dw;rw[nU,oJ P B R i]
def FM (P B:List Rat) (j:Nat):Nat->Rat
 | 0=>0
 | i+1=>FM P B j i+if i<=j then P.getD i 0*B.getD (j-i) 0 else 0
theorem M6 (R B:List Rat) (c:Rat) (k j:Nat) (h:B.length+k<=R.length):(Dw R c B k).getD j 0=R.getD j 0+if k<=j then c*B.getD (j-k) 0 else 0:=by
 unfold Dw;rw[xt _ _ (by omega)]
 by_cases h1:k<=j
 ·rw[if_pos h1]
  by_cases h2:j<k+B.length
  ·rw[if_pos ⟨h1,h2⟩]
  ·rw[if_neg (by omega),List.getD_eq_getElem?_getD (l:=B),List.getElem?_eq_none (by omega:B.length<=j-k)]
   rw[Option.getD_none,Rat.mul_zero,Rat.add_zero]
 ·rw[if_neg (by omega),if_neg h1,Rat.add_zero]
theorem Bb {P B R:List Rat} (hl:P.length+B.length<=R.length+1) (j:Nat):∀i,i<=P.length->(pJ P B R i).getD j 0=R.getD j 0+FM P B j i
 | 0,_=>by unfold pJ FM;rw[Rat.add_zero]
 | i+1,hi=>by
  unfold pJ FM;rw[M6 _ _ _ _ _ (by rw[oJ];omega),Bb hl j i (by omega),Rat.add_assoc]
end Go.Proofs.YtekefilngojelaaGreat
end
section
namespace Go.Abs
theorem nW (P:List Rat):∀k,P.length<=k->gX P k=gX P P.length
 | 0,h=>by rw[show P.length=0 by omega]
 | k+1,h=>by
  by_cases hk:P.length=k+1
  ·rw[hk]
  ·unfold gX
   rw[if_pos (by rw[List.getD_eq_getElem?_getD,List.getElem?_eq_none (by omega)];rfl),nW P k (by omega)];cases hP:P.length<;>rfl
theorem xy {P Q:List Rat} (h:∀j,P.getD j 0=Q.getD j 0):∀k,gX P k=gX Q k
 | 0=>rfl
 | k+1=>by unfold gX;rw[h k,xy h k]
theorem uc {P Q:List Rat} (h:∀j,P.getD j 0=Q.getD j 0):bW P=bW Q:=by
 have e:gX P P.length=gX Q Q.length:=by
  rw[<-nW P (max P.length Q.length) (by omega),<-nW Q (max P.length Q.length) (by omega)];exact xy h _
 have h1:=rT P P.length;have h2:=rT Q Q.length;unfold bW;refine List.ext_getElem? fun i=>?_
 rw[e,List.getElem?_take,List.getElem?_take]
 by_cases hi:i<gX Q Q.length
 ·rw[if_pos hi,if_pos hi]
  have hj:=h i;rw[List.getD_eq_getElem?_getD,List.getD_eq_getElem?_getD,List.getElem?_eq_getElem (by omega:i<P.length),List.getElem?_eq_getElem (by omega:i<Q.length)]at hj;rw[List.getElem?_eq_getElem (by omega:i<P.length),List.getElem?_eq_getElem (by omega:i<Q.length)];exact congrArg some hj
 ·rw[if_neg hi,if_neg hi]
theorem Bc (P:List Rat):∀k j,gX P k<=j->j<k->P.getD j 0=0
 | 0,j,_,h=>by omega
 | k+1,j,h,h2=>by
  unfold gX at h
  by_cases h0:P.getD k 0=0
  ·rw[if_pos h0]at h
   by_cases hj:j=k
   ·rw[hj];exact h0
   ·exact Bc P k j h (by omega)
  ·rw[if_neg h0]at h;omega
theorem Bd (P:List Rat) (j:Nat):(bW P).getD j 0=P.getD j 0:=by
 unfold bW;rw[List.getD_eq_getElem?_getD,List.getElem?_take]
 by_cases h:j<gX P P.length
 ·rw[if_pos h,List.getD_eq_getElem?_getD]
 ·rw[if_neg h,Option.getD_none]
  by_cases h2:j<P.length
  ·exact(Bc P _ j (by omega) h2).symm
  ·rw[List.getD_eq_getElem?_getD,List.getElem?_eq_none (by omega)];rfl
theorem mA (P:List Rat):bW (bW P)=bW P:=uc (Bd P)
theorem Be (P:List Rat):(bW P).length<=P.length:=by
 unfold bW;rw[List.length_take];omega
theorem Kv {P:List Rat} {q:Rat} (h:q∈bW P):q∈P:=List.mem_of_mem_take h
def ev:List Rat->Rat->Rat
 | [],_=>0
 | c::P,x=>c+x*ev P x
theorem M7 (P Q:List Rat) (x:Rat):ev (P++Q) x=ev P x+x^P.length*ev Q x:=by
 induction P with
 | nil=>simp[ev,Rat.zero_add,Rat.one_mul]
 | cons c P ih=>
  simp only[List.cons_append,ev,List.length_cons,Rat.pow_succ];rw[ih];grind
theorem FN (n:Nat) (x:Rat):ev (List.replicate n 0) x=0:=by
 induction n with
 | zero=>rfl
 | succ n ih=>simp only[List.replicate_succ,ev];rw[ih];grind
theorem Tc (l:List Rat) (j:Nat) (d x:Rat) (h:j<l.length):ev (l.set j d) x=ev l x+(d-l.getD j 0)*x^j:=by
 induction l generalizing j with
 | nil=>simp at h
 | cons c l ih=>
  cases j with
  | zero=>simp only[List.set_cons_zero,ev,List.getD_cons_zero,Rat.pow_zero];grind
  | succ j=>
   simp only[List.set_cons_succ,ev,List.getD_cons_succ,Rat.pow_succ];rw[ih j (by simpa using h)];grind
theorem Td {P Q:List Rat} (h:∀j,P.getD j 0=Q.getD j 0) (x:Rat):ev P x=ev Q x:=by
 induction P generalizing Q with
 | nil=>
  induction Q with
  | nil=>rfl
  | cons d Q ih=>
   have h0:=h 0;simp at h0;have:=ih fun j=>by have:=h (j+1);simpa using this
   simp only[ev]at this ⊢;rw[<-this,<-h0];grind
 | cons c P ih=>
  cases Q with
  | nil=>
   have h0:=h 0;simp at h0;have:=ih (Q:=[]) fun j=>by have:=h (j+1);simpa using this
   simp only[ev]at this ⊢;rw[this,h0];grind
  | cons d Q=>
   have h0:=h 0;simp at h0;have:=ih (Q:=Q) fun j=>by have:=h (j+1);simpa using this
   simp only[ev];rw[this,h0]
theorem oK (P:List Rat) (x:Rat):ev (bW P) x=ev P x:=Td (Bd P) x
theorem rZ (B:List Rat) (i:Nat) (x:Rat) (h:i<B.length):ev (B.take (i+1)) x=ev (B.take i) x+B.getD i 0*x^i:=by
 rw[List.take_add_one,M7,List.length_take,Nat.min_eq_left (by omega),List.getD_eq_getElem?_getD,List.getElem?_eq_getElem h];simp only[Option.toList_some,ev,Option.getD_some];grind
theorem FO (x:Rat) (m:Nat):∀n,x^(m+n)=x^m*x^n
 | 0=>by simp[Rat.mul_one]
 | n+1=>by rw[<-Nat.add_assoc,Rat.pow_succ,Rat.pow_succ,FO x m n,Rat.mul_assoc]
theorem I9 (R:List Rat) (c:Rat) (B:List Rat) (k:Nat) (x:Rat) (h:B.length+k<=R.length):∀i,i<=B.length->ev (yT R c B k i) x=ev R x+c*x^k*ev (B.take i) x
 | 0,_=>by simp[yT,ev,Rat.mul_zero,Rat.add_zero]
 | i+1,hi=>by
  unfold yT;rw[Tc _ _ _ _ (by rw[nU];omega),I9 R c B k x h i (by omega),rZ B i x (by omega),show i+k=k+i by omega,FO];grind
theorem Ja (R:List Rat) (c:Rat) (B:List Rat) (k:Nat) (x:Rat) (h:B.length+k<=R.length):ev (Dw R c B k) x=ev R x+c*x^k*ev B x:=by
 unfold Dw;rw[I9 R c B k x h _ (Nat.le_refl _),List.take_length]
def Kw:List Rat->Rat->List Rat
 | [],_=>[]
 | [_],_=>[]
 | _::d::P,r=>ev (d::P) r::Kw (d::P) r
theorem Jb:∀(P:List Rat) (r:Rat),(Kw P r).length=P.length-1
 | [],_=>rfl
 | [_],_=>rfl
 | c::d::P,r=>by simp only[Kw,List.length_cons];rw[Jb (d::P) r];simp
theorem M8:∀(P:List Rat) (r x:Rat),ev P x=ev P r+(x-r)*ev (Kw P r) x
 | [],_,_=>by simp[ev,Kw];grind
 | [_],_,_=>by simp[ev,Kw];grind
 | c::d::P,r,x=>by
  have ih:=M8 (d::P) r x;have e1:ev (c::d::P) x=c+x*ev (d::P) x:=rfl;have e2:ev (c::d::P) r=c+r*ev (d::P) r:=rfl;have e3:ev (Kw (c::d::P) r) x=ev (d::P) r+x*ev (Kw (d::P) r) x:=rfl;rw[e1,e2,e3,ih];grind
theorem FP:∀(P:List Rat) (r:Rat),ev P r=0->(∀j,(Kw P r).getD j 0=0)->∀j,P.getD j 0=0
 | [],_,_,_,_=>by simp
 | [c],r,h,_,j=>by
  simp[ev]at h;cases j with
  | zero=>simpa[Rat.mul_zero,Rat.add_zero]using h
  | succ j=>simp
 | c::d::P,r,h,hs,j=>by
  have h1:ev (d::P) r=0:=by have:=hs 0;simpa[Kw]using this
  have ih:=FP (d::P) r h1 fun j=>by have:=hs (j+1);simpa[Kw]using this
  have h2:ev (c::d::P) r=c+r*ev (d::P) r:=rfl;cases j with
  | zero=>simp;grind
  | succ j=>simpa using ih j
theorem uU:∀(n:Nat) (P:List Rat) (s:Rat),P.length<=n->(∀x,s<=x->ev P x=0)->∀j,P.getD j 0=0
 | 0,P,s,hl,_,j=>by rw[List.length_eq_zero_iff.1 (by omega:P.length=0)];rfl
 | n+1,P,s,hl,h,j=>by
  have hs:=h s Rat.le_refl;refine FP P s hs (uU n (Kw P s) (s+1) (by rw[Jb];omega) fun x hx=>?_) j;have h1:=h x (by grind);have h2:=M8 P s x;rw[h1,hs]at h2;have h3:x-s≠0:=by grind
  have h4:(x-s)*ev (Kw P s) x=0:=by grind
  rcases Rat.mul_eq_zero.1 h4 with h5|h5
  ·exact absurd h5 h3
  ·exact h5
theorem PD {P:List Rat} (h:∀x,ev P x=0) (j:Nat):P.getD j 0=0:=uU P.length P 0 (Nat.le_refl _) (fun x _=>h x) j
end Go.Abs
end
section
namespace Go.Proofs.YtekefilngojelaaGreat
open Go Go.Abs Go.Abs.M Go.Proofs
structure PL (f:Rat->Rat) (n k:Nat) (P:List Rat):Prop where
 tr:bW P=P
 ev:∀x,ev P x=f x
 len:P.length<=n
 sz:∀q∈P,Qs q k
theorem FQ (P:List Rat) (c:Rat) (B:List Rat) (k:Nat) (x:Rat):Abs.ev (mz P c B k) x=Abs.ev P x+c*x^k*Abs.ev B x:=by
 unfold mz;rw[Ja _ _ _ _ _ (by simp;omega),M7,FN];grind
theorem FR (P B R:List Rat) (x:Rat) (h:P.length+B.length<=R.length+1):∀i,i<=P.length->Abs.ev (pJ P B R i) x=Abs.ev R x+Abs.ev (P.take i) x*Abs.ev B x
 | 0,_=>by simp[pJ,Abs.ev,Rat.zero_mul,Rat.add_zero]
 | i+1,hi=>by
  unfold pJ;rw[Ja _ _ _ _ _ (by rw[oJ];omega),FR P B R x h i (by omega),rZ P i x (by omega)];grind
theorem PE (P B:List Rat) (x:Rat):Abs.ev (xx P B) x=Abs.ev P x*Abs.ev B x:=by
 unfold xx;rw[FR P B _ x (by simp;omega) _ (Nat.le_refl _),FN,List.take_length,Rat.zero_add]
theorem M9 {P Q:List Rat} (h:∀x,Abs.ev P x=Abs.ev Q x) (j:Nat):P.getD j 0=Q.getD j 0:=by
 have h0:=PD (P:=mz P (-1) Q 0) (fun x=>by rw[FQ,h x];grind) j;rw[HP,if_pos (Nat.zero_le _),Nat.sub_zero]at h0;grind
theorem PL.inj {f g:Rat->Rat} {n k m l:Nat} {P Q:List Rat} (h1:PL f n k P) (h2:PL g m l Q) (h:∀x,f x=g x):P=Q:=by
 rw[<-h1.tr,<-h2.tr];exact uc (M9 fun x=>by rw[h1.ev,h2.ev,h])
theorem PL.mono {f:Rat->Rat} {n k m l:Nat} {P:List Rat} (h:PL f n k P) (h1:n<=m) (h2:k<=l):PL f m l P:=
 ⟨h.tr,h.ev,Nat.le_trans h.len h1,fun q hq=>(h.sz q hq).mono h2⟩
theorem PL.congr {f g:Rat->Rat} {n k:Nat} {P:List Rat} (h:PL f n k P) (e:∀x,f x=g x):PL g n k P:=
 ⟨h.tr,fun x=>by rw[h.ev,e],h.len,h.sz⟩
theorem PL.nil:PL (fun _=>0) 0 0 []:=⟨rfl,fun _=>rfl,Nat.le_refl _,fun q hq=>by cases hq⟩
theorem Qs.zero {k:Nat}:1<=k->Qs 0 k:=fun h=>Qs.whole (n:=0) (by decide) h
theorem PL.cells {f:Rat->Rat} {n a:Nat} {P:List Rat} (hP:PL f n a P) (h:a<=68719476736):∀c∈P.map qc,c.ok 68719476736:=fun c hc=>by
 obtain⟨q,hq,rfl⟩:=List.mem_map.1 hc;have:=hP.sz q hq;exact⟨jz _,jz _,by show nl q.num.natAbs<=68719476736;have:=this.1;omega,by show nl (q.den:Int).natAbs<=68719476736;rw[Int.natAbs_natCast];have:=this.2;omega⟩
theorem Na {P B:List Rat} (j:Nat):∀i,i<=j+1->j<i-1+B.length->(∀k,k+1<i->B.getD (j-k) 0=0)->FM P B j i=if i=0 then 0 else P.getD (i-1) 0*B.getD (j-(i-1)) 0
 | 0,_,_,_=>rfl
 | i+1,h1,h2,h3=>by
  unfold FM;rw[if_pos (by omega),if_neg (by omega),show i+1-1=i by omega];have hz:∀k,k<=i->FM P B j k=0:=fun k hk=>by
   induction k with
   | zero=>rfl
   | succ k ih=>
    unfold FM;rw[ih (by omega),if_pos (by omega),h3 k (by omega)];grind
  rw[hz i (Nat.le_refl _),Rat.zero_add]
theorem PL.last {f:Rat->Rat} {n a:Nat} {P:List Rat} (hP:PL f n a P) (h:P≠[]):P.getD (P.length-1) 0≠0:=by
 have h1:gX P P.length=P.length:=by
  have:=congrArg List.length hP.tr;unfold bW at this;rw[List.length_take]at this;have:=rT P P.length;omega
 have h2:P.length≠0:=fun h0=>h (List.length_eq_zero_iff.1 h0)
 have:=ua P P.length (by omega);rwa[h1]at this
theorem Nb {P:List Rat} (h:P≠[]) (h0:P.getD (P.length-1) 0≠0):bW P=P:=by
 unfold bW;obtain⟨n,hn⟩:∃n,P.length=n+1:=⟨P.length-1,by have:P.length≠0:=fun h1=>h (List.length_eq_zero_iff.1 h1);omega⟩;rw[hn]at h0 ⊢;unfold gX;rw[if_neg (by simpa using h0),<-hn,List.take_length]
theorem PL.PF {f g e:Rat->Rat} {n m l a b c:Nat} {P B R:List Rat} (hP:PL f n a P) (hB:PL g m b B) (hR:PL e l c R) (he:∀x,e x=f x*g x) (h1:P≠[]) (h2:B≠[]):R.length=P.length+B.length-1:=by
 have l1:P.length≠0:=fun h=>h1 (List.length_eq_zero_iff.1 h)
 have l2:B.length≠0:=fun h=>h2 (List.length_eq_zero_iff.1 h)
 have hl:(xx P B).length=P.length+B.length-1:=by unfold xx;rw[oJ,List.length_replicate]
 have dh:xx P B≠[]:=fun h=>by rw[h]at hl;simp at hl;omega
 have kI:(xx P B).getD ((xx P B).length-1) 0=P.getD (P.length-1) 0*B.getD (B.length-1) 0:=by
  rw[hl];unfold xx;rw[Bb (by simp;omega) _ _ (Nat.le_refl _),Na _ _ (by omega) (by omega) (fun k hk=>by rw[List.getD_eq_getElem?_getD,List.getElem?_eq_none (by omega)];rfl),if_neg l1,show P.length+B.length-1-1-(P.length-1)=B.length-1 by omega];rw[List.getD_eq_getElem?_getD,List.getElem?_replicate];split<;>simp[Rat.zero_add]
 have Yi:(xx P B).getD ((xx P B).length-1) 0≠0:=by
  rw[kI];intro h;rcases Rat.mul_eq_zero.1 h with h|h
  ·exact hP.last h1 h
  ·exact hB.last h2 h
 have:R=xx P B:=by
  rw[<-hR.tr,<-Nb dh Yi];exact uc (M9 fun x=>by rw[hR.ev,he,PE,hP.ev,hB.ev])
 rw[this,hl]
theorem bX (x:Rat):∃(s t:Bool) (r p:Abs.Rows),(qc x).row=[.v (.bool s),.aa false r,.v (.bool t),.aa false p]/\xq x s r t p:=⟨_,_,_,_,rfl,fP x⟩
theorem Bf {x:Rat} {a:Nat} (h0:x≠0) (h:Qs x a):Qs x⁻¹ a:=by
 obtain⟨i1,i2⟩:=Tb h0;obtain⟨h1,h2⟩:=h;refine⟨?_,?_⟩
 ·rw[i1];split<;>simpa using h2
 ·have:(x⁻¹).den=x.num.natAbs:=by split at i2<;>omega
  rw[this];exact h1
theorem PG (n:Int) (h1:-9223372036854775808<=n) (h2:n<9223372036854775808) :
  aH 37 [.val (ti .i64 n)] ⟨[.val (.agg (qc (n:Rat)).row)],[none]⟩:=by
 obtain⟨s,r,v,p,hr,c⟩:=Dy n h1 h2;rw[tZ hr]at c;exact c
theorem Kx {x y:Rat} {a b:Nat} (h1:Qs x a) (h2:Qs y b) (h:a+b<=68719476736) :
  Qs (x*y) (a+b)/\aH 111 [.val (.agg (qc x).row),.val (.agg (qc y).row)] ⟨[.val (.agg (qc (x*y)).row)],[none,none]⟩:=by
 refine⟨ub h1 h2,?_⟩;obtain⟨u,w,v,p,hr,c⟩:=Kp (fP x) (fP y) (h1.mono (by omega)) (h2.mono (by omega));rw[tZ hr]at c;exact c
theorem ud {x y:Rat} {a b:Nat} (h1:Qs x a) (h2:Qs y b) (h:a+b<=68719476736) :
  Qs (x+y) (a+b+1)/\aH 61 [.val (.agg (qc x).row),.val (.agg (qc y).row)] ⟨[.val (.agg (qc (x+y)).row)],[none,none]⟩:=by
 refine⟨Ba h1 h2,?_⟩;obtain⟨u,w,v,p,hr,c⟩:=Kq (fP x) (fP y) (h1.mono (by omega)) (h2.mono (by omega));rw[tZ hr]at c;exact c
theorem HQ {x y:Int} {s t:Bool} {r q:Abs.Rows} (hx:eZ x s r) (hy:eZ y t q) (qF:y≠0) (h1:nl x.natAbs<=274877906944) (h2:nl y.natAbs<=274877906944) :
  ∃u w v p,xq (Rat.divInt x y) u w v p/\aH 97 [.val (.agg (iT s r)),.val (.agg (iT t q))] ⟨[.val (.agg (iT u w++iT v p)),.val (ti .i64 0)],[none,none]⟩:=by
 obtain⟨u,w,v,p,hr,c⟩:=UA hx hy qF h1 h2;have cs:=mi (bH y 0) hy rfl;refine⟨u,w,v,p,hr,?_⟩;have e0:bH y 0≠0:=fun h=>qF ((M5 _).1 h)
 generalize bH y 0=sg at *;refine an ai mixed [.val,.val] Tryz.func97 rfl rfl (by kernel_rfl) ?_;intros;rename_i zT _ _ _ _ _ _ _ _ _ _ _ _ _ _ _ _ _ _ _ _ _ _ _ _ _ _ _ _ _ _ _ _ _ _ _ _ _ _ A L F hS hF;have z1:zT sg 0=false:=dF (hS.eq ..) e0;cbv;refine hS.cl cs ?_;cbv;apply bF z1;refine hS.cl c ?_;cbv;exact aC hF
structure T2 where
 c:Rat
 a:Int
 b:Int
abbrev aS:Type:=List (List T2)
abbrev fi:Type:=List (List (List T2))
def T2.row (t:T2):List Tree:=(qc t.c).row++m2 t.a t.b
structure T2.ok (t:T2) (n:Nat) (B:Int):Prop where
 c:Qs t.c n
 a:0<=t.a/\t.a<=B
 b:0<=t.b/\t.b<=B
theorem T2.ok.mono {t:T2} {n m:Nat} {B C:Int} (h:t.ok n B) (hm:n<=m) (hB:B<=C):t.ok m C:=⟨h.c.mono hm,⟨h.a.1,by have:=h.a.2;omega⟩,⟨h.b.1,by have:=h.b.2;omega⟩⟩
def aP (l:List T2):Abs.Rows:=l.map T2.row
theorem pK (l:List T2):(aP l).length=l.length:=by simp[aP]
theorem ue (l:List T2) (t:T2):aP (l ++ [t])=aP l ++ [t.row]:=by simp[aP]
def na (s:Bool) (r:Abs.Rows) (v:Bool) (p:Abs.Rows) (a b:Int):List Tree:=[.v (.bool s),.aa false r,.v (.bool v),.aa false p,.v (.int .i64 a),.v (.int .i64 b),.v (.int .i64 0),.v (.int .i64 0),.v (.int .i64 0),.v (.int .i64 0),.v (.int .i64 0),.v (.int .i64 0)]
theorem xz (t:T2):∃(s v:Bool) (r p:Abs.Rows),(qc t.c).row=[.v (.bool s),.aa false r,.v (.bool v),.aa false p]/\t.row=na s r v p t.a t.b:=by
 obtain⟨s,v,r,p,e,_⟩:=bX t.c;exact⟨s,v,r,p,e,by unfold T2.row m2;rw[e];rfl⟩
theorem ig {l:List T2} {i:Nat} (hi:i<l.length):∃(t:T2) (s v:Bool) (r p:Abs.Rows),t∈l/\l[i]?=some t/\(qc t.c).row=[.v (.bool s),.aa false r,.v (.bool v),.aa false p]/\(aP l)[i]?=some (na s r v p t.a t.b)/\t.row=na s r v p t.a t.b/\l.take (i+1)=l.take i ++ [t]/\l.drop i=t::l.drop (i+1):=by
 obtain⟨s,v,r,p,e,e2⟩:=xz l[i];exact⟨l[i],s,v,r,p,List.getElem_mem hi,List.getElem?_eq_getElem hi,e,by rw[<-e2];simp[aP,hi],e2,by rw[List.take_add_one,List.getElem?_eq_getElem hi];rfl,List.drop_eq_getElem_cons hi⟩
def ju (l:List T2):Int:=l.foldl (fun d t=>if t.a+t.b>d then t.a+t.b else d) (-1)
def Bg (X:Abs.Rows) (d I:Int):St:=ae 20 [.c (.t (.aa false X)),.af,vi .i64 0,vi .i64 d,vi .i64 I] [none]
theorem qO (l:List T2) (hl:∀t∈l,t.ok 1000 30000) (hn:l.length<=1000):aH 59 [.val (tl (aP l))] ⟨[.val (ti .i64 (ju l))],[none]⟩:=by
 obtain⟨X,hX⟩:=aq (aP l);obtain⟨n,fx⟩:=aq (l.length);have lX:X.length=n:=by rw[hX,pK,fx]
 rw[<-hX];refine an ai mixed [.val] Tryz.func59 rfl rfl (by kernel_rfl) ?_;intros;rename_i zh _ _ _ _ _ _ _ _ _ _ _ _ aB _ _ _ _ _ _ _ _ _ _ _ _ _ _ _ _ _ _ A L F hS hF;have lE:=hS.fh lX;cbv;refine mV ai mixed hS (n:=n) (fun i (d:Int)=>Bg X d (Int.ofNat i)) (fun i d=>d=ju (l.take i)) (a0:=-1) (fy ?_ ?_) rfl (Nat.le_refl 1) rfl ?_ ?_
 ·simp[dS,Bg,ae,vi,vb]
 ·simp[dU,Bg,ae]
 ·intro i d hi hd
  obtain⟨l1,i1,j1,n0⟩:=hS.ic lX hi (by omega);obtain⟨t,s,v,r,p,ht,_,_,hr,_,fc,_⟩:=ig (l:=l) (i:=i) (by omega);have j2:aB X i=some (na s r v p t.a t.b):=by rw[hS.nth,hX];exact hr
  have cd:=Kf t.a t.b (by have:=(hl t ht).a;omega) (by have:=(hl t ht).b;omega);have Q7:zh d (t.a+t.b)=ju (l.take (i+1)):=by rw[hS.max,hd,fc];unfold ju;rw[List.foldl_append];rfl
  obtain⟨u,hu⟩:=aq (t.a+t.b);obtain⟨d2,Wq⟩:=aq (ju (l.take (i+1)));rw[<-hu]at cd Q7;rw[<-Wq]at Q7;unfold m2 at cd;cbv;apply bT l1;rw[j1,j2];cbv;apply nd n0;refine hS.cl cd ?_;cbv;refine aU [] d2 ?_ ?_ ?_ ?_ rfl (Nat.le_refl 1) Wq
  ·simp[bd,Bg,ae,vi,AV.aw,AV.aJ,Cell.aw,i1,Q7]
  ·simp[bf,Bg,ae]
  ·simp[aF,Bg,ae]
  ·simp
 ·intro d hd
  cbv;apply bF lE;refine bc hF (kx ?_);rw[hd,fx,List.take_length]
def vj (l:List T2):Int:=l.foldl (fun d t=>IntKind.wrap .u8 ((BitVec.ofInt 8 d ||| BitVec.ofInt 8 (ve t.a t.b)).toNat)) 0
theorem Ky {x y:Rat} (h1:x<y) (h2:y<x):False:=by grind
theorem KA (x y:Rat):(jt x y<0↔x<y)/\(0<jt x y↔y<x):=by
 unfold jt
 by_cases h1:x<y
 ·rw[if_pos h1]
  have:¬y<x:=fun h2=>Ky h1 h2
  simp[h1,this]
 ·rw[if_neg h1]
  by_cases h2:y<x
  ·rw[if_pos h2];simp[h1,h2]
  ·rw[if_neg h2];simp[h1,h2]
end Go.Proofs.YtekefilngojelaaGreat
end
