/- A part of the proof. -/
import Derived.Test.YtekefilngojelaaGreatM9
import Derived.Test.YtekefilngojelaaGreatM10
set_option maxHeartbeats 0
set_option maxRecDepth 100000
set_option linter.unusedVariables false
set_option linter.unusedSimpArgs false
section
namespace Go.Proofs.YtekefilngojelaaGreat
open Go Go.Abs Go.Abs.M Go.Proofs
open Go Go.Abs Go.Abs.M Go.Proofs
open Go Go.Abs Go.Abs.M Go.Proofs
open Go Go.Abs Go.Abs.M Go.Proofs
def UY (x:Int) (s:Bool) (r:Abs.Rows):Prop:=mE x.natAbs r/\((s=true->x<=0)/\(s=false->0<=x))
theorem UY.of {x:Int} {s:Bool} {r:Abs.Rows} (h:eV x s r):UY x s r:=by
 refine⟨h.m,fun hs=>?_,fun hs=>?_⟩
 ·rw[h.s]at hs;have:=of_decide_eq_true hs;omega
 ·rw[h.s]at hs;have:=of_decide_eq_false hs;omega
theorem UY.neg {x:Int} {s:Bool} {r:Abs.Rows} (h:UY x s r):UY (-x) (!s) r:=by
 obtain⟨h1,h2,h3⟩:=h;refine⟨by rw[Int.natAbs_neg];exact h1,fun hs=>?_,fun hs=>?_⟩
 ·have:=h3 (by simpa using hs);omega
 ·have:=h2 (by simpa using hs);omega
theorem FQ {x:Int} {r:Abs.Rows} (s:Bool) (hx:UY x s r) (hl:nl x.natAbs<=2199023255552):∃u,eV x u r/\ah Tryz.prog 176 [.val (tb s),.val (tl r)] ⟨[.val (.agg (iT u r))],[none,none]⟩:=by
 obtain⟨h1,h2,h3⟩:=hx;refine⟨decide (x<0),⟨rfl,h1⟩,Ng s _ h1 hl ?_⟩;cases s with
 | true=>have:=h2 rfl;rw[Bool.true_and,Bool.eq_iff_iff];simp;omega
 | false=>have:=h3 rfl;rw[Bool.false_and];exact decide_eq_false (by omega)
theorem Nh (n:Int) (h1:-9223372036854775808<=n) (h2:n<9223372036854775808):∃u w,eV n u w/\ah Tryz.prog 172 [.val (ti .i64 n)] ⟨[.val (.agg (iT u w))],[none]⟩:=by
 obtain⟨w,hw⟩:∃w,mE n.natAbs w:=⟨_,rfl⟩;have hl:nl n.natAbs<=2:=tL (by omega);have nJ:=FP n.natAbs (by omega) (by omega);rw[Int.toNat_natCast,show W .u32 (dg n.natAbs)=w from hw.symm]at nJ;obtain⟨u,hu,cs⟩:=FQ (x:=n) (decide (n<0)) ⟨hw,fun h=>by have:=of_decide_eq_true h;omega,fun h=>by have:=of_decide_eq_false h;omega⟩ (by omega);refine⟨u,w,hu,?_⟩;obtain⟨M,hM⟩:∃M:Int,M=n.natAbs:=⟨_,rfl⟩
 obtain⟨D,hD⟩:∃D,D=decide (n<0):=⟨_,rfl⟩;rw[<-hM]at nJ;rw[<-hD]at cs;refine ar aj mixed [.val] Tryz.func172 rfl rfl (by kernel_rfl) fun zD _ zG _ _ _ _ _ _ _ _ _ _ _ zV _ _ _ _ _ _ _ _ _ _ _ _ _ _ _ _ _ _ _ _ _ _ _ _ _ _ _ _ _ _ _ _ _ _ _ _ A L F hS hF=>?_
 have bG:zV n 0=D:=by rw[hD];exact hS.lt ..
 have e1:D=true->zD .u64 (zG 0 (zD .u64 n))=M:=fun h=>by
  rw[hD]at h;have:=of_decide_eq_true h;rw[hS.wrap,hS.wrap,hS.sub,AT,AT];omega
 have e2:D=false->zD .u64 n=M:=fun h=>by
  rw[hD]at h;have:=of_decide_eq_false h;rw[hS.wrap,eG (by omega) (by omega)];omega
 clear hM hD hw hl hu;cbv;rw[bG];refine⟨fun h=>?_,fun h=>?_⟩
 ·rw[e1 h]
  refine⟨_,hS.call nJ,?_⟩;cbv;refine⟨_,hS.call cs,?_⟩;cbv;exact hF _ (ak.refl _)
 ·rw[e2 h]
  refine⟨_,hS.call nJ,?_⟩;cbv;refine⟨_,hS.call cs,?_⟩;cbv;exact hF _ (ak.refl _)
theorem qD {x:Int} {s:Bool} {r:Abs.Rows} (c:Int) (hx:eV x s r) (hc:c=bC x 0):ah Tryz.prog 170 [.val (.agg (iT s r))] ⟨[.val (ti .i64 c)],[none]⟩:=by
 have hl:r.length=nl x.natAbs:=hx.m.len;have hz:=@jS x.natAbs;refine ar aj mixed [.val] Tryz.func170 rfl rfl (by kernel_rfl) ?_;intros;rename_i zT _ _ _ _ _ _ _ _ _ _ zz _ _ _ _ _ _ _ ab _ _ _ _ _ _ _ _ _ _ _ _ _ _ _ _ _ _ _ A L F hS hF;have e1:zT (zz (ab r)) 0=decide (x=0):=by
  rw[hS.eq,hS.aB,hS.len,hl]
  by_cases h:x=0
  ·rw[decide_eq_true h];exact decide_eq_true (by omega)
  ·rw[decide_eq_false h];exact decide_eq_false (by omega)
 cbv;rw[e1];refine⟨fun h=>bn hF (kl ?_),fun h=>⟨fun h'=>bn hF (kl ?_),fun h'=>bn hF (kl ?_)⟩⟩
 ·rw[hc,of_decide_eq_true h];rfl
 ·rw[hx.s]at h';rw[hc,fS (of_decide_eq_true h')]
 ·rw[hx.s]at h'
  have:=of_decide_eq_false h';have:=of_decide_eq_false h;rw[hc,iC (by omega)]
theorem KM {x y:Int} {s t:Bool} {r q:Abs.Rows} (c:Int) (hx:eV x s r) (hy:eV y t q) (hc:c=bC x y) (h1:nl x.natAbs<=2199023255552) (h2:nl y.natAbs<=2199023255552) :
  ah Tryz.prog 162 [.val (.agg (iT s r)),.val (.agg (iT t q))] ⟨[.val (ti .i64 c)],[none,none]⟩:=by
 have c1:=pz (bC x.natAbs y.natAbs) hx.m hy.m h1 h2 (jo _) (jo _) (iZ _) (iZ _) (by rw[jA,jA]);have c2:=pz (bC y.natAbs x.natAbs) hy.m hx.m h2 h1 (jo _) (jo _) (iZ _) (iZ _) (by rw[jA,jA]);have s1:=qD (bC x 0) hx rfl;have s2:=qD (bC y 0) hy rfl;have b:∀z:Int,(z<0->bC z 0=-1)/\(z=0->bC z 0=0)/\(0<z->bC z 0=1):=fun z=>⟨fun h=>fS h,fun h=>by rw[h];rfl,fun h=>iC h⟩
 have bx:=b x;have by':=b y;have n1:x<0->y<0->bC y.natAbs x.natAbs=c:=fun h h'=>by rw[show(y.natAbs:Int)=-y by omega,show(x.natAbs:Int)=-x by omega,FG,hc]
 have n2:¬x<0->¬y<0->bC x.natAbs y.natAbs=c:=fun h h'=>by rw[show(y.natAbs:Int)=y by omega,show(x.natAbs:Int)=x by omega,hc]
 have n3:x<y->-1=c:=fun h=>by rw[hc,fS h]
 have n4:y<x->1=c:=fun h=>by rw[hc,iC h]
 generalize bC x.natAbs y.natAbs=u,bC y.natAbs x.natAbs=v,bC x 0=a,bC y 0=d at *;refine ar aj mixed [.val] Tryz.func162 rfl rfl (by kernel_rfl) ?_;intros;rename_i zU zV _ _ _ _ _ _ _ _ _ _ _ _ _ _ _ _ _ _ _ _ _ _ _ _ _ _ _ _ _ _ _ _ _ _ _ _ A L F hS hF;have e1:zU a d=decide (a≠d):=hS.ne ..;have e2:zV a d=decide (a<d):=hS.lt ..;have e3:zV a 0=decide (a<0):=hS.lt ..;cbv;refine⟨_,hS.call s1,?_⟩
 cbv;refine⟨_,hS.call s2,?_⟩;cbv;refine⟨fun h=>⟨fun h'=>bn hF (kl (n3 ?_)),fun h'=>bn hF (kl (n4 ?_))⟩,fun h=>⟨fun h'=>⟨_,hS.call c2,?_⟩,fun h'=>⟨_,hS.call c1,?_⟩⟩⟩
 all_goals rw[e1]at h
 ·rw[e2]at h';have:=of_decide_eq_true h';omega
 ·rw[e2]at h';have:=of_decide_eq_false h';have:=of_decide_eq_true h;omega
 ·rw[e3]at h';have h1:=of_decide_eq_true h';have h2:=of_decide_eq_false h
  cbv;exact bn hF (kl (n1 (by omega) (by omega)))
 ·rw[e3]at h';have h1:=of_decide_eq_false h';have h2:=of_decide_eq_false h
  cbv;exact bn hF (kl (n2 (by omega) (by omega)))
theorem Ba {x y:Int} {s t:Bool} {r q:Abs.Rows} (hx:eV x s r) (hy:eV y t q) (h1:nl x.natAbs<=549755813888) (h2:nl y.natAbs<=549755813888) :
  ∃u w,eV (x*y) u w/\ah Tryz.prog 174 [.val (.agg (iT s r)),.val (.agg (iT t q))] ⟨[.val (.agg (iT u w))],[none,none]⟩:=by
 obtain⟨w,hw⟩:∃w,mE (x*y).natAbs w:=⟨_,rfl⟩;have hb:nl (x*y).natAbs<=1099511627776:=by
  rw[Int.natAbs_mul];have b:=vO x.natAbs y.natAbs;omega
 have hs:=hx.s;have ht:=hy.s;have c:=yV hx.m hy.m (by unfold nl at h1;omega) (by unfold nl at h2;omega) (jo _) (jo _);simp only[jA]at c;have e1:W .u32 (dg ((x.natAbs:Int)*y.natAbs).toNat)=w:=by
  rw[hw];congr 2;rw[Int.natAbs_mul];have:((x.natAbs:Int)*y.natAbs)=((x.natAbs*y.natAbs:Nat):Int):=by push_cast;rfl
  omega
 rw[e1]at c;obtain⟨u,hu,cs⟩:=FQ (x:=x*y) (!(s==t)) ⟨hw,fun h=>by
   rw[hs,ht]at h
   by_cases h1:x<0<;>by_cases h2:y<0<;>simp[h1,h2]at h
   ·exact Int.mul_nonpos_of_nonpos_of_nonneg (by omega) (by omega)
   ·exact Int.mul_nonpos_of_nonneg_of_nonpos (by omega) (by omega),fun h=>by
   rw[hs,ht]at h
   by_cases h1:x<0<;>by_cases h2:y<0<;>simp[h1,h2]at h
   ·exact Int.mul_nonneg_of_nonpos_of_nonpos (by omega) (by omega)
   ·exact Int.mul_nonneg (by omega) (by omega)⟩ (by omega)
 refine⟨u,w,hu,?_⟩;refine ar aj mixed [.val] Tryz.func174 rfl rfl (by kernel_rfl) ?_;intros;rename_i zg _ _ _ _ _ _ _ _ _ _ _ _ _ _ _ _ _ _ _ _ _ _ _ _ _ _ _ _ _ _ _ _ A L F hS hF;have e:zg s t=!(s==t):=hS.bne s t;cbv;refine⟨_,hS.call c,?_⟩;cbv;rw[e];refine⟨_,hS.call cs,?_⟩;cbv;exact hF _ (ak.refl _)
open Go Go.Abs Go.Abs.M Go.Proofs
end Go.Proofs.YtekefilngojelaaGreat
end
section
namespace Go.Abs
open Go.Abs.M
theorem FR {k:IntKind}:∀ {a b:List Int},W k a=W k b->a=b
 | [],[],_=>rfl
 | [],_::_,h=>by simp[W]at h
 | _::_,[],h=>by simp[W]at h
 | x::a,y::b,h=>by
  simp only[W,List.map_cons,List.cons.injEq,Tree.v.injEq,Value.int.injEq,true_and,and_true]at h;rw[h.1,FR (k:=k) h.2]
def kO (s:Bool) (l:List Int):Bool:=if l.length=0 then !s else decide (l.getD (l.length-1) 0≠0)
theorem Js {x:Int} {s:Bool} {l:List Int} (h:eV x s (W .u32 l)):kO s l=true:=by
 have hl:l=dg x.natAbs:=FR (h.m);have hs:=h.s;unfold kO;subst hl
 by_cases h0:(dg x.natAbs).length=0
 ·rw[if_pos h0]
  have:x.natAbs=0:=ic.1 (List.length_eq_zero_iff.1 h0);rw[hs,decide_eq_false (by omega)];rfl
 ·rw[if_neg h0]
  rcases iZ x.natAbs with h|h
  ·rw[h]at h0;exact absurd rfl h0
  ·exact decide_eq_true h
theorem Jt {s:Bool} {l:List Int} (hw:Wd l) (h:kO s l=true):∃x:Int,eV x s (W .u32 l)/\nl x.natAbs=l.length:=by
 unfold kO at h;have hv:=sU hw
 by_cases h0:l.length=0
 ·rw[if_pos h0]at h
  have hl:=List.length_eq_zero_iff.1 h0;subst hl;have:s=false:=by cases s<;>simp_all
  subst this;exact⟨0,⟨rfl,rfl⟩,rfl⟩
 ·rw[if_neg h0]at h
  have ht:Tr l:=.inr (of_decide_eq_true h);have hu:=oC hw ht;have mT:0<val l:=by
   rcases Int.lt_or_eq_of_le hv with h|h
   ·exact h
   ·exfalso
    rw[<-h]at hu;have:l=[]:=hu.symm;rw[this]at h0;exact h0 rfl
  have hn:∀x:Int,x.natAbs=(val l).toNat->nl x.natAbs=l.length:=fun x hx=>by rw[hx];unfold nl;rw[hu]
  cases s with
  | false=>
   have e:(val l).natAbs=(val l).toNat:=by omega
   exact⟨val l,⟨(decide_eq_false (by omega)).symm,by unfold mE;rw[e,hu]⟩,hn _ e⟩
  | true=>
   have e:(-val l).natAbs=(val l).toNat:=by omega
   exact⟨-val l,⟨(decide_eq_true (by omega)).symm,by unfold mE;rw[e,hu]⟩,hn _ e⟩
def Dx (s:Bool) (l:List Int) (t:Bool) (m:List Int):Prop:=∃q:Rat,xu q s (W .u32 l) t (W .u32 m)
theorem Tv {n d:Int} (h:0<d) (hg:Int.gcd n d=1):∃q:Rat,q.num=n/\(q.den:Int)=d:=
 ⟨⟨n,d.toNat,by omega,by
  have e:d.toNat=d.natAbs:=by omega
  show Nat.gcd n.natAbs d.toNat=1
  rw[e];exact hg⟩,rfl,by show(d.toNat:Int)=d;omega⟩
theorem Dx.iff {s t:Bool} {l m:List Int} {n d:Int} (hn:eV n s (W .u32 l)) (hd:eV d t (W .u32 m)):Dx s l t m↔0<d/\Int.gcd n d=1:=by
 constructor
 ·rintro⟨q,h1,h2⟩
  have e1:q.num=n:=by
   have a:=h1.m.symm.trans hn.m;have b:dg q.num.natAbs=dg n.natAbs:=FR a;have x:=jA q.num.natAbs;rw[b]at x;have c:(q.num.natAbs:Int)=n.natAbs:=x.symm.trans (jA _);have e:=h1.s.symm.trans hn.s;have:=decide_eq_decide.1 e;omega
  have e2:(q.den:Int)=d:=by
   have a:=h2.m.symm.trans hd.m;have b:dg (q.den:Int).natAbs=dg d.natAbs:=FR a;have x:=jA (q.den:Int).natAbs;rw[b]at x;have c:((q.den:Int).natAbs:Int)=d.natAbs:=x.symm.trans (jA _);have e:=h2.s.symm.trans hd.s;have:=decide_eq_decide.1 e;omega
  subst e1 e2;refine⟨by have:=q.den_pos;omega,?_⟩;have:=q.reduced;unfold Nat.Coprime at this;unfold Int.gcd;rw[Int.natAbs_natCast];exact this
 ·rintro⟨h1,h2⟩
  obtain⟨q,e1,e2⟩:=Tv h1 h2;exact⟨q,by rw[e1];exact hn,by rw[e2];exact hd⟩
theorem Dx.kO {s t:Bool} {l m:List Int} (h:Dx s l t m):Abs.kO s l=true/\Abs.kO t m=true:=by
 obtain⟨q,h1,h2⟩:=h;exact⟨Js h1,Js h2⟩
end Go.Abs
end
section
namespace Go.Proofs.YtekefilngojelaaGreat
open Go Go.Abs Go.Abs.M Go.Proofs
theorem rM (s:Bool) (l:List Int) (hl:l.length<=2199023255552):ah Tryz.prog 151 [.val (.agg (iT s (W .u32 l)))] ⟨[.val (tb (kO s l))],[none]⟩:=by
 obtain⟨r,hr⟩:∃r,r=W .u32 l:=⟨_,rfl⟩;obtain⟨n,hn⟩:∃n,n=l.length:=⟨_,rfl⟩;obtain⟨b,hb⟩:∃b,b=kO s l:=⟨_,rfl⟩;rw[<-hb,<-hr];have hz:n=0->(!s)=b:=fun h=>by rw[hb];unfold kO;rw[if_pos (by omega)]
 have ky:n≠0->decide (l.getD (n-1) 0≠0)=b:=fun h=>by rw[hb];unfold kO;rw[if_neg (by omega),hn]
 refine ar aj mixed [.val] Tryz.func151 rfl rfl (by kernel_rfl) fun zD _ zG _ _ _ _ _ _ _ _ _ zT zU _ zX zY _ _ _ _ zu _ zz _ _ _ _ _ _ _ ab _ _ aL aw _ _ _ _ _ _ _ _ _ _ _ _ _ _ _ A L F hS hF=>?_
 have LS:ab r=n:=by rw[hS.len,hr,jf,hn]
 have e0:zT (zz (ab r)) 0=decide (n=0):=by
  rw[LS,hS.eq,hS.aB]
  by_cases h:n=0
  ·rw[decide_eq_true h];exact decide_eq_true (by omega)
  ·rw[decide_eq_false h];exact decide_eq_false (by omega)
 have e1:n≠0->zD .i64 (zG (zz (ab r)) 1)=zz (n-1):=fun h=>by rw[LS,hS.wrap,hS.sub,hS.aB,hS.aB,wrap_i64 (by omega) (by omega)];omega
 have e2:zX 0 (zz (n-1))=true:=by rw[hS.le,hS.aB];exact decide_eq_true (by omega)
 have e3:zu (zz (n-1))=n-1:=by rw[hS.nat,hS.aB];omega
 have e4:n≠0->aL .u32 r (zu (zz (n-1)))=true:=fun h=>by rw[e3,hS.gE,hr,kM];exact decide_eq_true (by omega)
 have e5:n≠0->zU (aw r (zu (zz (n-1)))) 0=b:=fun h=>by rw[e3,hS.ne,hS.dF,hr,mP];exact ky h
 have e6:zY s=!s:=hS.not s;generalize zz (n-1)=top at *;clear ky hr;cbv;refine⟨fun h=>?_,fun h=>?_⟩
 all_goals rw[e0]at h
 ·refine bn hF (jz ?_)
  rw[e6];exact hz (of_decide_eq_true h)
 ·have hn:=of_decide_eq_false h
  rw[e1 hn];refine nd e2 (nd (e4 hn) ?_);exact bn hF (jz (e5 hn))
open Go Go.Abs Go.Abs.M Go.Proofs
def Qs (x:Rat) (k:Nat):Prop:=nl x.num.natAbs<=k/\nl x.den<=k
theorem KN {x y:Rat} {s t s' t':Bool} {r q r' q':Abs.Rows} (hx:xu x s r t q) (hy:xu y s' r' t' q') (h1:Qs x 68719476736) (h2:Qs y 68719476736) :
  ∃u w v p,xu (x*y) u w v p/\ah Tryz.prog 111 [.val (.agg (iT s r++iT t q)),.val (.agg (iT s' r'++iT t' q'))] ⟨[.val (.agg (iT u w++iT v p))],[none,none]⟩:=by
 obtain⟨x1,x2⟩:=h1;obtain⟨y1,y2⟩:=h2;obtain⟨a,b,ha,ca⟩:=KJ hx.n hy.n (by omega) (by omega);obtain⟨c,d,hc,cc⟩:=KJ hx.d hy.d (by rw[Int.natAbs_natCast];omega) (by rw[Int.natAbs_natCast];omega);have Ku:=x.den_nz;have qo:=y.den_nz;obtain⟨u,w,v,p,hu,cl⟩:=UX ha hc (Int.mul_ne_zero (by omega) (by omega))
  (by rw[Int.natAbs_mul];have:=vO x.num.natAbs y.num.natAbs;omega)
  (by rw[Int.natAbs_mul,Int.natAbs_natCast,Int.natAbs_natCast];have:=vO x.den y.den;omega)
 refine⟨u,w,v,p,?_,?_⟩
 ·rw[<-Rat.divInt_mul_divInt,Rat.num_divInt_den,Rat.num_divInt_den]at hu
  exact hu
 refine ar aj mixed [.val] Tryz.func111 rfl rfl (by kernel_rfl) ?_;intros;rename_i A L F hS hF;cbv;refine⟨_,hS.call ca,?_⟩;cbv;refine⟨_,hS.call cc,?_⟩;cbv;refine⟨_,hS.call cl,?_⟩;cbv;exact hF _ (ak.refl _)
theorem KO {x y:Rat} {s t s' t':Bool} {r q r' q':Abs.Rows} (hx:xu x s r t q) (hy:xu y s' r' t' q') (h1:Qs x 68719476736) (h2:Qs y 68719476736) :
  ∃ u w v p,xu (x+y) u w v p/\ah Tryz.prog 61 [.val (.agg (iT s r ++ iT t q)),.val (.agg (iT s' r' ++ iT t' q'))] ⟨[.val (.agg (iT u w ++ iT v p))],[none,none]⟩:=by
 obtain ⟨x1,x2⟩:=h1
 obtain ⟨y1,y2⟩:=h2
 have n1:=vO x.num.natAbs y.den
 have n2:=vO y.num.natAbs x.den
 have n3:=vO x.den y.den
 have Ku:=x.den_nz
 have qo:=y.den_nz
 obtain ⟨a,b,ha,ca⟩:=KJ hx.n hy.d (by omega) (by rw [Int.natAbs_natCast]; omega)
 obtain ⟨a',b',WO,WQ⟩:=KJ hy.n hx.d (by omega) (by rw [Int.natAbs_natCast]; omega)
 have m1:nl (x.num*y.den).natAbs<=137438953472:=by rw [Int.natAbs_mul,Int.natAbs_natCast]; omega
 have m2:nl (y.num*x.den).natAbs<=137438953472:=by rw [Int.natAbs_mul,Int.natAbs_natCast]; omega
 obtain ⟨e,f,he,ce⟩:=A6 ha WO (by omega) (by omega)
 obtain ⟨c,d,hc,cc⟩:=KJ hx.d hy.d (by rw [Int.natAbs_natCast]; omega) (by rw [Int.natAbs_natCast]; omega)
 obtain ⟨u,w,v,p,hu,cl⟩:=UX he hc (Int.mul_ne_zero (by omega) (by omega))
  (by
   have:=FB (Int.natAbs_add_le (x.num*y.den) (y.num*x.den))
   have:=xp (x.num*y.den).natAbs (y.num*x.den).natAbs
   omega)
  (by rw [Int.natAbs_mul,Int.natAbs_natCast,Int.natAbs_natCast]; omega)
 refine ⟨u,w,v,p,?_,?_⟩
 ·rw [<- Rat.divInt_add_divInt _ _ (by omega) (by omega),Rat.num_divInt_den,Rat.num_divInt_den] at hu
  exact hu
 refine ar aj mixed [.val] Tryz.func61 rfl rfl (by kernel_rfl) ?_;intros;rename_i A L F hS hF
 cbv
 refine ⟨_,hS.call ca,?_⟩
 cbv
 refine ⟨_,hS.call WQ,?_⟩
 cbv
 refine ⟨_,hS.call ce,?_⟩
 cbv
 refine ⟨_,hS.call cc,?_⟩
 cbv
 refine ⟨_,hS.call cl,?_⟩
 cbv
 exact hF _ (ak.refl _)
open Go Go.Abs Go.Abs.M Go.Proofs
theorem abL (d:Int):(bC d 0<=0↔d<=0)/\(bC d 0<1↔d<=0):=by
 unfold bC
 by_cases h:d<0
 ·rw[if_pos h];omega
 ·rw[if_neg h];split<;>omega
theorem abM (g:Int):bC g 1=0↔g=1:=by
 unfold bC
 by_cases h:g<1
 ·rw[if_pos h];omega
 ·rw[if_neg h];split<;>omega
theorem HS {n:Nat} (h:(dg n).length=1):(dg n).getD 0 0=n:=by
 have e:=jA n
 match hd:dg n,h with
 | [w],_=>
  rw[hd]at e;simp[M.val]at e;simpa using e
theorem KQ {x:Int} {s:Bool} {r:Abs.Rows} (hx:eV x s r):ah Tryz.prog 173 [.val (.agg (iT s r))] ⟨[.val (tb (decide (x=1)))],[none]⟩:=by
 obtain⟨n,hn⟩:∃n,n=nl x.natAbs:=⟨_,rfl⟩;have hlen:r.length=n:=by rw[hn];exact hx.m.len
 obtain⟨b,hb⟩:∃b,b=decide (x=1):=⟨_,rfl⟩;rw[<-hb];have iW:s=true->false=b:=fun h=>by rw[hb];refine(decide_eq_false ?_).symm;have:=hx.s;rw[h]at this;have:=of_decide_eq_true this.symm;omega
 have LW:n≠1->false=b:=fun h=>by
  rw[hb];refine(decide_eq_false ?_).symm;rintro rfl;exact h (by rw[hn];rfl)
 have hg:n=1->s=false->decide ((dg x.natAbs).getD 0 0=1)=b:=fun h h'=>by
  rw[HS (by rw[<-h,hn];rfl),hb];have:=hx.s;rw[h']at this;have:=of_decide_eq_false this.symm
  by_cases h1:x=1
  ·rw[decide_eq_true h1];exact decide_eq_true (by omega)
  ·rw[decide_eq_false h1];exact decide_eq_false (by omega)
 have hr:=hx.m;unfold mE at hr;generalize dg x.natAbs=l at hg hr;clear hx hb;refine ar aj mixed [.val] Tryz.func173 rfl rfl (by kernel_rfl) ?_;intros;rename_i zT _ _ zX zY _ _ _ _ zu _ zz _ _ _ _ _ _ _ ab _ _ aL aw _ _ _ _ _ _ _ _ _ _ _ _ _ _ _ A L F hS hF;have e0:zY s=!s:=hS.not s;have e1:zT (zz (ab r)) 1=decide (n=1):=by
  rw[hS.len,hlen,hS.eq,hS.aB]
  by_cases h:n=1
  ·rw[decide_eq_true h];exact decide_eq_true (by omega)
  ·rw[decide_eq_false h];exact decide_eq_false (by omega)
 have e2:zX 0 0=true:=by rw[hS.le];rfl
 have e3:n=1->aL .u32 r (zu 0)=true:=fun h=>by rw[hS.nat,hS.gE,hr,kM];rw[hr,jf]at hlen;exact decide_eq_true (by simp;omega)
 have e4:n=1->s=false->zT (aw r (zu 0)) 1=b:=fun h h'=>by rw[hS.nat,hS.eq,hS.dF,hr,mP];exact hg h h'
 clear hg hr hlen;cbv;refine⟨fun h=>⟨fun h'=>?_,fun h'=>?_⟩,fun h=>?_⟩
 all_goals rw[e0]at h
 ·rw[e1]at h'
  have h':=of_decide_eq_true h';exact nd e2 (nd (e3 h') (bn hF (jz (e4 h' (by simpa using h)))))
 ·rw[e1]at h'
  exact bn hF (jz (LW (of_decide_eq_false h')))
 ·exact bn hF (jz (iW (by simpa using h)))
theorem HT {s t:Bool} {l m:List Int} {b:Bool} (hl:Wd l) (hm:Wd m) (hb:b=true↔Dx s l t m) :
  (kO s l=false/\b=false)∨(kO s l=true/\kO t m=false/\b=false) ∨
  (kO s l=true/\kO t m=true/\∃n d:Int,eV n s (W .u32 l)/\eV d t (W .u32 m)/\nl n.natAbs=l.length/\nl d.natAbs=m.length/\(b=true↔0<d/\Int.gcd n d=1)):=by
 have Ju:¬Dx s l t m->b=false:=fun h=>by
  cases b with
  | false=>rfl
  | true=>exact absurd (hb.1 rfl) h
 cases h1:kO s l with
 | false=>exact .inl ⟨rfl,Ju fun h=>by rw[h.kO.1]at h1;cases h1⟩
 | true=>
  cases h2:kO t m with
  | false=>exact .inr (.inl ⟨rfl,rfl,Ju fun h=>by rw[h.kO.2]at h2;cases h2⟩)
  | true=>
   obtain⟨n,hn,n1⟩:=Jt hl h1;obtain⟨d,hd,d1⟩:=Jt hm h2;exact .inr (.inr ⟨rfl,rfl,n,d,hn,hd,n1,d1,hb.trans (Dx.iff hn hd)⟩)
theorem rN {s t:Bool} {l m:List Int} (b:Bool) (hb:b=true↔Dx s l t m) (hl:Wd l) (hm:Wd m) (l1:l.length<=274877906944) (m1:m.length<=274877906944) :
  ah Tryz.prog 122 [.val (.agg (iT s (W .u32 l)++iT t (W .u32 m)))] ⟨[.val (tb b)],[none]⟩:=by
 have c1:=rM s l (by omega);have c2:=rM t m (by omega);rcases HT hl hm hb with⟨h1,h2⟩|⟨h1,h2,h3⟩|⟨h1,h2,n,d,hn,hd,n1,d1,Ze⟩
 ·rw[h1]at c1
  subst h2;generalize W .u32 l=r,W .u32 m=q at *;refine ar aj mixed [.val] Tryz.func122 rfl rfl (by kernel_rfl) ?_;intros;rename_i zT _ zV _ zY _ _ _ _ _ _ _ _ _ _ _ _ _ _ _ _ _ _ _ _ _ _ _ _ _ _ _ _ _ _ _ _ _ _ A L F hS hF;have e1:zY false=true:=hS.not false;cbv;refine⟨_,hS.call c1,?_⟩;cbv;refine bT e1 ?_;exact hF _ (ak.refl _)
 ·rw[h1]at c1
  rw[h2]at c2;subst h3;generalize W .u32 l=r,W .u32 m=q at *;refine ar aj mixed [.val] Tryz.func122 rfl rfl (by kernel_rfl) ?_;intros;rename_i zT _ zV _ zY _ _ _ _ _ _ _ _ _ _ _ _ _ _ _ _ _ _ _ _ _ _ _ _ _ _ _ _ _ _ _ _ _ _ A L F hS hF;have e1:zY false=true:=hS.not false;have e2:zY true=false:=hS.not true;cbv;refine⟨_,hS.call c1,?_⟩;cbv;refine bF e2 ?_;refine⟨_,hS.call c2,?_⟩;cbv;refine bT e1 ?_
  exact hF _ (ak.refl _)
 ·rw[h1]at c1
  rw[h2]at c2;have c3:=lW (bC d 0) hd rfl;obtain⟨w,hw,c5⟩:=oE hn hd (by omega) (by omega);obtain⟨u,v,ho,c6⟩:=fO 1 (by omega) (by omega);have hgl:nl (Int.gcd n d:Int).natAbs<=2199023255552:=by
   rw[Int.natAbs_natCast]
   by_cases h:n=0
   ·subst h
    have:Int.gcd 0 d=d.natAbs:=by simp[Int.gcd]
    rw[this];omega
   ·have:Int.gcd n d<=n.natAbs:=Nat.gcd_le_left _ (by omega)
    have:=FB this;omega
  have c7:=AZ (bC (Int.gcd n d:Int) 1) hw ho rfl hgl (Nat.le_trans (tL (k:=1) (by omega)) (by omega));have k1:=(abL d).2;have k2:=abM (Int.gcd n d:Int);have f1:d<=0->false=b:=fun h=>by
   cases b with
   | false=>rfl
   | true=>have:=(Ze.1 rfl).1;omega
  have f3:0<d->decide (bC (Int.gcd n d:Int) 1=0)=b:=fun h=>by
   cases b with
   | false=>exact decide_eq_false fun e=>absurd (Ze.2 ⟨h,by have:=k2.1 e;omega⟩) (by simp)
   | true=>exact decide_eq_true (k2.2 (by have:=(Ze.1 rfl).2;omega))
  generalize bC d 0=c at *;generalize bC (Int.gcd n d:Int) 1=k at *;clear Ze hn hd hw ho k2;generalize W .u32 l=r,W .u32 m=q at *;refine ar aj mixed [.val] Tryz.func122 rfl rfl (by kernel_rfl) ?_;intros;rename_i zT _ zV _ zY _ _ _ _ _ _ _ _ _ _ _ _ _ _ _ _ _ _ _ _ _ _ _ _ _ _ _ _ _ _ _ _ _ _ A L F hS hF;have e2:zY true=false:=hS.not true;have e3:zV c 1=decide (c<1):=hS.lt ..;have e4:zT k 0=decide (k=0):=hS.eq ..
  cbv;refine⟨_,hS.call c1,?_⟩;cbv;refine bF e2 ?_;refine⟨_,hS.call c2,?_⟩;cbv;refine bF e2 ?_;refine⟨_,hS.call c3,?_⟩;cbv;refine⟨fun h=>?_,fun h=>?_⟩
  all_goals rw[e3]at h
  ·exact bn hF (jz (f1 (k1.1 (of_decide_eq_true h))))
  ·have h:=of_decide_eq_false h
   refine⟨_,hS.call c5,?_⟩;cbv;refine⟨_,hS.call c6,?_⟩;cbv;refine⟨_,hS.call c7,?_⟩;cbv;exact bn hF (jz (e4.trans (f3 (by omega))))
end Go.Proofs.YtekefilngojelaaGreat
end
section
namespace Go.Abs
open Go.Abs.M
structure QC where
 s:Bool
 l:List Int
 t:Bool
 m:List Int
def QC.row (c:QC):List Tree:=iT c.s (W .u32 c.l)++iT c.t (W .u32 c.m)
def QC.can (c:QC):Prop:=Dx c.s c.l c.t c.m
structure QC.ok (c:QC) (k:Nat):Prop where
 l:Wd c.l
 m:Wd c.m
 ll:c.l.length<=k
 lm:c.m.length<=k
def jV (cs:List QC):Rows:=cs.map QC.row
theorem KR (cs:List QC):(jV cs).length=cs.length:=by simp[jV]
theorem KS {cs:List QC} {i:Nat} {c:QC} (h:cs[i]?=some c):(jV cs)[i]?=some c.row:=by simp[jV,h]
theorem QC.sign {c:QC} (h:c.can):∃x:Int,eV x c.s (W .u32 c.l)/\(x=0↔c.l=[]):=by
 obtain⟨q,h1,h2⟩:=h;refine⟨q.num,h1,?_⟩;have hl:c.l=dg q.num.natAbs:=FR h1.m;rw[hl,ic];omega
def WR (cs:List QC):Prop:=(∀c∈cs,c.can)/\∀c,cs.getLast?=some c->c.l≠[]
theorem PT (p:Prop):∃b:Bool,b=true↔p:=by
 rcases Classical.em p with h|h
 ·exact⟨true,fun _=>h,fun _=>rfl⟩
 ·exact⟨false,fun h'=>(by cases h'),fun h'=>absurd h' h⟩
end Go.Abs
namespace Go.Abs
open Go.Abs.M
def qc (q:Rat):QC:=⟨decide (q.num<0),dg q.num.natAbs,decide ((q.den:Int)<0),dg (q.den:Int).natAbs⟩
theorem fJ (q:Rat):xu q (qc q).s (W .u32 (qc q).l) (qc q).t (W .u32 (qc q).m):=⟨⟨rfl,rfl⟩,⟨rfl,rfl⟩⟩
theorem tQ {q:Rat} {s t:Bool} {r p:Rows} (h:xu q s r t p):iT s r++iT t p=(qc q).row:=by
 have h1:=h.n.s;have h2:=h.n.m;have h3:=h.d.s;have h4:=h.d.m;unfold mE at h2 h4;subst h1 h2 h3 h4;rfl
theorem Ni (q:Rat):(qc q).can:=⟨q,fJ q⟩
def ur (P:List Rat):Rows:=jV (P.map qc)
theorem tR (P:List Rat):(ur P).length=P.length:=by simp[ur,jV]
theorem Nj {P:List Rat} {i:Nat} {q:Rat} (h:P[i]?=some q):(ur P)[i]?=some (qc q).row:=by simp[ur,jV,h]
theorem Nk (P:List Rat) (q:Rat):ur (P ++ [q])=ur P ++ [(qc q).row]:=by simp[ur,jV]
theorem PU (P:List Rat) (k:Nat):(ur P).take k=ur (P.take k):=by simp[ur,jV,List.map_take]
def gO:List Rat->Nat->Nat
 | _,0=>0
 | P,k+1=>if P.getD k 0=0 then gO P k else k+1
def bP (P:List Rat):List Rat:=P.take (gO P P.length)
theorem rO (P:List Rat):∀k,gO P k<=k
 | 0=>Nat.le_refl _
 | k+1=>by unfold gO;split;have:=rO P k;omega;omega
theorem tS (P:List Rat):∀k,gO P k≠0->P.getD (gO P k-1) 0≠0
 | 0,h=>absurd rfl h
 | k+1,h=>by
  unfold gO at h ⊢;split
  ·rename_i h0;rw[if_pos h0]at h;exact tS P k h
  ·rename_i h0;simpa using h0
theorem Nl (P:List Rat):WR ((bP P).map qc):=by
 refine⟨fun c hc=>?_,fun c hc hl=>?_⟩
 ·obtain⟨q,_,rfl⟩:=List.mem_map.1 hc
  exact Ni q
 ·have hle:=rO P P.length
  rw[List.getLast?_map]at hc;obtain⟨q,hq,rfl⟩:=Option.map_eq_some_iff.1 hc;unfold bP at hq;rw[List.getLast?_eq_getElem?,List.length_take,Nat.min_eq_left hle]at hq;have cY:gO P P.length≠0:=by
   intro h0;rw[h0]at hq;simp at hq
  have h1:=tS P P.length cY;rw[List.getElem?_take,if_pos (by omega)]at hq;rw[List.getD_eq_getElem?_getD,hq]at h1;have h2:q.num=0:=by
   have:dg q.num.natAbs=[]:=hl;have:=ic.1 this;omega
  exact h1 (by simpa using Rat.num_eq_zero.1 h2)
end Go.Abs
namespace Go.Abs
end Go.Abs
namespace Go.Abs
def yW (R:List Rat) (c:Rat) (B:List Rat) (k:Nat):Nat->List Rat
 | 0=>R
 | i+1=>(yW R c B k i).set (i+k) ((yW R c B k i).getD (i+k) 0+c*B.getD i 0)
def Dy (R:List Rat) (c:Rat) (B:List Rat) (k:Nat):List Rat:=yW R c B k B.length
theorem nK (R:List Rat) (c:Rat) (B:List Rat) (k:Nat):∀i,(yW R c B k i).length=R.length
 | 0=>rfl
 | i+1=>by unfold yW;rw[List.length_set,nK R c B k i]
theorem xw {R:List Rat} {c:Rat} {B:List Rat} {k:Nat}:∀(i j:Nat),i+k<=R.length->(yW R c B k i).getD j 0=if k<=j/\j<k+i then R.getD j 0+c*B.getD (j-k) 0 else R.getD j 0
 | 0,j,_=>by rw[if_neg (by omega)];rfl
 | i+1,j,h=>by
  have ih:=xw (R:=R) (c:=c) (B:=B) (k:=k) i;have hl:=nK R c B k i;unfold yW;rw[List.getD_eq_getElem?_getD,List.getElem?_set]
  by_cases hj:i+k=j
  ·subst hj
   rw[if_pos rfl,if_pos (by omega),Option.getD_some,ih _ (by omega),if_neg (by omega),if_pos (by omega),show i+k-k=i by omega]
  ·rw[if_neg hj,<-List.getD_eq_getElem?_getD,ih j (by omega)]
   by_cases h2:k<=j/\j<k+i
   ·rw[if_pos h2,if_pos (by omega)]
   ·rw[if_neg h2,if_neg (by omega)]
end Go.Abs
end
section
namespace Go.Proofs.YtekefilngojelaaGreat
open Go Go.Abs Go.Abs.M Go.Proofs
def dE (R:Abs.Rows) (ps:Bool) (pr:Abs.Rows) (N i:Int):St:=ae 25 [.c (.t (.aa false R)),.af,.c (.ptr 1 0 0),.c (.ptr 4 0 0),.af,.af,.af,.c (.t (.aa false R)),vi .i64 N,vi .i64 i] [none,some (.var [.t (.v (.bool false)),.t (.aa true [])]),none,none,some (.var [.t (.v (.bool ps)),.t (.aa false pr)])]
theorem vT {x:Int} {s:Bool} {r:Abs.Rows} (hx:eV x s r):∃b:Bool,(b=true↔x=1)/\ah Tryz.prog 173 [.val (.agg (iT s r))] ⟨[.val (tb b)],[none]⟩:=⟨decide (x=1),by simp,KQ hx⟩
theorem pA {x y:Int} {s t:Bool} {r q:Abs.Rows} (hx:eV x s r) (hy:eV y t q) (h1:nl x.natAbs<=274877906944) (h2:nl y.natAbs<=274877906944) :
  ∃u w,eV (x*y) u w/\ah Tryz.prog 163 [.val (tl [iT s r,iT t q])] ⟨[.val (.agg (iT u w))],[none]⟩:=by
 obtain⟨u,w,h⟩:∃u w,eV (x*y) u w:=⟨_,_,.mk' _⟩;obtain⟨a,b,ho,co⟩:=Nh 1 (by omega) (by omega);have n1:nl (1:Int).natAbs<=274877906944:=Nat.le_trans (tL (k:=1) (by omega)) (by omega);refine⟨u,w,h,?_⟩;obtain⟨R,hR⟩:∃R,R=([[.v (.bool s),.aa false r],[.v (.bool t),.aa false q]]:Abs.Rows):=⟨_,rfl⟩;rw[show([iT s r,iT t q]:Abs.Rows)=R from hR.symm];refine ar aj mixed [.val] Tryz.func163 rfl rfl (by kernel_rfl) fun zD zE _ _ _ _ _ _ _ _ _ _ _ _ zV zX _ _ _ _ _ zu _ zz _ _ _ _ _ _ _ ab aD _ _ _ _ _ _ _ _ _ _ _ _ _ _ _ _ _ _ A L F hS hF=>?_
 obtain⟨N,hN,Bb⟩:∃N:Int,N=2/\zz (ab R)=N:=⟨_,rfl,by rw[hS.len,hS.aB,hR];rfl⟩;have Kf:aD R (zu 0)=some [.v (.bool s),.aa false r]:=by rw[hS.nat,hS.nth,hR];rfl
 have uZ:aD R (zu 1)=some [.v (.bool t),.aa false q]:=by rw[hS.nat,hS.nth,hR];rfl
 clear hR;cbv;refine⟨_,hS.call co,?_⟩;cbv;refine fN aj mixed hS (fun(m:Nat) s'=>∃(ps:Bool) (pr:Abs.Rows),(m=2/\eV 1 ps pr/\s'=dE R ps pr N 0)∨(m=1/\eV x ps pr/\s'=dE R ps pr N 1)∨(m=0/\eV (x*y) ps pr/\s'=dE R ps pr N 2)) (n:=2) (s0:=dE R a b N 0) (fi ?_ ?_) rfl (by show 1<=5;omega) ?_ ?_
 ·simp[dO,dE,ae,vi,Bb]
 ·simp[dP,dE,ae]
 ·exact⟨a,b,.inl ⟨rfl,ho,rfl⟩⟩
 ·rintro m s1 ⟨ps,pr,⟨yw,hp,iW⟩|⟨yw,hp,iW⟩|⟨yw,hp,iW⟩⟩
  ·have G2:m-1<m:=by omega
   have kP:∀us ur,eV (1*x) us ur->∃(ps:Bool) (pr:Abs.Rows),(m-1=2/\eV 1 ps pr/\dE R us ur N 1=dE R ps pr N 0)∨(m-1=1/\eV x ps pr/\dE R us ur N 1=dE R ps pr N 1)∨(m-1=0/\eV (x*y) ps pr/\dE R us ur N 1=dE R ps pr N 2):=fun us ur hu=>
    ⟨us,ur,.inr (.inl ⟨by omega,hu.of (Int.one_mul x),rfl⟩)⟩
   have k1:zV 0 N=true:=by rw[hS.lt];exact decide_eq_true (by omega)
   have g0:zX 0 0=true:=by rw[hS.le];rfl
   obtain⟨b1,mO,c1⟩:=vT hx;obtain⟨b2,mX,c2⟩:=vT hp;obtain⟨mu,mw,hm,c3⟩:=Ba hp hx (by omega) (by omega);have ii:zD .i64 (zE 0 1)=1:=by rw[hS.add,hS.wrap];rfl
   cases b1 with
   | true=>
    have h1:=mO.1 rfl;have jW:=kP ps pr (hp.of (by rw[h1,Int.mul_one]));subst iW;cbv;refine bT k1 ?_;rw[Kf];cbv;refine nd g0 ?_;refine⟨_,hS.call c1,?_⟩;cbv;refine bT ((rfl:true=true)) ?_;exact again (s':=dE R ps pr N 1) (m:=m-1) (by simp[dO,dE,ae,vi,ii]) (by simp[dP,dE,ae]) rfl (by show 1<=5;omega) G2 jW
   | false=>
    cases b2 with
    | true=>
     have h2:=mX.1 rfl;have jW:=kP s r (hx.of (by rw[h2,Int.one_mul]));subst iW;cbv;refine bT k1 ?_;rw[Kf];cbv;refine nd g0 ?_;refine⟨_,hS.call c1,?_⟩;cbv;refine bF ((rfl:false=false)) ?_;refine⟨_,hS.call c2,?_⟩;cbv;refine bT ((rfl:true=true)) ?_;exact again (s':=dE R s r N 1) (m:=m-1) (by simp[dO,dE,ae,vi,ii]) (by simp[dP,dE,ae]) rfl (by show 1<=5;omega) G2 jW
    | false=>
     have jW:=kP mu mw hm;subst iW;cbv;refine bT k1 ?_;rw[Kf];cbv;refine nd g0 ?_;refine⟨_,hS.call c1,?_⟩;cbv;refine bF ((rfl:false=false)) ?_;refine⟨_,hS.call c2,?_⟩;cbv;refine bF ((rfl:false=false)) ?_;refine⟨_,hS.call c3,?_⟩;cbv;exact again (s':=dE R mu mw N 1) (m:=m-1) (by simp[dO,dE,ae,vi,ii]) (by simp[dP,dE,ae]) rfl (by show 1<=5;omega) G2 jW
  ·have G2:m-1<m:=by omega
   have kP:∀us ur,eV (x*y) us ur->∃(ps:Bool) (pr:Abs.Rows),(m-1=2/\eV 1 ps pr/\dE R us ur N 2=dE R ps pr N 0)∨(m-1=1/\eV x ps pr/\dE R us ur N 2=dE R ps pr N 1)∨(m-1=0/\eV (x*y) ps pr/\dE R us ur N 2=dE R ps pr N 2):=fun us ur hu=>
    ⟨us,ur,.inr (.inr ⟨by omega,hu,rfl⟩)⟩
   have k1:zV 1 N=true:=by rw[hS.lt];exact decide_eq_true (by omega)
   have g0:zX 0 1=true:=by rw[hS.le];rfl
   obtain⟨b1,mO,c1⟩:=vT hy;obtain⟨b2,mX,c2⟩:=vT hp;obtain⟨mu,mw,hm,c3⟩:=Ba hp hy (by omega) (by omega);have ii:zD .i64 (zE 1 1)=2:=by rw[hS.add,hS.wrap];rfl
   cases b1 with
   | true=>
    have h1:=mO.1 rfl;have jW:=kP ps pr (hp.of (by rw[h1,Int.mul_one]));subst iW;cbv;refine bT k1 ?_;rw[uZ];cbv;refine nd g0 ?_;refine⟨_,hS.call c1,?_⟩;cbv;refine bT ((rfl:true=true)) ?_;exact again (s':=dE R ps pr N 2) (m:=m-1) (by simp[dO,dE,ae,vi,ii]) (by simp[dP,dE,ae]) rfl (by show 1<=5;omega) G2 jW
   | false=>
    cases b2 with
    | true=>
     have h2:=mX.1 rfl;have jW:=kP t q (hy.of (by rw[h2,Int.one_mul]));subst iW;cbv;refine bT k1 ?_;rw[uZ];cbv;refine nd g0 ?_;refine⟨_,hS.call c1,?_⟩;cbv;refine bF ((rfl:false=false)) ?_;refine⟨_,hS.call c2,?_⟩;cbv;refine bT ((rfl:true=true)) ?_;exact again (s':=dE R t q N 2) (m:=m-1) (by simp[dO,dE,ae,vi,ii]) (by simp[dP,dE,ae]) rfl (by show 1<=5;omega) G2 jW
    | false=>
     have jW:=kP mu mw hm;subst iW;cbv;refine bT k1 ?_;rw[uZ];cbv;refine nd g0 ?_;refine⟨_,hS.call c1,?_⟩;cbv;refine bF ((rfl:false=false)) ?_;refine⟨_,hS.call c2,?_⟩;cbv;refine bF ((rfl:false=false)) ?_;refine⟨_,hS.call c3,?_⟩;cbv;exact again (s':=dE R mu mw N 2) (m:=m-1) (by simp[dO,dE,ae,vi,ii]) (by simp[dP,dE,ae]) rfl (by show 1<=5;omega) G2 jW
  ·have k1:zV 2 N=false:=by rw[hS.lt];exact decide_eq_false (by omega)
   obtain⟨e1,e2⟩:=hp.inj h;subst e1 e2;subst iW;cbv;refine bF k1 ?_;exact hF _ (ak.refl _)
open Go Go.Abs Go.Abs.M Go.Proofs
def rP (n k:Int):Int:=if k%8=7 then n*(4611686018427387904+k)*(4611686018427387904+k)+k else n
def nM (d k:Int):Int:=if k%8=6 then(if d=0 then 1 else d)*(4611686018427387904+k)*(4611686018427387904+k) else if d=0 then 1 else d
def FT (n d k:Int):Rat:=Rat.divInt (rP n k) (nM d k)
theorem PV {n d k:Int} (n1:-128<=n) (n2:n<128) (d1:-128<=d) (d2:d<128) (k1:0<=k) (k2:k<256):nl (rP n k).natAbs<=8/\nl (nM d k).natAbs<=8/\nM d k≠0:=by
 have b:nl (4611686018427387904+k).natAbs<=2:=tL (by omega);have sa:nl n.natAbs<=1:=tL (by omega);have sb:nl d.natAbs<=1:=tL (by omega);have s1:nl (1:Int).natAbs<=1:=tL (by omega);have sk:nl k.natAbs<=1:=tL (by omega);refine⟨?_,?_,?_⟩
 ·unfold rP
  split
  ·have h1:=vO (n.natAbs*(4611686018427387904+k).natAbs) (4611686018427387904+k).natAbs
   have h2:=vO n.natAbs (4611686018427387904+k).natAbs;have h3:=xp (n*(4611686018427387904+k)*(4611686018427387904+k)).natAbs k.natAbs;rw[Int.natAbs_mul,Int.natAbs_mul]at h3;have h4:=FB (Int.natAbs_add_le (n*(4611686018427387904+k)*(4611686018427387904+k)) k);rw[Int.natAbs_mul,Int.natAbs_mul]at h4;omega
  ·omega
 ·have key:∀x:Int,nl x.natAbs<=1->nl (x*(4611686018427387904+k)*(4611686018427387904+k)).natAbs<=8:=fun x hx=>by
   rw[Int.natAbs_mul,Int.natAbs_mul];have h1:=vO (x.natAbs*(4611686018427387904+k).natAbs) (4611686018427387904+k).natAbs;have h2:=vO x.natAbs (4611686018427387904+k).natAbs;omega
  unfold nM;split
  ·exact key _ (by split<;>omega)
  ·split<;>omega
 ·unfold nM
  split
  ·exact Int.mul_ne_zero (Int.mul_ne_zero (by split<;>omega) (by omega)) (by omega)
  ·split<;>omega
theorem FU (n d k:Int) (n1:-128<=n) (n2:n<128) (d1:-128<=d) (d2:d<128) (k1:0<=k) (k2:k<256) :
  ∃u w v p,xu (FT n d k) u w v p/\ah Tryz.prog 70 [.val (.agg [.v (.int .i8 n),.v (.int .i8 d),.v (.int .u8 k)])] ⟨[.val (.agg (iT u w++iT v p))],[none]⟩:=by
 obtain⟨a1,a2,ha,ca⟩:=fO n (by omega) (by omega);obtain⟨b1,b2,hb,cb⟩:=fO d (by omega) (by omega);obtain⟨f1,f2,hf,cf⟩:=fO 1 (by omega) (by omega);obtain⟨c1,c2,hc,cc⟩:=fO (4611686018427387904+k) (by omega) (by omega);obtain⟨e1,e2,he,ce⟩:=fO k (by omega) (by omega);obtain⟨s1,s2,s3⟩:=PV n1 n2 d1 d2 k1 k2;have sc:nl (4611686018427387904+k).natAbs<=2:=tL (by omega)
 have sa:nl n.natAbs<=2:=tL (by omega);have sb:nl d.natAbs<=2:=tL (by omega);have Zf:nl (1:Int).natAbs<=2:=tL (by omega);have sk:nl k.natAbs<=2:=tL (by omega);obtain⟨D,hD⟩:∃D,D=if d=0 then 1 else d:=⟨_,rfl⟩
 obtain⟨g1,g2,hg,Eg,sg⟩:∃g1 g2,eV D g1 g2/\(if d=0 then g1=f1/\g2=f2 else g1=b1/\g2=b2)/\nl D.natAbs<=2:=by
  by_cases h:d=0
  ·rw[if_pos h]at hD;subst hD;exact⟨f1,f2,hf,by rw[if_pos h];exact⟨rfl,rfl⟩,Zf⟩
  ·rw[if_neg h]at hD;subst hD;exact⟨b1,b2,hb,by rw[if_neg h];exact⟨rfl,rfl⟩,sb⟩
 obtain⟨rK,mH⟩:∃rK,rK=4611686018427387904+k:=⟨_,rfl⟩;have WS:k%8=7->rP n k=n*rK*rK+k:=fun h=>by unfold rP;rw[if_pos h,mH]
 have eN:¬k%8=7->rP n k=n:=fun h=>by unfold rP;rw[if_neg h]
 have WT:k%8=6->nM d k=D*rK*rK:=fun h=>by unfold nM;rw[if_pos h,mH,hD]
 have eD:¬k%8=6->nM d k=D:=fun h=>by unfold nM;rw[if_neg h,hD]
 unfold FT;rw[<-mH]at hc cc sc;obtain⟨i1,i2,hi,ci⟩:=KJ ha hc (by omega) (by omega);obtain⟨j1,j2,hj,cj⟩:=KJ hi hc (by rw[Int.natAbs_mul];have:=vO n.natAbs rK.natAbs;omega) (by omega);have sj:nl (n*rK*rK).natAbs<=7:=by
  rw[Int.natAbs_mul,Int.natAbs_mul];have h1:=vO (n.natAbs*rK.natAbs) rK.natAbs;have h2:=vO n.natAbs rK.natAbs;omega
 obtain⟨l1,l2,hl,cl⟩:=A6 hj he (by omega) (by omega);obtain⟨m1,m2,hm,cm⟩:=KJ hg hc (by omega) (by omega);obtain⟨o1,o2,ho,co⟩:=KJ hm hc (by rw[Int.natAbs_mul];have:=vO D.natAbs rK.natAbs;omega) (by omega)
 by_cases h7:k%8=7
 ·have h6:¬k%8=6:=by omega
  rw[WS h7]at s1;rw[eD h6]at s2 s3;rw[WS h7,eD h6];obtain⟨u,w,v,p,hq,cq⟩:=UX hl hg s3 (by omega) (by omega);refine⟨u,w,v,p,hq,?_⟩;clear hq s1 s2 s3 sj sg sk Zf sb sa sc hD hc WS eN WT eD;refine ar aj mixed [.val] Tryz.func70 rfl rfl (by kernel_rfl) fun zD zE _ _ _ zJ _ _ _ _ _ _ zT _ _ _ _ _ _ _ _ _ _ _ _ _ _ _ _ _ _ _ _ _ _ _ _ _ _ _ _ _ _ _ _ _ _ _ _ _ _ A L F hS hF=>?_
  have w1:zD .i64 n=n:=by rw[hS.wrap,wrap_i64 (by omega) (by omega)]
  have w2:zD .i64 d=d:=by rw[hS.wrap,wrap_i64 (by omega) (by omega)]
  have w3:zD .i64 k=k:=by rw[hS.wrap,wrap_i64 (by omega) (by omega)]
  have w4:zD .i64 (zE 4611686018427387904 k)=rK:=by rw[hS.wrap,hS.add,wrap_i64 (by omega) (by omega),mH]
  have w5:zT (zJ k 8) 7=true:=by rw[hS.eq,hS.rem,Int.tmod_eq_emod_of_nonneg k1];exact decide_eq_true h7
  have w6:zT (zJ k 8) 6=false:=by rw[hS.eq,hS.rem,Int.tmod_eq_emod_of_nonneg k1];exact decide_eq_false h6
  cbv;rw[w1];refine⟨_,hS.call ca,?_⟩;cbv;rw[w2];refine⟨_,hS.call cb,?_⟩;cbv;refine⟨fun hh=>?_,fun hh=>?_⟩
  all_goals rw[hS.eq]at hh
  ·rw[if_pos (of_decide_eq_true hh)]at Eg
   obtain⟨rfl,rfl⟩:=Eg;refine⟨_,hS.call cf,?_⟩;cbv;rw[w3,w4];refine⟨_,hS.call cc,?_⟩;cbv;refine bT w5 ?_;refine⟨_,hS.call ci,?_⟩;cbv;refine⟨_,hS.call cj,?_⟩;cbv;rw[w3];refine⟨_,hS.call ce,?_⟩;cbv;refine⟨_,hS.call cl,?_⟩;cbv;refine bF w6 ?_;refine⟨_,hS.call cq,?_⟩;cbv;exact hF _ (ak.refl _)
  ·rw[if_neg (of_decide_eq_false hh)]at Eg
   obtain⟨rfl,rfl⟩:=Eg;rw[w3,w4];refine⟨_,hS.call cc,?_⟩;cbv;refine bT w5 ?_;refine⟨_,hS.call ci,?_⟩;cbv;refine⟨_,hS.call cj,?_⟩;cbv;rw[w3];refine⟨_,hS.call ce,?_⟩;cbv;refine⟨_,hS.call cl,?_⟩;cbv;refine bF w6 ?_;refine⟨_,hS.call cq,?_⟩;cbv;exact hF _ (ak.refl _)
 ·by_cases h6:k%8=6
  ·rw[eN h7]at s1
   rw[WT h6]at s2 s3;rw[eN h7,WT h6];obtain⟨u,w,v,p,hq,cq⟩:=UX ha ho s3 (by omega) (by omega);refine⟨u,w,v,p,hq,?_⟩;clear hq s1 s2 s3 sj sg sk Zf sb sa sc hD hc WS eN WT eD;refine ar aj mixed [.val] Tryz.func70 rfl rfl (by kernel_rfl) fun zD zE _ _ _ zJ _ _ _ _ _ _ zT _ _ _ _ _ _ _ _ _ _ _ _ _ _ _ _ _ _ _ _ _ _ _ _ _ _ _ _ _ _ _ _ _ _ _ _ _ _ A L F hS hF=>?_
   have w1:zD .i64 n=n:=by rw[hS.wrap,wrap_i64 (by omega) (by omega)]
   have w2:zD .i64 d=d:=by rw[hS.wrap,wrap_i64 (by omega) (by omega)]
   have w3:zD .i64 k=k:=by rw[hS.wrap,wrap_i64 (by omega) (by omega)]
   have w4:zD .i64 (zE 4611686018427387904 k)=rK:=by rw[hS.wrap,hS.add,wrap_i64 (by omega) (by omega),mH]
   have w5:zT (zJ k 8) 7=false:=by rw[hS.eq,hS.rem,Int.tmod_eq_emod_of_nonneg k1];exact decide_eq_false h7
   have w6:zT (zJ k 8) 6=true:=by rw[hS.eq,hS.rem,Int.tmod_eq_emod_of_nonneg k1];exact decide_eq_true h6
   cbv;rw[w1];refine⟨_,hS.call ca,?_⟩;cbv;rw[w2];refine⟨_,hS.call cb,?_⟩;cbv;refine⟨fun hh=>?_,fun hh=>?_⟩
   all_goals rw[hS.eq]at hh
   ·rw[if_pos (of_decide_eq_true hh)]at Eg
    obtain⟨rfl,rfl⟩:=Eg;refine⟨_,hS.call cf,?_⟩;cbv;rw[w3,w4];refine⟨_,hS.call cc,?_⟩;cbv;refine bF w5 ?_;refine bT w6 ?_;refine⟨_,hS.call cm,?_⟩;cbv;refine⟨_,hS.call co,?_⟩;cbv;refine⟨_,hS.call cq,?_⟩;cbv;exact hF _ (ak.refl _)
   ·rw[if_neg (of_decide_eq_false hh)]at Eg
    obtain⟨rfl,rfl⟩:=Eg;rw[w3,w4];refine⟨_,hS.call cc,?_⟩;cbv;refine bF w5 ?_;refine bT w6 ?_;refine⟨_,hS.call cm,?_⟩;cbv;refine⟨_,hS.call co,?_⟩;cbv;refine⟨_,hS.call cq,?_⟩;cbv;exact hF _ (ak.refl _)
  ·rw[eN h7]at s1
   rw[eD h6]at s2 s3;rw[eN h7,eD h6];obtain⟨u,w,v,p,hq,cq⟩:=UX ha hg s3 (by omega) (by omega);refine⟨u,w,v,p,hq,?_⟩;clear hq s1 s2 s3 sj sg sk Zf sb sa sc hD hc WS eN WT eD;refine ar aj mixed [.val] Tryz.func70 rfl rfl (by kernel_rfl) fun zD zE _ _ _ zJ _ _ _ _ _ _ zT _ _ _ _ _ _ _ _ _ _ _ _ _ _ _ _ _ _ _ _ _ _ _ _ _ _ _ _ _ _ _ _ _ _ _ _ _ _ A L F hS hF=>?_
   have w1:zD .i64 n=n:=by rw[hS.wrap,wrap_i64 (by omega) (by omega)]
   have w2:zD .i64 d=d:=by rw[hS.wrap,wrap_i64 (by omega) (by omega)]
   have w3:zD .i64 k=k:=by rw[hS.wrap,wrap_i64 (by omega) (by omega)]
   have w4:zD .i64 (zE 4611686018427387904 k)=rK:=by rw[hS.wrap,hS.add,wrap_i64 (by omega) (by omega),mH]
   have w5:zT (zJ k 8) 7=false:=by rw[hS.eq,hS.rem,Int.tmod_eq_emod_of_nonneg k1];exact decide_eq_false h7
   have w6:zT (zJ k 8) 6=false:=by rw[hS.eq,hS.rem,Int.tmod_eq_emod_of_nonneg k1];exact decide_eq_false h6
   cbv;rw[w1];refine⟨_,hS.call ca,?_⟩;cbv;rw[w2];refine⟨_,hS.call cb,?_⟩;cbv;refine⟨fun hh=>?_,fun hh=>?_⟩
   all_goals rw[hS.eq]at hh
   ·rw[if_pos (of_decide_eq_true hh)]at Eg
    obtain⟨rfl,rfl⟩:=Eg;refine⟨_,hS.call cf,?_⟩;cbv;rw[w3,w4];refine⟨_,hS.call cc,?_⟩;cbv;refine bF w5 ?_;refine bF w6 ?_;refine⟨_,hS.call cq,?_⟩;cbv;exact hF _ (ak.refl _)
   ·rw[if_neg (of_decide_eq_false hh)]at Eg
    obtain⟨rfl,rfl⟩:=Eg;rw[w3,w4];refine⟨_,hS.call cc,?_⟩;cbv;refine bF w5 ?_;refine bF w6 ?_;refine⟨_,hS.call cq,?_⟩;cbv;exact hF _ (ak.refl _)
open Go Go.Abs Go.Abs.M Go.Proofs
theorem rQ {n d:Int} {k:Nat} (hd:d≠0) (h1:nl n.natAbs<=k) (h2:nl d.natAbs<=k):Qs (Rat.divInt n d) k:=by
 constructor
 ·rw[<-mc hd]
  have:=FB (Int.natAbs_ediv_le_natAbs n (if d<0 then -(Int.gcd n d:Int) else(Int.gcd n d:Int)));omega
 ·have e:=me (n:=n) hd
  have:=FB (Int.natAbs_ediv_le_natAbs d (if d<0 then -(Int.gcd n d:Int) else(Int.gcd n d:Int)));rw[e,Int.natAbs_natCast]at this;omega
theorem Qs.mono {x:Rat} {a b:Nat} (h:Qs x a) (GO:a<=b):Qs x b:=⟨Nat.le_trans h.1 GO,Nat.le_trans h.2 GO⟩
theorem KT {x y:Rat} {a b:Nat} (hx:Qs x a) (hy:Qs y b):Qs (x+y) (a+b+1):=by
 obtain⟨x1,x2⟩:=hx;obtain⟨y1,y2⟩:=hy;have Ku:=x.den_nz;have qo:=y.den_nz;have h:x+y=Rat.divInt (x.num*y.den+y.num*x.den) (x.den*y.den):=by
  rw[<-Rat.divInt_add_divInt _ _ (by omega) (by omega),Rat.num_divInt_den,Rat.num_divInt_den]
 rw[h];have n1:=vO x.num.natAbs y.den;have n2:=vO y.num.natAbs x.den;have n3:=vO x.den y.den;refine rQ (Int.mul_ne_zero (by omega) (by omega)) ?_ ?_
 ·have h1:=FB (Int.natAbs_add_le (x.num*y.den) (y.num*x.den))
  have h2:=xp (x.num*y.den).natAbs (y.num*x.den).natAbs;rw[Int.natAbs_mul,Int.natAbs_mul,Int.natAbs_natCast,Int.natAbs_natCast]at h2;rw[Int.natAbs_mul,Int.natAbs_mul,Int.natAbs_natCast,Int.natAbs_natCast]at h1;omega
 ·rw[Int.natAbs_mul,Int.natAbs_natCast,Int.natAbs_natCast];omega
theorem Bc {x y:Rat} {a b:Nat} (hx:Qs x a) (hy:Qs y b):Qs (x*y) (a+b):=by
 obtain⟨x1,x2⟩:=hx;obtain⟨y1,y2⟩:=hy;have Ku:=x.den_nz;have qo:=y.den_nz;have h:x*y=Rat.divInt (x.num*y.num) (x.den*y.den):=by
  rw[<-Rat.divInt_mul_divInt,Rat.num_divInt_den,Rat.num_divInt_den]
 rw[h];have n1:=vO x.num.natAbs y.num.natAbs;have n3:=vO x.den y.den;refine rQ (Int.mul_ne_zero (by omega) (by omega)) ?_ ?_
 ·rw[Int.natAbs_mul];omega
 ·rw[Int.natAbs_mul,Int.natAbs_natCast,Int.natAbs_natCast];omega
open Go Go.Abs Go.Abs.M Go.Proofs
def rR (R:Abs.Rows) (i:Int):St:=ae 29 [.c (.t (.aa false R)),.af,vb false,vi .i64 i] [none]
theorem FV (cs:List QC) (b:Bool) (hb:b=true↔WR cs) (hl:cs.length<=1000)
  (hv:∀c∈cs,∃b1:Bool,(b1=true↔c.can)/\ah Tryz.prog 122 [.val (.agg c.row)] ⟨[.val (tb b1)],[none]⟩)
  (hs:∀c∈cs,c.can->∃k:Int,(k=0↔c.l=[])/\ah Tryz.prog 62 [.val (.agg c.row)] ⟨[.val (ti .i64 k)],[none]⟩) :
  ah Tryz.prog 125 [.val (tl (jV cs))] ⟨[.val (tb b)],[none]⟩:=by
 obtain⟨R,hR⟩:∃R,R=jV cs:=⟨_,rfl⟩;obtain⟨n,hn⟩:∃n,n=cs.length:=⟨_,rfl⟩;have hRl:R.length=n:=by rw[hR,KR,hn]
 have fX:∀i,i<n->∃c∈cs,cs[i]?=some c/\∃(s t:Bool) (r q:Abs.Rows),c.row=[.v (.bool s),.aa false r,.v (.bool t),.aa false q]/\R[i]?=some c.row:=fun i hi=>by
  have h:cs[i]?=some cs[i]:=List.getElem?_eq_getElem (by omega);have h2:=KS h;rw[<-hR]at h2;exact⟨_,List.mem_of_getElem? h,h,_,_,_,_,rfl,h2⟩
 have Ju:∀c∈cs,¬c.can->false=b:=fun c hc h=>by
  cases b with
  | false=>rfl
  | true=>exact absurd ((hb.1 rfl).1 c hc) h
 have eL:(∀i c,i<n->cs[i]?=some c->c.can)->(n=0->true=b)/\∀c,cs[n-1]?=some c->decide (c.l≠[])=b:=fun h=>by
  have jr:∀c∈cs,c.can:=fun c hc=>by
   obtain⟨i,hi⟩:=List.getElem?_of_mem hc;exact h i c (by rw[hn];exact(List.getElem?_eq_some_iff.1 hi).1) hi
  refine⟨fun h0=>?_,fun c hc=>?_⟩
  ·have:cs=[]:=List.length_eq_zero_iff.1 (by omega)
   exact(hb.2 ⟨jr,fun c hc=>by rw[this]at hc;cases hc⟩).symm
  ·have A7:cs.getLast?=some c:=by rw[List.getLast?_eq_getElem?,<-hn];exact hc
   cases b with
   | false=>exact decide_eq_false fun cY=>absurd (hb.2 ⟨jr,fun c' Me=>by rw[A7]at Me;cases Me;exact cY⟩) (by simp)
   | true=>exact decide_eq_true ((hb.1 rfl).2 c A7)
 rw[<-hR];clear hR hb;refine ar aj mixed [.val] Tryz.func125 rfl rfl (by kernel_rfl) fun zD zE zG _ _ _ _ _ _ _ _ _ zT zU zV zX zY _ _ _ _ zu _ zz _ _ _ _ _ _ _ ab aD _ _ _ _ _ _ _ _ _ _ _ _ _ _ _ _ _ _ A L F hS hF=>?_
 have LS:ab R=n:=by rw[hS.len,hRl]
 have y1:zY true=false:=hS.not true;have y2:zY false=true:=hS.not false;obtain⟨N,hN,Bb⟩:∃N:Int,N=n/\zz (ab R)=N:=⟨_,rfl,by rw[LS,hS.aB]⟩;cbv;have hN:N=(n:Int):=hN;refine fN aj mixed hS (fun(j:Nat) s'=>∃(i:Nat) (I:Int),I=i/\i+j=n/\(∀k c,k<i->cs[k]?=some c->c.can)/\s'=rR R I) (n:=n) (s0:=rR R 0) (fi ?_ ?_) rfl (Nat.le_refl 1) ?_ ?_
 ·simp[dO,rR,ae,vi,vb]
 ·simp[dP,rR,ae]
 ·exact⟨0,0,rfl,by omega,fun k c hk=>by omega,rfl⟩
 ·rintro j s1 ⟨i,I,hI,Eh,nf,iW⟩
  have abO:zu I=i:=by rw[hS.nat];omega
  have g0:zX 0 I=true:=by rw[hS.le];exact decide_eq_true (by omega)
  by_cases hi:i<n
  ·have l1:zV I (zz (ab R))=true:=by rw[Bb,hS.lt];exact decide_eq_true (by omega)
   obtain⟨c,hc,Nn,s,t,r,q,da,Np⟩:=fX i hi;obtain⟨b1,mO,cv⟩:=hv c hc;have hz:aD R (zu I)=some [.v (.bool s),.aa false r,.v (.bool t),.aa false q]:=by rw[abO,hS.nth,Np,da]
   rw[da]at cv;have hf:=Ju c hc;cases b1 with
   | false=>
    have hfb:=hf fun h=>absurd (mO.2 h) (by simp)
    clear fX hv hs Ju eL nf hf;subst iW;cbv;refine bT l1 ?_;rw[hz];cbv;refine nd g0 ?_;refine⟨_,hS.call cv,?_⟩;cbv;refine bT y2 ?_;exact bn hF (jz hfb)
   | true=>
    have hjj:j-1<j:=by omega
    obtain⟨I',hI',i1⟩:∃I':Int,I'=((i+1:Nat):Int)/\zD .i64 (zE I 1)=I':=⟨I+1,by omega,by rw[hS.add,hS.wrap,wrap_i64 (by omega) (by omega)]⟩;have jW:∃(i2:Nat) (I2:Int),I2=i2/\i2+(j-1)=n/\(∀k c,k<i2->cs[k]?=some c->c.can)/\rR R I'=rR R I2:=⟨i+1,I',hI',by omega,fun k c' hk Me=>by
     by_cases h:k=i
     ·rw[h,Nn]at Me;cases Me;exact mO.1 rfl
     ·exact nf k c' (by omega) Me,rfl⟩
    clear fX hv hs Ju eL nf hf mO;subst iW;cbv;refine bT l1 ?_;rw[hz];cbv;refine nd g0 ?_;refine⟨_,hS.call cv,?_⟩;cbv;refine bF y1 ?_;exact again (s':=rR R I') (m:=j-1) (by simp[dO,rR,ae,vi,vb,i1]) (by simp[dP,rR,ae]) rfl (Nat.le_refl 1) hjj jW
  ·have l1:zV I (zz (ab R))=false:=by rw[Bb,hS.lt];exact decide_eq_false (by omega)
   have iR:i=n:=by omega
   obtain⟨he1,Rn⟩:=eL fun k c hk hc=>nf k c (by omega) hc
   have e0:zT (zz (ab R)) 0=decide (n=0):=by
    rw[Bb,hS.eq]
    by_cases h:n=0
    ·rw[decide_eq_true h];exact decide_eq_true (by omega)
    ·rw[decide_eq_false h];exact decide_eq_false (by omega)
   by_cases J4:n=0
   ·have hT:=he1 J4
    rw[decide_eq_true J4]at e0;clear fX hv hs Ju eL nf;subst iW;cbv;exact bF l1 (bT e0 (bn hF (jz hT)))
   ·rw[decide_eq_false J4]at e0
    obtain⟨c,hc,Nn,s,t,r,q,da,Np⟩:=fX (n-1) (by omega);obtain⟨k,hk,cg⟩:=hs c hc (nf (n-1) c (by omega) Nn);have fY:=Rn c Nn;obtain⟨J,hJ,j1⟩:∃J:Int,J=((n-1:Nat):Int)/\zD .i64 (zG (zz (ab R)) 1)=J:=⟨N-1,by omega,by rw[Bb,hS.sub,hS.wrap,wrap_i64 (by omega) (by omega)]⟩;have g1:zX 0 J=true:=by rw[hS.le];exact decide_eq_true (by omega)
    have hz:aD R (zu J)=some [.v (.bool s),.aa false r,.v (.bool t),.aa false q]:=by rw[hS.nat,hJ,Int.toNat_natCast,hS.nth,Np,da]
    rw[da]at cg;have e9:zU k 0=b:=by
     rw[hS.ne,<-fY]
     by_cases h:k=0
     ·rw[decide_eq_false (by omega),decide_eq_false (by have:=hk.1 h;simp[this])]
     ·rw[decide_eq_true h];exact(decide_eq_true (p:=¬c.l=[]) fun h'=>h (hk.2 h')).symm
    clear fX hv hs Ju eL nf he1 Rn hk fY hc Nn;subst iW;cbv;refine bF l1 (bF e0 ?_);rw[j1,hz];cbv;refine nd g1 ?_;refine⟨_,hS.call cg,?_⟩;cbv;exact bn hF (jz e9)
open Go Go.Abs Go.Abs.M Go.Proofs
def rS (R:Abs.Rows) (n:Int):St:=ae 22 [.c (.t (.aa false R)),.af,.af,vi .i64 n] [none]
theorem FW (P:List Rat) (hl:P.length<=1000)
  (hs:∀q:Rat,∃k:Int,(k=0↔q=0)/\ah Tryz.prog 62 [.val (.agg (qc q).row)] ⟨[.val (ti .i64 k)],[none]⟩) :
  ah Tryz.prog 108 [.val (tl (ur P))] ⟨[.val (tl (ur (bP P)))],[none]⟩:=by
 obtain⟨R,hR⟩:∃R,R=ur P:=⟨_,rfl⟩;obtain⟨n,hn⟩:∃n,n=P.length:=⟨_,rfl⟩;have hRl:R.length=n:=by rw[hR,tR,hn]
 have fX:∀i,i<n->∃q:Rat,P.getD i 0=q/\∃(s t:Bool) (r p:Abs.Rows),(qc q).row=[.v (.bool s),.aa false r,.v (.bool t),.aa false p]/\R[i]?=some (qc q).row:=fun i hi=>by
  have h:P[i]?=some P[i]:=List.getElem?_eq_getElem (by omega);have h2:=Nj h;rw[<-hR]at h2;exact⟨_,by rw[List.getD_eq_getElem?_getD,h];rfl,_,_,_,_,rfl,h2⟩
 have Tb:(R.all fun r=>r.length==4)=true:=by
  refine List.all_eq_true.2 fun r hr=>?_
  rw[hR]at hr;obtain⟨c,_,rfl⟩:=List.mem_map.1 hr;rfl
 obtain⟨T,hT⟩:∃T,T=gO P P.length:=⟨_,rfl⟩;obtain⟨Q,hQ⟩:∃Q,Q=ur (bP P):=⟨_,rfl⟩;have eL:∀k,gO P k=T->k<=n->T=k->Q=(R.drop 0).take k:=fun k _ _ hk=>by
  rw[hQ,hR,List.drop_zero,PU,<-hk,hT];rfl
 rw[<-hR,<-hQ];rw[<-hn]at hT;clear hR hQ;refine ar aj mixed [.val] Tryz.func108 rfl rfl (by kernel_rfl) fun zD _ zG _ _ _ _ _ _ _ _ _ zT _ zV zX _ _ _ _ _ zu _ zz _ _ _ _ bE _ _ ab aD _ _ _ _ _ aE _ _ _ aN _ _ _ _ _ _ _ _ A L F hS hF=>?_
 have LS:ab R=n:=by rw[hS.len,hRl]
 obtain⟨N,hN,Bb⟩:∃N:Int,N=n/\zz (ab R)=N:=⟨_,rfl,by rw[LS,hS.aB]⟩;cbv;have hN:N=(n:Int):=hN;refine fN aj mixed hS (fun(k:Nat) s'=>∃I:Int,I=k/\k<=n/\gO P k=T/\s'=rS R I) (n:=n) (s0:=rS R N) (fi ?_ ?_) rfl (Nat.le_refl 1) ?_ ?_
 ·simp[dO,rS,ae,vi,vb,Bb]
 ·simp[dP,rS,ae]
 ·exact⟨N,hN,Nat.le_refl _,hT.symm,rfl⟩
 ·rintro k s1 ⟨I,hI,hk,WU,iW⟩
  have w1:bE 0 I (ab R)=true:=by rw[hS.cut,LS];exact decide_eq_true (by omega)
  have w2:aN 4 R=true:=by rw[hS.wide];exact Tb
  have w3:aE R 0 (zu I)=(R.drop 0).take k:=by rw[hS.part,hS.nat,hI,Int.toNat_natCast]
  by_cases OD:k=0
  ·have l1:zV 0 I=false:=by rw[hS.lt];exact decide_eq_false (by omega)
   have hq:=eL k WU hk (by rw[<-WU,OD];rfl);subst iW;cbv;refine bF l1 (nd w1 (nd w2 ?_));rw[w3,<-hq];exact hF _ (ak.refl _)
  ·have l1:zV 0 I=true:=by rw[hS.lt];exact decide_eq_true (by omega)
   obtain⟨q,hqi,s,t,r,p,da,Np⟩:=fX (k-1) (by omega);obtain⟨c,hc,cg⟩:=hs q;obtain⟨J,hJ,j1⟩:∃J:Int,J=((k-1:Nat):Int)/\zD .i64 (zG I 1)=J:=⟨I-1,by omega,by rw[hS.sub,hS.wrap,wrap_i64 (by omega) (by omega)]⟩;have g1:zX 0 J=true:=by rw[hS.le];exact decide_eq_true (by omega)
   have hz:aD R (zu J)=some [.v (.bool s),.aa false r,.v (.bool t),.aa false p]:=by rw[hS.nat,hJ,Int.toNat_natCast,hS.nth,Np,da]
   rw[da]at cg;have Mq:gO P k=if q=0 then gO P (k-1) else k:=by
    obtain⟨m,rfl⟩:∃m,k=m+1:=⟨k-1,by omega⟩;rw[Nat.add_sub_cancel]at hqi;rw[Nat.add_sub_cancel];show(if P.getD m 0=0 then gO P m else m+1)=_
    rw[hqi]
   by_cases KK:q=0
   ·have e1:zT c 0=true:=by rw[hS.eq];exact decide_eq_true (hc.2 KK)
    rw[if_pos KK]at Mq;have hkk:k-1<k:=by omega
    have jW:∃I2:Int,I2=((k-1:Nat):Int)/\k-1<=n/\gO P (k-1)=T/\rS R J=rS R I2:=⟨J,hJ,by omega,by rw[<-Mq];exact WU,rfl⟩;clear fX hs eL;subst iW;cbv;refine bT l1 ?_;rw[j1,hz];cbv;refine nd g1 ?_;refine⟨_,hS.call cg,?_⟩;cbv;refine bT e1 ?_;exact again (s':=rS R J) (m:=k-1) (by simp[dO,rS,ae,vi,vb,j1]) (by simp[dP,rS,ae]) rfl (Nat.le_refl 1) hkk jW
   ·have e1:zT c 0=false:=by rw[hS.eq];exact decide_eq_false fun h=>KK (hc.1 h)
    rw[if_neg KK]at Mq;have hq:=eL k WU hk (by rw[<-WU,Mq]);clear fX hs eL;subst iW;cbv;refine bT l1 ?_;rw[j1,hz];cbv;refine nd g1 ?_;refine⟨_,hS.call cg,?_⟩;cbv;refine bF e1 ?_;refine nd w1 ?_;refine nd w2 ?_;rw[w3,<-hq];exact hF _ (ak.refl _)
open Go Go.Abs Go.Abs.M Go.Proofs
structure RW where
 n:Int
 d:Int
 k:Int
structure RW.ok (x:RW):Prop where
 n1:-128<=x.n
 n2:x.n<128
 d1:-128<=x.d
 d2:x.d<128
 k1:0<=x.k
 k2:x.k<256
def RW.row (x:RW):List Tree:=[.v (.int .i8 x.n),.v (.int .i8 x.d),.v (.int .u8 x.k)]
def RW.q (x:RW):Rat:=FT x.n x.d x.k
open Go Go.Abs Go.Abs.M Go.Proofs
theorem xx {x:Int} {s t:Bool} {r q:Abs.Rows} (c:Int) (hx:eV x s r) (hc:c=bC x 0):ah Tryz.prog 161 [.val (.agg (iT s r++iT t q))] ⟨[.val (ti .i64 c)],[none]⟩:=by
 have c1:=qD c hx hc;refine ar aj mixed [.val] Tryz.func161 rfl rfl (by kernel_rfl) ?_;intros;rename_i A L F hS hF;cbv;refine⟨_,hS.call c1,?_⟩;cbv;exact hF _ (ak.refl _)
theorem jX {x:Int} {s t:Bool} {r q:Abs.Rows} (c:Int) (hx:eV x s r) (hc:c=bC x 0):ah Tryz.prog 62 [.val (.agg (iT s r++iT t q))] ⟨[.val (ti .i64 c)],[none]⟩:=by
 have c1:=lW c hx hc;refine ar aj mixed [.val] Tryz.func62 rfl rfl (by kernel_rfl) ?_;intros;rename_i A L F hS hF;cbv;refine⟨_,hS.call c1,?_⟩;cbv;exact hF _ (ak.refl _)
theorem Nq (x:Int):bC x 0=0↔x=0:=by
 unfold bC
 by_cases h:x<0
 ·rw[if_pos h];omega
 ·rw[if_neg h];split<;>omega
theorem Dz (cs:List QC) (b:Bool) (hb:b=true↔WR cs) (hw:∀c∈cs,c.ok 1000) (hl:cs.length<=1000):ah Tryz.prog 125 [.val (tl (jV cs))] ⟨[.val (tb b)],[none]⟩:=by
 refine FV cs b hb hl (fun c hc=>?_) (fun c hc abP=>?_)
 ·obtain⟨b1,mO⟩:=PT c.can
  have h:=hw c hc;exact⟨b1,mO,rN b1 mO h.l h.m (by have:=h.ll;omega) (by have:=h.lm;omega)⟩
 ·obtain⟨x,h1,h2⟩:=QC.sign abP
  exact⟨bC x 0,(Nq x).trans h2,jX _ h1 rfl⟩
theorem HU (P:List Rat) (hl:P.length<=1000):ah Tryz.prog 108 [.val (tl (ur P))] ⟨[.val (tl (ur (bP P)))],[none]⟩:=
 FW P hl fun q=>⟨bC q.num 0,(Nq q.num).trans Rat.num_eq_zero,jX _ (fJ q).n rfl⟩
open Go Go.Abs Go.Abs.M Go.Proofs
theorem Qs.neg {x:Rat} {k:Nat} (h:Qs x k):Qs (-x) k:=⟨by show nl (-x.num).natAbs<=k;rw[Int.natAbs_neg];exact h.1,h.2⟩
theorem PW (x:Rat):Int.gcd x.num x.den=1:=by
 have:=x.reduced;unfold Nat.Coprime at this;unfold Int.gcd;rw[Int.natAbs_natCast];exact this
def jh (x y:Rat):Int:=if x<y then -1 else if y<x then 1 else 0
theorem xy (x y:Rat):jh x y=bC (x.num*y.den) (y.num*x.den):=by
 unfold jh bC
 by_cases h:x<y
 ·rw[if_pos h,if_pos ((Rat.lt_iff x y).1 h)]
 ·rw[if_neg h,if_neg (fun h'=>h ((Rat.lt_iff x y).2 h'))]
  by_cases h2:y<x
  ·rw[if_pos h2,if_pos ((Rat.lt_iff y x).1 h2)]
  ·rw[if_neg h2,if_neg (fun h'=>h2 ((Rat.lt_iff y x).2 h'))]
theorem HV {a b c d:Int} (hc:0<c) (hd:0<d) (h:bC a 0≠bC b 0):bC (a*d) (b*c)=if bC a 0<bC b 0 then -1 else 1:=by
 have key:∀ {x y:Int},0<y->(0<x->0<x*y)/\(x<0->x*y<0)/\(x=0->x*y=0):=fun {x y} hy=>⟨fun h=>Int.mul_pos h hy,fun h=>Int.mul_neg_of_neg_of_pos h hy,fun h=>by rw[h,Int.zero_mul]⟩
 obtain⟨a1,a2,a3⟩:=key (x:=a) hd;obtain⟨b1,b2,b3⟩:=key (x:=b) hc;generalize a*d=A,b*c=B at *;unfold bC at h ⊢;rcases Int.lt_trichotomy a 0 with ha|ha|ha<;>rcases Int.lt_trichotomy b 0 with hb|hb|hb
 all_goals (repeat' split)<;>omega
theorem KU {x y:Rat} {s t s' t':Bool} {r q r' q':Abs.Rows} (c:Int) (hx:xu x s r t q) (hy:xu y s' r' t' q') (hc:c=jh x y) (h1:Qs x 68719476736) (h2:Qs y 68719476736) :
  ah Tryz.prog 145 [.val (.agg (iT s r++iT t q)),.val (.agg (iT s' r'++iT t' q'))] ⟨[.val (ti .i64 c)],[none,none]⟩:=by
 obtain⟨x1,x2⟩:=h1;obtain⟨y1,y2⟩:=h2;have Ku:=x.den_pos;have qo:=y.den_pos;have n1:=vO x.num.natAbs y.den;have n2:=vO y.num.natAbs x.den;rw[xy]at hc;have cx:=xx (t:=t) (q:=q) (bC x.num 0) hx.n rfl;have cy:=xx (t:=t') (q:=q') (bC y.num 0) hy.n rfl;obtain⟨a,b,ha,ca⟩:=pA hx.n hy.d (by omega) (by rw[Int.natAbs_natCast];omega);obtain⟨a',b',WO,WQ⟩:=pA hy.n hx.d (by omega) (by rw[Int.natAbs_natCast];omega)
 have m1:nl (x.num*y.den).natAbs<=2199023255552:=by rw[Int.natAbs_mul,Int.natAbs_natCast];omega
 have m2:nl (y.num*x.den).natAbs<=2199023255552:=by rw[Int.natAbs_mul,Int.natAbs_natCast];omega
 have cc:=KM c ha WO hc m1 m2;have hsg:=HV (a:=x.num) (b:=y.num) (c:=x.den) (d:=y.den) (by omega) (by omega);rw[<-hc]at hsg;generalize bC x.num 0=sx,bC y.num 0=sy at *;clear hc;refine ar aj mixed [.val] Tryz.func145 rfl rfl (by kernel_rfl) ?_;intros;rename_i zU zV _ _ _ _ _ _ _ _ _ _ _ _ _ _ _ _ _ _ _ _ _ _ a9 aE _ _ _ _ _ _ _ _ _ _ _ _ A L F hS hF;have zf:∀(a b:Bool) (c d:Abs.Rows),a9 0 2 [[.v (.bool a),.aa false c],[.v (.bool b),.aa false d]]=true:=fun a b c d=>by rw[hS.fit];rfl
 have zp:∀(a b:Bool) (c d:Abs.Rows),aE [[.v (.bool a),.aa false c],[.v (.bool b),.aa false d]] 0 2=[[.v (.bool a),.aa false c],[.v (.bool b),.aa false d]]:=fun a b c d=>by rw[hS.part];rfl
 have e1:zU sx sy=decide (sx≠sy):=hS.ne ..;have e2:zV sx sy=decide (sx<sy):=hS.lt ..
 by_cases h:sx≠sy
 ·have Pa:=hsg h
  rw[decide_eq_true h]at e1
  by_cases h2:sx<sy
  ·rw[if_pos h2]at Pa
   rw[decide_eq_true h2]at e2;subst Pa;cbv;refine⟨_,hS.call cx,?_⟩;cbv;refine⟨_,hS.call cy,?_⟩;cbv;refine bT e1 ?_;refine bT e2 ?_;exact hF _ (ak.refl _)
  ·rw[if_neg h2]at Pa
   rw[decide_eq_false h2]at e2;subst Pa;cbv;refine⟨_,hS.call cx,?_⟩;cbv;refine⟨_,hS.call cy,?_⟩;cbv;refine bT e1 ?_;refine bF e2 ?_;exact hF _ (ak.refl _)
 ·rw[decide_eq_false h]at e1
  cbv;refine⟨_,hS.call cx,?_⟩;cbv;refine⟨_,hS.call cy,?_⟩;cbv;refine bF e1 ?_;refine nd (zf ..) ?_;rw[zp];refine⟨_,hS.call ca,?_⟩;cbv;refine nd (zf ..) ?_;rw[zp];refine⟨_,hS.call WQ,?_⟩;cbv;refine⟨_,hS.call cc,?_⟩;cbv;exact hF _ (ak.refl _)
theorem Tw {x:Rat} (h:x≠0):(x⁻¹).num=(if x.num<0 then -(x.den:Int) else x.den)/\((x⁻¹).den:Int)=if x.num<0 then -x.num else x.num:=by
 have hn:x.num≠0:=fun e=>h (Rat.num_eq_zero.1 e)
 have hd:=x.den_pos;rw[Rat.inv_def];have ln:=mc (n:=(x.den:Int)) (d:=x.num) hn;have ld:=me (n:=(x.den:Int)) (d:=x.num) hn;have hg:Int.gcd (x.den:Int) x.num=1:=by rw[Int.gcd_comm];exact PW x
 rw[hg]at ln ld;rw[<-ln,<-ld]
 by_cases h0:x.num<0
 ·rw[if_pos h0,if_pos h0,if_pos h0];simp
 ·rw[if_neg h0,if_neg h0,if_neg h0];simp
open Go Go.Abs Go.Abs.M Go.Proofs
theorem HW {x:Rat} {s t:Bool} {r q:Abs.Rows} (hx:xu x s r t q) (h1:Qs x 68719476736) :
  ∃u w,xu (-x) u w t q/\ah Tryz.prog 98 [.val (.agg (iT s r++iT t q))] ⟨[.val (.agg (iT u w++iT t q))],[none]⟩:=by
 obtain⟨u,w,h,c⟩:=A5 hx.n (by have:=h1.1;omega);refine⟨u,w,⟨h,hx.d⟩,?_⟩;refine ar aj mixed [.val] Tryz.func98 rfl rfl (by kernel_rfl) ?_;intros;rename_i A L F hS hF;cbv;refine⟨_,hS.call c,?_⟩;cbv;exact hF _ (ak.refl _)
theorem DA (n:Int) (h1:-9223372036854775808<=n) (h2:n<9223372036854775808):∃s r v p,xu (n:Rat) s r v p/\ah Tryz.prog 37 [.val (ti .i64 n)] ⟨[.val (.agg (iT s r++iT v p))],[none]⟩:=by
 obtain⟨s,r,h,c⟩:=fO n h1 h2;obtain⟨v,p,h3,c2⟩:=fO 1 (by omega) (by omega);refine⟨s,r,v,p,⟨by rw[Rat.num_intCast];exact h,by rw[Rat.den_intCast];exact h3⟩,?_⟩;refine ar aj mixed [.val] Tryz.func37 rfl rfl (by kernel_rfl) ?_;intros;rename_i A L F hS hF;cbv;refine⟨_,hS.call c,?_⟩;cbv;refine⟨_,hS.call c2,?_⟩;cbv;exact hF _ (ak.refl _)
theorem HX {x y:Rat} {s t s' t':Bool} {r q r' q':Abs.Rows} (c:Int) (hx:xu x s r t q) (hy:xu y s' r' t' q') (hc:c=jh x y) (h1:Qs x 68719476736) (h2:Qs y 68719476736) :
  ah Tryz.prog 99 [.val (.agg (iT s r++iT t q)),.val (.agg (iT s' r'++iT t' q'))] ⟨[.val (ti .i64 c)],[none,none]⟩:=by
 obtain⟨x1,x2⟩:=h1;obtain⟨y1,y2⟩:=h2;have n1:=vO x.num.natAbs y.den;have n2:=vO y.num.natAbs x.den;rw[xy]at hc;obtain⟨a,b,ha,ca⟩:=KJ hx.n hy.d (by omega) (by rw[Int.natAbs_natCast];omega);obtain⟨a',b',WO,WQ⟩:=KJ hy.n hx.d (by omega) (by rw[Int.natAbs_natCast];omega);have m1:nl (x.num*y.den).natAbs<=2199023255552:=by rw[Int.natAbs_mul,Int.natAbs_natCast];omega
 have m2:nl (y.num*x.den).natAbs<=2199023255552:=by rw[Int.natAbs_mul,Int.natAbs_natCast];omega
 have cc:=AZ c ha WO hc m1 m2;refine ar aj mixed [.val] Tryz.func99 rfl rfl (by kernel_rfl) ?_;intros;rename_i A L F hS hF;cbv;refine⟨_,hS.call ca,?_⟩;cbv;refine⟨_,hS.call WQ,?_⟩;cbv;refine⟨_,hS.call cc,?_⟩;cbv;exact hF _ (ak.refl _)
def mh (s t:Bool) (r q:Abs.Rows) (i:Int):St:=ae 38 [.af,.af,.c (.ptr 2 0 0),.c (.ptr 3 0 0),.af,vi .i64 i] [none,none,some (.var [.t (.v (.bool s)),.t (.aa false r)]),some (.var [.t (.v (.bool t)),.t (.aa false q)])]
theorem rT {x y:Int} {s t:Bool} {r q:Abs.Rows} (hx:eV x s r) (hy:eV y t q) (He:nl x.natAbs<=2199023255552):ah Tryz.prog 152 [.val (.agg (iT s r)),.val (.agg (iT t q))] ⟨[.val (tb (decide (x=y)))],[none,none]⟩:=by
 have hl:r.length=nl x.natAbs:=hx.m.len;have hm:q.length=nl y.natAbs:=hy.m.len;have cY:s≠t->x≠y:=fun h e=>h (by rw[hx.s,hy.s,e])
 have hle:nl x.natAbs≠nl y.natAbs->x≠y:=fun h e=>h (by rw[e])
 have hwe:∀i,(dg x.natAbs).getD i 0≠(dg y.natAbs).getD i 0->x≠y:=fun i h e=>h (by rw[e])
 have heq:s=t->nl x.natAbs=nl y.natAbs->(dg x.natAbs).take (nl x.natAbs)=(dg y.natAbs).take (nl x.natAbs)->x=y:=fun h1 h2 h3=>by
  have e1:(dg x.natAbs).take (nl x.natAbs)=dg x.natAbs:=List.take_of_length_le (Nat.le_refl _);have e2:(dg y.natAbs).take (nl x.natAbs)=dg y.natAbs:=List.take_of_length_le (by rw[h2];exact Nat.le_refl _);rw[e1,e2]at h3;have h4:=congrArg val h3;rw[jA,jA]at h4;have h5:=hx.s;rw[h1,hy.s]at h5;have h6:(y<0)↔(x<0):=by
   constructor
   ·intro h;rw[decide_eq_true h]at h5;exact of_decide_eq_true h5.symm
   ·intro h;rw[decide_eq_true h]at h5;exact of_decide_eq_true h5
  omega
 have gx:∀i:Nat,ZI.bV.dF r i=(dg x.natAbs).getD i 0:=fun i=>by rw[hx.m,mP]
 have gy:∀i:Nat,ZI.bV.dF q i=(dg y.natAbs).getD i 0:=fun i=>by rw[hy.m,mP]
 have ix:∀i:Nat,i<nl x.natAbs->ZI.bV.gE .u32 r i=true:=fun i h=>by rw[hx.m,kM];exact decide_eq_true h
 have iy:∀i:Nat,i<nl y.natAbs->ZI.bV.gE .u32 q i=true:=fun i h=>by rw[hy.m,kM];exact decide_eq_true h
 have Jh:∀i:Nat,i<nl x.natAbs->nl x.natAbs=nl y.natAbs->(dg x.natAbs).take i=(dg y.natAbs).take i->(dg x.natAbs).getD i 0=(dg y.natAbs).getD i 0->(dg x.natAbs).take (i+1)=(dg y.natAbs).take (i+1):=fun i h h' h2 h3=>by
  have a1:i<(dg x.natAbs).length:=h;have a2:i<(dg y.natAbs).length:=(show i<nl y.natAbs by omega);rw[List.take_succ_eq_append_getElem a1,List.take_succ_eq_append_getElem a2,h2];rw[List.getD_eq_getElem?_getD,List.getD_eq_getElem?_getD,List.getElem?_eq_getElem a1,List.getElem?_eq_getElem a2,Option.getD_some,Option.getD_some]at h3;rw[h3]
 refine ar aj mixed [.val] Tryz.func152 rfl rfl (by kernel_rfl) fun zD zE _ _ _ _ _ _ _ _ _ _ _ zU zV zX _ _ _ _ _ zu _ zz _ _ _ _ _ _ _ ab _ _ aL aw _ _ _ _ _ _ _ _ _ _ _ _ _ _ _ A L F hS hF=>?_
 have f0:x≠y->F ⟨[.val (.c (.v (.bool false)))],[none,none]⟩:=fun h=>bn hF (by rw[decide_eq_false h];rfl)
 have f1:x=y->F ⟨[.val (.c (.v (.bool true)))],[none,none]⟩:=fun h=>bn hF (by rw[decide_eq_true h];rfl)
 have e0:zU (zz (ab r)) (zz (ab q))=decide (nl x.natAbs≠nl y.natAbs):=by
  rw[hS.ne,hS.len,hS.len,hS.aB,hS.aB,hl,hm]
  by_cases h:nl x.natAbs=nl y.natAbs
  ·rw[decide_eq_false (show ¬nl x.natAbs≠nl y.natAbs by omega)];exact decide_eq_false (by omega)
  ·rw[decide_eq_true h];exact decide_eq_true (by omega)
 have LS:ab r=nl x.natAbs:=by rw[hS.len,hl]
 generalize hLx:nl x.natAbs=Lx at *;cbv;refine⟨fun h=>f0 ?_,fun h=>⟨fun h'=>f0 ?_,fun h'=>?_⟩⟩
 all_goals rw[hS.bne]at h
 ·exact cY (by intro e;subst e;simp at h)
 all_goals rw[e0]at h'
 ·exact hle (of_decide_eq_true h')
 ·have dN:s=t:=by cases s<;>cases t<;>first|rfl|(simp at h)
  have UZ:Lx=nl y.natAbs:=by have:=of_decide_eq_false h';omega
  refine fN aj mixed hS (fun(k:Nat) s'=>∃i:Nat,i+k=Lx/\(dg x.natAbs).take i=(dg y.natAbs).take i/\s'=mh s t r q (zz i)) (n:=Lx) (s0:=mh s t r q (zz 0)) (fi ?_ ?_) rfl (by show 2<=4;omega) ?_ ?_
  ·simp[dO,mh,ae,vi,hS.aB]
  ·simp[dP,mh,ae]
  ·exact⟨0,by omega,rfl,rfl⟩
  ·rintro k _ ⟨i,hi,he,rfl⟩
   obtain⟨i1,O5⟩:∃i1,i1=i+1:=⟨_,rfl⟩;have c1:zV (zz i) (zz (ab r))=decide (k≠0):=by
    rw[LS,hS.lt,hS.aB,hS.aB]
    by_cases h:k=0
    ·rw[decide_eq_false (show ¬k≠0 by omega)];exact decide_eq_false (by omega)
    ·rw[decide_eq_true h];exact decide_eq_true (by omega)
   have c2:zX 0 (zz i)=true:=by rw[hS.le,hS.aB];exact decide_eq_true (by omega)
   have c3:zu (zz i)=i:=by rw[hS.nat,hS.aB];omega
   have c4:i<Lx->aL .u32 r (zu (zz i))=true:=fun h=>by rw[c3,hS.gE];exact ix i h
   have c5:i<Lx->aL .u32 q (zu (zz i))=true:=fun h=>by rw[c3,hS.gE];exact iy i (by omega)
   have c6:zU (aw r (zu (zz i))) (aw q (zu (zz i)))=decide ((dg x.natAbs).getD i 0≠(dg y.natAbs).getD i 0):=by
    rw[c3,hS.ne,hS.dF,hS.dF,gx,gy]
   have c7:i<Lx->zD .i64 (zE (zz i) 1)=zz i1:=fun h=>by rw[hS.wrap,hS.add,hS.aB,hS.aB,wrap_i64 (by omega) (by omega),O5];omega
   have nx:i<Lx->(dg x.natAbs).getD i 0=(dg y.natAbs).getD i 0->(dg x.natAbs).take i1=(dg y.natAbs).take i1:=fun h h2=>by rw[O5];exact Jh i h UZ he h2
   have ki:k≠0->i<Lx:=by omega
   have k1:k≠0->i1+(k-1)=Lx/\k-1<k:=by omega
   have kz:k=0->x=y:=fun h=>heq dN UZ (by rw[show i=Lx by omega]at he;exact he)
   clear hi O5 Jh ix iy gx gy;cbv;refine⟨fun h=>?_,fun h=>f1 ?_⟩
   all_goals rw[c1]at h
   ·have hk:=of_decide_eq_true h
    refine nd c2 (nd (c4 (ki hk)) (nd c2 (nd (c5 (ki hk)) ⟨fun h2=>f0 ?_,fun h2=>?_⟩)))
    all_goals rw[c6]at h2
    ·exact hwe i (of_decide_eq_true h2)
    ·rw[c7 (ki hk)]
     exact again (s':=mh s t r q (zz i1)) (m:=k-1) (by simp[dO,mh,ae,vi]) (by simp[dP,mh,ae]) rfl (by show 2<=4;omega) (k1 hk).2 ⟨i1,(k1 hk).1,nx (ki hk) (Decidable.not_not.mp (of_decide_eq_false h2)),rfl⟩
   ·exact kz (Decidable.not_not.mp (of_decide_eq_false h))
theorem FX {x y:Rat} {s t s' t':Bool} {r q r' q':Abs.Rows} (b:Bool) (hx:xu x s r t q) (hy:xu y s' r' t' q') (hb:b=true↔x=y) (h1:Qs x 68719476736) :
  ah Tryz.prog 127 [.val (.agg (iT s r++iT t q)),.val (.agg (iT s' r'++iT t' q'))] ⟨[.val (tb b)],[none,none]⟩:=by
 have c1:=rT hx.n hy.n (by have:=h1.1;omega);have c2:=rT hx.d hy.d (by rw[Int.natAbs_natCast];have:=h1.2;omega);have cY:x.num≠y.num->false=b:=fun h=>by
  cases b with
  | false=>rfl
  | true=>exact absurd (by rw[hb.1 rfl]) h
 have hde:x.num=y.num->decide ((x.den:Int)=y.den)=b:=fun h=>by
  cases b with
  | false=>exact decide_eq_false fun h2=>absurd (hb.2 (Rat.ext h (by omega))) (by simp)
  | true=>exact decide_eq_true (by rw[hb.1 rfl])
 by_cases h:x.num=y.num
 ·rw[decide_eq_true h]at c1
  rw[hde h]at c2;refine ar aj mixed [.val] Tryz.func127 rfl rfl (by kernel_rfl) ?_;intros;rename_i A L F hS hF;cbv;refine⟨_,hS.call c1,?_⟩;cbv;refine bT ((rfl:true=true)) ?_;refine⟨_,hS.call c2,?_⟩;cbv;exact hF _ (ak.refl _)
 ·rw[decide_eq_false h]at c1
  have hf:=cY h;subst hf;refine ar aj mixed [.val] Tryz.func127 rfl rfl (by kernel_rfl) ?_;intros;rename_i A L F hS hF;cbv;refine⟨_,hS.call c1,?_⟩;cbv;refine bF ((rfl:false=false)) ?_;exact hF _ (ak.refl _)
open Go Go.Abs Go.Abs.M Go.Proofs
open Go Go.Abs Go.Abs.M Go.Proofs
open Go Go.Abs Go.Abs.M Go.Proofs
def mi (P:List Rat) (c:Rat) (B:List Rat) (k:Nat):List Rat:=Dy (P++List.replicate (max P.length (B.length+k)-P.length) 0) c B k
open Go Go.Abs Go.Abs.M Go.Proofs
theorem HY (P:List Rat) (c:Rat) (B:List Rat) (k:Nat):(mi P c B k).length=max P.length (B.length+k):=by
 unfold mi Dy;rw[nK,List.length_append,List.length_replicate];omega
theorem HZ (P:List Rat) (c:Rat) (B:List Rat) (k j:Nat):(mi P c B k).getD j 0=P.getD j 0+if k<=j then c*B.getD (j-k) 0 else 0:=by
 have hp:∀m,(P++List.replicate m (0:Rat)).getD j 0=P.getD j 0:=fun m=>by
  rw[List.getD_eq_getElem?_getD,List.getD_eq_getElem?_getD,List.getElem?_append];split
  ·rfl
  ·rename_i h
   rw[List.getElem?_eq_none (by omega:P.length<=j),List.getElem?_replicate];split<;>rfl
 unfold mi Dy;rw[xw _ _ (by rw[List.length_append,List.length_replicate];omega),hp]
 by_cases h:k<=j
 ·rw[if_pos h]
  by_cases h2:j<k+B.length
  ·rw[if_pos ⟨h,h2⟩]
  ·rw[if_neg (by omega),List.getD_eq_getElem?_getD,List.getD_eq_getElem?_getD (l:=B),List.getElem?_eq_none (by omega:B.length<=j-k)]
   rw[Option.getD_none,Rat.mul_zero,Rat.add_zero]
 ·rw[if_neg (by omega),if_neg h,Rat.add_zero]
theorem Qs.whole {n:Int} {k:Nat} (h:n.natAbs<4294967296) (hk:1<=k):Qs ((n:Int):Rat) k:=
 ⟨Nat.le_trans (tL (k:=1) (by simp only[Rat.num_intCast];omega)) hk,Nat.le_trans (tL (k:=1) (by simp only[Rat.den_intCast];omega)) hk⟩
open Go Go.Abs Go.Abs.M Go.Proofs
open Go Go.Abs Go.Abs.M Go.Proofs
def pC (P B R:List Rat):Nat->List Rat
 | 0=>R
 | i+1=>Dy (pC P B R i) (P.getD i 0) B i
def xz (P B:List Rat):List Rat:=pC P B (List.replicate (P.length+B.length-1) 0) P.length
theorem oF (P B R:List Rat):∀i,(pC P B R i).length=R.length
 | 0=>rfl
 | i+1=>by unfold pC Dy;rw[nK,oF P B R i]
open Go Go.Abs Go.Abs.M Go.Proofs
def FY (P B:List Rat) (j:Nat):Nat->Rat
 | 0=>0
 | i+1=>FY P B j i+if i<=j then P.getD i 0*B.getD (j-i) 0 else 0
theorem Nr (R B:List Rat) (c:Rat) (k j:Nat) (h:B.length+k<=R.length):(Dy R c B k).getD j 0=R.getD j 0+if k<=j then c*B.getD (j-k) 0 else 0:=by
 unfold Dy;rw[xw _ _ (by omega)]
 by_cases h1:k<=j
 ·rw[if_pos h1]
  by_cases h2:j<k+B.length
  ·rw[if_pos ⟨h1,h2⟩]
  ·rw[if_neg (by omega),List.getD_eq_getElem?_getD (l:=B),List.getElem?_eq_none (by omega:B.length<=j-k)]
   rw[Option.getD_none,Rat.mul_zero,Rat.add_zero]
 ·rw[if_neg (by omega),if_neg h1,Rat.add_zero]
theorem Bd {P B R:List Rat} (hl:P.length+B.length<=R.length+1) (j:Nat):∀i,i<=P.length->(pC P B R i).getD j 0=R.getD j 0+FY P B j i
 | 0,_=>by unfold pC FY;rw[Rat.add_zero]
 | i+1,hi=>by
  unfold pC FY;rw[Nr _ _ _ _ _ (by rw[oF];omega),Bd hl j i (by omega),Rat.add_assoc]
open Go Go.Abs Go.Abs.M Go.Proofs
end Go.Proofs.YtekefilngojelaaGreat
end
section
namespace Go.Abs
theorem nN (P:List Rat):∀k,P.length<=k->gO P k=gO P P.length
 | 0,h=>by rw[show P.length=0 by omega]
 | k+1,h=>by
  by_cases hk:P.length=k+1
  ·rw[hk]
  ·unfold gO
   rw[if_pos (by rw[List.getD_eq_getElem?_getD,List.getElem?_eq_none (by omega)];rfl),nN P k (by omega)];cases hP:P.length<;>rfl
theorem xA {P Q:List Rat} (h:∀j,P.getD j 0=Q.getD j 0):∀k,gO P k=gO Q k
 | 0=>rfl
 | k+1=>by unfold gO;rw[h k,xA h k]
theorem tU {P Q:List Rat} (h:∀j,P.getD j 0=Q.getD j 0):bP P=bP Q:=by
 have e:gO P P.length=gO Q Q.length:=by
  rw[<-nN P (max P.length Q.length) (by omega),<-nN Q (max P.length Q.length) (by omega)];exact xA h _
 have h1:=rO P P.length;have h2:=rO Q Q.length;unfold bP;refine List.ext_getElem? fun i=>?_
 rw[e,List.getElem?_take,List.getElem?_take]
 by_cases hi:i<gO Q Q.length
 ·rw[if_pos hi,if_pos hi]
  have hj:=h i;rw[List.getD_eq_getElem?_getD,List.getD_eq_getElem?_getD,List.getElem?_eq_getElem (by omega:i<P.length),List.getElem?_eq_getElem (by omega:i<Q.length)]at hj;rw[List.getElem?_eq_getElem (by omega:i<P.length),List.getElem?_eq_getElem (by omega:i<Q.length)];exact congrArg some hj
 ·rw[if_neg hi,if_neg hi]
theorem Be (P:List Rat):∀k j,gO P k<=j->j<k->P.getD j 0=0
 | 0,j,_,h=>by omega
 | k+1,j,h,h2=>by
  unfold gO at h
  by_cases h0:P.getD k 0=0
  ·rw[if_pos h0]at h
   by_cases hj:j=k
   ·rw[hj];exact h0
   ·exact Be P k j h (by omega)
  ·rw[if_neg h0]at h;omega
theorem Bf (P:List Rat) (j:Nat):(bP P).getD j 0=P.getD j 0:=by
 unfold bP;rw[List.getD_eq_getElem?_getD,List.getElem?_take]
 by_cases h:j<gO P P.length
 ·rw[if_pos h,List.getD_eq_getElem?_getD]
 ·rw[if_neg h,Option.getD_none]
  by_cases h2:j<P.length
  ·exact(Be P _ j (by omega) h2).symm
  ·rw[List.getD_eq_getElem?_getD,List.getElem?_eq_none (by omega)];rfl
theorem mj (P:List Rat):bP (bP P)=bP P:=tU (Bf P)
theorem Bg (P:List Rat):(bP P).length<=P.length:=by
 unfold bP;rw[List.length_take];omega
theorem KW {P:List Rat} {q:Rat} (h:q∈bP P):q∈P:=List.mem_of_mem_take h
end Go.Abs
end
section
namespace Go.Proofs.YtekefilngojelaaGreat
open Go Go.Abs Go.Abs.M Go.Proofs
end Go.Proofs.YtekefilngojelaaGreat
end
section
namespace Go.Abs
def ev:List Rat->Rat->Rat
 | [],_=>0
 | c::P,x=>c+x*ev P x
theorem Ns (P Q:List Rat) (x:Rat):ev (P++Q) x=ev P x+x^P.length*ev Q x:=by
 induction P with
 | nil=>simp[ev,Rat.zero_add,Rat.one_mul]
 | cons c P ih=>
  simp only[List.cons_append,ev,List.length_cons,Rat.pow_succ];rw[ih];grind
theorem FZ (n:Nat) (x:Rat):ev (List.replicate n 0) x=0:=by
 induction n with
 | zero=>rfl
 | succ n ih=>simp only[List.replicate_succ,ev];rw[ih];grind
theorem Tx (l:List Rat) (j:Nat) (d x:Rat) (h:j<l.length):ev (l.set j d) x=ev l x+(d-l.getD j 0)*x^j:=by
 induction l generalizing j with
 | nil=>simp at h
 | cons c l ih=>
  cases j with
  | zero=>simp only[List.set_cons_zero,ev,List.getD_cons_zero,Rat.pow_zero];grind
  | succ j=>
   simp only[List.set_cons_succ,ev,List.getD_cons_succ,Rat.pow_succ];rw[ih j (by simpa using h)];grind
theorem Ty {P Q:List Rat} (h:∀j,P.getD j 0=Q.getD j 0) (x:Rat):ev P x=ev Q x:=by
 induction P generalizing Q with
 | nil=>
  induction Q with
  | nil=>rfl
  | cons d Q ih=>
   have h0:=h 0;simp at h0;have:=ih fun j=>by have:=h (j+1);simpa using this
   simp only[ev]at this ⊢;rw[<-this,<-h0];grind
 | cons c P ih=>
  cases Q with
  | nil=>
   have h0:=h 0;simp at h0;have:=ih (Q:=[]) fun j=>by have:=h (j+1);simpa using this
   simp only[ev]at this ⊢;rw[this,h0];grind
  | cons d Q=>
   have h0:=h 0;simp at h0;have:=ih (Q:=Q) fun j=>by have:=h (j+1);simpa using this
   simp only[ev];rw[this,h0]
theorem oG (P:List Rat) (x:Rat):ev (bP P) x=ev P x:=Ty (Bf P) x
theorem rU (B:List Rat) (i:Nat) (x:Rat) (h:i<B.length):ev (B.take (i+1)) x=ev (B.take i) x+B.getD i 0*x^i:=by
 rw[List.take_add_one,Ns,List.length_take,Nat.min_eq_left (by omega),List.getD_eq_getElem?_getD,List.getElem?_eq_getElem h];simp only[Option.toList_some,ev,Option.getD_some];grind
theorem F5 (x:Rat) (m:Nat):∀n,x^(m+n)=x^m*x^n
 | 0=>by simp[Rat.mul_one]
 | n+1=>by rw[<-Nat.add_assoc,Rat.pow_succ,Rat.pow_succ,F5 x m n,Rat.mul_assoc]
theorem Jv (R:List Rat) (c:Rat) (B:List Rat) (k:Nat) (x:Rat) (h:B.length+k<=R.length):∀i,i<=B.length->ev (yW R c B k i) x=ev R x+c*x^k*ev (B.take i) x
 | 0,_=>by simp[yW,ev,Rat.mul_zero,Rat.add_zero]
 | i+1,hi=>by
  unfold yW;rw[Tx _ _ _ _ (by rw[nK];omega),Jv R c B k x h i (by omega),rU B i x (by omega),show i+k=k+i by omega,F5];grind
theorem Jw (R:List Rat) (c:Rat) (B:List Rat) (k:Nat) (x:Rat) (h:B.length+k<=R.length):ev (Dy R c B k) x=ev R x+c*x^k*ev B x:=by
 unfold Dy;rw[Jv R c B k x h _ (Nat.le_refl _),List.take_length]
def KX:List Rat->Rat->List Rat
 | [],_=>[]
 | [_],_=>[]
 | _::d::P,r=>ev (d::P) r::KX (d::P) r
theorem Jx:∀(P:List Rat) (r:Rat),(KX P r).length=P.length-1
 | [],_=>rfl
 | [_],_=>rfl
 | c::d::P,r=>by simp only[KX,List.length_cons];rw[Jx (d::P) r];simp
theorem Nt:∀(P:List Rat) (r x:Rat),ev P x=ev P r+(x-r)*ev (KX P r) x
 | [],_,_=>by simp[ev,KX];grind
 | [_],_,_=>by simp[ev,KX];grind
 | c::d::P,r,x=>by
  have ih:=Nt (d::P) r x;have e1:ev (c::d::P) x=c+x*ev (d::P) x:=rfl;have e2:ev (c::d::P) r=c+r*ev (d::P) r:=rfl;have e3:ev (KX (c::d::P) r) x=ev (d::P) r+x*ev (KX (d::P) r) x:=rfl;rw[e1,e2,e3,ih];grind
theorem F6:∀(P:List Rat) (r:Rat),ev P r=0->(∀j,(KX P r).getD j 0=0)->∀j,P.getD j 0=0
 | [],_,_,_,_=>by simp
 | [c],r,h,_,j=>by
  simp[ev]at h;cases j with
  | zero=>simpa[Rat.mul_zero,Rat.add_zero]using h
  | succ j=>simp
 | c::d::P,r,h,hs,j=>by
  have h1:ev (d::P) r=0:=by have:=hs 0;simpa[KX]using this
  have ih:=F6 (d::P) r h1 fun j=>by have:=hs (j+1);simpa[KX]using this
  have h2:ev (c::d::P) r=c+r*ev (d::P) r:=rfl;cases j with
  | zero=>simp;grind
  | succ j=>simpa using ih j
theorem uQ:∀(n:Nat) (P:List Rat) (s:Rat),P.length<=n->(∀x,s<=x->ev P x=0)->∀j,P.getD j 0=0
 | 0,P,s,hl,_,j=>by rw[List.length_eq_zero_iff.1 (by omega:P.length=0)];rfl
 | n+1,P,s,hl,h,j=>by
  have hs:=h s Rat.le_refl;refine F6 P s hs (uQ n (KX P s) (s+1) (by rw[Jx];omega) fun x hx=>?_) j;have h1:=h x (by grind);have h2:=Nt P s x;rw[h1,hs]at h2;have h3:x-s≠0:=by grind
  have h4:(x-s)*ev (KX P s) x=0:=by grind
  rcases Rat.mul_eq_zero.1 h4 with h5|h5
  ·exact absurd h5 h3
  ·exact h5
theorem PX {P:List Rat} (h:∀x,ev P x=0) (j:Nat):P.getD j 0=0:=uQ P.length P 0 (Nat.le_refl _) (fun x _=>h x) j
end Go.Abs
end
section
namespace Go.Proofs.YtekefilngojelaaGreat
open Go Go.Abs Go.Abs.M Go.Proofs
structure PL (f:Rat->Rat) (n k:Nat) (P:List Rat):Prop where
 tr:bP P=P
 ev:∀x,ev P x=f x
 len:P.length<=n
 sz:∀q∈P,Qs q k
theorem F7 (P:List Rat) (c:Rat) (B:List Rat) (k:Nat) (x:Rat):Abs.ev (mi P c B k) x=Abs.ev P x+c*x^k*Abs.ev B x:=by
 unfold mi;rw[Jw _ _ _ _ _ (by simp;omega),Ns,FZ];grind
theorem F8 (P B R:List Rat) (x:Rat) (h:P.length+B.length<=R.length+1):∀i,i<=P.length->Abs.ev (pC P B R i) x=Abs.ev R x+Abs.ev (P.take i) x*Abs.ev B x
 | 0,_=>by simp[pC,Abs.ev,Rat.zero_mul,Rat.add_zero]
 | i+1,hi=>by
  unfold pC;rw[Jw _ _ _ _ _ (by rw[oF];omega),F8 P B R x h i (by omega),rU P i x (by omega)];grind
theorem PY (P B:List Rat) (x:Rat):Abs.ev (xz P B) x=Abs.ev P x*Abs.ev B x:=by
 unfold xz;rw[F8 P B _ x (by simp;omega) _ (Nat.le_refl _),FZ,List.take_length,Rat.zero_add]
theorem Nu {P Q:List Rat} (h:∀x,Abs.ev P x=Abs.ev Q x) (j:Nat):P.getD j 0=Q.getD j 0:=by
 have h0:=PX (P:=mi P (-1) Q 0) (fun x=>by rw[F7,h x];grind) j;rw[HZ,if_pos (Nat.zero_le _),Nat.sub_zero]at h0;grind
theorem PL.inj {f g:Rat->Rat} {n k m l:Nat} {P Q:List Rat} (h1:PL f n k P) (h2:PL g m l Q) (h:∀x,f x=g x):P=Q:=by
 rw[<-h1.tr,<-h2.tr];exact tU (Nu fun x=>by rw[h1.ev,h2.ev,h])
theorem PL.mono {f:Rat->Rat} {n k m l:Nat} {P:List Rat} (h:PL f n k P) (h1:n<=m) (h2:k<=l):PL f m l P:=
 ⟨h.tr,h.ev,Nat.le_trans h.len h1,fun q hq=>(h.sz q hq).mono h2⟩
theorem PL.congr {f g:Rat->Rat} {n k:Nat} {P:List Rat} (h:PL f n k P) (e:∀x,f x=g x):PL g n k P:=
 ⟨h.tr,fun x=>by rw[h.ev,e],h.len,h.sz⟩
theorem PL.nil:PL (fun _=>0) 0 0 []:=⟨rfl,fun _=>rfl,Nat.le_refl _,fun q hq=>by cases hq⟩
theorem Qs.zero {k:Nat}:1<=k->Qs 0 k:=fun h=>Qs.whole (n:=0) (by decide) h
theorem PL.cells {f:Rat->Rat} {n a:Nat} {P:List Rat} (hP:PL f n a P) (h:a<=68719476736):∀c∈P.map qc,c.ok 68719476736:=fun c hc=>by
 obtain⟨q,hq,rfl⟩:=List.mem_map.1 hc;have:=hP.sz q hq;exact⟨jo _,jo _,by show nl q.num.natAbs<=68719476736;have:=this.1;omega,by show nl (q.den:Int).natAbs<=68719476736;rw[Int.natAbs_natCast];have:=this.2;omega⟩
theorem Nv {P B:List Rat} (j:Nat):∀i,i<=j+1->j<i-1+B.length->(∀k,k+1<i->B.getD (j-k) 0=0)->FY P B j i=if i=0 then 0 else P.getD (i-1) 0*B.getD (j-(i-1)) 0
 | 0,_,_,_=>rfl
 | i+1,h1,h2,h3=>by
  unfold FY;rw[if_pos (by omega),if_neg (by omega),show i+1-1=i by omega];have hz:∀k,k<=i->FY P B j k=0:=fun k hk=>by
   induction k with
   | zero=>rfl
   | succ k ih=>
    unfold FY;rw[ih (by omega),if_pos (by omega),h3 k (by omega)];grind
  rw[hz i (Nat.le_refl _),Rat.zero_add]
theorem PL.last {f:Rat->Rat} {n a:Nat} {P:List Rat} (hP:PL f n a P) (h:P≠[]):P.getD (P.length-1) 0≠0:=by
 have h1:gO P P.length=P.length:=by
  have:=congrArg List.length hP.tr;unfold bP at this;rw[List.length_take]at this;have:=rO P P.length;omega
 have h2:P.length≠0:=fun h0=>h (List.length_eq_zero_iff.1 h0)
 have:=tS P P.length (by omega);rwa[h1]at this
theorem Nw {P:List Rat} (h:P≠[]) (h0:P.getD (P.length-1) 0≠0):bP P=P:=by
 unfold bP;obtain⟨n,hn⟩:∃n,P.length=n+1:=⟨P.length-1,by have:P.length≠0:=fun h1=>h (List.length_eq_zero_iff.1 h1);omega⟩;rw[hn]at h0 ⊢;unfold gO;rw[if_neg (by simpa using h0),<-hn,List.take_length]
theorem PL.PZ {f g e:Rat->Rat} {n m l a b c:Nat} {P B R:List Rat} (hP:PL f n a P) (hB:PL g m b B) (hR:PL e l c R) (he:∀x,e x=f x*g x) (h1:P≠[]) (h2:B≠[]):R.length=P.length+B.length-1:=by
 have l1:P.length≠0:=fun h=>h1 (List.length_eq_zero_iff.1 h)
 have l2:B.length≠0:=fun h=>h2 (List.length_eq_zero_iff.1 h)
 have hl:(xz P B).length=P.length+B.length-1:=by unfold xz;rw[oF,List.length_replicate]
 have cY:xz P B≠[]:=fun h=>by rw[h]at hl;simp at hl;omega
 have ky:(xz P B).getD ((xz P B).length-1) 0=P.getD (P.length-1) 0*B.getD (B.length-1) 0:=by
  rw[hl];unfold xz;rw[Bd (by simp;omega) _ _ (Nat.le_refl _),Nv _ _ (by omega) (by omega) (fun k hk=>by rw[List.getD_eq_getElem?_getD,List.getElem?_eq_none (by omega)];rfl),if_neg l1,show P.length+B.length-1-1-(P.length-1)=B.length-1 by omega];rw[List.getD_eq_getElem?_getD,List.getElem?_replicate];split<;>simp[Rat.zero_add]
 have YS:(xz P B).getD ((xz P B).length-1) 0≠0:=by
  rw[ky];intro h;rcases Rat.mul_eq_zero.1 h with h|h
  ·exact hP.last h1 h
  ·exact hB.last h2 h
 have:R=xz P B:=by
  rw[<-hR.tr,<-Nw cY YS];exact tU (Nu fun x=>by rw[hR.ev,he,PY,hP.ev,hB.ev])
 rw[this,hl]
open Go Go.Abs Go.Abs.M Go.Proofs
theorem bD (x:Rat):∃(s t:Bool) (r p:Abs.Rows),(qc x).row=[.v (.bool s),.aa false r,.v (.bool t),.aa false p]/\xu x s r t p:=⟨_,_,_,_,rfl,fJ x⟩
theorem Bh {x:Rat} {a:Nat} (h0:x≠0) (h:Qs x a):Qs x⁻¹ a:=by
 obtain⟨i1,i2⟩:=Tw h0;obtain⟨h1,h2⟩:=h;refine⟨?_,?_⟩
 ·rw[i1];split<;>simpa using h2
 ·have:(x⁻¹).den=x.num.natAbs:=by split at i2<;>omega
  rw[this];exact h1
theorem P3 (n:Int) (h1:-9223372036854775808<=n) (h2:n<9223372036854775808) :
  ah Tryz.prog 37 [.val (ti .i64 n)] ⟨[.val (.agg (qc (n:Rat)).row)],[none]⟩:=by
 obtain⟨s,r,v,p,hr,c⟩:=DA n h1 h2;rw[tQ hr]at c;exact c
theorem KY {x y:Rat} {a b:Nat} (h1:Qs x a) (h2:Qs y b) (h:a+b<=68719476736) :
  Qs (x*y) (a+b)/\ah Tryz.prog 111 [.val (.agg (qc x).row),.val (.agg (qc y).row)] ⟨[.val (.agg (qc (x*y)).row)],[none,none]⟩:=by
 refine⟨Bc h1 h2,?_⟩;obtain⟨u,w,v,p,hr,c⟩:=KN (fJ x) (fJ y) (h1.mono (by omega)) (h2.mono (by omega));rw[tQ hr]at c;exact c
theorem tV {x y:Rat} {a b:Nat} (h1:Qs x a) (h2:Qs y b) (h:a+b<=68719476736) :
  Qs (x+y) (a+b+1)/\ah Tryz.prog 61 [.val (.agg (qc x).row),.val (.agg (qc y).row)] ⟨[.val (.agg (qc (x+y)).row)],[none,none]⟩:=by
 refine⟨KT h1 h2,?_⟩;obtain⟨u,w,v,p,hr,c⟩:=KO (fJ x) (fJ y) (h1.mono (by omega)) (h2.mono (by omega));rw[tQ hr]at c;exact c
open Go Go.Abs Go.Abs.M Go.Proofs
theorem H0 {x y:Int} {s t:Bool} {r q:Abs.Rows} (hx:eV x s r) (hy:eV y t q) (qo:y≠0) (h1:nl x.natAbs<=274877906944) (h2:nl y.natAbs<=274877906944) :
  ∃u w v p,xu (Rat.divInt x y) u w v p/\ah Tryz.prog 97 [.val (.agg (iT s r)),.val (.agg (iT t q))] ⟨[.val (.agg (iT u w++iT v p)),.val (ti .i64 0)],[none,none]⟩:=by
 obtain⟨u,w,v,p,hr,c⟩:=UX hx hy qo h1 h2;have cs:=lW (bC y 0) hy rfl;refine⟨u,w,v,p,hr,?_⟩;have e0:bC y 0≠0:=fun h=>qo ((Nq _).1 h)
 generalize bC y 0=sg at *;refine ar aj mixed [.val,.val] Tryz.func97 rfl rfl (by kernel_rfl) ?_;intros;rename_i zT _ _ _ _ _ _ _ _ _ _ _ _ _ _ _ _ _ _ _ _ _ _ _ _ _ _ _ _ _ _ _ _ _ _ _ _ _ _ A L F hS hF;have z1:zT sg 0=false:=by rw[hS.eq];exact decide_eq_false e0
 cbv;refine⟨_,hS.call cs,?_⟩;cbv;refine bF z1 ?_;refine⟨_,hS.call c,?_⟩;cbv;exact hF _ (ak.refl _)
open Go Go.Abs Go.Abs.M Go.Proofs
structure T2 where
 c:Rat
 a:Int
 b:Int
def T2.row (t:T2):List Tree:=(qc t.c).row++m2 t.a t.b
structure T2.ok (t:T2) (n:Nat) (B:Int):Prop where
 c:Qs t.c n
 a:0<=t.a/\t.a<=B
 b:0<=t.b/\t.b<=B
theorem T2.ok.mono {t:T2} {n m:Nat} {B C:Int} (h:t.ok n B) (hm:n<=m) (hB:B<=C):t.ok m C:=⟨h.c.mono hm,⟨h.a.1,by have:=h.a.2;omega⟩,⟨h.b.1,by have:=h.b.2;omega⟩⟩
def aV (l:List T2):Abs.Rows:=l.map T2.row
theorem qE (l:List T2):(aV l).length=l.length:=by simp[aV]
theorem tW (l:List T2) (t:T2):aV (l ++ [t])=aV l ++ [t.row]:=by simp[aV]
def nO (s:Bool) (r:Abs.Rows) (v:Bool) (p:Abs.Rows) (a b:Int):List Tree:=[.v (.bool s),.aa false r,.v (.bool v),.aa false p,.v (.int .i64 a),.v (.int .i64 b),.v (.int .i64 0),.v (.int .i64 0),.v (.int .i64 0),.v (.int .i64 0),.v (.int .i64 0),.v (.int .i64 0)]
theorem xB (t:T2):∃(s v:Bool) (r p:Abs.Rows),(qc t.c).row=[.v (.bool s),.aa false r,.v (.bool v),.aa false p]/\t.row=nO s r v p t.a t.b:=by
 obtain⟨s,v,r,p,e,_⟩:=bD t.c;exact⟨s,v,r,p,e,by unfold T2.row m2;rw[e];rfl⟩
theorem iN {l:List T2} {i:Nat} (hi:i<l.length):∃(t:T2) (s v:Bool) (r p:Abs.Rows),t∈l/\l[i]?=some t/\(qc t.c).row=[.v (.bool s),.aa false r,.v (.bool v),.aa false p]/\(aV l)[i]?=some (nO s r v p t.a t.b)/\t.row=nO s r v p t.a t.b/\l.take (i+1)=l.take i ++ [t]/\l.drop i=t::l.drop (i+1):=by
 obtain⟨s,v,r,p,e,e2⟩:=xB l[i];exact⟨l[i],s,v,r,p,List.getElem_mem hi,List.getElem?_eq_getElem hi,e,by rw[<-e2];simp[aV,hi],e2,by rw[List.take_add_one,List.getElem?_eq_getElem hi];rfl,List.drop_eq_getElem_cons hi⟩
def ji (l:List T2):Int:=l.foldl (fun d t=>if t.a+t.b>d then t.a+t.b else d) (-1)
def Bi (X:Abs.Rows) (d I:Int):St:=ae 20 [.c (.t (.aa false X)),.af,vi .i64 0,vi .i64 d,vi .i64 I] [none]
theorem qF (l:List T2) (hl:∀t∈l,t.ok 1000 30000) (hn:l.length<=1000):ah Tryz.prog 59 [.val (tl (aV l))] ⟨[.val (ti .i64 (ji l))],[none]⟩:=by
 obtain⟨X,hX⟩:∃X,X=aV l:=⟨_,rfl⟩;obtain⟨n,fD⟩:∃n,n=l.length:=⟨_,rfl⟩;have lX:X.length=n:=by rw[hX,qE,fD]
 rw[<-hX];refine ar aj mixed [.val] Tryz.func59 rfl rfl (by kernel_rfl) ?_;intros;rename_i zh _ _ _ _ _ _ _ _ _ _ _ _ aD _ _ _ _ _ _ _ _ _ _ _ _ _ _ _ _ _ _ A L F hS hF;have lE:=hS.eU lX;cbv;refine nA aj mixed hS (n:=n) (fun i (d:Int)=>Bi X d (Int.ofNat i)) (fun i d=>d=ji (l.take i)) (a0:=-1) (fi ?_ ?_) rfl (Nat.le_refl 1) rfl ?_ ?_
 ·simp[dO,Bi,ae,vi,vb]
 ·simp[dP,Bi,ae]
 ·intro i d hi hd
  obtain⟨l1,i1,j1,n0⟩:=hS.gC lX hi (by omega);obtain⟨t,s,v,r,p,ht,_,_,hr,_,eC,_⟩:=iN (l:=l) (i:=i) (by omega);have j2:aD X i=some (nO s r v p t.a t.b):=by rw[hS.nth,hX];exact hr
  have cd:=KD t.a t.b (by have:=(hl t ht).a;omega) (by have:=(hl t ht).b;omega);have Rw:zh d (t.a+t.b)=ji (l.take (i+1)):=by rw[hS.max,hd,eC];unfold ji;rw[List.foldl_append];rfl
  obtain⟨u,hu⟩:∃u,u=t.a+t.b:=⟨_,rfl⟩;obtain⟨d2,WV⟩:∃u,u=ji (l.take (i+1)):=⟨_,rfl⟩;rw[<-hu]at cd Rw;rw[<-WV]at Rw;unfold m2 at cd;cbv;refine bT l1 ?_;rw[j1,j2];cbv;refine nd n0 ?_;refine⟨_,hS.call cd,?_⟩;cbv;refine aQ [] d2 ?_ ?_ ?_ ?_ rfl (Nat.le_refl 1) WV
  ·simp[aZ,Bi,ae,vi,AV.ay,AV.aI,Cell.ay,i1,Rw]
  ·simp[a8,Bi,ae]
  ·simp[aF,Bi,ae]
  ·simp
 ·intro d hd
  cbv;refine bF lE ?_;refine bn hF (kl ?_);rw[hd,fD,List.take_length]
def vh (l:List T2):Int:=l.foldl (fun d t=>IntKind.wrap .u8 ((BitVec.ofInt 8 d ||| BitVec.ofInt 8 (vc t.a t.b)).toNat)) 0
open Go Go.Abs Go.Abs.M Go.Proofs
theorem KZ {x y:Rat} (h1:x<y) (h2:y<x):False:=by grind
theorem K0 (x y:Rat):(jh x y<0↔x<y)/\(0<jh x y↔y<x):=by
 unfold jh
 by_cases h1:x<y
 ·rw[if_pos h1]
  have:¬y<x:=fun h2=>KZ h1 h2
  simp[h1,this]
 ·rw[if_neg h1]
  by_cases h2:y<x
  ·rw[if_pos h2];simp[h1,h2]
  ·rw[if_neg h2];simp[h1,h2]
end Go.Proofs.YtekefilngojelaaGreat
end
