/-
  A part of the proof: IntG3t, IntH3t, IntI3t, IntJ3t, IntK3t, CanU, ValI3t, RefM3t, ValQ3t, UniU, QraA3t, RefQ3t, QsM3t, UniV3t, UniW3t, UniX3t, UniA3t, QraB3t, QrbA3t, UnpA3t, UnpB3t, UnpC3t, UnpD3t, UnpE3t, UnpF3t, UnpG3t, UnpH3t, UniR, RusA3t, EvU, UplA3t, EvlA3t, QrbC3t, TcB3t, IvlB3t.
-/
import Derived.Test.YtekefilngojelaaGreatM9
import Derived.Test.YtekefilngojelaaGreatM10
set_option maxHeartbeats 0
set_option maxRecDepth 100000
set_option linter.unusedVariables false
set_option linter.unusedSimpArgs false
set_option linter.unusedSectionVars false
section
namespace Go.Proofs.YtekefilngojelaaGreat
open Go Go.Abs Go.Abs.M Go.Proofs
open Go Go.Abs Go.Abs.M Go.Proofs
open Go Go.Abs Go.Abs.M Go.Proofs
open Go Go.Abs Go.Abs.M Go.Proofs
def Rw (x:Int) (s:Bool) (r:Abs.Rows):Prop:=lU x.natAbs r/\((s=true->x<=0)/\(s=false->0<=x))
theorem Rw.of {x:Int} {s:Bool} {r:Abs.Rows} (h:eG x s r):Rw x s r:=by
 refine⟨h.m,fun hs=>?_,fun hs=>?_⟩
 ·rw[h.s]at hs;have:=of_decide_eq_true hs;omega
 ·rw[h.s]at hs;have:=of_decide_eq_false hs;omega
theorem Rw.neg {x:Int} {s:Bool} {r:Abs.Rows} (h:Rw x s r):Rw (-x) (!s) r:=by
 obtain⟨h1,h2,h3⟩:=h;refine⟨by rw[Int.natAbs_neg];exact h1,fun hs=>?_,fun hs=>?_⟩
 ·have:=h3 (by simpa using hs);omega
 ·have:=h2 (by simpa using hs);omega
theorem DC {x:Int} {r:Abs.Rows} (s:Bool) (hx:Rw x s r) (hl:nl x.natAbs<=2199023255552):∃u,eG x u r/\aA Tryz.prog 176 [.val (tb s),.val (tl r)] ⟨[.val (.agg (iT u r))],[none,none]⟩:=by
 obtain⟨h1,h2,h3⟩:=hx;refine⟨decide (x<0),⟨rfl,h1⟩,KB s _ h1 hl ?_⟩;cases s with
 | true=>have:=h2 rfl;rw[Bool.true_and,Bool.eq_iff_iff];simp;omega
 | false=>have:=h3 rfl;rw[Bool.false_and];exact decide_eq_false (by omega)
theorem KC (n:Int) (h1:-9223372036854775808<=n) (h2:n<9223372036854775808):∃u w,eG n u w/\aA Tryz.prog 172 [.val (ti .i64 n)] ⟨[.val (.agg (iT u w))],[none]⟩:=by
 obtain⟨w,hw⟩:∃w,lU n.natAbs w:=⟨_,rfl⟩;have hl:nl n.natAbs<=2:=tK (by omega);have mK:=DB n.natAbs (by omega) (by omega);rw[Int.toNat_natCast,show W .u32 (dg n.natAbs)=w from hw.symm]at mK;obtain⟨u,hu,cs⟩:=DC (x:=n) (decide (n<0)) ⟨hw,fun h=>by have:=of_decide_eq_true h;omega,fun h=>by have:=of_decide_eq_false h;omega⟩ (by omega);refine⟨u,w,hu,?_⟩;obtain⟨M,hM⟩:∃M:Int,M=n.natAbs:=⟨_,rfl⟩
 obtain⟨D,hD⟩:∃D,D=decide (n<0):=⟨_,rfl⟩;rw[<-hM]at mK;rw[<-hD]at cs;refine aV aD mixed [.val] Tryz.func172 rfl rfl (by kernel_rfl) fun zD zE zG zH zI zJ zK zL zM zN zO zR zS zT zU zV zX zY zZ zg zh zj zu zy zz aK ah aI aH ak aq ae aE aB aG ao az aJ an aO au aP ai aM aN ay aw aL ar zW bc A L F hS hF=>?_
 have bH:zU n 0=D:=by rw[hD];exact hS.lt ..
 have e1:D=true->zD .u64 (zG 0 (zD .u64 n))=M:=fun h=>by
  rw[hD]at h;have:=of_decide_eq_true h;rw[hS.wrap,hS.wrap,hS.sub,ym,ym];omega
 have e2:D=false->zD .u64 n=M:=fun h=>by
  rw[hD]at h;have:=of_decide_eq_false h;rw[hS.wrap,fg (by omega) (by omega)];omega
 clear hM hD hw hl hu;cbv;rw[bH];refine⟨fun h=>?_,fun h=>?_⟩
 ·rw[e1 h]
  refine⟨_,hS.call (mK),?_⟩;cbv;refine⟨_,hS.call (cs),?_⟩;cbv;exact hF _ (aS.refl _)
 ·rw[e2 h]
  refine⟨_,hS.call (mK),?_⟩;cbv;refine⟨_,hS.call (cs),?_⟩;cbv;exact hF _ (aS.refl _)
theorem pN {x:Int} {s:Bool} {r:Abs.Rows} (c:Int) (hx:eG x s r) (hc:c=bO x 0):aA Tryz.prog 170 [.val (.agg (iT s r))] ⟨[.val (ti .i64 c)],[none]⟩:=by
 have hl:r.length=nl x.natAbs:=hx.m.len;have hz:=@jw x.natAbs;refine aV aD mixed [.val] Tryz.func170 rfl rfl (by kernel_rfl) fun zD zE zG zH zI zJ zK zL zM zN zO zR zS zT zU zV zX zY zZ zg zh zj zu zy zz aK ah aI aH ak aq ae aE aB aG ao az aJ an aO au aP ai aM aN ay aw aL ar zW bc A L F hS hF=>?_
 have e1:zS (zy (ae r)) 0=decide (x=0):=by
  rw[hS.eq,hS.aW,hS.len,hl]
  by_cases h:x=0
  ·rw[decide_eq_true h];exact decide_eq_true (by omega)
  ·rw[decide_eq_false h];exact decide_eq_false (by omega)
 cbv;rw[e1];refine⟨fun h=>bX hF (lh ?_),fun h=>⟨fun h'=>bX hF (lh ?_),fun h'=>bX hF (lh ?_)⟩⟩
 ·rw[hc,of_decide_eq_true h];rfl
 ·rw[hx.s]at h';rw[hc,fp (of_decide_eq_true h')]
 ·rw[hx.s]at h'
  have:=of_decide_eq_false h';have:=of_decide_eq_false h;rw[hc,gS (by omega)]
theorem HU {x y:Int} {s t:Bool} {r q:Abs.Rows} (c:Int) (hx:eG x s r) (hy:eG y t q) (hc:c=bO x y) (h1:nl x.natAbs<=2199023255552) (h2:nl y.natAbs<=2199023255552) :
  aA Tryz.prog 162 [.val (.agg (iT s r)),.val (.agg (iT t q))] ⟨[.val (ti .i64 c)],[none,none]⟩:=by
 have c1:=oy (bO x.natAbs y.natAbs) hx.m hy.m h1 h2 (ju _) (ju _) (ja _) (ja _) (by rw[jI,jI]);have c2:=oy (bO y.natAbs x.natAbs) hy.m hx.m h2 h1 (ju _) (ju _) (ja _) (ja _) (by rw[jI,jI]);have s1:=pN (bO x 0) hx rfl;have s2:=pN (bO y 0) hy rfl;have b:∀z:Int,(z<0->bO z 0=-1)/\(z=0->bO z 0=0)/\(0<z->bO z 0=1):=fun z=>⟨fun h=>fp h,fun h=>by rw[h];rfl,fun h=>gS h⟩
 have bx:=b x;have by':=b y;have n1:x<0->y<0->bO y.natAbs x.natAbs=c:=fun h h'=>by rw[show(y.natAbs:Int)=-y by omega,show(x.natAbs:Int)=-x by omega,Ds,hc]
 have n2:¬x<0->¬y<0->bO x.natAbs y.natAbs=c:=fun h h'=>by rw[show(y.natAbs:Int)=y by omega,show(x.natAbs:Int)=x by omega,hc]
 have n3:x<y->-1=c:=fun h=>by rw[hc,fp h]
 have n4:y<x->1=c:=fun h=>by rw[hc,gS h]
 generalize bO x.natAbs y.natAbs=u at *;generalize bO y.natAbs x.natAbs=v at *;generalize bO x 0=a at *;generalize bO y 0=d at *;refine aV aD mixed [.val] Tryz.func162 rfl rfl (by kernel_rfl) fun zD zE zG zH zI zJ zK zL zM zN zO zR zS zT zU zV zX zY zZ zg zh zj zu zy zz aK ah aI aH ak aq ae aE aB aG ao az aJ an aO au aP ai aM aN ay aw aL ar zW bc A L F hS hF=>?_
 have e1:zT a d=decide (a≠d):=hS.ne ..;have e2:zU a d=decide (a<d):=hS.lt ..;have e3:zU a 0=decide (a<0):=hS.lt ..;cbv;refine⟨_,hS.call (s1),?_⟩;cbv;refine⟨_,hS.call (s2),?_⟩;cbv;refine⟨fun h=>⟨fun h'=>bX hF (lh (n3 ?_)),fun h'=>bX hF (lh (n4 ?_))⟩,fun h=>⟨fun h'=>⟨_,hS.call c2,?_⟩,fun h'=>⟨_,hS.call c1,?_⟩⟩⟩
 all_goals rw[e1]at h
 ·rw[e2]at h';have:=of_decide_eq_true h';omega
 ·rw[e2]at h';have:=of_decide_eq_false h';have:=of_decide_eq_true h;omega
 ·rw[e3]at h';have h1:=of_decide_eq_true h';have h2:=of_decide_eq_false h
  cbv;exact bX hF (lh (n1 (by omega) (by omega)))
 ·rw[e3]at h';have h1:=of_decide_eq_false h';have h2:=of_decide_eq_false h
  cbv;exact bX hF (lh (n2 (by omega) (by omega)))
theorem yw {x y:Int} {s t:Bool} {r q:Abs.Rows} (hx:eG x s r) (hy:eG y t q) (h1:nl x.natAbs<=549755813888) (h2:nl y.natAbs<=549755813888) :
  ∃u w,eG (x*y) u w/\aA Tryz.prog 174 [.val (.agg (iT s r)),.val (.agg (iT t q))] ⟨[.val (.agg (iT u w))],[none,none]⟩:=by
 obtain⟨w,hw⟩:∃w,lU (x*y).natAbs w:=⟨_,rfl⟩;have hb:nl (x*y).natAbs<=1099511627776:=by
  rw[Int.natAbs_mul];have b:=uD x.natAbs y.natAbs;omega
 have hs:=hx.s;have ht:=hy.s;have c:=xB hx.m hy.m (by unfold nl at h1;omega) (by unfold nl at h2;omega) (ju _) (ju _);simp only[jI]at c;have e1:W .u32 (dg ((x.natAbs:Int)*y.natAbs).toNat)=w:=by
  rw[hw];congr 2;rw[Int.natAbs_mul];have:((x.natAbs:Int)*y.natAbs)=((x.natAbs*y.natAbs:Nat):Int):=by push_cast;rfl
  omega
 rw[e1]at c;obtain⟨u,hu,cs⟩:=DC (x:=x*y) (!(s==t)) ⟨hw,fun h=>by
   rw[hs,ht]at h
   by_cases h1:x<0<;>by_cases h2:y<0<;>simp[h1,h2]at h
   ·exact Int.mul_nonpos_of_nonpos_of_nonneg (by omega) (by omega)
   ·exact Int.mul_nonpos_of_nonneg_of_nonpos (by omega) (by omega),fun h=>by
   rw[hs,ht]at h
   by_cases h1:x<0<;>by_cases h2:y<0<;>simp[h1,h2]at h
   ·exact Int.mul_nonneg_of_nonpos_of_nonpos (by omega) (by omega)
   ·exact Int.mul_nonneg (by omega) (by omega)⟩ (by omega)
 refine⟨u,w,hu,?_⟩;refine aV aD mixed [.val] Tryz.func174 rfl rfl (by kernel_rfl) fun zD zE zG zH zI zJ zK zL zM zN zO zR zS zT zU zV zX zY zZ zg zh zj zu zy zz aK ah aI aH ak aq ae aE aB aG ao az aJ an aO au aP ai aM aN ay aw aL ar zW bc A L F hS hF=>?_
 have e:zZ s t=!(s==t):=hS.bne s t;cbv;refine⟨_,hS.call (c),?_⟩;cbv;rw[e];refine⟨_,hS.call (cs),?_⟩;cbv;exact hF _ (aS.refl _)
open Go Go.Abs Go.Abs.M Go.Proofs
end Go.Proofs.YtekefilngojelaaGreat
end
section
namespace Go.Abs
open Go.Abs.M
theorem Oc {k:IntKind}:∀ {a b:List Int},W k a=W k b->a=b
 | [],[],_=>rfl
 | [],_::_,h=>by simp[W]at h
 | _::_,[],h=>by simp[W]at h
 | x::a,y::b,h=>by
  simp only[W,List.map_cons,List.cons.injEq,Tree.v.injEq,Value.int.injEq,true_and,and_true]at h;rw[h.1,Oc (k:=k) h.2]
def Za (s:Bool) (l:List Int) (t:Bool) (m:List Int):Prop:=∃q:Rat,wc q s (W .u32 l) t (W .u32 m)
end Go.Abs
end
section
namespace Go.Proofs.YtekefilngojelaaGreat
open Go Go.Abs Go.Abs.M Go.Proofs
open Go Go.Abs Go.Abs.M Go.Proofs
def Qs (x:Rat) (k:Nat):Prop:=nl x.num.natAbs<=k/\nl x.den<=k
theorem HV {x y:Rat} {s t s' t':Bool} {r q r' q':Abs.Rows} (hx:wc x s r t q) (hy:wc y s' r' t' q') (h1:Qs x 68719476736) (h2:Qs y 68719476736) :
  ∃u w v p,wc (x*y) u w v p/\aA Tryz.prog 111 [.val (.agg (iT s r++iT t q)),.val (.agg (iT s' r'++iT t' q'))] ⟨[.val (.agg (iT u w++iT v p))],[none,none]⟩:=by
 obtain⟨x1,x2⟩:=h1;obtain⟨y1,y2⟩:=h2;obtain⟨a,b,ha,ca⟩:=HR hx.n hy.n (by omega) (by omega);obtain⟨c,d,hc,cc⟩:=HR hx.d hy.d (by rw[Int.natAbs_natCast];omega) (by rw[Int.natAbs_natCast];omega);have HE:=x.den_nz;have pF:=y.den_nz;obtain⟨u,w,v,p,hu,cl⟩:=Ru ha hc (Int.mul_ne_zero (by omega) (by omega))
  (by rw[Int.natAbs_mul];have:=uD x.num.natAbs y.num.natAbs;omega)
  (by rw[Int.natAbs_mul,Int.natAbs_natCast,Int.natAbs_natCast];have:=uD x.den y.den;omega)
 refine⟨u,w,v,p,?_,?_⟩
 ·rw[<-Rat.divInt_mul_divInt,Rat.num_divInt_den,Rat.num_divInt_den]at hu
  exact hu
 refine aV aD mixed [.val] Tryz.func111 rfl rfl (by kernel_rfl) fun zD zE zG zH zI zJ zK zL zM zN zO zR zS zT zU zV zX zY zZ zg zh zj zu zy zz aK ah aI aH ak aq ae aE aB aG ao az aJ an aO au aP ai aM aN ay aw aL ar zW bc A L F hS hF=>?_
 cbv;refine⟨_,hS.call ca,?_⟩;cbv;refine⟨_,hS.call cc,?_⟩;cbv;refine⟨_,hS.call cl,?_⟩;cbv;exact hF _ (aS.refl _)
theorem HW {x y:Rat} {s t s' t':Bool} {r q r' q':Abs.Rows} (hx:wc x s r t q) (hy:wc y s' r' t' q') (h1:Qs x 68719476736) (h2:Qs y 68719476736) :
  ∃ u w v p,wc (x+y) u w v p/\aA Tryz.prog 61 [.val (.agg (iT s r ++ iT t q)),.val (.agg (iT s' r' ++ iT t' q'))] ⟨[.val (.agg (iT u w ++ iT v p))],[none,none]⟩:=by
 obtain ⟨x1,x2⟩:=h1
 obtain ⟨y1,y2⟩:=h2
 have n1:=uD x.num.natAbs y.den
 have n2:=uD y.num.natAbs x.den
 have n3:=uD x.den y.den
 have HE:=x.den_nz
 have pF:=y.den_nz
 obtain ⟨a,b,ha,ca⟩:=HR hx.n hy.d (by omega) (by rw [Int.natAbs_natCast]; omega)
 obtain ⟨a',b',TF,TG⟩:=HR hy.n hx.d (by omega) (by rw [Int.natAbs_natCast]; omega)
 have m1:nl (x.num*y.den).natAbs<=137438953472:=by rw [Int.natAbs_mul,Int.natAbs_natCast]; omega
 have m2:nl (y.num*x.den).natAbs<=137438953472:=by rw [Int.natAbs_mul,Int.natAbs_natCast]; omega
 obtain ⟨e,f,he,ce⟩:=yr ha TF (by omega) (by omega)
 obtain ⟨c,d,hc,cc⟩:=HR hx.d hy.d (by rw [Int.natAbs_natCast]; omega) (by rw [Int.natAbs_natCast]; omega)
 obtain ⟨u,w,v,p,hu,cl⟩:=Ru he hc (Int.mul_ne_zero (by omega) (by omega))
  (by
   have:=Ev (Int.natAbs_add_le (x.num*y.den) (y.num*x.den))
   have:=vY (x.num*y.den).natAbs (y.num*x.den).natAbs
   omega)
  (by rw [Int.natAbs_mul,Int.natAbs_natCast,Int.natAbs_natCast]; omega)
 refine ⟨u,w,v,p,?_,?_⟩
 ·rw [<- Rat.divInt_add_divInt _ _ (by omega) (by omega),Rat.num_divInt_den,Rat.num_divInt_den] at hu
  exact hu
 refine aV aD mixed [.val] Tryz.func61 rfl rfl (by kernel_rfl) fun zD zE zG zH zI zJ zK zL zM zN zO zR zS zT zU zV zX zY zZ zg zh zj zu zy zz aK ah aI aH ak aq ae aE aB aG ao az aJ an aO au aP ai aM aN ay aw aL ar zW bc A L F hS hF=>?_
 cbv
 refine ⟨_,hS.call ca,?_⟩
 cbv
 refine ⟨_,hS.call TG,?_⟩
 cbv
 refine ⟨_,hS.call ce,?_⟩
 cbv
 refine ⟨_,hS.call cc,?_⟩
 cbv
 refine ⟨_,hS.call cl,?_⟩
 cbv
 exact hF _ (aS.refl _)
open Go Go.Abs Go.Abs.M Go.Proofs
theorem Fx {n:Nat} (h:(dg n).length=1):(dg n).getD 0 0=n:=by
 have e:=jI n
 match hd:dg n,h with
 | [w],_=>
  rw[hd]at e;simp[M.val]at e;simpa using e
theorem HX {x:Int} {s:Bool} {r:Abs.Rows} (hx:eG x s r):aA Tryz.prog 173 [.val (.agg (iT s r))] ⟨[.val (tb (decide (x=1)))],[none]⟩:=by
 obtain⟨n,hn⟩:∃n,n=nl x.natAbs:=⟨_,rfl⟩;have hlen:r.length=n:=by rw[hn];exact hx.m.len
 obtain⟨b,hb⟩:∃b,b=decide (x=1):=⟨_,rfl⟩;rw[<-hb];have ji:s=true->false=b:=fun h=>by rw[hb];refine(decide_eq_false ?_).symm;have:=hx.s;rw[h]at this;have:=of_decide_eq_true this.symm;omega
 have N0:n≠1->false=b:=fun h=>by
  rw[hb];refine(decide_eq_false ?_).symm;rintro rfl;exact h (by rw[hn];rfl)
 have hg:n=1->s=false->decide ((dg x.natAbs).getD 0 0=1)=b:=fun h h'=>by
  rw[Fx (by rw[<-h,hn];rfl),hb];have:=hx.s;rw[h']at this;have:=of_decide_eq_false this.symm
  by_cases h1:x=1
  ·rw[decide_eq_true h1];exact decide_eq_true (by omega)
  ·rw[decide_eq_false h1];exact decide_eq_false (by omega)
 have hr:=hx.m;unfold lU at hr;generalize dg x.natAbs=l at hg hr;clear hx hb;refine aV aD mixed [.val] Tryz.func173 rfl rfl (by kernel_rfl) fun zD zE zG zH zI zJ zK zL zM zN zO zR zS zT zU zV zX zY zZ zg zh zj zu zy zz aK ah aI aH ak aq ae aE aB aG ao az aJ an aO au aP ai aM aN ay aw aL ar zW bc A L F hS hF=>?_
 have e0:zX s=!s:=hS.not s;have e1:zS (zy (ae r)) 1=decide (n=1):=by
  rw[hS.len,hlen,hS.eq,hS.aW]
  by_cases h:n=1
  ·rw[decide_eq_true h];exact decide_eq_true (by omega)
  ·rw[decide_eq_false h];exact decide_eq_false (by omega)
 have e2:zV 0 0=true:=by rw[hS.le];rfl
 have e3:n=1->aG .u32 r (zj 0)=true:=fun h=>by rw[hS.nat,hS.gJ,hr,lS];rw[hr,iZ]at hlen;exact decide_eq_true (by simp;omega)
 have e4:n=1->s=false->zS (ao r (zj 0)) 1=b:=fun h h'=>by rw[hS.nat,hS.eq,hS.dL,hr,ph];exact hg h h'
 clear hg hr hlen;cbv;refine⟨fun h=>⟨fun h'=>?_,fun h'=>?_⟩,fun h=>?_⟩
 all_goals rw[e0]at h
 ·rw[e1]at h'
  have h':=of_decide_eq_true h';exact nd e2 (nd (e3 h') (bX hF (tJ (e4 h' (by simpa using h)))))
 ·rw[e1]at h'
  exact bX hF (tJ (N0 (of_decide_eq_false h')))
 ·exact bX hF (tJ (ji (by simpa using h)))
end Go.Proofs.YtekefilngojelaaGreat
end
section
namespace Go.Abs
open Go.Abs.M
structure QC where
 s:Bool
 l:List Int
 t:Bool
 m:List Int
def QC.row (c:QC):List Tree:=iT c.s (W .u32 c.l)++iT c.t (W .u32 c.m)
def QC.can (c:QC):Prop:=Za c.s c.l c.t c.m
structure QC.ok (c:QC) (k:Nat):Prop where
 l:Wd c.l
 m:Wd c.m
 ll:c.l.length<=k
 lm:c.m.length<=k
def we (cs:List QC):Rows:=cs.map QC.row
theorem QC.sign {c:QC} (h:c.can):∃x:Int,eG x c.s (W .u32 c.l)/\(x=0↔c.l=[]):=by
 obtain⟨q,h1,h2⟩:=h;refine⟨q.num,h1,?_⟩;have hl:c.l=dg q.num.natAbs:=Oc h1.m;rw[hl,iP];omega
def UOk (cs:List QC):Prop:=(∀c∈cs,c.can)/\∀c,cs.getLast?=some c->c.l≠[]
end Go.Abs
namespace Go.Abs
open Go.Abs.M
def qc (q:Rat):QC:=⟨decide (q.num<0),dg q.num.natAbs,decide ((q.den:Int)<0),dg (q.den:Int).natAbs⟩
theorem ff (q:Rat):wc q (qc q).s (W .u32 (qc q).l) (qc q).t (W .u32 (qc q).m):=⟨⟨rfl,rfl⟩,⟨rfl,rfl⟩⟩
theorem sJ {q:Rat} {s t:Bool} {r p:Rows} (h:wc q s r t p):iT s r++iT t p=(qc q).row:=by
 have h1:=h.n.s;have h2:=h.n.m;have h3:=h.d.s;have h4:=h.d.m;unfold lU at h2 h4;subst h1 h2 h3 h4;rfl
theorem P4 (q:Rat):(qc q).can:=⟨q,ff q⟩
def ur (P:List Rat):Rows:=we (P.map qc)
theorem Fy (P:List Rat):(ur P).length=P.length:=by simp[ur,we]
theorem P5 {P:List Rat} {i:Nat} {q:Rat} (h:P[i]?=some q):(ur P)[i]?=some (qc q).row:=by simp[ur,we,h]
theorem KD (P:List Rat) (q:Rat):ur (P ++ [q])=ur P ++ [(qc q).row]:=by simp[ur,we]
theorem MZ (P:List Rat) (k:Nat):(ur P).take k=ur (P.take k):=by simp[ur,we,List.map_take]
def gg:List Rat->Nat->Nat
 | _,0=>0
 | P,k+1=>if P.getD k 0=0 then gg P k else k+1
def bN (P:List Rat):List Rat:=P.take (gg P P.length)
theorem qT (P:List Rat):∀k,gg P k<=k
 | 0=>Nat.le_refl _
 | k+1=>by unfold gg;split;have:=qT P k;omega;omega
theorem sL (P:List Rat):∀k,gg P k≠0->P.getD (gg P k-1) 0≠0
 | 0,h=>absurd rfl h
 | k+1,h=>by
  unfold gg at h ⊢;split
  ·rename_i h0;rw[if_pos h0]at h;exact sL P k h
  ·rename_i h0;simpa using h0
theorem KE (P:List Rat):UOk ((bN P).map qc):=by
 refine⟨fun c hc=>?_,fun c hc hl=>?_⟩
 ·obtain⟨q,_,rfl⟩:=List.mem_map.1 hc
  exact P4 q
 ·have hle:=qT P P.length
  rw[List.getLast?_map]at hc;obtain⟨q,hq,rfl⟩:=Option.map_eq_some_iff.1 hc;unfold bN at hq;rw[List.getLast?_eq_getElem?,List.length_take,Nat.min_eq_left hle]at hq;have cY:gg P P.length≠0:=by
   intro h0;rw[h0]at hq;simp at hq
  have h1:=sL P P.length cY;rw[List.getElem?_take,if_pos (by omega)]at hq;rw[List.getD_eq_getElem?_getD,hq]at h1;have h2:q.num=0:=by
   have:dg q.num.natAbs=[]:=hl;have:=iP.1 this;omega
  exact h1 (by simpa using Rat.num_eq_zero.1 h2)
end Go.Abs
namespace Go.Abs
end Go.Abs
namespace Go.Abs
def xC (R:List Rat) (c:Rat) (B:List Rat) (k:Nat):Nat->List Rat
 | 0=>R
 | i+1=>(xC R c B k i).set (i+k) ((xC R c B k i).getD (i+k) 0+c*B.getD i 0)
def Bu (R:List Rat) (c:Rat) (B:List Rat) (k:Nat):List Rat:=xC R c B k B.length
theorem mL (R:List Rat) (c:Rat) (B:List Rat) (k:Nat):∀i,(xC R c B k i).length=R.length
 | 0=>rfl
 | i+1=>by unfold xC;rw[List.length_set,mL R c B k i]
theorem wh {R:List Rat} {c:Rat} {B:List Rat} {k:Nat}:∀(i j:Nat),i+k<=R.length->(xC R c B k i).getD j 0=if k<=j/\j<k+i then R.getD j 0+c*B.getD (j-k) 0 else R.getD j 0
 | 0,j,_=>by rw[if_neg (by omega)];rfl
 | i+1,j,h=>by
  have ih:=wh (R:=R) (c:=c) (B:=B) (k:=k) i;have hl:=mL R c B k i;unfold xC;rw[List.getD_eq_getElem?_getD,List.getElem?_set]
  by_cases hj:i+k=j
  ·subst hj
   rw[if_pos rfl,if_pos (by omega),Option.getD_some,ih _ (by omega),if_neg (by omega),if_pos (by omega),show i+k-k=i by omega]
  ·rw[if_neg hj,<-List.getD_eq_getElem?_getD,ih j (by omega)]
   by_cases h2:k<=j/\j<k+i
   ·rw[if_pos h2,if_pos (by omega)]
   ·rw[if_neg h2,if_neg (by omega)]
end Go.Abs
end
section
namespace Go.Proofs.YtekefilngojelaaGreat
open Go Go.Abs Go.Abs.M Go.Proofs
def du (R:Abs.Rows) (ps:Bool) (pr:Abs.Rows) (N i:Int):St:=aC 25 [.c (.t (.aa false R)),.aj,.c (.ptr 1 0 0),.c (.ptr 4 0 0),.aj,.aj,.aj,.c (.t (.aa false R)),vi .i64 N,vi .i64 i] [none,some (.var [.t (.v (.bool false)),.t (.aa true [])]),none,none,some (.var [.t (.v (.bool ps)),.t (.aa false pr)])]
theorem uG {x:Int} {s:Bool} {r:Abs.Rows} (hx:eG x s r):∃b:Bool,(b=true↔x=1)/\aA Tryz.prog 173 [.val (.agg (iT s r))] ⟨[.val (tb b)],[none]⟩:=⟨decide (x=1),by simp,HX hx⟩
theorem oz {x y:Int} {s t:Bool} {r q:Abs.Rows} (hx:eG x s r) (hy:eG y t q) (h1:nl x.natAbs<=274877906944) (h2:nl y.natAbs<=274877906944) :
  ∃u w,eG (x*y) u w/\aA Tryz.prog 163 [.val (tl [iT s r,iT t q])] ⟨[.val (.agg (iT u w))],[none]⟩:=by
 obtain⟨u,w,h⟩:∃u w,eG (x*y) u w:=⟨_,_,.mk' _⟩;obtain⟨a,b,ho,co⟩:=KC 1 (by omega) (by omega);have n1:nl (1:Int).natAbs<=274877906944:=Nat.le_trans (tK (k:=1) (by omega)) (by omega);refine⟨u,w,h,?_⟩;obtain⟨R,hR⟩:∃R,R=([[.v (.bool s),.aa false r],[.v (.bool t),.aa false q]]:Abs.Rows):=⟨_,rfl⟩;rw[show([iT s r,iT t q]:Abs.Rows)=R from hR.symm];refine aV aD mixed [.val] Tryz.func163 rfl rfl (by kernel_rfl) fun zD zE zG zH zI zJ zK zL zM zN zO zR zS zT zU zV zX zY zZ zg zh zj zu zy zz aK ah aI aH ak aq ae aE aB aG ao az aJ an aO au aP ai aM aN ay aw aL ar zW bc A L F hS hF=>?_
 obtain⟨N,hN,L3⟩:∃N:Int,N=2/\zy (ae R)=N:=⟨_,rfl,by rw[hS.len,hS.aW,hR];rfl⟩;have Hq:aE R (zj 0)=some [.v (.bool s),.aa false r]:=by rw[hS.nat,hS.nth,hR];rfl
 have Sc:aE R (zj 1)=some [.v (.bool t),.aa false q]:=by rw[hS.nat,hS.nth,hR];rfl
 clear hR;cbv;refine⟨_,hS.call (co),?_⟩;cbv;refine fH aD mixed hS (fun(m:Nat) s'=>∃(ps:Bool) (pr:Abs.Rows),(m=2/\eG 1 ps pr/\s'=du R ps pr N 0)∨(m=1/\eG x ps pr/\s'=du R ps pr N 1)∨(m=0/\eG (x*y) ps pr/\s'=du R ps pr N 2)) (n:=2) (s0:=du R a b N 0) (iY ?_ ?_) rfl (by show 1<=5;omega) ?_ ?_
 ·simp[eC,du,aC,vi,L3]
 ·simp[eF,du,aC]
 ·exact⟨a,b,.inl ⟨rfl,ho,rfl⟩⟩
 ·rintro m s1 ⟨ps,pr,⟨xh,hp,ji⟩|⟨xh,hp,ji⟩|⟨xh,hp,ji⟩⟩
  ·have Ew:m-1<m:=by omega
   have P6:∀us ur,eG (1*x) us ur->∃(ps:Bool) (pr:Abs.Rows),(m-1=2/\eG 1 ps pr/\du R us ur N 1=du R ps pr N 0)∨(m-1=1/\eG x ps pr/\du R us ur N 1=du R ps pr N 1)∨(m-1=0/\eG (x*y) ps pr/\du R us ur N 1=du R ps pr N 2):=fun us ur hu=>
    ⟨us,ur,.inr (.inl ⟨by omega,hu.of (Int.one_mul x),rfl⟩)⟩
   have k1:zU 0 N=true:=by rw[hS.lt];exact decide_eq_true (by omega)
   have g0:zV 0 0=true:=by rw[hS.le];rfl
   obtain⟨b1,tX,c1⟩:=uG hx;obtain⟨b2,mc,c2⟩:=uG hp;obtain⟨mu,mw,hm,c3⟩:=yw hp hx (by omega) (by omega);have ii:zD .i64 (zE 0 1)=1:=by rw[hS.add,hS.wrap];rfl
   cases b1 with
   | true=>
    have h1:=tX.1 rfl;have jO:=P6 ps pr (hp.of (by rw[h1,Int.mul_one]));subst ji;cbv;refine bT k1 ?_;rw[Hq];cbv;refine nd (g0) ?_;refine⟨_,hS.call (c1),?_⟩;cbv;refine bT ((rfl:true=true)) ?_;exact again (s':=du R ps pr N 1) (m:=m-1) (by simp[eC,du,aC,vi,ii]) (by simp[eF,du,aC]) rfl (by show 1<=5;omega) Ew jO
   | false=>
    cases b2 with
    | true=>
     have h2:=mc.1 rfl;have jO:=P6 s r (hx.of (by rw[h2,Int.one_mul]));subst ji;cbv;refine bT k1 ?_;rw[Hq];cbv;refine nd (g0) ?_;refine⟨_,hS.call (c1),?_⟩;cbv;refine bF ((rfl:false=false)) ?_;refine⟨_,hS.call (c2),?_⟩;cbv;refine bT ((rfl:true=true)) ?_;exact again (s':=du R s r N 1) (m:=m-1) (by simp[eC,du,aC,vi,ii]) (by simp[eF,du,aC]) rfl (by show 1<=5;omega) Ew jO
    | false=>
     have jO:=P6 mu mw hm;subst ji;cbv;refine bT k1 ?_;rw[Hq];cbv;refine nd (g0) ?_;refine⟨_,hS.call (c1),?_⟩;cbv;refine bF ((rfl:false=false)) ?_;refine⟨_,hS.call (c2),?_⟩;cbv;refine bF ((rfl:false=false)) ?_;refine⟨_,hS.call (c3),?_⟩;cbv;exact again (s':=du R mu mw N 1) (m:=m-1) (by simp[eC,du,aC,vi,ii]) (by simp[eF,du,aC]) rfl (by show 1<=5;omega) Ew jO
  ·have Ew:m-1<m:=by omega
   have P6:∀us ur,eG (x*y) us ur->∃(ps:Bool) (pr:Abs.Rows),(m-1=2/\eG 1 ps pr/\du R us ur N 2=du R ps pr N 0)∨(m-1=1/\eG x ps pr/\du R us ur N 2=du R ps pr N 1)∨(m-1=0/\eG (x*y) ps pr/\du R us ur N 2=du R ps pr N 2):=fun us ur hu=>
    ⟨us,ur,.inr (.inr ⟨by omega,hu,rfl⟩)⟩
   have k1:zU 1 N=true:=by rw[hS.lt];exact decide_eq_true (by omega)
   have g0:zV 0 1=true:=by rw[hS.le];rfl
   obtain⟨b1,tX,c1⟩:=uG hy;obtain⟨b2,mc,c2⟩:=uG hp;obtain⟨mu,mw,hm,c3⟩:=yw hp hy (by omega) (by omega);have ii:zD .i64 (zE 1 1)=2:=by rw[hS.add,hS.wrap];rfl
   cases b1 with
   | true=>
    have h1:=tX.1 rfl;have jO:=P6 ps pr (hp.of (by rw[h1,Int.mul_one]));subst ji;cbv;refine bT k1 ?_;rw[Sc];cbv;refine nd (g0) ?_;refine⟨_,hS.call (c1),?_⟩;cbv;refine bT ((rfl:true=true)) ?_;exact again (s':=du R ps pr N 2) (m:=m-1) (by simp[eC,du,aC,vi,ii]) (by simp[eF,du,aC]) rfl (by show 1<=5;omega) Ew jO
   | false=>
    cases b2 with
    | true=>
     have h2:=mc.1 rfl;have jO:=P6 t q (hy.of (by rw[h2,Int.one_mul]));subst ji;cbv;refine bT k1 ?_;rw[Sc];cbv;refine nd (g0) ?_;refine⟨_,hS.call (c1),?_⟩;cbv;refine bF ((rfl:false=false)) ?_;refine⟨_,hS.call (c2),?_⟩;cbv;refine bT ((rfl:true=true)) ?_;exact again (s':=du R t q N 2) (m:=m-1) (by simp[eC,du,aC,vi,ii]) (by simp[eF,du,aC]) rfl (by show 1<=5;omega) Ew jO
    | false=>
     have jO:=P6 mu mw hm;subst ji;cbv;refine bT k1 ?_;rw[Sc];cbv;refine nd (g0) ?_;refine⟨_,hS.call (c1),?_⟩;cbv;refine bF ((rfl:false=false)) ?_;refine⟨_,hS.call (c2),?_⟩;cbv;refine bF ((rfl:false=false)) ?_;refine⟨_,hS.call (c3),?_⟩;cbv;exact again (s':=du R mu mw N 2) (m:=m-1) (by simp[eC,du,aC,vi,ii]) (by simp[eF,du,aC]) rfl (by show 1<=5;omega) Ew jO
  ·have k1:zU 2 N=false:=by rw[hS.lt];exact decide_eq_false (by omega)
   obtain⟨e1,e2⟩:=hp.inj h;subst e1 e2;subst ji;cbv;refine bF (k1) ?_;exact hF _ (aS.refl _)
open Go Go.Abs Go.Abs.M Go.Proofs
def qU (n k:Int):Int:=if k%8=7 then n*(4611686018427387904+k)*(4611686018427387904+k)+k else n
def mM (d k:Int):Int:=if k%8=6 then(if d=0 then 1 else d)*(4611686018427387904+k)*(4611686018427387904+k) else if d=0 then 1 else d
def DD (n d k:Int):Rat:=Rat.divInt (qU n k) (mM d k)
theorem M0 {n d k:Int} (n1:-128<=n) (n2:n<128) (d1:-128<=d) (d2:d<128) (k1:0<=k) (k2:k<256):nl (qU n k).natAbs<=8/\nl (mM d k).natAbs<=8/\mM d k≠0:=by
 have b:nl (4611686018427387904+k).natAbs<=2:=tK (by omega);have sa:nl n.natAbs<=1:=tK (by omega);have sb:nl d.natAbs<=1:=tK (by omega);have s1:nl (1:Int).natAbs<=1:=tK (by omega);have sk:nl k.natAbs<=1:=tK (by omega);refine⟨?_,?_,?_⟩
 ·unfold qU
  split
  ·have h1:=uD (n.natAbs*(4611686018427387904+k).natAbs) (4611686018427387904+k).natAbs
   have h2:=uD n.natAbs (4611686018427387904+k).natAbs;have h3:=vY (n*(4611686018427387904+k)*(4611686018427387904+k)).natAbs k.natAbs;rw[Int.natAbs_mul,Int.natAbs_mul]at h3;have h4:=Ev (Int.natAbs_add_le (n*(4611686018427387904+k)*(4611686018427387904+k)) k);rw[Int.natAbs_mul,Int.natAbs_mul]at h4;omega
  ·omega
 ·have key:∀x:Int,nl x.natAbs<=1->nl (x*(4611686018427387904+k)*(4611686018427387904+k)).natAbs<=8:=fun x hx=>by
   rw[Int.natAbs_mul,Int.natAbs_mul];have h1:=uD (x.natAbs*(4611686018427387904+k).natAbs) (4611686018427387904+k).natAbs;have h2:=uD x.natAbs (4611686018427387904+k).natAbs;omega
  unfold mM;split
  ·exact key _ (by split<;>omega)
  ·split<;>omega
 ·unfold mM
  split
  ·exact Int.mul_ne_zero (Int.mul_ne_zero (by split<;>omega) (by omega)) (by omega)
  ·split<;>omega
theorem DE (n d k:Int) (n1:-128<=n) (n2:n<128) (d1:-128<=d) (d2:d<128) (k1:0<=k) (k2:k<256) :
  ∃u w v p,wc (DD n d k) u w v p/\aA Tryz.prog 70 [.val (.agg [.v (.int .i8 n),.v (.int .i8 d),.v (.int .u8 k)])] ⟨[.val (.agg (iT u w++iT v p))],[none]⟩:=by
 obtain⟨a1,a2,ha,ca⟩:=gf n (by omega) (by omega);obtain⟨b1,b2,hb,cb⟩:=gf d (by omega) (by omega);obtain⟨f1,f2,hf,cf⟩:=gf 1 (by omega) (by omega);obtain⟨c1,c2,hc,cc⟩:=gf (4611686018427387904+k) (by omega) (by omega);obtain⟨e1,e2,he,ce⟩:=gf k (by omega) (by omega);obtain⟨s1,s2,s3⟩:=M0 n1 n2 d1 d2 k1 k2;have sc:nl (4611686018427387904+k).natAbs<=2:=tK (by omega)
 have sa:nl n.natAbs<=2:=tK (by omega);have sb:nl d.natAbs<=2:=tK (by omega);have VD:nl (1:Int).natAbs<=2:=tK (by omega);have sk:nl k.natAbs<=2:=tK (by omega);obtain⟨D,hD⟩:∃D,D=if d=0 then 1 else d:=⟨_,rfl⟩
 obtain⟨g1,g2,hg,Ch,sg⟩:∃g1 g2,eG D g1 g2/\(if d=0 then g1=f1/\g2=f2 else g1=b1/\g2=b2)/\nl D.natAbs<=2:=by
  by_cases h:d=0
  ·rw[if_pos h]at hD;subst hD;exact⟨f1,f2,hf,by rw[if_pos h];exact⟨rfl,rfl⟩,VD⟩
  ·rw[if_neg h]at hD;subst hD;exact⟨b1,b2,hb,by rw[if_neg h];exact⟨rfl,rfl⟩,sb⟩
 obtain⟨v9,lI⟩:∃v9,v9=4611686018427387904+k:=⟨_,rfl⟩;have TH:k%8=7->qU n k=n*v9*v9+k:=fun h=>by unfold qU;rw[if_pos h,lI]
 have eN:¬k%8=7->qU n k=n:=fun h=>by unfold qU;rw[if_neg h]
 have TJ:k%8=6->mM d k=D*v9*v9:=fun h=>by unfold mM;rw[if_pos h,lI,hD]
 have eD:¬k%8=6->mM d k=D:=fun h=>by unfold mM;rw[if_neg h,hD]
 unfold DD;rw[<-lI]at hc cc sc;obtain⟨i1,i2,hi,ci⟩:=HR ha hc (by omega) (by omega);obtain⟨j1,j2,hj,cj⟩:=HR hi hc (by rw[Int.natAbs_mul];have:=uD n.natAbs v9.natAbs;omega) (by omega);have sj:nl (n*v9*v9).natAbs<=7:=by
  rw[Int.natAbs_mul,Int.natAbs_mul];have h1:=uD (n.natAbs*v9.natAbs) v9.natAbs;have h2:=uD n.natAbs v9.natAbs;omega
 obtain⟨l1,l2,hl,cl⟩:=yr hj he (by omega) (by omega);obtain⟨m1,m2,hm,cm⟩:=HR hg hc (by omega) (by omega);obtain⟨o1,o2,ho,co⟩:=HR hm hc (by rw[Int.natAbs_mul];have:=uD D.natAbs v9.natAbs;omega) (by omega)
 by_cases h7:k%8=7
 ·have h6:¬k%8=6:=by omega
  rw[TH h7]at s1;rw[eD h6]at s2 s3;rw[TH h7,eD h6];obtain⟨u,w,v,p,hq,cq⟩:=Ru hl hg s3 (by omega) (by omega);refine⟨u,w,v,p,hq,?_⟩;clear hq s1 s2 s3 sj sg sk VD sb sa sc hD hc TH eN TJ eD;refine aV aD mixed [.val] Tryz.func70 rfl rfl (by kernel_rfl) fun zD zE zG zH zI zJ zK zL zM zN zO zR zS zT zU zV zX zY zZ zg zh zj zu zy zz aK ah aI aH ak aq ae aE aB aG ao az aJ an aO au aP ai aM aN ay aw aL ar zW bc A L F hS hF=>?_
  have w1:zD .i64 n=n:=by rw[hS.wrap,wrap_i64 (by omega) (by omega)]
  have w2:zD .i64 d=d:=by rw[hS.wrap,wrap_i64 (by omega) (by omega)]
  have w3:zD .i64 k=k:=by rw[hS.wrap,wrap_i64 (by omega) (by omega)]
  have w4:zD .i64 (zE 4611686018427387904 k)=v9:=by rw[hS.wrap,hS.add,wrap_i64 (by omega) (by omega),lI]
  have w5:zS (zJ k 8) 7=true:=by rw[hS.eq,hS.rem,Int.tmod_eq_emod_of_nonneg k1];exact decide_eq_true h7
  have w6:zS (zJ k 8) 6=false:=by rw[hS.eq,hS.rem,Int.tmod_eq_emod_of_nonneg k1];exact decide_eq_false h6
  cbv;rw[w1];refine⟨_,hS.call (ca),?_⟩;cbv;rw[w2];refine⟨_,hS.call (cb),?_⟩;cbv;refine⟨fun hh=>?_,fun hh=>?_⟩
  all_goals rw[hS.eq]at hh
  ·rw[if_pos (of_decide_eq_true hh)]at Ch
   obtain⟨rfl,rfl⟩:=Ch;refine⟨_,hS.call (cf),?_⟩;cbv;rw[w3,w4];refine⟨_,hS.call (cc),?_⟩;cbv;refine bT (w5) ?_;refine⟨_,hS.call (ci),?_⟩;cbv;refine⟨_,hS.call (cj),?_⟩;cbv;rw[w3];refine⟨_,hS.call (ce),?_⟩;cbv;refine⟨_,hS.call (cl),?_⟩;cbv;refine bF (w6) ?_;refine⟨_,hS.call (cq),?_⟩;cbv;exact hF _ (aS.refl _)
  ·rw[if_neg (of_decide_eq_false hh)]at Ch
   obtain⟨rfl,rfl⟩:=Ch;rw[w3,w4];refine⟨_,hS.call (cc),?_⟩;cbv;refine bT (w5) ?_;refine⟨_,hS.call (ci),?_⟩;cbv;refine⟨_,hS.call (cj),?_⟩;cbv;rw[w3];refine⟨_,hS.call (ce),?_⟩;cbv;refine⟨_,hS.call (cl),?_⟩;cbv;refine bF (w6) ?_;refine⟨_,hS.call (cq),?_⟩;cbv;exact hF _ (aS.refl _)
 ·by_cases h6:k%8=6
  ·rw[eN h7]at s1
   rw[TJ h6]at s2 s3;rw[eN h7,TJ h6];obtain⟨u,w,v,p,hq,cq⟩:=Ru ha ho s3 (by omega) (by omega);refine⟨u,w,v,p,hq,?_⟩;clear hq s1 s2 s3 sj sg sk VD sb sa sc hD hc TH eN TJ eD;refine aV aD mixed [.val] Tryz.func70 rfl rfl (by kernel_rfl) fun zD zE zG zH zI zJ zK zL zM zN zO zR zS zT zU zV zX zY zZ zg zh zj zu zy zz aK ah aI aH ak aq ae aE aB aG ao az aJ an aO au aP ai aM aN ay aw aL ar zW bc A L F hS hF=>?_
   have w1:zD .i64 n=n:=by rw[hS.wrap,wrap_i64 (by omega) (by omega)]
   have w2:zD .i64 d=d:=by rw[hS.wrap,wrap_i64 (by omega) (by omega)]
   have w3:zD .i64 k=k:=by rw[hS.wrap,wrap_i64 (by omega) (by omega)]
   have w4:zD .i64 (zE 4611686018427387904 k)=v9:=by rw[hS.wrap,hS.add,wrap_i64 (by omega) (by omega),lI]
   have w5:zS (zJ k 8) 7=false:=by rw[hS.eq,hS.rem,Int.tmod_eq_emod_of_nonneg k1];exact decide_eq_false h7
   have w6:zS (zJ k 8) 6=true:=by rw[hS.eq,hS.rem,Int.tmod_eq_emod_of_nonneg k1];exact decide_eq_true h6
   cbv;rw[w1];refine⟨_,hS.call (ca),?_⟩;cbv;rw[w2];refine⟨_,hS.call (cb),?_⟩;cbv;refine⟨fun hh=>?_,fun hh=>?_⟩
   all_goals rw[hS.eq]at hh
   ·rw[if_pos (of_decide_eq_true hh)]at Ch
    obtain⟨rfl,rfl⟩:=Ch;refine⟨_,hS.call (cf),?_⟩;cbv;rw[w3,w4];refine⟨_,hS.call (cc),?_⟩;cbv;refine bF (w5) ?_;refine bT (w6) ?_;refine⟨_,hS.call (cm),?_⟩;cbv;refine⟨_,hS.call (co),?_⟩;cbv;refine⟨_,hS.call (cq),?_⟩;cbv;exact hF _ (aS.refl _)
   ·rw[if_neg (of_decide_eq_false hh)]at Ch
    obtain⟨rfl,rfl⟩:=Ch;rw[w3,w4];refine⟨_,hS.call (cc),?_⟩;cbv;refine bF (w5) ?_;refine bT (w6) ?_;refine⟨_,hS.call (cm),?_⟩;cbv;refine⟨_,hS.call (co),?_⟩;cbv;refine⟨_,hS.call (cq),?_⟩;cbv;exact hF _ (aS.refl _)
  ·rw[eN h7]at s1
   rw[eD h6]at s2 s3;rw[eN h7,eD h6];obtain⟨u,w,v,p,hq,cq⟩:=Ru ha hg s3 (by omega) (by omega);refine⟨u,w,v,p,hq,?_⟩;clear hq s1 s2 s3 sj sg sk VD sb sa sc hD hc TH eN TJ eD;refine aV aD mixed [.val] Tryz.func70 rfl rfl (by kernel_rfl) fun zD zE zG zH zI zJ zK zL zM zN zO zR zS zT zU zV zX zY zZ zg zh zj zu zy zz aK ah aI aH ak aq ae aE aB aG ao az aJ an aO au aP ai aM aN ay aw aL ar zW bc A L F hS hF=>?_
   have w1:zD .i64 n=n:=by rw[hS.wrap,wrap_i64 (by omega) (by omega)]
   have w2:zD .i64 d=d:=by rw[hS.wrap,wrap_i64 (by omega) (by omega)]
   have w3:zD .i64 k=k:=by rw[hS.wrap,wrap_i64 (by omega) (by omega)]
   have w4:zD .i64 (zE 4611686018427387904 k)=v9:=by rw[hS.wrap,hS.add,wrap_i64 (by omega) (by omega),lI]
   have w5:zS (zJ k 8) 7=false:=by rw[hS.eq,hS.rem,Int.tmod_eq_emod_of_nonneg k1];exact decide_eq_false h7
   have w6:zS (zJ k 8) 6=false:=by rw[hS.eq,hS.rem,Int.tmod_eq_emod_of_nonneg k1];exact decide_eq_false h6
   cbv;rw[w1];refine⟨_,hS.call (ca),?_⟩;cbv;rw[w2];refine⟨_,hS.call (cb),?_⟩;cbv;refine⟨fun hh=>?_,fun hh=>?_⟩
   all_goals rw[hS.eq]at hh
   ·rw[if_pos (of_decide_eq_true hh)]at Ch
    obtain⟨rfl,rfl⟩:=Ch;refine⟨_,hS.call (cf),?_⟩;cbv;rw[w3,w4];refine⟨_,hS.call (cc),?_⟩;cbv;refine bF (w5) ?_;refine bF (w6) ?_;refine⟨_,hS.call (cq),?_⟩;cbv;exact hF _ (aS.refl _)
   ·rw[if_neg (of_decide_eq_false hh)]at Ch
    obtain⟨rfl,rfl⟩:=Ch;rw[w3,w4];refine⟨_,hS.call (cc),?_⟩;cbv;refine bF (w5) ?_;refine bF (w6) ?_;refine⟨_,hS.call (cq),?_⟩;cbv;exact hF _ (aS.refl _)
open Go Go.Abs Go.Abs.M Go.Proofs
theorem qV {n d:Int} {k:Nat} (hd:d≠0) (h1:nl n.natAbs<=k) (h2:nl d.natAbs<=k):Qs (Rat.divInt n d) k:=by
 constructor
 ·rw[<-kH hd]
  have:=Ev (Int.natAbs_ediv_le_natAbs n (if d<0 then -(Int.gcd n d:Int) else(Int.gcd n d:Int)));omega
 ·have e:=kI (n:=n) hd
  have:=Ev (Int.natAbs_ediv_le_natAbs d (if d<0 then -(Int.gcd n d:Int) else(Int.gcd n d:Int)));rw[e,Int.natAbs_natCast]at this;omega
theorem Qs.mono {x:Rat} {a b:Nat} (h:Qs x a) (Ei:a<=b):Qs x b:=⟨Nat.le_trans h.1 Ei,Nat.le_trans h.2 Ei⟩
theorem HY {x y:Rat} {a b:Nat} (hx:Qs x a) (hy:Qs y b):Qs (x+y) (a+b+1):=by
 obtain⟨x1,x2⟩:=hx;obtain⟨y1,y2⟩:=hy;have HE:=x.den_nz;have pF:=y.den_nz;have h:x+y=Rat.divInt (x.num*y.den+y.num*x.den) (x.den*y.den):=by
  rw[<-Rat.divInt_add_divInt _ _ (by omega) (by omega),Rat.num_divInt_den,Rat.num_divInt_den]
 rw[h];have n1:=uD x.num.natAbs y.den;have n2:=uD y.num.natAbs x.den;have n3:=uD x.den y.den;refine qV (Int.mul_ne_zero (by omega) (by omega)) ?_ ?_
 ·have h1:=Ev (Int.natAbs_add_le (x.num*y.den) (y.num*x.den))
  have h2:=vY (x.num*y.den).natAbs (y.num*x.den).natAbs;rw[Int.natAbs_mul,Int.natAbs_mul,Int.natAbs_natCast,Int.natAbs_natCast]at h2;rw[Int.natAbs_mul,Int.natAbs_mul,Int.natAbs_natCast,Int.natAbs_natCast]at h1;omega
 ·rw[Int.natAbs_mul,Int.natAbs_natCast,Int.natAbs_natCast];omega
theorem yx {x y:Rat} {a b:Nat} (hx:Qs x a) (hy:Qs y b):Qs (x*y) (a+b):=by
 obtain⟨x1,x2⟩:=hx;obtain⟨y1,y2⟩:=hy;have HE:=x.den_nz;have pF:=y.den_nz;have h:x*y=Rat.divInt (x.num*y.num) (x.den*y.den):=by
  rw[<-Rat.divInt_mul_divInt,Rat.num_divInt_den,Rat.num_divInt_den]
 rw[h];have n1:=uD x.num.natAbs y.num.natAbs;have n3:=uD x.den y.den;refine qV (Int.mul_ne_zero (by omega) (by omega)) ?_ ?_
 ·rw[Int.natAbs_mul];omega
 ·rw[Int.natAbs_mul,Int.natAbs_natCast,Int.natAbs_natCast];omega
open Go Go.Abs Go.Abs.M Go.Proofs
open Go Go.Abs Go.Abs.M Go.Proofs
def qW (R:Abs.Rows) (n:Int):St:=aC 22 [.c (.t (.aa false R)),.aj,.aj,vi .i64 n] [none]
theorem DF (P:List Rat) (hl:P.length<=1000)
  (hs:∀q:Rat,∃k:Int,(k=0↔q=0)/\aA Tryz.prog 62 [.val (.agg (qc q).row)] ⟨[.val (ti .i64 k)],[none]⟩) :
  aA Tryz.prog 108 [.val (tl (ur P))] ⟨[.val (tl (ur (bN P)))],[none]⟩:=by
 obtain⟨R,hR⟩:∃R,R=ur P:=⟨_,rfl⟩;obtain⟨n,hn⟩:∃n,n=P.length:=⟨_,rfl⟩;have hRl:R.length=n:=by rw[hR,Fy,hn]
 have iF:∀i,i<n->∃q:Rat,P.getD i 0=q/\∃(s t:Bool) (r p:Abs.Rows),(qc q).row=[.v (.bool s),.aa false r,.v (.bool t),.aa false p]/\R[i]?=some (qc q).row:=fun i hi=>by
  have h:P[i]?=some P[i]:=List.getElem?_eq_getElem (by omega);have h2:=P5 h;rw[<-hR]at h2;exact⟨_,by rw[List.getD_eq_getElem?_getD,h];rfl,_,_,_,_,rfl,h2⟩
 have PF:(R.all fun r=>r.length==4)=true:=by
  refine List.all_eq_true.2 fun r hr=>?_
  rw[hR]at hr;obtain⟨c,_,rfl⟩:=List.mem_map.1 hr;rfl
 obtain⟨T,hT⟩:∃T,T=gg P P.length:=⟨_,rfl⟩;obtain⟨Q,hQ⟩:∃Q,Q=ur (bN P):=⟨_,rfl⟩;have eQ:∀k,gg P k=T->k<=n->T=k->Q=(R.drop 0).take k:=fun k _ _ hk=>by
  rw[hQ,hR,List.drop_zero,MZ,<-hk,hT];rfl
 rw[<-hR,<-hQ];rw[<-hn]at hT;clear hR hQ;refine aV aD mixed [.val] Tryz.func108 rfl rfl (by kernel_rfl) fun zD zE zG zH zI zJ zK zL zM zN zO zR zS zT zU zV zX zY zZ zg zh zj zu zy zz aK ah aI aH ak aq ae aE aB aG ao az aJ an aO au aP ai aM aN ay aw aL ar zW bc A L F hS hF=>?_
 have Po:ae R=n:=by rw[hS.len,hRl]
 obtain⟨N,hN,L3⟩:∃N:Int,N=n/\zy (ae R)=N:=⟨_,rfl,by rw[Po,hS.aW]⟩;cbv;have hN:N=(n:Int):=hN;refine fH aD mixed hS (fun(k:Nat) s'=>∃I:Int,I=k/\k<=n/\gg P k=T/\s'=qW R I) (n:=n) (s0:=qW R N) (iY ?_ ?_) rfl (Nat.le_refl 1) ?_ ?_
 ·simp[eC,qW,aC,vi,vb,L3]
 ·simp[eF,qW,aC]
 ·exact⟨N,hN,Nat.le_refl _,hT.symm,rfl⟩
 ·rintro k s1 ⟨I,hI,hk,TL,ji⟩
  have w1:aH 0 I (ae R)=true:=by rw[hS.cut,Po];exact decide_eq_true (by omega)
  have w2:ai 4 R=true:=by rw[hS.wide];exact PF
  have w3:an R 0 (zj I)=(R.drop 0).take k:=by rw[hS.part,hS.nat,hI,Int.toNat_natCast]
  by_cases LO:k=0
  ·have l1:zU 0 I=false:=by rw[hS.lt];exact decide_eq_false (by omega)
   have hq:=eQ k TL hk (by rw[<-TL,LO];rfl);subst ji;cbv;refine bF l1 (nd w1 (nd w2 ?_));rw[w3,<-hq];exact hF _ (aS.refl _)
  ·have l1:zU 0 I=true:=by rw[hS.lt];exact decide_eq_true (by omega)
   obtain⟨q,hqi,s,t,r,p,dv,Zc⟩:=iF (k-1) (by omega);obtain⟨c,hc,cg⟩:=hs q;obtain⟨J,hJ,j1⟩:∃J:Int,J=((k-1:Nat):Int)/\zD .i64 (zG I 1)=J:=⟨I-1,by omega,by rw[hS.sub,hS.wrap,wrap_i64 (by omega) (by omega)]⟩;have g1:zV 0 J=true:=by rw[hS.le];exact decide_eq_true (by omega)
   have hz:aE R (zj J)=some [.v (.bool s),.aa false r,.v (.bool t),.aa false p]:=by rw[hS.nat,hJ,Int.toNat_natCast,hS.nth,Zc,dv]
   rw[dv]at cg;have JL:gg P k=if q=0 then gg P (k-1) else k:=by
    obtain⟨m,rfl⟩:∃m,k=m+1:=⟨k-1,by omega⟩;rw[Nat.add_sub_cancel]at hqi;rw[Nat.add_sub_cancel];show(if P.getD m 0=0 then gg P m else m+1)=_
    rw[hqi]
   by_cases HS:q=0
   ·have e1:zS c 0=true:=by rw[hS.eq];exact decide_eq_true (hc.2 HS)
    rw[if_pos HS]at JL;have hkk:k-1<k:=by omega
    have jO:∃I2:Int,I2=((k-1:Nat):Int)/\k-1<=n/\gg P (k-1)=T/\qW R J=qW R I2:=⟨J,hJ,by omega,by rw[<-JL];exact TL,rfl⟩;clear iF hs eQ;subst ji;cbv;refine bT l1 ?_;rw[j1,hz];cbv;refine nd (g1) ?_;refine⟨_,hS.call (cg),?_⟩;cbv;refine bT (e1) ?_;exact again (s':=qW R J) (m:=k-1) (by simp[eC,qW,aC,vi,vb,j1]) (by simp[eF,qW,aC]) rfl (Nat.le_refl 1) hkk jO
   ·have e1:zS c 0=false:=by rw[hS.eq];exact decide_eq_false fun h=>HS (hc.1 h)
    rw[if_neg HS]at JL;have hq:=eQ k TL hk (by rw[<-TL,JL]);clear iF hs eQ;subst ji;cbv;refine bT l1 ?_;rw[j1,hz];cbv;refine nd (g1) ?_;refine⟨_,hS.call (cg),?_⟩;cbv;refine bF (e1) ?_;refine nd (w1) ?_;refine nd (w2) ?_;rw[w3,<-hq];exact hF _ (aS.refl _)
open Go Go.Abs Go.Abs.M Go.Proofs
structure RW where
 n:Int
 d:Int
 k:Int
structure RW.ok (x:RW):Prop where
 n1:-128<=x.n
 n2:x.n<128
 d1:-128<=x.d
 d2:x.d<128
 k1:0<=x.k
 k2:x.k<256
def RW.row (x:RW):List Tree:=[.v (.int .i8 x.n),.v (.int .i8 x.d),.v (.int .u8 x.k)]
def RW.q (x:RW):Rat:=DD x.n x.d x.k
open Go Go.Abs Go.Abs.M Go.Proofs
theorem wi {x:Int} {s t:Bool} {r q:Abs.Rows} (c:Int) (hx:eG x s r) (hc:c=bO x 0):aA Tryz.prog 161 [.val (.agg (iT s r++iT t q))] ⟨[.val (ti .i64 c)],[none]⟩:=by
 have c1:=pN c hx hc;refine aV aD mixed [.val] Tryz.func161 rfl rfl (by kernel_rfl) fun zD zE zG zH zI zJ zK zL zM zN zO zR zS zT zU zV zX zY zZ zg zh zj zu zy zz aK ah aI aH ak aq ae aE aB aG ao az aJ an aO au aP ai aM aN ay aw aL ar zW bc A L F hS hF=>?_
 cbv;refine⟨_,hS.call (c1),?_⟩;cbv;exact hF _ (aS.refl _)
theorem mO {x:Int} {s t:Bool} {r q:Abs.Rows} (c:Int) (hx:eG x s r) (hc:c=bO x 0):aA Tryz.prog 62 [.val (.agg (iT s r++iT t q))] ⟨[.val (ti .i64 c)],[none]⟩:=by
 have c1:=pC c hx hc;refine aV aD mixed [.val] Tryz.func62 rfl rfl (by kernel_rfl) fun zD zE zG zH zI zJ zK zL zM zN zO zR zS zT zU zV zX zY zZ zg zh zj zu zy zz aK ah aI aH ak aq ae aE aB aG ao az aJ an aO au aP ai aM aN ay aw aL ar zW bc A L F hS hF=>?_
 cbv;refine⟨_,hS.call (c1),?_⟩;cbv;exact hF _ (aS.refl _)
theorem Od (x:Int):bO x 0=0↔x=0:=by
 unfold bO
 by_cases h:x<0
 ·rw[if_pos h];omega
 ·rw[if_neg h];split<;>omega
theorem Fz (P:List Rat) (hl:P.length<=1000):aA Tryz.prog 108 [.val (tl (ur P))] ⟨[.val (tl (ur (bN P)))],[none]⟩:=
 DF P hl fun q=>⟨bO q.num 0,(Od q.num).trans Rat.num_eq_zero,mO _ (ff q).n rfl⟩
open Go Go.Abs Go.Abs.M Go.Proofs
theorem Qs.neg {x:Rat} {k:Nat} (h:Qs x k):Qs (-x) k:=⟨by show nl (-x.num).natAbs<=k;rw[Int.natAbs_neg];exact h.1,h.2⟩
theorem M1 (x:Rat):Int.gcd x.num x.den=1:=by
 have:=x.reduced;unfold Nat.Coprime at this;unfold Int.gcd;rw[Int.natAbs_natCast];exact this
def jl (x y:Rat):Int:=if x<y then -1 else if y<x then 1 else 0
theorem wj (x y:Rat):jl x y=bO (x.num*y.den) (y.num*x.den):=by
 unfold jl bO
 by_cases h:x<y
 ·rw[if_pos h,if_pos ((Rat.lt_iff x y).1 h)]
 ·rw[if_neg h,if_neg (fun h'=>h ((Rat.lt_iff x y).2 h'))]
  by_cases h2:y<x
  ·rw[if_pos h2,if_pos ((Rat.lt_iff y x).1 h2)]
  ·rw[if_neg h2,if_neg (fun h'=>h2 ((Rat.lt_iff y x).2 h'))]
theorem FA {a b c d:Int} (hc:0<c) (hd:0<d) (h:bO a 0≠bO b 0):bO (a*d) (b*c)=if bO a 0<bO b 0 then -1 else 1:=by
 have key:∀ {x y:Int},0<y->(0<x->0<x*y)/\(x<0->x*y<0)/\(x=0->x*y=0):=fun {x y} hy=>⟨fun h=>Int.mul_pos h hy,fun h=>Int.mul_neg_of_neg_of_pos h hy,fun h=>by rw[h,Int.zero_mul]⟩
 obtain⟨a1,a2,a3⟩:=key (x:=a) hd;obtain⟨b1,b2,b3⟩:=key (x:=b) hc;generalize a*d=A at *;generalize b*c=B at *;unfold bO at h ⊢;rcases Int.lt_trichotomy a 0 with ha|ha|ha<;>rcases Int.lt_trichotomy b 0 with hb|hb|hb
 all_goals (repeat' split)<;>omega
theorem HZ {x y:Rat} {s t s' t':Bool} {r q r' q':Abs.Rows} (c:Int) (hx:wc x s r t q) (hy:wc y s' r' t' q') (hc:c=jl x y) (h1:Qs x 68719476736) (h2:Qs y 68719476736) :
  aA Tryz.prog 145 [.val (.agg (iT s r++iT t q)),.val (.agg (iT s' r'++iT t' q'))] ⟨[.val (ti .i64 c)],[none,none]⟩:=by
 obtain⟨x1,x2⟩:=h1;obtain⟨y1,y2⟩:=h2;have HE:=x.den_pos;have pF:=y.den_pos;have n1:=uD x.num.natAbs y.den;have n2:=uD y.num.natAbs x.den;rw[wj]at hc;have cx:=wi (t:=t) (q:=q) (bO x.num 0) hx.n rfl;have cy:=wi (t:=t') (q:=q') (bO y.num 0) hy.n rfl;obtain⟨a,b,ha,ca⟩:=oz hx.n hy.d (by omega) (by rw[Int.natAbs_natCast];omega);obtain⟨a',b',TF,TG⟩:=oz hy.n hx.d (by omega) (by rw[Int.natAbs_natCast];omega)
 have m1:nl (x.num*y.den).natAbs<=2199023255552:=by rw[Int.natAbs_mul,Int.natAbs_natCast];omega
 have m2:nl (y.num*x.den).natAbs<=2199023255552:=by rw[Int.natAbs_mul,Int.natAbs_natCast];omega
 have cc:=HU c ha TF hc m1 m2;have hsg:=FA (a:=x.num) (b:=y.num) (c:=x.den) (d:=y.den) (by omega) (by omega);rw[<-hc]at hsg;generalize bO x.num 0=sx at *;generalize bO y.num 0=sy at *;clear hc;refine aV aD mixed [.val] Tryz.func145 rfl rfl (by kernel_rfl) fun zD zE zG zH zI zJ zK zL zM zN zO zR zS zT zU zV zX zY zZ zg zh zj zu zy zz aK ah aI aH ak aq ae aE aB aG ao az aJ an aO au aP ai aM aN ay aw aL ar zW bc A L F hS hF=>?_
 have zf:∀(a b:Bool) (c d:Abs.Rows),aJ 0 2 [[.v (.bool a),.aa false c],[.v (.bool b),.aa false d]]=true:=fun a b c d=>by rw[hS.fit];rfl
 have zp:∀(a b:Bool) (c d:Abs.Rows),an [[.v (.bool a),.aa false c],[.v (.bool b),.aa false d]] 0 2=[[.v (.bool a),.aa false c],[.v (.bool b),.aa false d]]:=fun a b c d=>by rw[hS.part];rfl
 have e1:zT sx sy=decide (sx≠sy):=hS.ne ..;have e2:zU sx sy=decide (sx<sy):=hS.lt ..
 by_cases h:sx≠sy
 ·have Ml:=hsg h
  rw[decide_eq_true h]at e1
  by_cases h2:sx<sy
  ·rw[if_pos h2]at Ml
   rw[decide_eq_true h2]at e2;subst Ml;cbv;refine⟨_,hS.call (cx),?_⟩;cbv;refine⟨_,hS.call (cy),?_⟩;cbv;refine bT (e1) ?_;refine bT (e2) ?_;exact hF _ (aS.refl _)
  ·rw[if_neg h2]at Ml
   rw[decide_eq_false h2]at e2;subst Ml;cbv;refine⟨_,hS.call (cx),?_⟩;cbv;refine⟨_,hS.call (cy),?_⟩;cbv;refine bT (e1) ?_;refine bF (e2) ?_;exact hF _ (aS.refl _)
 ·rw[decide_eq_false h]at e1
  cbv;refine⟨_,hS.call (cx),?_⟩;cbv;refine⟨_,hS.call (cy),?_⟩;cbv;refine bF (e1) ?_;refine nd (zf ..) ?_;rw[zp];refine⟨_,hS.call (ca),?_⟩;cbv;refine nd (zf ..) ?_;rw[zp];refine⟨_,hS.call (TG),?_⟩;cbv;refine⟨_,hS.call (cc),?_⟩;cbv;exact hF _ (aS.refl _)
theorem P7 {x:Rat} (h:x≠0):(x⁻¹).num=(if x.num<0 then -(x.den:Int) else x.den)/\((x⁻¹).den:Int)=if x.num<0 then -x.num else x.num:=by
 have hn:x.num≠0:=fun e=>h (Rat.num_eq_zero.1 e)
 have hd:=x.den_pos;rw[Rat.inv_def];have ln:=kH (n:=(x.den:Int)) (d:=x.num) hn;have ld:=kI (n:=(x.den:Int)) (d:=x.num) hn;have hg:Int.gcd (x.den:Int) x.num=1:=by rw[Int.gcd_comm];exact M1 x
 rw[hg]at ln ld;rw[<-ln,<-ld]
 by_cases h0:x.num<0
 ·rw[if_pos h0,if_pos h0,if_pos h0];simp
 ·rw[if_neg h0,if_neg h0,if_neg h0];simp
open Go Go.Abs Go.Abs.M Go.Proofs
theorem FB {x:Rat} {s t:Bool} {r q:Abs.Rows} (hx:wc x s r t q) (h1:Qs x 68719476736) :
  ∃u w,wc (-x) u w t q/\aA Tryz.prog 98 [.val (.agg (iT s r++iT t q))] ⟨[.val (.agg (iT u w++iT t q))],[none]⟩:=by
 obtain⟨u,w,h,c⟩:=yq hx.n (by have:=h1.1;omega);refine⟨u,w,⟨h,hx.d⟩,?_⟩;refine aV aD mixed [.val] Tryz.func98 rfl rfl (by kernel_rfl) fun zD zE zG zH zI zJ zK zL zM zN zO zR zS zT zU zV zX zY zZ zg zh zj zu zy zz aK ah aI aH ak aq ae aE aB aG ao az aJ an aO au aP ai aM aN ay aw aL ar zW bc A L F hS hF=>?_
 cbv;refine⟨_,hS.call (c),?_⟩;cbv;exact hF _ (aS.refl _)
theorem Bv (n:Int) (h1:-9223372036854775808<=n) (h2:n<9223372036854775808):∃s r v p,wc (n:Rat) s r v p/\aA Tryz.prog 37 [.val (ti .i64 n)] ⟨[.val (.agg (iT s r++iT v p))],[none]⟩:=by
 obtain⟨s,r,h,c⟩:=gf n h1 h2;obtain⟨v,p,h3,c2⟩:=gf 1 (by omega) (by omega);refine⟨s,r,v,p,⟨by rw[Rat.num_intCast];exact h,by rw[Rat.den_intCast];exact h3⟩,?_⟩;refine aV aD mixed [.val] Tryz.func37 rfl rfl (by kernel_rfl) fun zD zE zG zH zI zJ zK zL zM zN zO zR zS zT zU zV zX zY zZ zg zh zj zu zy zz aK ah aI aH ak aq ae aE aB aG ao az aJ an aO au aP ai aM aN ay aw aL ar zW bc A L F hS hF=>?_
 cbv;refine⟨_,hS.call (c),?_⟩;cbv;refine⟨_,hS.call (c2),?_⟩;cbv;exact hF _ (aS.refl _)
theorem FC {x y:Rat} {s t s' t':Bool} {r q r' q':Abs.Rows} (c:Int) (hx:wc x s r t q) (hy:wc y s' r' t' q') (hc:c=jl x y) (h1:Qs x 68719476736) (h2:Qs y 68719476736) :
  aA Tryz.prog 99 [.val (.agg (iT s r++iT t q)),.val (.agg (iT s' r'++iT t' q'))] ⟨[.val (ti .i64 c)],[none,none]⟩:=by
 obtain⟨x1,x2⟩:=h1;obtain⟨y1,y2⟩:=h2;have n1:=uD x.num.natAbs y.den;have n2:=uD y.num.natAbs x.den;rw[wj]at hc;obtain⟨a,b,ha,ca⟩:=HR hx.n hy.d (by omega) (by rw[Int.natAbs_natCast];omega);obtain⟨a',b',TF,TG⟩:=HR hy.n hx.d (by omega) (by rw[Int.natAbs_natCast];omega);have m1:nl (x.num*y.den).natAbs<=2199023255552:=by rw[Int.natAbs_mul,Int.natAbs_natCast];omega
 have m2:nl (y.num*x.den).natAbs<=2199023255552:=by rw[Int.natAbs_mul,Int.natAbs_natCast];omega
 have cc:=HQ c ha TF hc m1 m2;refine aV aD mixed [.val] Tryz.func99 rfl rfl (by kernel_rfl) fun zD zE zG zH zI zJ zK zL zM zN zO zR zS zT zU zV zX zY zZ zg zh zj zu zy zz aK ah aI aH ak aq ae aE aB aG ao az aJ an aO au aP ai aM aN ay aw aL ar zW bc A L F hS hF=>?_
 cbv;refine⟨_,hS.call (ca),?_⟩;cbv;refine⟨_,hS.call (TG),?_⟩;cbv;refine⟨_,hS.call (cc),?_⟩;cbv;exact hF _ (aS.refl _)
def kL (s t:Bool) (r q:Abs.Rows) (i:Int):St:=aC 38 [.aj,.aj,.c (.ptr 2 0 0),.c (.ptr 3 0 0),.aj,vi .i64 i] [none,none,some (.var [.t (.v (.bool s)),.t (.aa false r)]),some (.var [.t (.v (.bool t)),.t (.aa false q)])]
theorem qX {x y : Int} {s t : Bool} {r q : Abs.Rows} (hx : eG x s r) (hy : eG y t q) (EM : nl x.natAbs <= 2199023255552) : aA Tryz.prog 152 [.val (.agg (iT s r)), .val (.agg (iT t q))] ⟨[.val (tb (decide (x = y)))], [none, none]⟩ := by
  have hl : r.length = nl x.natAbs := hx.m.len
  have hm : q.length = nl y.natAbs := hy.m.len
  have cY : s ≠ t -> x ≠ y := fun h e => h (by rw [hx.s, hy.s, e])
  have hle : nl x.natAbs ≠ nl y.natAbs -> x ≠ y := fun h e => h (by rw [e])
  have hwe : ∀ i, (dg x.natAbs).getD i 0 ≠ (dg y.natAbs).getD i 0 -> x ≠ y := fun i h e => h (by rw [e])
  have heq : s = t -> nl x.natAbs = nl y.natAbs -> (dg x.natAbs).take (nl x.natAbs) = (dg y.natAbs).take (nl x.natAbs) -> x = y := fun h1 h2 h3 => by
    have e1 : (dg x.natAbs).take (nl x.natAbs) = dg x.natAbs := List.take_of_length_le (Nat.le_refl _)
    have e2 : (dg y.natAbs).take (nl x.natAbs) = dg y.natAbs := List.take_of_length_le (by rw [h2]; exact Nat.le_refl _)
    rw [e1, e2] at h3
    have h4 := congrArg val h3
    rw [jI, jI] at h4
    have h5 := hx.s
    rw [h1, hy.s] at h5
    have h6 : (y < 0) ↔ (x < 0) := by
      constructor
      · intro h; rw [decide_eq_true h] at h5; exact of_decide_eq_true h5.symm
      · intro h; rw [decide_eq_true h] at h5; exact of_decide_eq_true h5
    omega
  have gx : ∀ i : Nat, ZI.b9.dL r i = (dg x.natAbs).getD i 0 := fun i => by rw [hx.m, ph]
  have gy : ∀ i : Nat, ZI.b9.dL q i = (dg y.natAbs).getD i 0 := fun i => by rw [hy.m, ph]
  have ix : ∀ i : Nat, i < nl x.natAbs -> ZI.b9.gJ .u32 r i = true := fun i h => by rw [hx.m, lS]; exact decide_eq_true h
  have iy : ∀ i : Nat, i < nl y.natAbs -> ZI.b9.gJ .u32 q i = true := fun i h => by rw [hy.m, lS]; exact decide_eq_true h
  have GC : ∀ i : Nat, i < nl x.natAbs -> nl x.natAbs = nl y.natAbs -> (dg x.natAbs).take i = (dg y.natAbs).take i -> (dg x.natAbs).getD i 0 = (dg y.natAbs).getD i 0 -> (dg x.natAbs).take (i + 1) = (dg y.natAbs).take (i + 1) := fun i h h' h2 h3 => by
    have a1 : i < (dg x.natAbs).length := h
    have a2 : i < (dg y.natAbs).length := by have : i < nl y.natAbs := by omega
                                             exact this
    rw [List.take_succ_eq_append_getElem a1, List.take_succ_eq_append_getElem a2, h2]
    rw [List.getD_eq_getElem?_getD, List.getD_eq_getElem?_getD, List.getElem?_eq_getElem a1, List.getElem?_eq_getElem a2, Option.getD_some, Option.getD_some] at h3
    rw [h3]
  refine aV aD mixed [.val] Tryz.func152 rfl rfl (by kernel_rfl) fun zD zE zG zH zI zJ zK zL zM zN zO zR zS zT zU zV zX zY zZ zg zh zj zu zy zz aK ah aI aH ak aq ae aE aB aG ao az aJ an aO au aP ai aM aN ay aw aL ar zW bc A L F hS hF => ?_
  have f0 : x ≠ y -> F ⟨[.val (.c (.v (.bool false)))], [none, none]⟩ := fun h => bX hF (by rw [decide_eq_false h]; rfl)
  have f1 : x = y -> F ⟨[.val (.c (.v (.bool true)))], [none, none]⟩ := fun h => bX hF (by rw [decide_eq_true h]; rfl)
  have e0 : zT (zy (ae r)) (zy (ae q)) = decide (nl x.natAbs ≠ nl y.natAbs) := by
    rw [hS.ne, hS.len, hS.len, hS.aW, hS.aW, hl, hm]
    by_cases h : nl x.natAbs = nl y.natAbs
    · rw [decide_eq_false (show ¬ nl x.natAbs ≠ nl y.natAbs by omega)]; exact decide_eq_false (by omega)
    · rw [decide_eq_true h]; exact decide_eq_true (by omega)
  have Po : ae r = nl x.natAbs := by rw [hS.len, hl]
  generalize hLx : nl x.natAbs = Lx at *
  cbv
  refine ⟨fun h => f0 ?_, fun h => ⟨fun h' => f0 ?_, fun h' => ?_⟩⟩
  all_goals rw [hS.bne] at h
  · exact cY (by intro e; subst e; simp at h)
  all_goals rw [e0] at h'
  · exact hle (of_decide_eq_true h')
  · have dC : s = t := by cases s <;> cases t <;> first | rfl | (simp at h)
    have Rx : Lx = nl y.natAbs := by have := of_decide_eq_false h'; omega
    refine fH aD mixed hS (fun (k : Nat) s' => ∃ i : Nat, i + k = Lx /\ (dg x.natAbs).take i = (dg y.natAbs).take i /\ s' = kL s t r q (zy i)) (n := Lx) (s0 := kL s t r q (zy 0)) (iY ?_ ?_) rfl (by show 2 <= 4; omega) ?_ ?_
    · simp [eC, kL, aC, vi, hS.aW]
    · simp [eF, kL, aC]
    · exact ⟨0, by omega, rfl, rfl⟩
    · rintro k _ ⟨i, hi, he, rfl⟩
      obtain ⟨i1, Mg⟩ : ∃ i1, i1 = i + 1 := ⟨_, rfl⟩
      have c1 : zU (zy i) (zy (ae r)) = decide (k ≠ 0) := by
        rw [Po, hS.lt, hS.aW, hS.aW]
        by_cases h : k = 0
        · rw [decide_eq_false (show ¬ k ≠ 0 by omega)]; exact decide_eq_false (by omega)
        · rw [decide_eq_true h]; exact decide_eq_true (by omega)
      have c2 : zV 0 (zy i) = true := by rw [hS.le, hS.aW]; exact decide_eq_true (by omega)
      have c3 : zj (zy i) = i := by rw [hS.nat, hS.aW]; omega
      have c4 : i < Lx -> aG .u32 r (zj (zy i)) = true := fun h => by rw [c3, hS.gJ]; exact ix i h
      have c5 : i < Lx -> aG .u32 q (zj (zy i)) = true := fun h => by rw [c3, hS.gJ]; exact iy i (by omega)
      have c6 : zT (ao r (zj (zy i))) (ao q (zj (zy i))) = decide ((dg x.natAbs).getD i 0 ≠ (dg y.natAbs).getD i 0) := by
        rw [c3, hS.ne, hS.dL, hS.dL, gx, gy]
      have c7 : i < Lx -> zD .i64 (zE (zy i) 1) = zy i1 := fun h => by rw [hS.wrap, hS.add, hS.aW, hS.aW, wrap_i64 (by omega) (by omega), Mg]; omega
      have nx : i < Lx -> (dg x.natAbs).getD i 0 = (dg y.natAbs).getD i 0 -> (dg x.natAbs).take i1 = (dg y.natAbs).take i1 := fun h h2 => by rw [Mg]; exact GC i h Rx he h2
      have ki : k ≠ 0 -> i < Lx := by omega
      have k1 : k ≠ 0 -> i1 + (k - 1) = Lx /\ k - 1 < k := by omega
      have kz : k = 0 -> x = y := fun h => heq dC Rx (by rw [show i = Lx by omega] at he; exact he)
      clear hi Mg GC ix iy gx gy
      cbv
      refine ⟨fun h => ?_, fun h => f1 ?_⟩
      all_goals rw [c1] at h
      · have hk := of_decide_eq_true h
        refine nd c2 (nd (c4 (ki hk)) (nd c2 (nd (c5 (ki hk)) ⟨fun h2 => f0 ?_, fun h2 => ?_⟩)))
        all_goals rw [c6] at h2
        · exact hwe i (of_decide_eq_true h2)
        · rw [c7 (ki hk)]
          exact again (s' := kL s t r q (zy i1)) (m := k - 1) (by simp [eC, kL, aC, vi]) (by simp [eF, kL, aC]) rfl (by show 2 <= 4; omega) (k1 hk).2 ⟨i1, (k1 hk).1, nx (ki hk) (Decidable.not_not.mp (of_decide_eq_false h2)), rfl⟩
      · exact kz (Decidable.not_not.mp (of_decide_eq_false h))
theorem DG {x y:Rat} {s t s' t':Bool} {r q r' q':Abs.Rows} (b:Bool) (hx:wc x s r t q) (hy:wc y s' r' t' q') (hb:b=true↔x=y) (h1:Qs x 68719476736) :
  aA Tryz.prog 127 [.val (.agg (iT s r++iT t q)),.val (.agg (iT s' r'++iT t' q'))] ⟨[.val (tb b)],[none,none]⟩:=by
 have c1:=qX hx.n hy.n (by have:=h1.1;omega);have c2:=qX hx.d hy.d (by rw[Int.natAbs_natCast];have:=h1.2;omega);have cY:x.num≠y.num->false=b:=fun h=>by
  cases b with
  | false=>rfl
  | true=>exact absurd (by rw[hb.1 rfl]) h
 have hde:x.num=y.num->decide ((x.den:Int)=y.den)=b:=fun h=>by
  cases b with
  | false=>exact decide_eq_false fun h2=>absurd (hb.2 (Rat.ext h (by omega))) (by simp)
  | true=>exact decide_eq_true (by rw[hb.1 rfl])
 by_cases h:x.num=y.num
 ·rw[decide_eq_true h]at c1
  rw[hde h]at c2;refine aV aD mixed [.val] Tryz.func127 rfl rfl (by kernel_rfl) fun zD zE zG zH zI zJ zK zL zM zN zO zR zS zT zU zV zX zY zZ zg zh zj zu zy zz aK ah aI aH ak aq ae aE aB aG ao az aJ an aO au aP ai aM aN ay aw aL ar zW bc A L F hS hF=>?_
  cbv;refine⟨_,hS.call (c1),?_⟩;cbv;refine bT ((rfl:true=true)) ?_;refine⟨_,hS.call (c2),?_⟩;cbv;exact hF _ (aS.refl _)
 ·rw[decide_eq_false h]at c1
  have hf:=cY h;subst hf;refine aV aD mixed [.val] Tryz.func127 rfl rfl (by kernel_rfl) fun zD zE zG zH zI zJ zK zL zM zN zO zR zS zT zU zV zX zY zZ zg zh zj zu zy zz aK ah aI aH ak aq ae aE aB aG ao az aJ an aO au aP ai aM aN ay aw aL ar zW bc A L F hS hF=>?_
  cbv;refine⟨_,hS.call (c1),?_⟩;cbv;refine bF ((rfl:false=false)) ?_;exact hF _ (aS.refl _)
open Go Go.Abs Go.Abs.M Go.Proofs
open Go Go.Abs Go.Abs.M Go.Proofs
open Go Go.Abs Go.Abs.M Go.Proofs
def kM (P:List Rat) (c:Rat) (B:List Rat) (k:Nat):List Rat:=Bu (P++List.replicate (max P.length (B.length+k)-P.length) 0) c B k
open Go Go.Abs Go.Abs.M Go.Proofs
theorem FD (P:List Rat) (c:Rat) (B:List Rat) (k:Nat):(kM P c B k).length=max P.length (B.length+k):=by
 unfold kM Bu;rw[mL,List.length_append,List.length_replicate];omega
theorem FE (P:List Rat) (c:Rat) (B:List Rat) (k j:Nat):(kM P c B k).getD j 0=P.getD j 0+if k<=j then c*B.getD (j-k) 0 else 0:=by
 have hp:∀m,(P++List.replicate m (0:Rat)).getD j 0=P.getD j 0:=fun m=>by
  rw[List.getD_eq_getElem?_getD,List.getD_eq_getElem?_getD,List.getElem?_append];split
  ·rfl
  ·rename_i h
   rw[List.getElem?_eq_none (by omega:P.length<=j),List.getElem?_replicate];split<;>rfl
 unfold kM Bu;rw[wh _ _ (by rw[List.length_append,List.length_replicate];omega),hp]
 by_cases h:k<=j
 ·rw[if_pos h]
  by_cases h2:j<k+B.length
  ·rw[if_pos ⟨h,h2⟩]
  ·rw[if_neg (by omega),List.getD_eq_getElem?_getD,List.getD_eq_getElem?_getD (l:=B),List.getElem?_eq_none (by omega:B.length<=j-k)]
   rw[Option.getD_none,Rat.mul_zero,Rat.add_zero]
 ·rw[if_neg (by omega),if_neg h,Rat.add_zero]
theorem Qs.whole {n:Int} {k:Nat} (h:n.natAbs<4294967296) (hk:1<=k):Qs ((n:Int):Rat) k:=
 ⟨Nat.le_trans (tK (k:=1) (by simp only[Rat.num_intCast];omega)) hk,Nat.le_trans (tK (k:=1) (by simp only[Rat.den_intCast];omega)) hk⟩
open Go Go.Abs Go.Abs.M Go.Proofs
open Go Go.Abs Go.Abs.M Go.Proofs
def oA (P B:List Rat) (R:List Rat):Nat->List Rat
 | 0=>R
 | i+1=>Bu (oA P B R i) (P.getD i 0) B i
def wk (P B:List Rat):List Rat:=oA P B (List.replicate (P.length+B.length-1) 0) P.length
theorem nu (P B R:List Rat):∀i,(oA P B R i).length=R.length
 | 0=>rfl
 | i+1=>by unfold oA Bu;rw[mL,nu P B R i]
open Go Go.Abs Go.Abs.M Go.Proofs
def DH (P B:List Rat) (j:Nat):Nat->Rat
 | 0=>0
 | i+1=>DH P B j i+if i<=j then P.getD i 0*B.getD (j-i) 0 else 0
theorem KF (R B:List Rat) (c:Rat) (k j:Nat) (h:B.length+k<=R.length):(Bu R c B k).getD j 0=R.getD j 0+if k<=j then c*B.getD (j-k) 0 else 0:=by
 unfold Bu;rw[wh _ _ (by omega)]
 by_cases h1:k<=j
 ·rw[if_pos h1]
  by_cases h2:j<k+B.length
  ·rw[if_pos ⟨h1,h2⟩]
  ·rw[if_neg (by omega),List.getD_eq_getElem?_getD (l:=B),List.getElem?_eq_none (by omega:B.length<=j-k)]
   rw[Option.getD_none,Rat.mul_zero,Rat.add_zero]
 ·rw[if_neg (by omega),if_neg h1,Rat.add_zero]
theorem yy {P B R:List Rat} (hl:P.length+B.length<=R.length+1) (j:Nat):∀i,i<=P.length->(oA P B R i).getD j 0=R.getD j 0+DH P B j i
 | 0,_=>by unfold oA DH;rw[Rat.add_zero]
 | i+1,hi=>by
  unfold oA DH;rw[KF _ _ _ _ _ (by rw[nu];omega),yy hl j i (by omega),Rat.add_assoc]
open Go Go.Abs Go.Abs.M Go.Proofs
end Go.Proofs.YtekefilngojelaaGreat
end
section
namespace Go.Abs
theorem mP (P:List Rat):∀k,P.length<=k->gg P k=gg P P.length
 | 0,h=>by rw[show P.length=0 by omega]
 | k+1,h=>by
  by_cases hk:P.length=k+1
  ·rw[hk]
  ·unfold gg
   rw[if_pos (by rw[List.getD_eq_getElem?_getD,List.getElem?_eq_none (by omega)];rfl),mP P k (by omega)];cases hP:P.length<;>rfl
theorem wm {P Q:List Rat} (h:∀j,P.getD j 0=Q.getD j 0):∀k,gg P k=gg Q k
 | 0=>rfl
 | k+1=>by unfold gg;rw[h k,wm h k]
theorem sM {P Q:List Rat} (h:∀j,P.getD j 0=Q.getD j 0):bN P=bN Q:=by
 have e:gg P P.length=gg Q Q.length:=by
  rw[<-mP P (max P.length Q.length) (by omega),<-mP Q (max P.length Q.length) (by omega)];exact wm h _
 have h1:=qT P P.length;have h2:=qT Q Q.length;unfold bN;refine List.ext_getElem? fun i=>?_
 rw[e,List.getElem?_take,List.getElem?_take]
 by_cases hi:i<gg Q Q.length
 ·rw[if_pos hi,if_pos hi]
  have hj:=h i;rw[List.getD_eq_getElem?_getD,List.getD_eq_getElem?_getD,List.getElem?_eq_getElem (by omega:i<P.length),List.getElem?_eq_getElem (by omega:i<Q.length)]at hj;rw[List.getElem?_eq_getElem (by omega:i<P.length),List.getElem?_eq_getElem (by omega:i<Q.length)];exact congrArg some hj
 ·rw[if_neg hi,if_neg hi]
theorem yz (P:List Rat):∀k j,gg P k<=j->j<k->P.getD j 0=0
 | 0,j,_,h=>by omega
 | k+1,j,h,h2=>by
  unfold gg at h
  by_cases h0:P.getD k 0=0
  ·rw[if_pos h0]at h
   by_cases hj:j=k
   ·rw[hj];exact h0
   ·exact yz P k j h (by omega)
  ·rw[if_neg h0]at h;omega
theorem yA (P:List Rat) (j:Nat):(bN P).getD j 0=P.getD j 0:=by
 unfold bN;rw[List.getD_eq_getElem?_getD,List.getElem?_take]
 by_cases h:j<gg P P.length
 ·rw[if_pos h,List.getD_eq_getElem?_getD]
 ·rw[if_neg h,Option.getD_none]
  by_cases h2:j<P.length
  ·exact(yz P _ j (by omega) h2).symm
  ·rw[List.getD_eq_getElem?_getD,List.getElem?_eq_none (by omega)];rfl
theorem kN (P:List Rat):bN (bN P)=bN P:=sM (yA P)
theorem yB (P:List Rat):(bN P).length<=P.length:=by
 unfold bN;rw[List.length_take];omega
theorem H0 {P:List Rat} {q:Rat} (h:q∈bN P):q∈P:=List.mem_of_mem_take h
end Go.Abs
end
section
namespace Go.Proofs.YtekefilngojelaaGreat
open Go Go.Abs Go.Abs.M Go.Proofs
end Go.Proofs.YtekefilngojelaaGreat
end
section
namespace Go.Abs
def ev:List Rat->Rat->Rat
 | [],_=>0
 | c::P,x=>c+x*ev P x
theorem KG (P Q:List Rat) (x:Rat):ev (P++Q) x=ev P x+x^P.length*ev Q x:=by
 induction P with
 | nil=>simp[ev,Rat.zero_add,Rat.one_mul]
 | cons c P ih=>
  simp only[List.cons_append,ev,List.length_cons,Rat.pow_succ];rw[ih];grind
theorem DI (n:Nat) (x:Rat):ev (List.replicate n 0) x=0:=by
 induction n with
 | zero=>rfl
 | succ n ih=>simp only[List.replicate_succ,ev];rw[ih];grind
theorem P8 (l:List Rat) (j:Nat) (d x:Rat) (h:j<l.length):ev (l.set j d) x=ev l x+(d-l.getD j 0)*x^j:=by
 induction l generalizing j with
 | nil=>simp at h
 | cons c l ih=>
  cases j with
  | zero=>simp only[List.set_cons_zero,ev,List.getD_cons_zero,Rat.pow_zero];grind
  | succ j=>
   simp only[List.set_cons_succ,ev,List.getD_cons_succ,Rat.pow_succ];rw[ih j (by simpa using h)];grind
theorem P9 {P Q:List Rat} (h:∀j,P.getD j 0=Q.getD j 0) (x:Rat):ev P x=ev Q x:=by
 induction P generalizing Q with
 | nil=>
  induction Q with
  | nil=>rfl
  | cons d Q ih=>
   have h0:=h 0;simp at h0;have:=ih fun j=>by have:=h (j+1);simpa using this
   simp only[ev]at this ⊢;rw[<-this,<-h0];grind
 | cons c P ih=>
  cases Q with
  | nil=>
   have h0:=h 0;simp at h0;have:=ih (Q:=[]) fun j=>by have:=h (j+1);simpa using this
   simp only[ev]at this ⊢;rw[this,h0];grind
  | cons d Q=>
   have h0:=h 0;simp at h0;have:=ih (Q:=Q) fun j=>by have:=h (j+1);simpa using this
   simp only[ev];rw[this,h0]
theorem nw (P:List Rat) (x:Rat):ev (bN P) x=ev P x:=P9 (yA P) x
theorem qY (B:List Rat) (i:Nat) (x:Rat) (h:i<B.length):ev (B.take (i+1)) x=ev (B.take i) x+B.getD i 0*x^i:=by
 rw[List.take_add_one,KG,List.length_take,Nat.min_eq_left (by omega),List.getD_eq_getElem?_getD,List.getElem?_eq_getElem h];simp only[Option.toList_some,ev,Option.getD_some];grind
theorem DJ (x:Rat) (m:Nat):∀n,x^(m+n)=x^m*x^n
 | 0=>by simp[Rat.mul_one]
 | n+1=>by rw[<-Nat.add_assoc,Rat.pow_succ,Rat.pow_succ,DJ x m n,Rat.mul_assoc]
theorem GQ (R:List Rat) (c:Rat) (B:List Rat) (k:Nat) (x:Rat) (h:B.length+k<=R.length):∀i,i<=B.length->ev (xC R c B k i) x=ev R x+c*x^k*ev (B.take i) x
 | 0,_=>by simp[xC,ev,Rat.mul_zero,Rat.add_zero]
 | i+1,hi=>by
  unfold xC;rw[P8 _ _ _ _ (by rw[mL];omega),GQ R c B k x h i (by omega),qY B i x (by omega),show i+k=k+i by omega,DJ];grind
theorem GR (R:List Rat) (c:Rat) (B:List Rat) (k:Nat) (x:Rat) (h:B.length+k<=R.length):ev (Bu R c B k) x=ev R x+c*x^k*ev B x:=by
 unfold Bu;rw[GQ R c B k x h _ (Nat.le_refl _),List.take_length]
def H2:List Rat->Rat->List Rat
 | [],_=>[]
 | [_],_=>[]
 | _::d::P,r=>ev (d::P) r::H2 (d::P) r
theorem GS:∀(P:List Rat) (r:Rat),(H2 P r).length=P.length-1
 | [],_=>rfl
 | [_],_=>rfl
 | c::d::P,r=>by simp only[H2,List.length_cons];rw[GS (d::P) r];simp
theorem KH:∀(P:List Rat) (r x:Rat),ev P x=ev P r+(x-r)*ev (H2 P r) x
 | [],_,_=>by simp[ev,H2];grind
 | [_],_,_=>by simp[ev,H2];grind
 | c::d::P,r,x=>by
  have ih:=KH (d::P) r x;have e1:ev (c::d::P) x=c+x*ev (d::P) x:=rfl;have e2:ev (c::d::P) r=c+r*ev (d::P) r:=rfl;have e3:ev (H2 (c::d::P) r) x=ev (d::P) r+x*ev (H2 (d::P) r) x:=rfl;rw[e1,e2,e3,ih];grind
theorem DK:∀(P:List Rat) (r:Rat),ev P r=0->(∀j,(H2 P r).getD j 0=0)->∀j,P.getD j 0=0
 | [],_,_,_,_=>by simp
 | [c],r,h,_,j=>by
  simp[ev]at h;cases j with
  | zero=>simpa[Rat.mul_zero,Rat.add_zero]using h
  | succ j=>simp
 | c::d::P,r,h,hs,j=>by
  have h1:ev (d::P) r=0:=by have:=hs 0;simpa[H2]using this
  have ih:=DK (d::P) r h1 fun j=>by have:=hs (j+1);simpa[H2]using this
  have h2:ev (c::d::P) r=c+r*ev (d::P) r:=rfl;cases j with
  | zero=>simp;grind
  | succ j=>simpa using ih j
theorem tR:∀(n:Nat) (P:List Rat) (s:Rat),P.length<=n->(∀x,s<=x->ev P x=0)->∀j,P.getD j 0=0
 | 0,P,s,hl,_,j=>by rw[List.length_eq_zero_iff.1 (by omega:P.length=0)];rfl
 | n+1,P,s,hl,h,j=>by
  have hs:=h s Rat.le_refl;refine DK P s hs (tR n (H2 P s) (s+1) (by rw[GS];omega) fun x hx=>?_) j;have h1:=h x (by grind);have h2:=KH P s x;rw[h1,hs]at h2;have h3:x-s≠0:=by grind
  have h4:(x-s)*ev (H2 P s) x=0:=by grind
  rcases Rat.mul_eq_zero.1 h4 with h5|h5
  ·exact absurd h5 h3
  ·exact h5
theorem M3 {P:List Rat} (h:∀x,ev P x=0) (j:Nat):P.getD j 0=0:=tR P.length P 0 (Nat.le_refl _) (fun x _=>h x) j
end Go.Abs
end
section
namespace Go.Proofs.YtekefilngojelaaGreat
open Go Go.Abs Go.Abs.M Go.Proofs
structure PL (f:Rat->Rat) (n k:Nat) (P:List Rat):Prop where
 tr:bN P=P
 ev:∀x,ev P x=f x
 len:P.length<=n
 sz:∀q∈P,Qs q k
theorem DL (P:List Rat) (c:Rat) (B:List Rat) (k:Nat) (x:Rat):Abs.ev (kM P c B k) x=Abs.ev P x+c*x^k*Abs.ev B x:=by
 unfold kM;rw[GR _ _ _ _ _ (by simp;omega),KG,DI];grind
theorem DM (P B R:List Rat) (x:Rat) (h:P.length+B.length<=R.length+1):∀i,i<=P.length->Abs.ev (oA P B R i) x=Abs.ev R x+Abs.ev (P.take i) x*Abs.ev B x
 | 0,_=>by simp[oA,Abs.ev,Rat.zero_mul,Rat.add_zero]
 | i+1,hi=>by
  unfold oA;rw[GR _ _ _ _ _ (by rw[nu];omega),DM P B R x h i (by omega),qY P i x (by omega)];grind
theorem M4 (P B:List Rat) (x:Rat):Abs.ev (wk P B) x=Abs.ev P x*Abs.ev B x:=by
 unfold wk;rw[DM P B _ x (by simp;omega) _ (Nat.le_refl _),DI,List.take_length,Rat.zero_add]
theorem KI {P Q:List Rat} (h:∀x,Abs.ev P x=Abs.ev Q x) (j:Nat):P.getD j 0=Q.getD j 0:=by
 have h0:=M3 (P:=kM P (-1) Q 0) (fun x=>by rw[DL,h x];grind) j;rw[FE,if_pos (Nat.zero_le _),Nat.sub_zero]at h0;grind
theorem PL.inj {f g:Rat->Rat} {n k m l:Nat} {P Q:List Rat} (h1:PL f n k P) (h2:PL g m l Q) (h:∀x,f x=g x):P=Q:=by
 rw[<-h1.tr,<-h2.tr];exact sM (KI fun x=>by rw[h1.ev,h2.ev,h])
theorem PL.mono {f:Rat->Rat} {n k m l:Nat} {P:List Rat} (h:PL f n k P) (h1:n<=m) (h2:k<=l):PL f m l P:=
 ⟨h.tr,h.ev,Nat.le_trans h.len h1,fun q hq=>(h.sz q hq).mono h2⟩
theorem PL.congr {f g:Rat->Rat} {n k:Nat} {P:List Rat} (h:PL f n k P) (e:∀x,f x=g x):PL g n k P:=
 ⟨h.tr,fun x=>by rw[h.ev,e],h.len,h.sz⟩
theorem PL.nil:PL (fun _=>0) 0 0 []:=⟨rfl,fun _=>rfl,Nat.le_refl _,fun q hq=>by cases hq⟩
theorem Qs.zero {k:Nat}:1<=k->Qs 0 k:=fun h=>Qs.whole (n:=0) (by decide) h
theorem PL.cells {f:Rat->Rat} {n a:Nat} {P:List Rat} (hP:PL f n a P) (h:a<=68719476736):∀c∈P.map qc,c.ok 68719476736:=fun c hc=>by
 obtain⟨q,hq,rfl⟩:=List.mem_map.1 hc;have:=hP.sz q hq;exact⟨ju _,ju _,by show nl q.num.natAbs<=68719476736;have:=this.1;omega,by show nl (q.den:Int).natAbs<=68719476736;rw[Int.natAbs_natCast];have:=this.2;omega⟩
theorem KJ {P B:List Rat} (j:Nat):∀i,i<=j+1->j<i-1+B.length->(∀k,k+1<i->B.getD (j-k) 0=0)->DH P B j i=if i=0 then 0 else P.getD (i-1) 0*B.getD (j-(i-1)) 0
 | 0,_,_,_=>rfl
 | i+1,h1,h2,h3=>by
  unfold DH;rw[if_pos (by omega),if_neg (by omega),show i+1-1=i by omega];have hz:∀k,k<=i->DH P B j k=0:=fun k hk=>by
   induction k with
   | zero=>rfl
   | succ k ih=>
    unfold DH;rw[ih (by omega),if_pos (by omega),h3 k (by omega)];grind
  rw[hz i (Nat.le_refl _),Rat.zero_add]
theorem PL.last {f:Rat->Rat} {n a:Nat} {P:List Rat} (hP:PL f n a P) (h:P≠[]):P.getD (P.length-1) 0≠0:=by
 have h1:gg P P.length=P.length:=by
  have:=congrArg List.length hP.tr;unfold bN at this;rw[List.length_take]at this;have:=qT P P.length;omega
 have h2:P.length≠0:=fun h0=>h (List.length_eq_zero_iff.1 h0)
 have:=sL P P.length (by omega);rwa[h1]at this
theorem KK {P:List Rat} (h:P≠[]) (h0:P.getD (P.length-1) 0≠0):bN P=P:=by
 unfold bN;obtain⟨n,hn⟩:∃n,P.length=n+1:=⟨P.length-1,by have:P.length≠0:=fun h1=>h (List.length_eq_zero_iff.1 h1);omega⟩;rw[hn]at h0 ⊢;unfold gg;rw[if_neg (by simpa using h0),<-hn,List.take_length]
theorem PL.M5 {f g e:Rat->Rat} {n m l a b c:Nat} {P B R:List Rat} (hP:PL f n a P) (hB:PL g m b B) (hR:PL e l c R) (he:∀x,e x=f x*g x) (h1:P≠[]) (h2:B≠[]):R.length=P.length+B.length-1:=by
 have l1:P.length≠0:=fun h=>h1 (List.length_eq_zero_iff.1 h)
 have l2:B.length≠0:=fun h=>h2 (List.length_eq_zero_iff.1 h)
 have hl:(wk P B).length=P.length+B.length-1:=by unfold wk;rw[nu,List.length_replicate]
 have cY:wk P B≠[]:=fun h=>by rw[h]at hl;simp at hl;omega
 have lV:(wk P B).getD ((wk P B).length-1) 0=P.getD (P.length-1) 0*B.getD (B.length-1) 0:=by
  rw[hl];unfold wk;rw[yy (by simp;omega) _ _ (Nat.le_refl _),KJ _ _ (by omega) (by omega) (fun k hk=>by rw[List.getD_eq_getElem?_getD,List.getElem?_eq_none (by omega)];rfl),if_neg l1,show P.length+B.length-1-1-(P.length-1)=B.length-1 by omega];rw[List.getD_eq_getElem?_getD,List.getElem?_replicate];split<;>simp[Rat.zero_add]
 have Vz:(wk P B).getD ((wk P B).length-1) 0≠0:=by
  rw[lV];intro h;rcases Rat.mul_eq_zero.1 h with h|h
  ·exact hP.last h1 h
  ·exact hB.last h2 h
 have:R=wk P B:=by
  rw[<-hR.tr,<-KK cY Vz];exact sM (KI fun x=>by rw[hR.ev,he,M4,hP.ev,hB.ev])
 rw[this,hl]
open Go Go.Abs Go.Abs.M Go.Proofs
theorem bq (x:Rat):∃(s t:Bool) (r p:Abs.Rows),(qc x).row=[.v (.bool s),.aa false r,.v (.bool t),.aa false p]/\wc x s r t p:=⟨_,_,_,_,rfl,ff x⟩
theorem yC {x:Rat} {a:Nat} (h0:x≠0) (h:Qs x a):Qs x⁻¹ a:=by
 obtain⟨i1,i2⟩:=P7 h0;obtain⟨h1,h2⟩:=h;refine⟨?_,?_⟩
 ·rw[i1];split<;>simpa using h2
 ·have:(x⁻¹).den=x.num.natAbs:=by split at i2<;>omega
  rw[this];exact h1
theorem Oe (n:Int) (h1:-9223372036854775808<=n) (h2:n<9223372036854775808) :
  aA Tryz.prog 37 [.val (ti .i64 n)] ⟨[.val (.agg (qc (n:Rat)).row)],[none]⟩:=by
 obtain⟨s,r,v,p,hr,c⟩:=Bv n h1 h2;rw[sJ hr]at c;exact c
theorem H3 {x y:Rat} {a b:Nat} (h1:Qs x a) (h2:Qs y b) (h:a+b<=68719476736) :
  Qs (x*y) (a+b)/\aA Tryz.prog 111 [.val (.agg (qc x).row),.val (.agg (qc y).row)] ⟨[.val (.agg (qc (x*y)).row)],[none,none]⟩:=by
 refine⟨yx h1 h2,?_⟩;obtain⟨u,w,v,p,hr,c⟩:=HV (ff x) (ff y) (h1.mono (by omega)) (h2.mono (by omega));rw[sJ hr]at c;exact c
theorem sN {x y:Rat} {a b:Nat} (h1:Qs x a) (h2:Qs y b) (h:a+b<=68719476736) :
  Qs (x+y) (a+b+1)/\aA Tryz.prog 61 [.val (.agg (qc x).row),.val (.agg (qc y).row)] ⟨[.val (.agg (qc (x+y)).row)],[none,none]⟩:=by
 refine⟨HY h1 h2,?_⟩;obtain⟨u,w,v,p,hr,c⟩:=HW (ff x) (ff y) (h1.mono (by omega)) (h2.mono (by omega));rw[sJ hr]at c;exact c
open Go Go.Abs Go.Abs.M Go.Proofs
theorem FF {x y:Int} {s t:Bool} {r q:Abs.Rows} (hx:eG x s r) (hy:eG y t q) (pF:y≠0) (h1:nl x.natAbs<=274877906944) (h2:nl y.natAbs<=274877906944) :
  ∃u w v p,wc (Rat.divInt x y) u w v p/\aA Tryz.prog 97 [.val (.agg (iT s r)),.val (.agg (iT t q))] ⟨[.val (.agg (iT u w++iT v p)),.val (ti .i64 0)],[none,none]⟩:=by
 obtain⟨u,w,v,p,hr,c⟩:=Ru hx hy pF h1 h2;have cs:=pC (bO y 0) hy rfl;refine⟨u,w,v,p,hr,?_⟩;have e0:bO y 0≠0:=fun h=>pF ((Od _).1 h)
 generalize bO y 0=sg at *;refine aV aD mixed [.val,.val] Tryz.func97 rfl rfl (by kernel_rfl) fun zD zE zG zH zI zJ zK zL zM zN zO zR zS zT zU zV zX zY zZ zg zh zj zu zy zz aK ah aI aH ak aq ae aE aB aG ao az aJ an aO au aP ai aM aN ay aw aL ar zW bc A L F hS hF=>?_
 have z1:zS sg 0=false:=by rw[hS.eq];exact decide_eq_false e0
 cbv;refine⟨_,hS.call (cs),?_⟩;cbv;refine bF (z1) ?_;refine⟨_,hS.call (c),?_⟩;cbv;exact hF _ (aS.refl _)
open Go Go.Abs Go.Abs.M Go.Proofs
structure T2 where
 c:Rat
 a:Int
 b:Int
def T2.row (t:T2):List Tree:=(qc t.c).row++m2 t.a t.b
structure T2.ok (t:T2) (n:Nat) (B:Int):Prop where
 c:Qs t.c n
 a:0<=t.a/\t.a<=B
 b:0<=t.b/\t.b<=B
theorem T2.ok.mono {t:T2} {n m:Nat} {B C:Int} (h:t.ok n B) (hm:n<=m) (hB:B<=C):t.ok m C:=⟨h.c.mono hm,⟨h.a.1,by have:=h.a.2;omega⟩,⟨h.b.1,by have:=h.b.2;omega⟩⟩
def bo (l:List T2):Abs.Rows:=l.map T2.row
theorem sO (l:List T2):(bo l).length=l.length:=by simp[bo]
theorem sQ (l:List T2) (t:T2):bo (l ++ [t])=bo l ++ [t.row]:=by simp[bo]
def pR (s:Bool) (r:Abs.Rows) (v:Bool) (p:Abs.Rows) (a b:Int):List Tree:=[.v (.bool s),.aa false r,.v (.bool v),.aa false p,.v (.int .i64 a),.v (.int .i64 b),.v (.int .i64 0),.v (.int .i64 0),.v (.int .i64 0),.v (.int .i64 0),.v (.int .i64 0),.v (.int .i64 0)]
theorem wq (t:T2):∃(s v:Bool) (r p:Abs.Rows),(qc t.c).row=[.v (.bool s),.aa false r,.v (.bool v),.aa false p]/\t.row=pR s r v p t.a t.b:=by
 obtain⟨s,v,r,p,e,_⟩:=bq t.c;exact⟨s,v,r,p,e,by unfold T2.row m2;rw[e];rfl⟩
theorem j6 {l:List T2} {i:Nat} (hi:i<l.length):∃(t:T2) (s v:Bool) (r p:Abs.Rows),t∈l/\l[i]?=some t/\(qc t.c).row=[.v (.bool s),.aa false r,.v (.bool v),.aa false p]/\(bo l)[i]?=some (pR s r v p t.a t.b)/\t.row=pR s r v p t.a t.b/\l.take (i+1)=l.take i ++ [t]/\l.drop i=t::l.drop (i+1):=by
 obtain⟨s,v,r,p,e,e2⟩:=wq l[i];exact⟨l[i],s,v,r,p,List.getElem_mem hi,List.getElem?_eq_getElem hi,e,by rw[<-e2];simp[bo,hi],e2,by rw[List.take_add_one,List.getElem?_eq_getElem hi];rfl,List.drop_eq_getElem_cons hi⟩
def ia (l:List T2):Int:=l.foldl (fun d t=>if t.a+t.b>d then t.a+t.b else d) (-1)
def yD (X:Abs.Rows) (d:Int) (I:Int):St:=aC 20 [.c (.t (.aa false X)),.aj,vi .i64 0,vi .i64 d,vi .i64 I] [none]
theorem FG (l:List T2) (hl:∀t∈l,t.ok 1000 30000) (hn:l.length<=1000):aA Tryz.prog 59 [.val (tl (bo l))] ⟨[.val (ti .i64 (ia l))],[none]⟩:=by
 obtain⟨X,hX⟩:∃X,X=bo l:=⟨_,rfl⟩;obtain⟨n,kZ⟩:∃n,n=l.length:=⟨_,rfl⟩;have lX:X.length=n:=by rw[hX,sO,kZ]
 rw[<-hX];refine aV aD mixed [.val] Tryz.func59 rfl rfl (by kernel_rfl) fun zD zE zG zH zI zJ zK zL zM zN zO zR zS zT zU zV zX zY zZ zg zh zj zu zy zz aK ah aI aH ak aq ae aE aB aG ao az aJ an aO au aP ai aM aN ay aw aL ar zW bc A L F hS hF=>?_
 have lE:=hS.qQ lX;cbv;refine nN aD mixed hS (n:=n) (fun i (d:Int)=>yD X d (Int.ofNat i)) (fun i d=>d=ia (l.take i)) (a0:=-1) (iY ?_ ?_) rfl (Nat.le_refl 1) rfl ?_ ?_
 ·simp[eC,yD,aC,vi,vb]
 ·simp[eF,yD,aC]
 ·intro i d hi hd
  obtain⟨l1,i1,j1,n0⟩:=hS.xt lX hi (by omega);obtain⟨t,s,v,r,p,ht,_,_,hr,_,il,_⟩:=j6 (l:=l) (i:=i) (by omega);have j2:aE X i=some (pR s r v p t.a t.b):=by rw[hS.nth,hX];exact hr
  have cd:=HM t.a t.b (by have:=(hl t ht).a;omega) (by have:=(hl t ht).b;omega);have Vx:zg d (t.a+t.b)=ia (l.take (i+1)):=by rw[hS.max,hd,il];unfold ia;rw[List.foldl_append];rfl
  obtain⟨u,hu⟩:∃u,u=t.a+t.b:=⟨_,rfl⟩;obtain⟨d2,hd3⟩:∃u,u=ia (l.take (i+1)):=⟨_,rfl⟩;rw[<-hu]at cd Vx;rw[<-hd3]at Vx;unfold m2 at cd;cbv;refine bT l1 ?_;rw[j1,j2];cbv;refine nd (n0) ?_;refine⟨_,hS.call (cd),?_⟩;cbv;refine bR [] d2 ?_ ?_ ?_ ?_ rfl (Nat.le_refl 1) hd3
  ·simp[bV,yD,aC,vi,AV.aX,AV.bA,Cell.aX,i1,Vx]
  ·simp[bW,yD,aC]
  ·simp[bf,yD,aC]
  ·simp
 ·intro d hd
  cbv;refine bF lE ?_;refine bX hF (lh ?_);rw[hd,kZ,List.take_length]
open Go Go.Abs Go.Abs.M Go.Proofs
theorem H4 {x y:Rat} (h1:x<y) (h2:y<x):False:=by grind
theorem H5 (x y:Rat):(jl x y<0↔x<y)/\(0<jl x y↔y<x):=by
 unfold jl
 by_cases h1:x<y
 ·rw[if_pos h1]
  have:¬y<x:=fun h2=>H4 h1 h2
  simp[h1,this]
 ·rw[if_neg h1]
  by_cases h2:y<x
  ·rw[if_pos h2];simp[h1,h2]
  ·rw[if_neg h2];simp[h1,h2]
end Go.Proofs.YtekefilngojelaaGreat
end
