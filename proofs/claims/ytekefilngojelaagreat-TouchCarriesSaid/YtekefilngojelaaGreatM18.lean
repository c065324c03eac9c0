/- A part. -/
import Derived.Below
import Derived.ChangeSame
import Derived.Carry
import Derived.ProofKit
import Derived.WideKeyArgs
import Derived.OpenShut
import Derived.WalkKit
import Derived.Test.YtekefilngojelaaGreatM9
import Derived.Test.YtekefilngojelaaGreatM10
import Derived.Test.YtekefilngojelaaGreatM14
import Derived.Test.YtekefilngojelaaGreatM15
import Derived.Test.YtekefilngojelaaGreatM16
import Derived.Test.YtekefilngojelaaGreatM17
set_option maxHeartbeats 0
set_option maxRecDepth 100000
set_option linter.unusedVariables false
set_option linter.unusedSimpArgs false
set_option linter.unusedSectionVars false
section
namespace Go.Proofs.YtekefilngojelaaGreat
open Go Go.Abs Go.Abs.M Go.Proofs
structure BsO (m:Nat) (C:fi) (G:aS) (O:List R8):Prop where
 g:G.length<=3
 s:∀p∈G,SP p
 o:Jl O
 c:K8 C G.length m
structure Ru (m:Nat) (C:fi) (G:aS) (O:List R8) (Q Sx:fi):Prop extends BsO m C G O where
 q:K8 Q m G.length
 x:K8 Sx (G.length*(G.length-1)/2) G.length
structure RsO (U U1:List Rat) (At:List (Rat×Rat)) (a:Int):Prop where
 a:DO a
 u:OU U
 u1:OU U1
 t:∀q∈At,Qs q.1 100/\Qs q.2 100/\q.1<=q.2
 l:At.length<=3
inductive kf (m:Nat):Int->aS->fi->jJ->Prop
 | k1 (P:List T2) (aG:aS):SP P->aG.length=m->(∀p∈aG,SP p)->kf m 1 aG [] {kE with P:=aP P}
 | k2 (P:List T2) (C:fi) (G:aS) (O:List R8) (Q Sx:fi):SP P->Ru m C G O Q Sx->kf m 2 [] C {kE with P:=aP P,G:=aj G,eO:=iE O,Q:=dL Q,Sx:=dL Sx}
 | k3 (n:Int) (aG:aS):1<=n/\n<=4->aG.length=m->(∀p∈aG,SP p)->kf m 3 aG [] {kE with eN:=n}
 | k4 (O1:List R8) (Lc:aS) (C:fi) (G:aS) (O:List R8) (Q Sx:fi):Jl O1->(∀p∈Lc,SP p)->Lc.length<=3->Ru m C G O Q Sx->kf m 4 [] C {kE with O:=iE O1,Lc:=aj Lc,G:=aj G,eO:=iE O,Q:=dL Q,Sx:=dL Sx}
 | k5 (cn cd:Int) (C:fi) (G:aS) (O:List R8) (Q Sx:fi):0<=cn/\cn<=15->-1<=cd/\cd<=2->Ru m C G O Q Sx->kf m 5 [] C {kE with cn:=cn,cd:=cd,G:=aj G,eO:=iE O,Q:=dL Q,Sx:=dL Sx}
 | k6 (cn cd cr:Int) (C:fi) (G:aS) (O:List R8) (Q Sx:fi):0<=cn/\cn<=7->0<=cr/\cr<=cd/\cd<=cn->Ru m C G O Q Sx->kf m 6 [] C {kE with cn:=cn,cd:=cd,cr:=cr,G:=aj G,eO:=iE O,Q:=dL Q,Sx:=dL Sx}
 | k7 (Z:List Bx) (C:fi) (G:aS) (O:List R8) (Q Sx:fi) (U U1:List Rat) (At:List (Rat×Rat)) (a:Int):(∀x∈Z,x.fit)->Z.length<=3->Ru m C G O Q Sx->RsO U U1 At a->kf m 7 [] C {kE with B:=uk Z,G:=aj G,eO:=iE O,Q:=dL Q,Sx:=dL Sx,r0:=1,r1:=a,r8:=ur U,Ts:=ur U1,At:=KO At}
 | k8 (P:List T2) (Z:List Bx) (Sg:List Int) (C:fi) (G:aS) (O:List R8) (Q Sx:fi) (U U1:List Rat) (At:List (Rat×Rat)) (a:Int):SP P->(∀x∈Z,x.fit)->Z.length<=3->(∀x∈Sg,-1<=x/\x<=1)->Sg.length=Z.length->Ru m C G O Q Sx->RsO U U1 At a->kf m 8 [] C {kE with P:=aP P,S:=F9 Sg,B:=uk Z,G:=aj G,eO:=iE O,Q:=dL Q,Sx:=dL Sx,r0:=1,r1:=a,r8:=ur U,Ts:=ur U1,At:=KO At}
 | k9 (aG:aS) (Sq:List (Rat×List T2)):aG.length=m->(∀p∈aG,SP p)->(∀x∈Sq,Qs x.1 100/\SP x.2)->Sq.length<=3->kf m 9 aG [] {kE with Sq:=KQ Sq}
 | KN (P:List T2) (aG:aS) (Sq:List (Rat×List T2)):SP P->aG.length=m->(∀p∈aG,SP p)->(∀x∈Sq,Qs x.1 100/\SP x.2)->Sq.length<=3->kf m 10 aG [] {kE with P:=aP P,Sq:=KQ Sq}
 | Ow (Lc:aS) (C:fi):(∀p∈Lc,SP p)->Lc.length<=3->K8 C (1+Lc.length*(Lc.length+1)/2) m->kf m 11 [] C {kE with Lc:=aj Lc}
 | TJ (cn:Int) (C:fi) (G:aS) (O:List R8):0<=cn/\cn<=7->BsO m C G O->kf m 12 [] C {kE with cn:=cn,G:=aj G,eO:=iE O}
 | YI (cn:Int) (Xs:List Q8) (Bs:List Bx):0<=cn/\cn<=7->(∀q∈Xs,q.fit)->Xs.length<=3->(∀q∈Bs,q.fit)->Bs.length<=3->kf m 13 [] [] {kE with cn:=cn,X:=Jk Xs,eB:=uk Bs}
theorem SP.UN {p:List T2} (h:SP p):VP p 64:=h.vp.mono (by omega)
theorem SP.nil:SP []:=⟨by simp,⟨by simp,by simp⟩,by simp,by decide⟩
theorem K8.o {C:fi} {r c:Nat} (h:K8 C r c):WU C r c:=⟨h.1,fun p hp=>⟨(h.2 p hp).1,fun q hq=>((h.2 p hp).2 q hq).UN⟩⟩
end Go.Proofs.YtekefilngojelaaGreat
end
section
namespace Go.Abs
def xV:List Rat->List Rat->List Rat
 | [],Q=>Q
 | c::P,[]=>c::P
 | c::P,d::Q=>(c+d)::xV P Q
def Ql (c:Rat) (P:List Rat):List Rat:=P.map (c*·)
def NG:List Rat->List Rat->List Rat
 | [],_=>[]
 | c::P,B=>xV (Ql c B) (0::NG P B)
theorem vU:∀(P Q:List Rat) (x:Rat),ev (xV P Q) x=ev P x+ev Q x
 | [],Q,x=>by simp[xV,ev,Rat.zero_add]
 | c::P,[],x=>by simp[xV,ev,Rat.add_zero]
 | c::P,d::Q,x=>by simp only[xV,ev];rw[vU P Q x];grind
theorem DU (c:Rat):∀(P:List Rat) (x:Rat),ev (Ql c P) x=c*ev P x
 | [],x=>by simp[Ql,ev,Rat.mul_zero]
 | d::P,x=>by have:=DU c P x;simp only[Ql,List.map_cons,ev]at this ⊢;rw[this];grind
theorem Jo:∀(P B:List Rat) (x:Rat),ev (NG P B) x=ev P x*ev B x
 | [],B,x=>by simp[NG,ev,Rat.zero_mul]
 | c::P,B,x=>by
  simp only[NG];rw[vU,DU];simp only[ev];rw[Jo P B x];grind
theorem W8 {q:Rat} {n d:Int} (hd:0<d) (h:q*(d:Rat)=(n:Rat)):q.num.natAbs<=n.natAbs/\(q.den:Int)<=d:=by
 have Uy:(d:Rat)≠0:=fun h0=>by rw[Rat.intCast_eq_zero_iff]at h0;omega
 have hq:Rat.divInt n d=q:=by
  rw[Rat.divInt_eq_div,<-h,Rat.div_def,Rat.mul_assoc,Rat.mul_inv_cancel _ Uy,Rat.mul_one]
 obtain⟨num,den,nz,red⟩:=q;obtain⟨m,yu,h1,h2⟩:=Rat.divInt_num_den (by omega) hq;have hm:0<m:=by
  rcases Int.lt_trichotomy m 0 with h3|h3|h3
  ·have:(den:Int)*m<=0:=Int.mul_nonpos_of_nonneg_of_nonpos (by omega) (by omega)
   omega
  ·exact absurd h3 yu
  ·exact h3
 refine⟨?_,?_⟩
 ·show num.natAbs<=n.natAbs
  rw[h1,Int.natAbs_mul];exact Nat.le_mul_of_pos_right _ (by omega)
 ·show(den:Int)<=d
  rw[h2];have:(den:Int)*1<=den*m:=Int.mul_le_mul_of_nonneg_left (by omega) (by omega);omega
structure CD (M d:Int) (f:Nat->Rat):Prop where
 pos:0<d
 num:∀j,∃n:Int,-M<=n/\n<=M/\f j*(d:Rat)=(n:Rat)
def CF (s:Nat) (f:Nat->Rat):Prop:=∃d:Int,d<=2^s/\CD (2^s) d f
theorem sN {s t:Nat} (h:s<=t):(2:Int)^s<=2^t:=by
 have:=Nat.pow_le_pow_right (n:=2) (by omega) h
 exact_mod_cast this
theorem two_pow_pos (s:Nat):(0:Int)<2^s:=by
 have:=Nat.two_pow_pos s
 exact_mod_cast this
theorem CD.mono {M N d:Int} {f:Nat->Rat} (h:CD M d f) (hM:M<=N):CD N d f:=
 ⟨h.pos,fun j=>by obtain⟨n,h1,h2,h3⟩:=h.num j;exact⟨n,by omega,by omega,h3⟩⟩
theorem CF.mono {s t:Nat} {f:Nat->Rat} (h:CF s f) (dR:s<=t):CF t f:=by
 obtain⟨d,h1,h2⟩:=h;have:=sN dR;exact⟨d,by omega,h2.mono this⟩
theorem CF.congr {s:Nat} {f g:Nat->Rat} (h:CF s f) (e:∀j,f j=g j):CF s g:=by
 have:f=g:=funext e;exact this▸h
theorem CF.comp {s:Nat} {f:Nat->Rat} (h:CF s f) (k:Nat->Nat):CF s (fun j=>f (k j)):=by
 obtain⟨d,h1,h2⟩:=h;exact⟨d,h1,h2.pos,fun j=>h2.num (k j)⟩
theorem CF.pick {s:Nat} {f:Nat->Rat} (h:CF s f) (p:Nat->Bool):CF s (fun j=>if p j=true then f j else 0):=by
 obtain⟨d,h1,h2⟩:=h;have:=two_pow_pos s;refine⟨d,h1,h2.pos,fun j=>?_⟩
 by_cases hp:p j=true
 ·rw[if_pos hp];exact h2.num j
 ·rw[if_neg hp];exact⟨0,by omega,by omega,by rw[Rat.zero_mul];rfl⟩
theorem CF.zero (s:Nat):CF s (fun _=>0):=by
 have:=two_pow_pos s;exact⟨1,by omega,by omega,fun j=>⟨0,by omega,by omega,by rw[Rat.zero_mul];rfl⟩⟩
theorem Oy {a b M N:Int} (h1:-M<=a) (h2:a<=M) (h3:-N<=b) (h4:b<=N):-(M*N)<=a*b/\a*b<=M*N:=by
 have e1:0<=(M-a)*(N-b):=Int.mul_nonneg (by omega) (by omega);have e2:0<=(M+a)*(N+b):=Int.mul_nonneg (by omega) (by omega);have e3:0<=(M-a)*(N+b):=Int.mul_nonneg (by omega) (by omega);have e4:0<=(M+a)*(N-b):=Int.mul_nonneg (by omega) (by omega);constructor<;>grind
theorem CF.add {s t:Nat} {f g:Nat->Rat} (hf:CF s f) (hg:CF t g):CF (s+t+1) (fun j=>f j+g j):=by
 obtain⟨d,h1,h2⟩:=hf;obtain⟨e,h3,h4⟩:=hg;have p1:=two_pow_pos s;have p2:=two_pow_pos t;have hd:=h2.pos;have he:=h4.pos;have e1:(2:Int)^(s+t+1)=2*(2^s*2^t):=by rw[Int.pow_succ,Int.pow_add];omega
 rw[CF,e1];have b0:=Oy (a:=d) (b:=e) (M:=2^s) (N:=2^t) (by omega) (by omega) (by omega) (by omega);have bp:0<d*e:=Int.mul_pos hd he;refine⟨d*e,by omega,bp,fun j=>?_⟩;obtain⟨n,n1,n2,n3⟩:=h2.num j;obtain⟨m,m1,m2,m3⟩:=h4.num j;have b1:=Oy (a:=n) (b:=e) (M:=2^s) (N:=2^t) (by omega) (by omega) (by omega) (by omega);have b2:=Oy (a:=d) (b:=m) (M:=2^s) (N:=2^t) (by omega) (by omega) (by omega) (by omega)
 refine⟨n*e+d*m,by omega,by omega,?_⟩;rw[Rat.intCast_add,Rat.intCast_mul,Rat.intCast_mul,Rat.intCast_mul,<-n3,<-m3];grind
theorem CF.neg {s:Nat} {f:Nat->Rat} (hf:CF s f):CF s (fun j=>-f j):=by
 obtain⟨d,h1,h2⟩:=hf;refine⟨d,h1,h2.pos,fun j=>?_⟩;obtain⟨n,n1,n2,n3⟩:=h2.num j;refine⟨-n,by omega,by omega,?_⟩;rw[Rat.intCast_neg,<-n3];grind
theorem CF.whole {n:Int} {s:Nat} (h1:-2^s<=n) (h2:n<=2^s):CF s (fun _=>(n:Rat)):=by
 have:=two_pow_pos s;exact⟨1,by omega,by omega,fun j=>⟨n,h1,h2,by show(n:Rat)*1=n;rw[Rat.mul_one]⟩⟩
theorem CF.wt {s t:Nat} {f:Nat->Rat} (hf:CF s f) (c:Nat->Int) (hc:∀j,f j=0∨(-2^t<=c j/\c j<=2^t)):CF (s+t) (fun j=>(c j:Rat)*f j):=by
 obtain⟨d,h1,h2⟩:=hf;have p1:=two_pow_pos s;have p2:=two_pow_pos t;have hd:=h2.pos;have b0:=Oy (a:=d) (b:=1) (M:=2^s) (N:=2^t) (by omega) (by omega) (by omega) (by omega);rw[CF,Int.pow_add];refine⟨d,by omega,hd,fun j=>?_⟩;obtain⟨n,n1,n2,n3⟩:=h2.num j;rcases hc j with h|⟨h3,h4⟩
 ·refine⟨0,by omega,by omega,?_⟩
  show(c j:Rat)*f j*_=_
  rw[h,Rat.mul_zero,Rat.zero_mul];rfl
 ·have b1:=Oy (a:=n) (b:=c j) (M:=2^s) (N:=2^t) (by omega) (by omega) h3 h4
  refine⟨n*c j,b1.1,b1.2,?_⟩;rw[Rat.intCast_mul,<-n3];grind
theorem CF.nd {s:Nat} {f:Nat->Rat} (hf:CF s f) (j:Nat):((f j).num.natAbs:Int)<=2^s/\((f j).den:Int)<=2^s:=by
 obtain⟨d,h1,h2⟩:=hf;obtain⟨n,n1,n2,n3⟩:=h2.num j;obtain⟨q1,q2⟩:=W8 h2.pos n3;exact⟨by omega,by omega⟩
def NH (s:Nat) (f g:Nat->Rat):Prop:=∃d:Int,d<=2^s/\CD (2^s) d f/\CD (2^s) d g
theorem NH.mono {s t:Nat} {f g:Nat->Rat} (h:NH s f g) (dR:s<=t):NH t f g:=by
 obtain⟨d,h1,h2,h3⟩:=h;have:=sN dR;exact⟨d,by omega,h2.mono this,h3.mono this⟩
theorem NH.left {s:Nat} {f g:Nat->Rat} (h:NH s f g):CF s f:=by obtain⟨d,h1,h2,h3⟩:=h;exact⟨d,h1,h2⟩
theorem NH.right {s:Nat} {f g:Nat->Rat} (h:NH s f g):CF s g:=by obtain⟨d,h1,h2,h3⟩:=h;exact⟨d,h1,h3⟩
theorem NH.round {s t:Nat} {f g b:Nat->Rat} {v:Rat} {n:Nat} (h:NH s f g) (hb:CF t b) (hv:b n*v=1) (top i:Nat) :
  NH (s+t+1) (fun j=>f j+if i<=j then -(f top*v)*b (j-i) else 0) (fun j=>if j=i then f top*v else g j):=by
 obtain⟨d,h1,h2,h3⟩:=h;obtain⟨e,h4,h5⟩:=hb;obtain⟨m,m1,m2,m3⟩:=h5.num n;have hd:=h2.pos;have he:=h5.pos;have p1:=two_pow_pos s;have p2:=two_pow_pos t;have UD:(e:Rat)≠0:=fun h=>by rw[Rat.intCast_eq_zero_iff]at h;omega
 have yu:m≠0:=fun h=>by
  rw[h]at m3;rcases Rat.mul_eq_zero.1 (show b n*(e:Rat)=0 from m3) with h'|h'
  ·rw[h',Rat.zero_mul]at hv;exact absurd hv (by decide)
  ·exact UD h'
 have e1:(2:Int)^(s+t+1)=2*(2^s*2^t):=by rw[Int.pow_succ,Int.pow_add];omega
 have e2:(0:Int)<=2^s*2^t:=Int.mul_nonneg (by omega) (by omega);have hs:∃(w:Int) (y:Nat->Int),0<w/\w<=2^t/\(∀j,-2^t<=y j/\y j<=2^t/\v*b j*(w:Rat)=(y j:Rat))/\∃z:Int,-2^t<=z/\z<=2^t/\v*(w:Rat)=(z:Rat):=by
  have Rq:v*(m:Rat)=(e:Rat):=by rw[<-m3];grind
  have hj:∀j,∃x:Int,-2^t<=x/\x<=2^t/\v*b j*(m:Rat)=(x:Rat):=fun j=>by
   obtain⟨x,x1,x2,x3⟩:=h5.num j;refine⟨x,x1,x2,?_⟩;rw[<-x3,<-Rq];grind
  rcases Int.lt_or_le m 0 with hm|hm
  ·refine⟨-m,fun j=>-(hj j).choose,by omega,by omega,fun j=>?_,-e,by omega,by omega,?_⟩
   ·obtain⟨x1,x2,x3⟩:=(hj j).choose_spec
    show -2^t <= -(hj j).choose /\ -(hj j).choose<=2^t/\v*b j*((-m:Int):Rat)=((-(hj j).choose:Int):Rat)
    refine⟨by omega,by omega,?_⟩;rw[Rat.intCast_neg,Rat.intCast_neg,<-x3];grind
   ·rw[Rat.intCast_neg,Rat.intCast_neg,<-Rq];grind
  ·exact⟨m,fun j=>(hj j).choose,by omega,by omega,fun j=>(hj j).choose_spec,e,by omega,by omega,Rq⟩
 obtain⟨w,y,w1,w2,hy,z,z1,z2,z3⟩:=hs;obtain⟨x,x1,x2,x3⟩:=h2.num top;have bp:0<d*w:=Int.mul_pos hd w1;have b0:=Oy (a:=d) (b:=w) (M:=2^s) (N:=2^t) (by omega) (by omega) (by omega) (by omega);rw[NH,e1];refine⟨d*w,by omega,⟨bp,fun j=>?_⟩,⟨bp,fun j=>?_⟩⟩
 ·obtain⟨a,a1,a2,a3⟩:=h2.num j
  have b1:=Oy (a:=a) (b:=w) a1 a2 (N:=2^t) (by omega) (by omega)
  by_cases Ed:i<=j
  ·obtain⟨y1,y2,y3⟩:=hy (j-i)
   have b2:=Oy x1 x2 y1 y2;refine⟨a*w-x*y (j-i),by omega,by omega,?_⟩;rw[if_pos Ed,Rat.intCast_sub,Rat.intCast_mul,Rat.intCast_mul,Rat.intCast_mul,<-a3,<-x3,<-y3];grind
  ·refine⟨a*w,by omega,by omega,?_⟩
   rw[if_neg Ed,Rat.intCast_mul,Rat.intCast_mul,<-a3];grind
 ·by_cases Ed:j=i
  ·have b2:=Oy x1 x2 z1 z2
   refine⟨x*z,by omega,by omega,?_⟩;rw[if_pos Ed,Rat.intCast_mul,Rat.intCast_mul,<-x3,<-z3];grind
  ·obtain⟨a,a1,a2,a3⟩:=h3.num j
   have b1:=Oy (a:=a) (b:=w) a1 a2 (N:=2^t) (by omega) (by omega);refine⟨a*w,by omega,by omega,?_⟩;rw[if_neg Ed,Rat.intCast_mul,Rat.intCast_mul,<-a3];grind
end Go.Abs
end
section
namespace Go.Proofs.YtekefilngojelaaGreat
open Go Go.Abs Go.Abs.M Go.Proofs
theorem Ii (s:Nat):(2:Int)^s<4294967296^(s/32+1):=by
 obtain⟨t,ht⟩:∃t,t=32*(s/32+1):=⟨_,rfl⟩;have h1:(2:Nat)^s<2^t:=Nat.pow_lt_pow_right (by omega) (by omega);have h2:(2:Int)^s<2^t:=by exact_mod_cast h1
 rw[ht,Int.pow_mul,show((2:Int)^32)=4294967296 from by decide]at h2;exact h2
theorem W9 {s:Nat} {f:Nat->Rat} (h:CF s f) (j:Nat):Qs (f j) (s/32+1):=by
 obtain⟨h1,h2⟩:=h.nd j;have:=Ii s;exact⟨tU (by omega),tU (by omega)⟩
theorem TL {s:Nat} {P:List Rat} (h:CF s (fun j=>P.getD j 0)):∀q∈P,Qs q (s/32+1):=fun q hq=>by
 obtain⟨j,hj⟩:=List.getElem?_of_mem hq;have:=W9 h j;rw[List.getD_eq_getElem?_getD,hj]at this;exact this
structure PB (f:Rat->Rat) (n s:Nat) (P:List Rat):Prop where
 tr:bW P=P
 ev:∀x,Abs.ev P x=f x
 len:P.length<=n
 cf:CF s (fun j=>P.getD j 0)
theorem PB.pl {f:Rat->Rat} {n s:Nat} {P:List Rat} (h:PB f n s P):PL f n (s/32+1) P:=⟨h.tr,h.ev,h.len,TL h.cf⟩
theorem PB.mono {f:Rat->Rat} {n s m t:Nat} {P:List Rat} (h:PB f n s P) (h1:n<=m) (h2:s<=t):PB f m t P:=⟨h.tr,h.ev,Nat.le_trans h.len h1,h.cf.mono h2⟩
theorem PB.congr {f g:Rat->Rat} {n s:Nat} {P:List Rat} (h:PB f n s P) (e:∀x,f x=g x):PB g n s P:=⟨h.tr,fun x=>by rw[h.ev,e],h.len,h.cf⟩
theorem PB.nil (s:Nat):PB (fun _=>0) 0 s []:=⟨rfl,fun _=>rfl,Nat.le_refl _,(CF.zero s).congr fun j=>by simp⟩
theorem PB.inj {f g:Rat->Rat} {n k m l:Nat} {P Q:List Rat} (h1:PB f n k P) (h2:PB g m l Q) (h:∀x,f x=g x):P=Q:=h1.pl.inj h2.pl h
theorem NI:∀P:List Rat,∃k,∀q∈P,Qs q k
 | []=>⟨0,fun q hq=>by cases hq⟩
 | p::P=>by
  obtain⟨k,hk⟩:=NI P;refine⟨k+nl p.num.natAbs+nl p.den,fun q hq=>?_⟩;rcases List.mem_cons.1 hq with h|h
  ·subst h;exact⟨by omega,by omega⟩
  ·exact(hk q h).mono (by omega)
theorem PL.any {P:List Rat} (h:bW P=P):∃k,PL (Abs.ev P) P.length k P:=by
 obtain⟨k,hk⟩:=NI P;exact⟨k,h,fun _=>rfl,Nat.le_refl _,hk⟩
theorem Ij {P Q:List Rat} (hP:bW P=P) (hQ:bW Q=Q) (h:∀x,Abs.ev P x=Abs.ev Q x):P=Q:=by
 obtain⟨k,h1⟩:=PL.any hP;obtain⟨l,h2⟩:=PL.any hQ;exact h1.inj h2 h
theorem NJ {P:List Rat} (hP:bW P=P) (h:∀x,Abs.ev P x=0):P=[]:=Ij hP (Q:=[]) rfl h
theorem NK {P B R:List Rat} (hP:bW P=P) (hB:bW B=B) (hR:bW R=R) (he:∀x,Abs.ev R x=Abs.ev P x*Abs.ev B x) (h1:P≠[]) (h2:B≠[]):R.length+1=P.length+B.length:=by
 obtain⟨k,p1⟩:=PL.any hP;obtain⟨l,p2⟩:=PL.any hB;obtain⟨m,p3⟩:=PL.any hR;have:=PL.PF p1 p2 p3 he h1 h2;have l1:P.length≠0:=fun h=>h1 (List.length_eq_zero_iff.1 h)
 have l2:B.length≠0:=fun h=>h2 (List.length_eq_zero_iff.1 h)
 omega
theorem NL {B Q R Q' R':List Rat} (hQ:bW Q=Q) (hR:bW R=R) (hQ':bW Q'=Q') (ia:bW R'=R') (hB:bW B=B) (h1:R.length<B.length) (h2:R'.length<B.length)
  (h:∀x,Abs.ev Q x*Abs.ev B x+Abs.ev R x=Abs.ev Q' x*Abs.ev B x+Abs.ev R' x):Q=Q'/\R=R':=by
 have hB0:B≠[]:=fun h0=>by rw[h0]at h1;simp at h1
 have e1:∀x,Abs.ev (bW (xV Q (Ql (-1) Q'))) x*Abs.ev B x=Abs.ev (bW (mz R' (-1) R 0)) x:=fun x=>by
  rw[oK,oK,vU,DU,FQ];have:=h x;grind
 have hz:bW (xV Q (Ql (-1) Q'))=[]:=by
  rcases Classical.em (bW (xV Q (Ql (-1) Q'))=[]) with h0|h0
  ·exact h0
  ·have:=NK (mA _) hB (mA _) (fun x=>(e1 x).symm) h0 hB0
   have l1:(bW (xV Q (Ql (-1) Q'))).length≠0:=fun h=>h0 (List.length_eq_zero_iff.1 h)
   have l2:=Be (mz R' (-1) R 0);rw[HO]at l2;omega
 have e2:∀x,Abs.ev Q x=Abs.ev Q' x:=fun x=>by
  have:Abs.ev (bW (xV Q (Ql (-1) Q'))) x=0:=by rw[hz];rfl
  rw[oK,vU,DU]at this;grind
 refine⟨Ij hQ hQ' e2,Ij hR ia fun x=>?_⟩;have:=h x;rw[e2 x]at this;grind
def Dv (D A:List Rat):Prop:=∃H:List Rat,∀x,Abs.ev A x=Abs.ev H x*Abs.ev D x
theorem Dv.refl (A:List Rat):Dv A A:=⟨[1],fun x=>by simp only[Abs.ev];grind⟩
theorem Dv.trans {A B C:List Rat} (h1:Dv A B) (h2:Dv B C):Dv A C:=by
 obtain⟨H,h1⟩:=h1;obtain⟨K,h2⟩:=h2;exact⟨NG K H,fun x=>by rw[h2,h1,Jo];grind⟩
theorem Dv.zero {D A:List Rat} (h:∀x,Abs.ev A x=0):Dv D A:=⟨[],fun x=>by rw[h];simp only[Abs.ev];grind⟩
theorem Dv.congr {D A D' A':List Rat} (h:Dv D A) (h1:∀x,Abs.ev D x=Abs.ev D' x) (h2:∀x,Abs.ev A x=Abs.ev A' x):Dv D' A':=by
 obtain⟨H,h⟩:=h;exact⟨H,fun x=>by rw[<-h2,h,h1]⟩
theorem Dv.len {D A:List Rat} (hD:bW D=D) (hA:bW A=A) (h:Dv D A) (h0:A≠[]):D≠[]/\D.length<=A.length:=by
 obtain⟨H,h⟩:=h;have hD0:D≠[]:=fun h1=>h0 (NJ hA fun x=>by rw[h,h1];simp only[Abs.ev];grind)
 have hH0:bW H≠[]:=fun h1=>h0 (NJ hA fun x=>by rw[h,<-oK H,h1];simp only[Abs.ev];grind)
 have:=NK (mA H) hD hA (fun x=>by rw[h,oK]) hH0 hD0;have l1:(bW H).length≠0:=fun h=>hH0 (List.length_eq_zero_iff.1 h)
 exact⟨hD0,by omega⟩
theorem Dv.rest {P B Q R:List Rat} (hQ:bW Q=Q) (hR:bW R=R) (hB:bW B=B) (h1:R.length<B.length) (h:∀x,Abs.ev P x=Abs.ev Q x*Abs.ev B x+Abs.ev R x) (hd:Dv B P):R=[]:=by
 obtain⟨H,hH⟩:=hd;exact(NL hQ hR (mA H) (R':=[]) rfl hB h1 (by simp;omega) (fun x=>by rw[<-h,hH,oK];simp only[Abs.ev];grind)).2
def Xa (x y:Rat):Rat:=if x<=y then x else y
def Xb (x y:Rat):Rat:=if y<=x then x else y
end Go.Proofs.YtekefilngojelaaGreat
end
section
namespace Go.Abs
open Go.RowKit Go.WideShapes Go.ChangeShapes
theorem fp.below {w w':World} (h:fp (fun _ _=>False) w w'):Below w.heap.size w w':=by
 refine⟨h.os,h.tape,h.output,h.size,fun k hk=>?_⟩;have hg:w.heap[k]?=some w.heap[k]:=Array.getElem?_eq_getElem hk;have:=h.obj k _ hg;rw[hg];cases hx:w.heap[k]with
 | cells c el fr=>
  rw[hx]at this;obtain⟨c1,e1,s1,f1⟩:=this;rw[e1,show c1=c from Array.ext_getElem? fun i=>f1 i (fun h=>h)]
 | map es cl=>
  rw[hx]at this;obtain⟨es1,cl1,e1,f1⟩:=this;obtain⟨rfl,rfl⟩:=f1 fun i h=>h
  exact e1
 | _=>rw[hx]at this;exact this
def gL (w:World):Place:=fun c _=>c<w.heap.size
theorem K9 {P:Program} {f:FuncId} {args:List TV} {outs:List (Option aA)} (hc:eP P f (args.map .val) ⟨[.val (tb true)],outs⟩) (w:World) (aW:List Value) (hlen:aW.length=args.length)
  (jB:∀(i:Nat) (x:TV),args[i]?=some x->∃v,aW[i]?=some v/\aI EH (gL w) w x.av v) :
  Calls P f aW.toArray w fun e w'=>e=.returned (.bool true)/\Below w.heap.size w w':=by
 have gn:∀(i:Nat) (a:Arg),(args.map Arg.val)[i]?=some a->∃x,args[i]?=some x/\a=.val x:=by
  intro i a hi;rw[List.getElem?_map]at hi;obtain⟨x,h1,h2⟩:=Option.map_eq_some_iff.1 hi;exact⟨x,h1,h2.symm⟩
 have TO:∀(i:Nat) (a:Arg) (b:aA),(args.map Arg.val)[i]?=some a->a.ao=some b->False:=by
  intro i a b hi hb;obtain⟨x,_,rfl⟩:=gn i a hi;cases hb
 have nu:ox (args.map .val) (gL w) w aW (fun _=>⟨0,0,0,0⟩):=by
  refine⟨by simpa using hlen,fun i a hi=>?_,fun c o h=>h,fun i a b h1 h2=>(TO i a b h1 h2).elim,fun i j x y b b' _ h1 _ h3 _=>(TO i x b h1 h3).elim,fun i f aN v hi _=>?_⟩
  ·obtain⟨x,h1,rfl⟩:=gn i a hi
   exact jB i x h1
  ·obtain⟨x,_,h2⟩:=gn i _ hi
   cases h2
 have Uo:(aW.take (kM (args.map Arg.val)))=aW:=by
  rw[CI (fun x hx ts he=>by
   obtain⟨i,hi⟩:=List.getElem?_of_mem hx;obtain⟨y,_,h2⟩:=gn i x hi;rw[h2]at he;cases he),List.take_of_length_le (by rw[nu.len];exact Nat.le_refl _)]
 have JW:=hc.2 (gL w) w aW _ nu;rw[Uo]at JW;refine JW.mono ?_
 rintro e w' ⟨v,rfl,hq⟩
 obtain⟨S',Rr,vs,q1,q2,q3,q4,q5,q6,_⟩:=hq.p;obtain⟨u,e1,e2⟩:=q6 0 (.val (tb true)) rfl;have hu:u=.bool true:=by
  cases e2 with|c e2=>cases e2 with|t e2=>cases e2 with|v _ _=>rfl
 have Lp:vs=[u]:=by
  match vs,q1,e1 with
  | [x],_,e1=>simp at e1;rw[e1]
 refine⟨?_,fp.below ?_⟩
 ·rw[q2,Lp,hu];rfl
 ·have:nq (args.map Arg.val) (fun _=>⟨0,0,0,0⟩)=fun _ _=>False:=by
   funext c o;refine propext ⟨fun⟨i,a,b,h1,h2,_⟩=>(TO i a b h1 h2).elim,fun h=>h.elim⟩
  rw[this]at q3;exact q3
section
variable {H:Type} {enc:TypeId×Value->H} {P:Program}
theorem Ad {f:Func} {s:ChangeSpec} {apart fresh handsOn again:Bool} {W W':World} {args:Array Value} {v:Value} {ds gs:List (DataW H)} {before pa pv:List MemPlace}
  (hW:DataW.Whole enc P f.params.toList s.vars apart W args.toList ds gs before)
  (CT:∀(b:Nat) (sp:Nat->Bool) (hd:Bool),DataW.TrodAll enc P W' b sp hd f.resultTypes.toList (v.resultList f.resultTypes.size) (s.fn H (ds++gs)).results [])
  (dM:∀sp:Nat->Bool,(∀p∈before,sp p.block=true)->DataW.TrodAll enc P W' 0 sp true f.params.toList args.toList (s.fn H (ds++gs)).args pa)
  (Gl:∀sp:Nat->Bool,(∀p∈before,sp p.block=true)->DataW.TrodVars enc P W' sp s.vars (s.fn H (ds++gs)).vars pv)
  (YJ:before=pa++pv) (hb:Below W.heap.size W W')
  (je:∀(j:Nat) (t:TypeId) (r:Value),f.resultTypes[j]?=some t->(v.resultList f.resultTypes.size)[j]?=some r->Value.okWide P W' .any 0 t r) :
  s.post enc P f apart fresh handsOn again W args v W':=by
 have bJ:∀p∈before,p.block<W.heap.size:=fun p hp=>hW.lt p hp
 have hold:∀p∈before,(fun b=>decide (b<W.heap.size)) p.block=true:=fun p hp=>by simpa using bJ p hp
 refine⟨ds,gs,before,[],pa,pv,hW,CT _ _ _,dM _ hold,Gl _ hold,World.keptBut_mono (fun p hp=>⟨hp,?_⟩) (hb.frame (· ∈ before)),fun _=>?_⟩
 ·rw[YJ,List.mem_append]at hp
  exact Or.inr hp
 ·obtain⟨_,_,_,_,_,hz,hn⟩:=hW
  refine⟨je,_,_,([]++pa)++pv,⟨[]++pa,pv,trodAll_append (dM _ (fun _ _=>rfl)) (CT _ _ _),Gl _ (fun _ _=>rfl),rfl,?_,?_⟩,?_⟩
  ·intro b off hp
   have jc:MemPlace.cell b off∈before:=by rw[YJ];simpa using hp
   rw[hb.frozen (bJ _ jc)];exact hz b off jc
  ·intro ha
   have:=hn ha;rw[YJ]at this;simpa using this
  ·intro p hp _
   rw[YJ];simpa using hp
end
theorem Jp {n:Int} (h:(Lit.int .u8 n).wf=true):0<=n/\n<256:=by
 have h1:(decide (IntKind.min .u8<=n)&&decide (n<=IntKind.max .u8))=true:=h;rw[Bool.and_eq_true,decide_eq_true_eq,decide_eq_true_eq,show IntKind.min .u8=0 from by decide,show IntKind.max .u8=255 from by decide]at h1;omega
theorem Jq {n:Int} (h:(Lit.int .i8 n).wf=true):-128<=n/\n<128:=by
 have h1:(decide (IntKind.min .i8<=n)&&decide (n<=IntKind.max .i8))=true:=h;rw[Bool.and_eq_true,decide_eq_true_eq,decide_eq_true_eq,show IntKind.min .i8=-128 from by decide,show IntKind.max .i8=127 from by decide]at h1;omega
open Go.RowKit Go.WideShapes Go.ChangeShapes Go.ChangeAt
inductive Shape where
 | int (k:IntKind)
 | bool
 | slice (s:Shape)
 | struct (l:List Shape)
 | arr (n:Nat) (s:Shape)
mutual
def Shape.size:Shape->Nat
 | .int _=>1
 | .bool=>1
 | .slice _=>1
 | .struct l=>xW l
 | .arr n s=>n*s.size
def xW:List Shape->Nat
 | []=>0
 | s::l=>s.size+xW l
end
mutual
def Shape.fits (P:Program) (t:TypeId):Shape->Bool
 | .int k=>match P.underlying t with
  | some (.int k')=>decide (k'=k)
  | _=>false
 | .bool=>match P.underlying t with
  | some .bool=>true
  | _=>false
 | .slice s=>match P.underlying t with
  | some (.slice e)=>P.cellsOf e==s.size&&decide (0<s.size)&&s.fits P e
  | _=>false
 | .struct l=>match P.underlying t with
  | some (.struct fs)=>P.cellsOf t==xW l&&BW P 0 fs.toList l
  | _=>false
 | .arr n s=>match P.underlying t with
  | some (.array m e)=>m==n&&P.cellsOf t==n*s.size&&P.cellsOf e==s.size&&s.fits P e
  | _=>false
def BW (P:Program) (off:Nat):List Field->List Shape->Bool
 | [],[]=>true
 | f::fs,s::l=>f.offset==off&&P.cellsOf f.type==s.size&&s.fits P f.type&&BW P (off+s.size) fs l
 | _,_=>false
end
def YK (p:List Tree->Prop):Nat->List Tree->Prop
 | 0,ts=>ts=[]
 | n+1,ts=>∃a b,ts=a++b/\p a/\YK p n b
mutual
def Shape.ok:Shape->List Tree->Prop
 | .int k,ts=>∃n,ts=[.v (.int k n)]/\(Lit.int k n).wf=true
 | .bool,ts=>∃b,ts=[.v (.bool b)]
 | .slice s,ts=>∃cp rows,ts=[.aa cp rows]/\rows.length<2^63/\∀r∈rows,s.ok r
 | .struct l,ts=>YL l ts
 | .arr n s,ts=>YK s.ok n ts
def YL:List Shape->List Tree->Prop
 | [],ts=>ts=[]
 | s::l,ts=>∃a b,ts=a++b/\s.ok a/\YL l b
end
theorem Jr {p:List Tree->Prop} {m:Nat} (hp:∀ts,p ts->ts.length=m):∀(n:Nat) (ts:List Tree),YK p n ts->ts.length=n*m
 | 0,ts,h=>by rw[show ts=[] from h];simp
 | n+1,ts,⟨a,b,h1,h2,h3⟩=>by rw[h1,List.length_append,hp a h2,Jr hp n b h3,Nat.succ_mul];omega
mutual
theorem Shape.DV:∀(s:Shape) (ts:List Tree),s.ok ts->ts.length=s.size
 | .int k,ts,h=>by obtain⟨n,rfl,_⟩:=h;rfl
 | .bool,ts,h=>by obtain⟨n,rfl⟩:=h;rfl
 | .slice s,ts,h=>by obtain⟨_,_,rfl,_⟩:=h;rfl
 | .struct l,ts,h=>Js l ts h
 | .arr n s,ts,h=>Jr (fun ts h=>s.DV ts h) n ts h
theorem Js:∀(l:List Shape) (ts:List Tree),YL l ts->ts.length=xW l
 | [],ts,h=>by rw[show ts=[] from h];rfl
 | s::l,ts,h=>by
  obtain⟨a,b,h1,h2,h3⟩:=h;rw[h1,List.length_append,s.DV a h2,Js l b h3];rfl
end
section
variable {H:Type} {enc:TypeId×Value->H} {P:Program} {w:World} {sp:Nat->Bool} {hd:Bool}
def jb (w:World) (ts:List Tree) (cs:List Value):Prop:=ts.length=cs.length/\∀(i:Nat) (t:Tree) (v:Value),ts[i]?=some t->cs[i]?=some v->dX (gL w) w t v
theorem jb.append {a b:List Tree} {c d:List Value} (h1:jb w a c) (h2:jb w b d):jb w (a++b) (c++d):=by
 refine⟨by rw[List.length_append,List.length_append,h1.1,h2.1],fun i t v ht hv=>?_⟩;rcases Nat.lt_or_ge i a.length with h|h
 ·rw[List.getElem?_append_left h]at ht
  rw[List.getElem?_append_left (by rw[<-h1.1];exact h)]at hv;exact h1.2 i t v ht hv
 ·rw[List.getElem?_append_right h]at ht
  rw[List.getElem?_append_right (by rw[<-h1.1];exact h),<-h1.1]at hv;exact h2.2 _ t v ht hv
theorem jb.one {t:Tree} {v:Value} (h:dX (gL w) w t v):jb w [t] [v]:=by
 refine⟨rfl,fun i t' v' ht hv=>?_⟩;cases i with
 | zero=>simp at ht hv;subst ht hv;exact h
 | succ i=>simp at ht
def Read (enc:TypeId×Value->H) (P:Program) (w:World) (sp:Nat->Bool) (hd:Bool) (s:Shape):Prop:=
 ∀(t:TypeId),s.fits P t=true->∀(n:Nat) (cs:List Value) (x:DataW H×List MemPlace),DataW.trod enc P w 0 sp hd n t cs=some x->∃ts,s.ok ts/\jb w ts cs
theorem BX {cs:List Value} (i m:Nat):cs.drop i=(cs.drop i).take m++cs.drop (i+m):=by
 rw[<-List.drop_drop,List.take_append_drop]
theorem Rv:∀(l:List Shape),(∀s∈l,Read enc P w sp hd s)->∀(fs:List Field) (off:Nat),BW P off fs l=true->∀(n:Nat) (cs:List Value),cs.length=off+xW l ->
  (∀f∈fs,∃x,DataW.trod enc P w 0 sp hd n f.type ((cs.drop f.offset).take (P.cellsOf f.type))=some x)->∃ts,YL l ts/\jb w ts (cs.drop off)
 | [],hl,[],off,hf,n,cs,hn,hx=>by
  refine⟨[],rfl,?_⟩;rw[List.drop_of_length_le (by rw[hn];simp[xW])];exact⟨rfl,fun i t v h=>by simp at h⟩
 | [],hl,f::fs,off,hf,n,cs,hn,hx=>by simp[BW]at hf
 | s::l,hl,[],off,hf,n,cs,hn,hx=>by simp[BW]at hf
 | s::l,hl,f::fs,off,hf,n,cs,hn,hx=>by
  simp only[BW,Bool.and_eq_true,beq_iff_eq]at hf;obtain⟨⟨⟨h1,h2⟩,h3⟩,h4⟩:=hf;obtain⟨x,G4⟩:=hx f (List.mem_cons_self ..);rw[h1,h2]at G4;obtain⟨a,ha,hra⟩:=hl s (List.mem_cons_self ..) f.type h3 n _ x G4;obtain⟨b,hb,YM⟩:=Rv l (fun s' sW=>hl s' (List.mem_cons_of_mem _ sW)) fs (off+s.size) h4 n cs (by rw[hn,xW];omega) (fun f' OG=>hx f' (List.mem_cons_of_mem _ OG));refine⟨a++b,⟨a,b,rfl,ha,hb⟩,?_⟩
  rw[BX off s.size];exact hra.append YM
theorem Rw {s:Shape} (hs:Read enc P w sp hd s) {e:TypeId} (he:s.fits P e=true):∀(m i:Nat) (n:Nat) (cs:List Value),cs.length=(i+m)*s.size ->
  (∀j,j<m->∃x,DataW.trod enc P w 0 sp hd n e ((cs.drop ((i+j)*s.size)).take s.size)=some x)->∃ts,YK s.ok m ts/\jb w ts (cs.drop (i*s.size))
 | 0,i,n,cs,hn,hx=>by
  refine⟨[],rfl,?_⟩;rw[List.drop_of_length_le (by rw[hn];simp)];exact⟨rfl,fun i t v h=>by simp at h⟩
 | m+1,i,n,cs,hn,hx=>by
  obtain⟨x,G4⟩:=hx 0 (by omega);rw[Nat.add_zero]at G4;obtain⟨a,ha,hra⟩:=hs e he n _ x G4;obtain⟨b,hb,YM⟩:=Rw hs he m (i+1) n cs (by rw[hn];congr 1;omega) (fun j hj=>by
   have:=hx (j+1) (by omega);rwa[show i+(j+1)=i+1+j by omega]at this)
  refine⟨a++b,⟨a,b,rfl,ha,hb⟩,?_⟩;rw[BX (i*s.size) s.size];rw[Nat.succ_mul]at YM;exact hra.append YM
theorem Gm (b o n:Nat):(⟨b,o,none⟩:Addr).add n=⟨b,o+n,none⟩:=by
 unfold Addr.add;split
 ·rename_i h;subst h;rfl
 ·rfl
theorem TP {k:IntKind} {n:Int}:one (.int k n):=by intro l;exact⟨by simp,by simp⟩
theorem Shape.read:∀(s:Shape),Read enc P w sp hd s
 | .int k=>fun t hf n cs x hx=>by
  have hu:P.underlying t=some (.int k):=by
   unfold Shape.fits at hf;split at hf
   ·rename_i k' h;rw[h,of_decide_eq_true hf]
   ·cases hf
  obtain⟨m,rfl,_,hw⟩:=DataW.trod_int hu hx;exact⟨_,⟨m,rfl,hw⟩,.one (.v _ TP)⟩
 | .bool=>fun t hf n cs x hx=>by
  have hu:P.underlying t=some .bool:=by
   unfold Shape.fits at hf;split at hf
   ·rename_i h;exact h
   ·cases hf
  obtain⟨b,rfl,_⟩:=DataW.trod_bool hu hx;exact⟨_,⟨b,rfl⟩,.one (.v _ (by intro l;exact⟨by simp,by simp⟩))⟩
 | .struct l=>fun t hf n cs x hx=>by
  unfold Shape.fits at hf;split at hf
  ·rename_i fs hu
   simp only[Bool.and_eq_true,beq_iff_eq]at hf;obtain⟨xs,n',rfl,_,hl,Wj,Gz⟩:=DataW.trod_struct hu hx;obtain⟨ts,h1,h2⟩:=Rv l (fun s hs=>Shape.read s) fs.toList 0 hf.2 n' cs (by rw[hl,hf.1];omega) (fun f hfm=>by
    obtain⟨i,hi,W4⟩:=List.mem_iff_getElem.1 hfm;have lH:i<fs.size:=by simpa using hi
    have hg:fs[i]?=some f:=by rw[Array.getElem?_eq_getElem lH];simpa using W4
    have:=Gz i f hg;have VB:i<xs.length:=by rw[Wj];exact lH
    rw[List.getElem?_eq_getElem VB]at this;exact⟨_,this⟩)
   exact⟨ts,h1,by simpa using h2⟩
  ·cases hf
 | .arr m s=>fun t hf n cs x hx=>by
  unfold Shape.fits at hf;split at hf
  ·rename_i m' e hu
   simp only[Bool.and_eq_true,beq_iff_eq]at hf;obtain⟨⟨⟨rfl,h1⟩,h2⟩,h3⟩:=hf;cases n with
   | zero=>simp[DataW.trod]at hx
   | succ n=>
    unfold DataW.trod at hx;rw[hu]at hx;simp only at hx;split at hx
    ·rename_i hl
     obtain⟨xs,uE,_⟩:=Option.map_eq_some_iff.1 hx;obtain⟨ts,h4,h5⟩:=Rw (Shape.read s) h3 m' 0 n cs (by rw[hl,h1,Nat.zero_add]) (fun j hj=>by
      have:=mapM_some_get uE j j (by simp[hj]);have hlen:=mapM_some_length uE;rw[List.length_range]at hlen;rw[List.getElem?_eq_getElem (by omega)]at this;rw[h2]at this;rw[Nat.zero_add];exact⟨_,this⟩)
     exact⟨ts,h4,by simpa using h5⟩
    ·cases hx
  ·cases hf
 | .slice s=>fun t hf n cs x hx=>by
  unfold Shape.fits at hf;split at hf
  ·rename_i e hu
   simp only[Bool.and_eq_true,beq_iff_eq,decide_eq_true_eq]at hf;obtain⟨⟨h1,h2⟩,h3⟩:=hf;rcases DataW.trod_slice hu hx with⟨rfl,_⟩|⟨a,len,cap,elems,rest,n',rfl,rfl,_,_,hlc,Ha,Rp,Xd,_,_⟩
   ·refine⟨[.aa false []],⟨false,[],rfl,by simp,by simp⟩,.one (.aa false [] none 0 0 0 0 (fun _ _=>default) (by simp) (by omega) (by simp) (by simp) (by simp) (by simp) (by simp) (fun i j t ht=>by simp[fo]at ht) (fun i j t ht=>by simp[fo]at ht))⟩
   ·have hm:maxLen=2^63-1:=rfl
    have dk:∀i,i<len->∃ts YN,s.ok ts/\jb w ts YN/\w.cells? 0 (a.add (i*s.size)) s.size=some YN:=fun i hi=>by
     have hr:=Xd i hi;rw[List.getElem?_eq_getElem (by omega),h1]at hr;obtain⟨YN,hc,RP⟩:=Option.bind_eq_some_iff.1 hr;obtain⟨ts,h4,h5⟩:=Shape.read s e h3 _ _ _ RP;exact⟨ts,YN,h4,h5,hc⟩
    let f:Nat->List Tree:=fun i=>if h:i<len then(dk i h).choose else []
    let g:Nat->List Value:=fun i=>if h:i<len then(dk i h).choose_spec.choose else []
    have YO:∀i,i<len->s.ok (f i)/\jb w (f i) (g i)/\w.cells? 0 (a.add (i*s.size)) s.size=some (g i):=fun i hi=>by
     have W4:f i=(dk i hi).choose:=dif_pos hi;have Ls:g i=(dk i hi).choose_spec.choose:=dif_pos hi;rw[W4,Ls];exact(dk i hi).choose_spec.choose_spec
    have Rx:0<len->a=⟨a.block,a.off,none⟩/\a.block<w.heap.size:=fun h0=>by
     obtain⟨je,jB,hc⟩:=YO 0 h0;obtain⟨_,hl,hce⟩:=World.cells?_some hc;have:=hce 0 h2;rw[List.getElem?_eq_getElem (by omega)]at this;have ha:(a.add (0*s.size)).add 0=a:=by simp[Addr.add]
     rw[ha]at this;refine⟨?_,?_⟩
     ·unfold World.cell? at this
      split at this
      ·split at this
       ·cases this
       ·rename_i hs
        obtain⟨b,o,YP⟩:=a;cases YP with
        | none=>rfl
        | some _=>simp at hs
      ·cases this
     ·have:=World.cells?_block hc h2
      simpa[Addr.add]using this
    have Xe:∀i,(((List.range len).map f)[i]?)=if i<len then some (f i) else none:=fun i=>by
     rw[List.getElem?_map]
     by_cases h:i<len
     ·rw[if_pos h,List.getElem?_range h];rfl
     ·rw[if_neg h,List.getElem?_eq_none (by simpa using h)];rfl
    have Uq:∀i j t,fo ((List.range len).map f) i j=some t->i<len/\(f i)[j]?=some t:=fun i j t ht=>by
     unfold fo at ht;rw[Xe]at ht
     by_cases h:i<len
     ·rw[if_pos h]at ht;exact⟨h,ht⟩
     ·rw[if_neg h]at ht;cases ht
    have v8:∀i j t,fo ((List.range len).map f) i j=some t->∃v,(g i)[j]?=some v/\w.cell? ⟨a.block,a.off+i*s.size+j,none⟩=some v/\dX (gL w) w t v/\a.block<w.heap.size:=fun i j t ht=>by
     obtain⟨hi,hj⟩:=Uq i j t ht;obtain⟨je,jB,hc⟩:=YO i hi;obtain⟨_,hl,hce⟩:=World.cells?_some hc;have OD:j<s.size:=by
      have:=(List.getElem?_eq_some_iff.1 hj).1;rw[s.DV _ je]at this;exact this
     have hv:=hce j OD;obtain⟨ji,AK⟩:=Rx (by omega);refine⟨(g i)[j]'(by omega),List.getElem?_eq_getElem (by omega),?_,jB.2 j t _ hj (List.getElem?_eq_getElem (by omega)),AK⟩;rw[List.getElem?_eq_getElem (by omega)]at hv;rw[<-hv];rw[ji,Gm,Gm]
    refine⟨[.aa false ((List.range len).map f)],⟨false,_,rfl,by rw[List.length_map,List.length_range];omega,fun r hr=>?_⟩,?_⟩
    ·obtain⟨i,hi,rfl⟩:=List.mem_map.1 hr
     exact(YO i (List.mem_range.1 hi)).1
    ·refine .one ?_
     have hl:((List.range len).map f).length=len:=by rw[List.length_map,List.length_range]
     have:=dX.aa (S:=gL w) (w:=w) false ((List.range len).map f) (some a) a.block a.off s.size cap (fun i j=>((g i)[j]?).getD default) (by rw[hl];exact hlc) (by omega) (by rw[hl];omega) (by simp)
      (fun dh=>by rw[(Rx (Nat.pos_of_ne_zero fun h=>by subst h;simp at dh)).1]) (by simp)
      (fun r hr=>by obtain⟨i,hi,rfl⟩:=List.mem_map.1 hr;exact s.DV _ (YO i (List.mem_range.1 hi)).1)
      (fun i j t ht=>by obtain⟨v,h4,h5,h6,h7⟩:=v8 i j t ht;exact⟨h7,by rw[h5,h4];rfl⟩)
      (fun i j t ht=>by obtain⟨v,h4,h5,h6,h7⟩:=v8 i j t ht;rw[h4];exact h6)
     rw[hl]at this;exact this
  ·cases hf
termination_by s=>SizeOf.sizeOf s
def Shape.tv (s:Shape) (ts:List Tree):TV:=
 match s,ts with
 | .struct _,ts=>.agg ts
 | .arr _ _,ts=>.agg ts
 | _,[t]=>.c t
 | _,ts=>.agg ts
def xX (P:Program) (t:TypeId):Bool:=match P.underlying t with
 | some (.struct _)|some (.array _ _)=>true
 | _=>false
theorem Shape.rep {s:Shape} {t:TypeId} (hf:s.fits P t=true) {v:Value} (je:Value.okWide P w .any 0 t v) {ts:List Tree} (hs:s.ok ts) (h:jb w ts v.cells.toList):aI EH (gL w) w (s.tv ts).av v:=by
 have agg:∀(cs:Array Value),v=.agg cs->aI EH (gL w) w (TV.agg ts).av v:=fun cs hv=>by
  subst hv;have:Array.mk cs.toList=cs:=rfl;rw[show TV.av (.agg ts)=AV.agg (ts.map .t) from rfl,<-this];refine .agg cs.toList (by rw[List.length_map];exact h.1.symm) fun i c hc=>?_
  rw[List.getElem?_map]at hc;obtain⟨t',ht,rfl⟩:=Option.map_eq_some_iff.1 hc;have hi:=(List.getElem?_eq_some_iff.1 ht).1;have RQ:i<cs.toList.length:=by have:=h.1;simp only[Value.cells]at this;omega
  exact⟨_,List.getElem?_eq_getElem RQ,.t (h.2 i t' _ ht (List.getElem?_eq_getElem RQ))⟩
 have TQ:xX P t=false->ts.length=1->aI EH (gL w) w (match ts with|[t]=>TV.c t|ts=>.agg ts).av v:=fun Oh hl=>by
  match ts,hl,h with
  | [t'],_,h=>
   have hc:v.cells=#[v]:=by
    cases v with
    | agg cs=>
     unfold Value.okWide at je;unfold xX at Oh;split at je
     ·rename_i h1;rw[h1]at Oh;cases Oh
     ·rename_i h1;rw[h1]at Oh;cases Oh
     ·unfold Cell.okWide at je
      split at je<;>first|(rename_i h1 h2;cases h2;done)|skip
      all_goals first|(unfold Cell.ok at je;split at je<;>first|(rename_i h1 h2;cases h2;done)|exact je.elim)|skip
    | _=>rfl
   have:=h.2 0 t' v rfl (by rw[hc];rfl);exact .c (.t this)
 cases s with
 | int k=>
  have hu:P.underlying t=some (.int k):=by
   unfold Shape.fits at hf;split at hf
   ·rename_i k' h;rw[h,of_decide_eq_true hf]
   ·cases hf
  obtain⟨m,rfl,_⟩:=hs;exact TQ (by unfold xX;rw[hu]) rfl
 | bool=>
  have hu:P.underlying t=some .bool:=by
   unfold Shape.fits at hf;split at hf
   ·rename_i h;exact h
   ·cases hf
  obtain⟨m,rfl⟩:=hs;exact TQ (by unfold xX;rw[hu]) rfl
 | slice s=>
  unfold Shape.fits at hf;split at hf
  ·rename_i e hu
   obtain⟨_,_,rfl,_⟩:=hs;exact TQ (by unfold xX;rw[hu]) rfl
  ·cases hf
 | struct l=>
  unfold Shape.fits at hf;split at hf
  ·rename_i fs hu
   unfold Value.okWide at je;rw[hu]at je;obtain⟨cs,hv,_⟩:=je;exact agg cs hv
  ·cases hf
 | arr n s=>
  unfold Shape.fits at hf;split at hf
  ·rename_i m e hu
   unfold Value.okWide at je;rw[hu]at je;obtain⟨cs,hv,_⟩:=je;exact agg cs hv
  ·cases hf
def Jt:List Shape->List (List Tree)->Prop
 | [],l=>l=[]
 | s::ss,l=>∃ts r,l=ts::r/\s.ok ts/\Jt ss r
def Qm:List Shape->List (List Tree)->List TV
 | s::ss,ts::r=>s.tv ts::Qm ss r
 | _,_=>[]
def iP (P:Program):List TypeId->List Shape->Bool
 | [],[]=>true
 | t::ts,s::ss=>s.fits P t&&decide (t<P.types.size)&&P.readableRec t&&iP P ts ss
 | _,_=>false
theorem BY (hl:laidOutB P=true) {W W':World} {YP:Nat->Bool} (hb:Below W.heap.size W W'):∀ {NM:List TypeId} {Lb:List Shape} {vs:List Value} {ds:List (DataW H)} {ps:List MemPlace},DataW.TrodAll enc P W 0 (fun _=>true) true NM vs ds ps->iP P NM Lb=true ->
  (∀p∈ps,p.block<W.heap.size)->(∀p∈ps,YP p.block=true)->DataW.TrodAll enc P W' 0 YP true NM vs ds ps
 | [],[],[],[],ps,h,hf,h1,h2=>h
 | t::ts,s::ss,v::vs,d::ds,ps,h,hf,h1,h2=>by
  obtain⟨p,q,k1,k2,rfl⟩:=h;simp only[iP,Bool.and_eq_true,decide_eq_true_eq]at hf;obtain⟨⟨⟨f1,f2⟩,f3⟩,f4⟩:=hf;exact⟨p,q,Go.WideElems.Trod_stays hl f3 f2 k1 (fun x hx=>hb.same (h1 x (List.mem_append_left _ hx))) (fun x hx=>h2 x (List.mem_append_left _ hx)),
   BY hl hb k2 f4 (fun x hx=>h1 x (List.mem_append_right _ hx)) (fun x hx=>h2 x (List.mem_append_right _ hx)),rfl⟩
 | [],_::_,_,_,_,_,hf,_,_=>by simp[iP]at hf
 | _::_,[],_,_,_,_,hf,_,_=>by simp[iP]at hf
 | [],[],_::_,_,_,h,_,_,_=>by simp[DataW.TrodAll]at h
 | [],[],[],_::_,_,h,_,_,_=>by simp[DataW.TrodAll]at h
 | _::_,_::_,[],_,_,h,_,_,_=>by simp[DataW.TrodAll]at h
 | _::_,_::_,_::_,[],_,h,_,_,_=>by simp[DataW.TrodAll]at h
end
end Go.Abs
end
section
namespace Go.Proofs.YtekefilngojelaaGreat
open Go Go.Abs Go.Abs.M Go.Proofs
def UO (D:Int):Rat:=((1+D%8:Int):Rat)
def Xf (A B D:Int):Rat:=Xa ((A:Rat)*(UO D)⁻¹) ((B:Rat)*(UO D)⁻¹)
def Xg (A B D:Int):Rat:=Xb ((A:Rat)*(UO D)⁻¹) ((B:Rat)*(UO D)⁻¹)
structure RI where
 a:Int
 b:Int
 d:Int
structure RI.ok (x:RI):Prop where
 a1:-128<=x.a
 a2:x.a<128
 b1:-128<=x.b
 b2:x.b<128
 d1:0<=x.d
 d2:x.d<256
def RI.row (x:RI):List Tree:=[.v (.int .i8 x.a),.v (.int .i8 x.b),.v (.int .u8 x.d)]
def RI.lo (x:RI):Rat:=Xf x.a x.b x.d
def RI.hi (x:RI):Rat:=Xg x.a x.b x.d
theorem RI.le (x:RI):x.lo<=x.hi:=by
 unfold RI.lo RI.hi Xf Xg Xa Xb;generalize (x.a:Rat)*(UO x.d)⁻¹=p;generalize (x.b:Rat)*(UO x.d)⁻¹=q;grind
theorem Gn (q:Rat):q<0↔q.num<0:=by
 rw[<-Rat.not_le,<-Rat.num_nonneg];omega
theorem NN (q:Rat):0<q↔0<q.num:=by
 have h:=Gn (-q);rw[show(-q).num=-q.num from rfl]at h;have:-q<0↔0<q:=by grind
 rw[<-this,h];omega
theorem BZ (a:Int):(bH a 0<0↔a<0)/\(0<bH a 0↔0<a):=by
 unfold bH;split
 ·omega
 ·split<;>omega
theorem Ld (q:Rat):∃c:Int,(c<0↔q<0)/\(0<c↔0<q)/\aH 62 [.val (.agg (qc q).row)] ⟨[.val (ti .i64 c)],[none]⟩:=
 ⟨bH q.num 0,by rw[Gn];exact(BZ _).1,by rw[NN];exact(BZ _).2,j8 _ (fP q).n rfl⟩
end Go.Proofs.YtekefilngojelaaGreat
end
