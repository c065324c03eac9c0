/- A part of the proof. -/
import Derived.Test.YtekefilngojelaaGreatM15
import Derived.Test.YtekefilngojelaaGreatM23
set_option maxHeartbeats 0
set_option maxRecDepth 100000
set_option linter.unusedVariables false
set_option linter.unusedSimpArgs false
section
namespace Go.Proofs.YtekefilngojelaaGreat
open Go Go.Abs Go.Abs.M Go.Proofs
theorem yb (n:Int) (h1:-128<=n) (h2:n<128):ah Tryz.prog 35 [.val (ti .i8 n)] ⟨[.val (ti .i64 (n.natAbs:Int))],[none]⟩:=by
 obtain⟨N,hN⟩:∃N:Int,N=(n.natAbs:Int):=⟨_,rfl⟩;rw[<-hN]
 by_cases h:n<0
 ·refine ar aj mixed [.val] Tryz.func35 rfl rfl (by kernel_rfl) fun zD _ zG _ _ _ _ _ _ _ _ _ _ _ zV _ _ _ _ _ _ _ _ _ _ _ _ _ _ _ _ _ _ _ _ _ _ _ _ _ _ _ _ _ _ _ _ _ _ _ _ A L F hS hF=>?_
  have c1:zV n 0=true:=by rw[hS.lt];exact decide_eq_true h
  have c2:zD .i64 (zG 0 (zD .i64 n))=N:=by rw[hS.wrap,hS.wrap,wrap_i64 (x:=n) (by omega) (by omega),hS.sub,wrap_i64 (by omega) (by omega)];omega
  cbv;refine bT c1 ?_;exact bn hF (kl c2)
 ·refine ar aj mixed [.val] Tryz.func35 rfl rfl (by kernel_rfl) fun zD _ zG _ _ _ _ _ _ _ _ _ _ _ zV _ _ _ _ _ _ _ _ _ _ _ _ _ _ _ _ _ _ _ _ _ _ _ _ _ _ _ _ _ _ _ _ _ _ _ _ A L F hS hF=>?_
  have c1:zV n 0=false:=by rw[hS.lt];exact decide_eq_false h
  have c2:zD .i64 n=N:=by rw[hS.wrap,wrap_i64 (by omega) (by omega)];omega
  cbv;refine bF c1 ?_;exact bn hF (kl c2)
theorem DY (x:Rat) (l:List T2) (hx:Qs x 1000) (hl:∀t∈l,t.ok 1000 30000) (UZ:l.length<=1000) :
  ah Tryz.prog 36 [.val (.agg (qc x).row),.val (tl (aV l))] ⟨[.val (tl (aV (df x 0 0 l)))],[none,none]⟩:=by
 have c:=rV x 0 0 l (n:=1000) hx (by omega) (by omega) hl (by omega) UZ;obtain⟨s1,t1,r1,p1,e1,_⟩:=bD x;rw[e1]at c ⊢;unfold m2 at c;generalize aV (df x 0 0 l)=T,aV l=X at *;refine ar aj mixed [.val] Tryz.func36 rfl rfl (by kernel_rfl) ?_;intros;rename_i A L F hS hF;cbv;refine⟨_,hS.call c,?_⟩;cbv;exact hF _ (ak.refl _)
structure R5 where
 c:Int
 e0:Int
 e1:Int
 e2:Int
 e3:Int
def R5.ok (x:R5):Prop:=(-128<=x.c/\x.c<128)/\(-128<=x.e0/\x.e0<128)/\(-128<=x.e1/\x.e1<128)
def R5.row (x:R5):List Tree:=[.v (.int .i8 x.c),.v (.int .i8 x.e0),.v (.int .i8 x.e1),.v (.int .i8 x.e2),.v (.int .i8 x.e3)]
def Ah (l:List R5):Abs.Rows:=l.map R5.row
theorem QH (l:List R5):(Ah l).length=l.length:=by simp[Ah]
theorem Yd {l:List R5} {i:Nat} (h:i<l.length):∃x,x∈l/\(Ah l)[i]?=some x.row:=⟨l[i],List.getElem_mem h,by simp[Ah,List.getElem?_eq_getElem h]⟩
structure MP (k:Nat) (p:List T2):Prop where
 vd:Vd p
 z:Zb (3*k) p
 e:∀t∈p,0<=t.a/\0<=t.b/\t.a+t.b<=2
 len:p.length<=k
theorem tm4 (a:Int):-4<a.tmod 4/\a.tmod 4<4:=by
 rcases Int.le_total 0 a with h|h
 ·rw[Int.tmod_eq_emod_of_nonneg h];omega
 ·rw[show a=-(-a) by omega,Int.neg_tmod,Int.tmod_eq_emod_of_nonneg (by omega)];omega
theorem QI {p:List T2} {d:Int} (h:∀t∈p,t.a+t.b<=d) (hd:-1<=d):ji p<=d:=by
 unfold ji
 suffices hs:∀(p:List T2) (c:Int),(∀t∈p,t.a+t.b<=d)->c<=d->p.foldl (fun d t=>if t.a+t.b>d then t.a+t.b else d) c<=d from hs p (-1) h hd
 intro p
 induction p with
 | nil=>intro c _ hc;exact hc
 | cons t p ih=>
  intro c h hc;rw[List.foldl_cons];refine ih _ (fun u hu=>h u (List.mem_cons_of_mem _ hu)) ?_;split
  ·exact h t List.mem_cons_self
  ·exact hc
theorem MP.sp {k:Nat} {p:List T2} (h:MP k p) (hk:k<=10):SP p:=by
 refine⟨fun t ht=>?_,h.vd,by have:=h.len;omega,Int.le_trans (QI (d:=2) (fun t ht=>(h.e t ht).2.2) (by omega)) (by omega)⟩;have z:=h.z t ht;have e:=h.e t ht;exact⟨z.1,⟨fun e0=>h.vd.1 t ht (Rat.num_eq_zero.1 e0),by omega⟩,by omega,by omega⟩
theorem MP.step {k:Nat} {p:List T2} (h:MP k p) (d m0 m1:Int) (hd:-4<d/\d<4) (h0:0<=m0) (h1:0<=m1) (h2:m0+m1<=2) :
  MP (k+1) (cN (p.length+(df (d:Rat) 0 0 [⟨1,m0,m1⟩]).length) p (df (d:Rat) 0 0 [⟨1,m0,m1⟩])):=by
 have hQ:Vd (df (d:Rat) 0 0 [⟨1,m0,m1⟩])/\Zb 3 (df (d:Rat) 0 0 [⟨1,m0,m1⟩])/\(df (d:Rat) 0 0 [⟨1,m0,m1⟩]).length<=1/\∀t∈df (d:Rat) 0 0 [⟨1,m0,m1⟩],t.a=m0/\t.b=m1:=by
  unfold df;split
  ·exact⟨⟨by simp,List.Pairwise.nil⟩,by simp[Zb],by simp,by simp⟩
  ·rename_i cY
   refine⟨⟨fun t ht=>?_,List.pairwise_singleton _ _⟩,fun t ht=>?_,by simp,fun t ht=>?_⟩
   ·simp only[List.map_cons,List.map_nil,List.mem_singleton]at ht
    subst ht;simpa[Rat.mul_one]using cY
   ·simp only[List.map_cons,List.map_nil,List.mem_singleton]at ht
    subst ht;simp only[Rat.mul_one];exact⟨Rat.den_intCast _,by rw[Rat.num_intCast];omega⟩
   ·simp only[List.map_cons,List.map_nil,List.mem_singleton]at ht
    subst ht;exact⟨by simp,by simp⟩
 obtain⟨g1,g2,g3,g4⟩:=hQ;obtain⟨s1,s2,s3,s4⟩:=Cf _ p _ (Nat.le_refl _) h.vd g1 h.z g2;refine⟨s1,fun t ht=>⟨(s2 t ht).1,by have:=(s2 t ht).2;omega⟩,fun t ht=>?_,by have:=h.len;omega⟩;obtain⟨u,hu,ea,eb⟩:=s3 t ht;rcases hu with hu|hu
 ·have:=h.e u hu;omega
 ·have:=g4 u hu;omega
def IH (X:Abs.Rows) (I:Int):St:=ae 74 [.af,vi .i64 2,vi .i64 2,vi .i64 3,.c (.ptr 4 0 0),.af,.af,.af,.af,.c (.sl 5 0 0 false),vi .i64 I] [none,none,none,none,some (.var [.t (.aa false X)]),some (.rows 12 [] true false)]
def fe (X T:Abs.Rows) (I:Int):St:=ae 74 [.af,vi .i64 2,vi .i64 2,vi .i64 3,.c (.ptr 4 0 0),.af,.af,.af,.af,.c (.t (.aa false T)),vi .i64 I] [none,none,none,none,some (.var [.t (.aa false X)])]
def ku (X:Abs.Rows) (I:Int):Option Abs.Rows->St
 | none=>IH X I
 | some T=>fe X T I
def Ye (f:Nat->List T2) (i:Nat):Option Abs.Rows->Prop
 | none=>i=0
 | some T=>T=aV (f i)
theorem uX (l:List R5) (hl:∀x∈l,x.ok) :
  ∃p,MP 3 p/\ah Tryz.prog 11 [.val (.agg [.aa false (Ah l)]),.val (ti .i64 2),.val (ti .i64 2),.val (ti .i64 3)] ⟨[.val (tl (aV p))],[none,none,none,none]⟩:=by
 obtain⟨X,hX⟩:∃X,X=Ah l:=⟨_,rfl⟩;have lX:X.length=l.length:=by rw[hX,QH]
 obtain⟨n,hn⟩:∃n,n=min l.length 3:=⟨_,rfl⟩;have key:∀i:Nat,i<n->∀p,MP i p->∃q,MP (i+1) q/\∃(d m0 m1:Int) (x:R5),x∈l/\(Ah l)[i]?=some x.row/\d=x.c.tmod 4/\m0=(x.e0.natAbs:Int).tmod 3/\m1=(x.e1.natAbs:Int).tmod (2-m0+1)/\0<=m0/\m0<=2/\0<=m1/\m1<=2-m0/\q=cN (p.length+(df (d:Rat) 0 0 [⟨1,m0,m1⟩]).length) p (df (d:Rat) 0 0 [⟨1,m0,m1⟩]):=fun i hi p hp=>by
  obtain⟨x,hx,hr⟩:=Yd (l:=l) (i:=i) (by omega);have a0:0<=(x.e0.natAbs:Int).tmod 3/\(x.e0.natAbs:Int).tmod 3<=2:=by rw[Int.tmod_eq_emod_of_nonneg (by omega)];omega
  obtain⟨m0,yw⟩:∃m,m=(x.e0.natAbs:Int).tmod 3:=⟨_,rfl⟩;rw[<-yw]at a0;have a1:0<=(x.e1.natAbs:Int).tmod (2-m0+1)/\(x.e1.natAbs:Int).tmod (2-m0+1)<=2-m0:=by
   rw[Int.tmod_eq_emod_of_nonneg (by omega)];have h1:=Int.emod_nonneg (x.e1.natAbs:Int) (b:=2-m0+1) (by omega);have h2:=Int.emod_lt_of_pos (x.e1.natAbs:Int) (b:=2-m0+1) (by omega);omega
  obtain⟨m1,An⟩:∃m,m=(x.e1.natAbs:Int).tmod (2-m0+1):=⟨_,rfl⟩;rw[<-An]at a1;exact⟨_,hp.step (x.c.tmod 4) m0 m1 (tm4 _) a0.1 a1.1 (by omega),_,m0,m1,x,hx,hr,rfl,yw,An,a0.1,a0.2,a1.1,a1.2,rfl⟩
 have ex:∃f:Nat->List T2,f 0=[]/\∀i,i<n->MP i (f i)/\MP (i+1) (f (i+1))/\∃(d m0 m1:Int) (x:R5),x∈l/\(Ah l)[i]?=some x.row/\d=x.c.tmod 4/\m0=(x.e0.natAbs:Int).tmod 3/\m1=(x.e1.natAbs:Int).tmod (2-m0+1)/\0<=m0/\m0<=2/\0<=m1/\m1<=2-m0/\f (i+1)=cN ((f i).length+(df (d:Rat) 0 0 [⟨1,m0,m1⟩]).length) (f i) (df (d:Rat) 0 0 [⟨1,m0,m1⟩]):=by
  have m0:MP 0 []:=⟨⟨by simp,List.Pairwise.nil⟩,by simp[Zb],by simp,by simp⟩;have hc:∀k:Nat,k<=n->∃f:Nat->List T2,f 0=[]/\MP k (f k)/\∀i,i<k->MP i (f i)/\MP (i+1) (f (i+1))/\∃(d m0 m1:Int) (x:R5),x∈l/\(Ah l)[i]?=some x.row/\d=x.c.tmod 4/\m0=(x.e0.natAbs:Int).tmod 3/\m1=(x.e1.natAbs:Int).tmod (2-m0+1)/\0<=m0/\m0<=2/\0<=m1/\m1<=2-m0/\f (i+1)=cN ((f i).length+(df (d:Rat) 0 0 [⟨1,m0,m1⟩]).length) (f i) (df (d:Rat) 0 0 [⟨1,m0,m1⟩]):=by
   intro k
   induction k with
   | zero=>intro _;exact⟨fun _=>[],rfl,m0,fun i hi=>absurd hi (by omega)⟩
   | succ k ih=>
    intro hk;obtain⟨f,h0,h1,h2⟩:=ih (by omega);obtain⟨q,hq,Yf⟩:=key k (by omega) (f k) h1;refine⟨fun i=>if i<=k then f i else q,by simp[h0],by simp only[if_neg (show ¬k+1<=k by omega)];exact hq,fun i hi=>?_⟩
    by_cases Pr:i<k
    ·simp only[if_pos (show i<=k by omega),if_pos (show i+1<=k by omega)]
     exact h2 i Pr
    ·obtain rfl:i=k:=by omega
     simp only[if_pos (Nat.le_refl i),if_neg (show ¬i+1<=i by omega)];exact⟨h1,hq,Yf⟩
  obtain⟨f,h0,_,h2⟩:=hc n (Nat.le_refl n);exact⟨f,h0,h2⟩
 clear key;obtain⟨f,f0,hf⟩:=ex;have jm:MP 3 (f n):=by
  have m0:MP 0 []:=⟨⟨by simp,List.Pairwise.nil⟩,by simp[Zb],by simp,by simp⟩;have:∃k,k<=3/\MP k (f n):=by
   cases Ft:n with
   | zero=>exact⟨0,by omega,by rw[f0];exact m0⟩
   | succ k=>exact⟨k+1,by omega,(hf k (by omega)).2.1⟩
  obtain⟨k,hk,h⟩:=this;exact⟨h.vd,fun t ht=>⟨(h.z t ht).1,by have:=(h.z t ht).2;omega⟩,h.e,by have:=h.len;omega⟩
 refine⟨f n,jm,?_⟩;rw[<-hX];obtain⟨Y,hY⟩:∃Y,Y=aV (f n):=⟨_,rfl⟩;rw[<-hY];have II:=P3 1 (by decide) (by decide);rw[show(((1:Int)):Rat)=1 from rfl]at II;obtain⟨os,ot,orr,op,ow,_⟩:=bD 1;rw[ow]at II;refine dC aj mixed [.val] Tryz.func11 rfl rfl (by kernel_rfl) fun zD zE _ _ _ zJ _ _ _ _ _ _ _ _ zV _ _ _ _ _ _ _ _ zz _ _ _ _ _ _ _ ab aD _ _ _ _ a9 aE _ _ _ _ _ _ _ _ _ _ _ _ A L F hS hF=>?_
 refine dL ?_;cbv;repeat (first|(refine tT rfl ?_;cbv)|(refine tF rfl ?_;cbv)|(refine nd rfl ?_;cbv))
 refine fA aj mixed hS (n:=n) (fun i (a:Option Abs.Rows)=>ku X (Int.ofNat i) a) (fun i a=>Ye f i a) (a0:=none) (fi ?_ ?_) rfl (by show 4<=6;omega) rfl ?_ ?_
 ·simp[dO,ku,IH,ae,vi,vb]
 ·simp[dP,ku,IH,ae]
 ·intro i a hi ha
  obtain⟨pm,pn,d,m0,m1,x,hx,hr,hd,yw,An,b0,b1,b2,b3,hq⟩:=hf i hi;obtain⟨oc,oe0,oe1⟩:=hl x hx;have Um:=yb x.e0 oe0.1 oe0.2;have Un:=yb x.e1 oe1.1 oe1.2;have hd4:=tm4 x.c;rw[<-hd]at hd4;have cd:=P3 d (by omega) (by omega);have cS:=DY (d:Rat) [⟨1,m0,m1⟩] ((Qs.whole (n:=d) (k:=1) (by omega) (Nat.le_refl 1)).mono (by omega)) (fun t ht=>by
   rw[List.mem_singleton.1 ht];exact⟨by have:=Qs.whole (n:=1) (k:=1000) (by decide) (by omega);exact this,by simp only;omega,by simp only;omega⟩) (by simp)
  have pi:=(show MP i (f i) from pm);have cA:=ya (f i) (df (d:Rat) 0 0 [⟨1,m0,m1⟩]) (a:=100) (b:=100) (fun t ht=>by
   have z:=pi.z t ht;have e:=pi.e t ht;exact⟨by rw[rW z.1];exact Qs.whole (by omega) (by omega),by omega,by omega⟩) (fun t ht=>by
   unfold df at ht;split at ht
   ·simp at ht
   ·simp only[List.map_cons,List.map_nil,List.mem_singleton]at ht
    subst ht;refine⟨?_,by simp only;omega,by simp only;omega⟩;simp only[Rat.mul_one];exact Qs.whole (by omega) (by omega)) (by have:=pi.len;omega) (by unfold df;split<;>simp) (by omega)
  rw[<-hq]at cA;have qK:Ye f (i+1) (some (aV (f (i+1)))):=rfl;have j2:aD X i=some x.row:=by rw[hS.nth,hX];exact hr
  unfold R5.row at j2;have c1:mD zV (Int.ofNat i) (zz (ab X))=true:=by rw[hS.lt,hS.aB,hS.len,lX];exact decide_eq_true (show((i:Nat):Int)<(l.length:Int) by omega)
  have i1:aA zD .i64 (dU zE (Int.ofNat i) 1)=(i:Int)+1:=by rw[hS.add,hS.wrap];exact wrap_i64 (show -9223372036854775808<=(i:Int)+1 by omega) (show(i:Int)+1<9223372036854775808 by omega)
  have Uo:zJ (x.e0.natAbs:Int) (Int.ofNat 3)=m0:=by rw[hS.rem,yw];rfl
  have DZ:zJ (x.e1.natAbs:Int) (2-m0+1)=m1:=by rw[hS.rem,An]
  have w1:aA zD .i64 m1=m1:=by rw[hS.wrap];exact wrap_i64 (by omega) (by omega)
  generalize aV (df (d:Rat) 0 0 [⟨1,m0,m1⟩])=TS at *;generalize aV (f (i+1))=TN at *;rw[show aV [⟨1,m0,m1⟩]=[[.v (.bool os),.aa false orr,.v (.bool ot),.aa false op,.v (.int .i64 m0),.v (.int .i64 m1),.v (.int .i64 0),.v (.int .i64 0),.v (.int .i64 0),.v (.int .i64 0),.v (.int .i64 0),.v (.int .i64 0)]] by
   show [(qc 1).row++m2 m0 m1]=_
   rw[ow];rfl]at cS
  obtain⟨ds,dt,dr,dp,dw,_⟩:=bD (d:Rat);rw[dw]at cd cS;have ed:aA zD .i64 (zJ x.c 4)=d:=by rw[hS.rem,<-hd,hS.wrap];exact wrap_i64 (by omega) (by omega)
  rw[<-ed]at cd;obtain⟨A0,hA0⟩:∃A:Int,A=(x.e0.natAbs:Int):=⟨_,rfl⟩;obtain⟨A1,hA1⟩:∃A:Int,A=(x.e1.natAbs:Int):=⟨_,rfl⟩;rw[<-hA0]at Um Uo;rw[<-hA1]at Un DZ;generalize x.c=xc,x.e0=x0,x.e1=x1,x.e2=x2,x.e3=x3 at *;have vf:∀row:List Tree,a9 0 1 [row]=true:=fun row=>(hS.whole (r:=[row]) (len:=1) rfl).1
  have vp:∀row:List Tree,aE [row] 0 1=[row]:=fun row=>(hS.whole (r:=[row]) (len:=1) rfl).2
  cases a with
  | none=>
   obtain rfl:i=0:=ha;rw[f0,show aV []=[] from rfl]at cA;obtain⟨v1,v2⟩:=hS.whole (r:=[]) (len:=0) rfl;clear hq pm pn pi hx hl hr ow dw;obtain rfl|rfl|rfl:m0=0∨m0=1∨m0=2:=by omega
   ·have DZ:zJ A1 (Int.ofNat 3)=m1:=DZ
    rw[<-DZ]at cS;refine⟨?_⟩;refine dL ?_;cbv;refine tT c1 ?_;cbv;repeat (first|(refine tT rfl ?_;cbv)|(refine tF rfl ?_;cbv)|(refine nd rfl ?_;cbv))
    refine aU aj mixed hS (3) ?_;cbv;repeat (first|apply bT rfl|apply bF rfl|apply nd rfl|(simp only[j2];cbv)|(refine⟨_,hS.call Um,?_⟩;cbv)|(simp only[Uo];cbv)|(refine⟨_,hS.call Un,?_⟩;cbv)|(refine⟨_,hS.call cd,?_⟩;cbv)|(refine⟨_,hS.call II,?_⟩;cbv))
    refine nd (vf _) ?_;simp only[vp];refine⟨_,hS.call cS,?_⟩;cbv;refine nd v1 ?_;simp only[v2];refine⟨_,hS.call cA,?_⟩;cbv;refine aQ [(4,4)] (some TN) ?_ ?_ ?_ ?_ rfl (by show 4<=5;omega) qK
    ·simp[aZ,ku,fe,ae,vi,vb,AV.ay,AV.aI,Cell.ay,aq]
    ·simp[a8,ku,fe,ae,Abs.look,aq,aC.ay,Cell.ay]
    ·simp[aF,ku,fe,ae,aq]
    ·simp
   ·have DZ:zJ A1 (Int.ofNat 2)=m1:=DZ
    rw[<-DZ]at cS;refine⟨?_⟩;refine dL ?_;cbv;refine tT c1 ?_;cbv;repeat (first|(refine tT rfl ?_;cbv)|(refine tF rfl ?_;cbv)|(refine nd rfl ?_;cbv))
    refine aU aj mixed hS (3) ?_;cbv;repeat (first|apply bT rfl|apply bF rfl|apply nd rfl|(simp only[j2];cbv)|(refine⟨_,hS.call Um,?_⟩;cbv)|(simp only[Uo];cbv)|(refine⟨_,hS.call Un,?_⟩;cbv)|(refine⟨_,hS.call cd,?_⟩;cbv)|(refine⟨_,hS.call II,?_⟩;cbv))
    refine nd (vf _) ?_;simp only[vp];refine⟨_,hS.call cS,?_⟩;cbv;refine nd v1 ?_;simp only[v2];refine⟨_,hS.call cA,?_⟩;cbv;refine aQ [(4,4)] (some TN) ?_ ?_ ?_ ?_ rfl (by show 4<=5;omega) qK
    ·simp[aZ,ku,fe,ae,vi,vb,AV.ay,AV.aI,Cell.ay,aq]
    ·simp[a8,ku,fe,ae,Abs.look,aq,aC.ay,Cell.ay]
    ·simp[aF,ku,fe,ae,aq]
    ·simp
   ·have DZ:zJ A1 (Int.ofNat 1)=m1:=DZ
    rw[<-DZ]at cS;refine⟨?_⟩;refine dL ?_;cbv;refine tT c1 ?_;cbv;repeat (first|(refine tT rfl ?_;cbv)|(refine tF rfl ?_;cbv)|(refine nd rfl ?_;cbv))
    refine aU aj mixed hS (3) ?_;cbv;repeat (first|apply bT rfl|apply bF rfl|apply nd rfl|(simp only[j2];cbv)|(refine⟨_,hS.call Um,?_⟩;cbv)|(simp only[Uo];cbv)|(refine⟨_,hS.call Un,?_⟩;cbv)|(refine⟨_,hS.call cd,?_⟩;cbv)|(refine⟨_,hS.call II,?_⟩;cbv))
    refine nd (vf _) ?_;simp only[vp];refine⟨_,hS.call cS,?_⟩;cbv;refine nd v1 ?_;simp only[v2];refine⟨_,hS.call cA,?_⟩;cbv;refine aQ [(4,4)] (some TN) ?_ ?_ ?_ ?_ rfl (by show 4<=5;omega) qK
    ·simp[aZ,ku,fe,ae,vi,vb,AV.ay,AV.aI,Cell.ay,aq]
    ·simp[a8,ku,fe,ae,Abs.look,aq,aC.ay,Cell.ay]
    ·simp[aF,ku,fe,ae,aq]
    ·simp
  | some T=>
   have hT:T=aV (f i):=ha;rw[<-hT]at cA;cbv at i1;clear hq pm pn pi hT hx hl hr ow dw;obtain rfl|rfl|rfl:m0=0∨m0=1∨m0=2:=by omega
   ·have DZ:zJ A1 (Int.ofNat 3)=m1:=DZ
    rw[<-DZ]at cS;refine⟨?_⟩;refine dL ?_;cbv;refine tT c1 ?_;cbv;refine tT (by rcases(show i=0∨i=1∨i=2 by omega) with h|h|h<;>rw[h]) ?_;cbv;repeat (first|(refine tT rfl ?_;cbv)|(refine tF rfl ?_;cbv)|(refine nd rfl ?_;cbv))
    refine aU aj mixed hS (3) ?_;cbv;repeat (first|apply bT rfl|apply bF rfl|apply nd rfl|(simp only[j2];cbv)|(refine⟨_,hS.call Um,?_⟩;cbv)|(simp only[Uo];cbv)|(refine⟨_,hS.call Un,?_⟩;cbv)|(refine⟨_,hS.call cd,?_⟩;cbv)|(refine⟨_,hS.call II,?_⟩;cbv))
    refine nd (vf _) ?_;simp only[vp];refine⟨_,hS.call cS,?_⟩;cbv;refine⟨_,hS.call cA,?_⟩;cbv;simp only[i1];refine aQ [(4,4)] (some TN) ?_ ?_ ?_ ?_ rfl (by show 4<=5;omega) qK
    ·simp[aZ,ku,fe,ae,vi,vb,AV.ay,AV.aI,Cell.ay,aq]
    ·simp[a8,ku,fe,ae,Abs.look,aq,aC.ay,Cell.ay]
    ·simp[aF,ku,fe,ae,aq]
    ·simp
   ·have DZ:zJ A1 (Int.ofNat 2)=m1:=DZ
    rw[<-DZ]at cS;refine⟨?_⟩;refine dL ?_;cbv;refine tT c1 ?_;cbv;refine tT (by rcases(show i=0∨i=1∨i=2 by omega) with h|h|h<;>rw[h]) ?_;cbv;repeat (first|(refine tT rfl ?_;cbv)|(refine tF rfl ?_;cbv)|(refine nd rfl ?_;cbv))
    refine aU aj mixed hS (3) ?_;cbv;repeat (first|apply bT rfl|apply bF rfl|apply nd rfl|(simp only[j2];cbv)|(refine⟨_,hS.call Um,?_⟩;cbv)|(simp only[Uo];cbv)|(refine⟨_,hS.call Un,?_⟩;cbv)|(refine⟨_,hS.call cd,?_⟩;cbv)|(refine⟨_,hS.call II,?_⟩;cbv))
    refine nd (vf _) ?_;simp only[vp];refine⟨_,hS.call cS,?_⟩;cbv;refine⟨_,hS.call cA,?_⟩;cbv;simp only[i1];refine aQ [(4,4)] (some TN) ?_ ?_ ?_ ?_ rfl (by show 4<=5;omega) qK
    ·simp[aZ,ku,fe,ae,vi,vb,AV.ay,AV.aI,Cell.ay,aq]
    ·simp[a8,ku,fe,ae,Abs.look,aq,aC.ay,Cell.ay]
    ·simp[aF,ku,fe,ae,aq]
    ·simp
   ·have DZ:zJ A1 (Int.ofNat 1)=m1:=DZ
    rw[<-DZ]at cS;refine⟨?_⟩;refine dL ?_;cbv;refine tT c1 ?_;cbv;refine tT (by rcases(show i=0∨i=1∨i=2 by omega) with h|h|h<;>rw[h]) ?_;cbv;repeat (first|(refine tT rfl ?_;cbv)|(refine tF rfl ?_;cbv)|(refine nd rfl ?_;cbv))
    refine aU aj mixed hS (3) ?_;cbv;repeat (first|apply bT rfl|apply bF rfl|apply nd rfl|(simp only[j2];cbv)|(refine⟨_,hS.call Um,?_⟩;cbv)|(simp only[Uo];cbv)|(refine⟨_,hS.call Un,?_⟩;cbv)|(refine⟨_,hS.call cd,?_⟩;cbv)|(refine⟨_,hS.call II,?_⟩;cbv))
    refine nd (vf _) ?_;simp only[vp];refine⟨_,hS.call cS,?_⟩;cbv;refine⟨_,hS.call cA,?_⟩;cbv;simp only[i1];refine aQ [(4,4)] (some TN) ?_ ?_ ?_ ?_ rfl (by show 4<=5;omega) qK
    ·simp[aZ,ku,fe,ae,vi,vb,AV.ay,AV.aI,Cell.ay,aq]
    ·simp[a8,ku,fe,ae,Abs.look,aq,aC.ay,Cell.ay]
    ·simp[aF,ku,fe,ae,aq]
    ·simp
 ·intro a ha
  by_cases h3:l.length<=3
  ·have lE:mD zV (Int.ofNat n) (zz (ab X))=false:=hS.eU (by omega)
   cases a with
   | none=>
    obtain rfl:n=0:=ha;obtain⟨v1,v2⟩:=hS.whole (r:=[]) (len:=0) rfl;have hY0:Y=[]:=by rw[hY,f0];rfl
    subst hY0;refine⟨?_⟩;refine dL ?_;cbv;refine tF lE ?_;cbv;repeat (first|(refine tT rfl ?_;cbv)|(refine tF rfl ?_;cbv)|(refine nd rfl ?_;cbv))
    refine nd v1 ?_;simp only[v2];exact hF _ (ak.refl _)
   | some T=>
    obtain rfl:T=Y:=(show T=aV (f n) from ha).trans hY.symm;refine⟨?_⟩;refine dL ?_;cbv;refine tF lE ?_;cbv;repeat (first|(refine tT rfl ?_;cbv)|(refine tF rfl ?_;cbv)|(refine nd rfl ?_;cbv))
    exact hF _ (ak.refl _)
  ·obtain rfl:n=3:=by omega
   have c1:mD zV (Int.ofNat 3) (zz (ab X))=true:=by rw[hS.lt,hS.aB,hS.len,lX];exact decide_eq_true (show((3:Nat):Int)<(l.length:Int) by omega)
   cases a with
   | none=>exact absurd (show(3:Nat)=0 from ha) (by decide)
   | some T=>
    obtain rfl:T=Y:=(show T=aV (f 3) from ha).trans hY.symm;refine⟨?_⟩;refine dL ?_;cbv;refine tT c1 ?_;cbv;repeat (first|(refine tT rfl ?_;cbv)|(refine tF rfl ?_;cbv)|(refine nd rfl ?_;cbv))
    exact hF _ (ak.refl _)
end Go.Proofs.YtekefilngojelaaGreat
end
