/- A part. -/
import Derived.Test.YtekefilngojelaaGreatM12
import Derived.Test.YtekefilngojelaaGreatM20
set_option maxHeartbeats 0
set_option maxRecDepth 100000
set_option linter.unusedVariables false
set_option linter.unusedSimpArgs false
section
namespace Go.Proofs.YtekefilngojelaaGreat
open Go Go.Abs Go.Abs.M Go.Proofs
theorem xY (n:Int) (h1:-128<=n) (h2:n<128):aH 35 [.val (ti .i8 n)] ⟨[.val (ti .i64 (n.natAbs:Int))],[none]⟩:=by
 obtain⟨N,hN⟩:=aq (n.natAbs:Int);rw[<-hN]
 by_cases h:n<0
 ·refine an ai mixed [.val] Tryz.func35 rfl rfl (by kernel_rfl) fun zD _ zG _ _ _ _ _ _ _ _ _ _ _ zV _ _ _ _ _ _ _ _ _ _ _ _ _ _ _ _ _ _ _ _ _ _ _ _ _ _ _ _ _ _ _ _ _ _ _ _ A L F hS hF=>?_
  have c1:zV n 0=true:=dT (hS.lt ..) h;have c2:zD .i64 (zG 0 (zD .i64 n))=N:=by rw[hS.wrap,hS.wrap,wrap_i64 (x:=n) (by omega) (by omega),hS.sub,wrap_i64 (by omega) (by omega)];omega
  cbv;apply bT c1;exact bc hF (kx c2)
 ·refine an ai mixed [.val] Tryz.func35 rfl rfl (by kernel_rfl) fun zD _ zG _ _ _ _ _ _ _ _ _ _ _ zV _ _ _ _ _ _ _ _ _ _ _ _ _ _ _ _ _ _ _ _ _ _ _ _ _ _ _ _ _ _ _ _ _ _ _ _ A L F hS hF=>?_
  have c1:zV n 0=false:=dF (hS.lt ..) h;have c2:zD .i64 n=N:=by rw[hS.wrap,wrap_i64 (by omega) (by omega)];omega
  cbv;apply bF c1;exact bc hF (kx c2)
theorem DW (x:Rat) (l:List T2) (hx:Qs x 1000) (hl:∀t∈l,t.ok 1000 30000) (UC:l.length<=1000) :
  aH 36 [.val (.agg (qc x).row),.val (tl (aP l))] ⟨[.val (tl (aP (bM x 0 0 l)))],[none,none]⟩:=by
 have c:=mB x 0 0 l (n:=1000) hx (by omega) (by omega) hl (by omega) UC;obtain⟨s1,t1,r1,p1,e1,_⟩:=bX x;rw[e1]at c ⊢;unfold m2 at c;generalize aP (bM x 0 0 l)=T,aP l=X at *;refine an ai mixed [.val] Tryz.func36 rfl rfl (by kernel_rfl) ?_;intros;rename_i A L F hS hF;cbv;refine hS.cl c ?_;cbv;exact aC hF
structure R5 where
 c:Int
 e0:Int
 e1:Int
 e2:Int
 e3:Int
def R5.ok (x:R5):Prop:=(-128<=x.c/\x.c<128)/\(-128<=x.e0/\x.e0<128)/\(-128<=x.e1/\x.e1<128)
def R5.row (x:R5):List Tree:=[.v (.int .i8 x.c),.v (.int .i8 x.e0),.v (.int .i8 x.e1),.v (.int .i8 x.e2),.v (.int .i8 x.e3)]
def Ae (l:List R5):Abs.Rows:=l.map R5.row
theorem Qo (l:List R5):(Ae l).length=l.length:=by simp[Ae]
theorem Xi {l:List R5} {i:Nat} (h:i<l.length):∃x,x∈l/\(Ae l)[i]?=some x.row:=⟨l[i],List.getElem_mem h,by simp[Ae,List.getElem?_eq_getElem h]⟩
structure MP (k:Nat) (p:List T2):Prop where
 vd:Vd p
 z:Zb (3*k) p
 e:∀t∈p,0<=t.a/\0<=t.b/\t.a+t.b<=2
 len:p.length<=k
theorem tm4 (a:Int):-4<a.tmod 4/\a.tmod 4<4:=by
 rcases Int.le_total 0 a with h|h
 ·rw[Int.tmod_eq_emod_of_nonneg h];omega
 ·rw[show a=-(-a) by omega,Int.neg_tmod,Int.tmod_eq_emod_of_nonneg (by omega)];omega
theorem Qp {p:List T2} {d:Int} (h:∀t∈p,t.a+t.b<=d) (hd:-1<=d):ju p<=d:=by
 unfold ju
 suffices hs:∀(p:List T2) (c:Int),(∀t∈p,t.a+t.b<=d)->c<=d->p.foldl (fun d t=>if t.a+t.b>d then t.a+t.b else d) c<=d from hs p (-1) h hd
 intro p
 induction p with
 | nil=>intro c _ hc;exact hc
 | cons t p ih=>
  intro c h hc;rw[List.foldl_cons];refine ih _ (fun u hu=>h u (List.mem_cons_of_mem _ hu)) ?_;split
  ·exact h t List.mem_cons_self
  ·exact hc
theorem MP.sp {k:Nat} {p:List T2} (h:MP k p) (hk:k<=5):SP p:=by
 refine⟨fun t ht=>?_,h.vd,by have:=h.len;omega,Int.le_trans (Qp (d:=2) (fun t ht=>(h.e t ht).2.2) (by omega)) (by omega)⟩;have z:=h.z t ht;have e:=h.e t ht;exact⟨z.1,⟨fun e0=>h.vd.1 t ht (Rat.num_eq_zero.1 e0),by omega⟩,by omega,by omega⟩
theorem MP.step {k:Nat} {p:List T2} (h:MP k p) (d m0 m1:Int) (hd:-4<d/\d<4) (h0:0<=m0) (h1:0<=m1) (h2:m0+m1<=2) :
  MP (k+1) (bN (p.length+(bM (d:Rat) 0 0 [⟨1,m0,m1⟩]).length) p (bM (d:Rat) 0 0 [⟨1,m0,m1⟩])):=by
 have hQ:Vd (bM (d:Rat) 0 0 [⟨1,m0,m1⟩])/\Zb 3 (bM (d:Rat) 0 0 [⟨1,m0,m1⟩])/\(bM (d:Rat) 0 0 [⟨1,m0,m1⟩]).length<=1/\∀t∈bM (d:Rat) 0 0 [⟨1,m0,m1⟩],t.a=m0/\t.b=m1:=by
  unfold bM;split
  ·exact⟨⟨by simp,List.Pairwise.nil⟩,by simp[Zb],by simp,by simp⟩
  ·rename_i dh
   refine⟨⟨fun t ht=>?_,List.pairwise_singleton _ _⟩,fun t ht=>?_,by simp,fun t ht=>?_⟩
   ·simp only[List.map_cons,List.map_nil,List.mem_singleton]at ht
    subst ht;simpa[Rat.mul_one]using dh
   ·simp only[List.map_cons,List.map_nil,List.mem_singleton]at ht
    subst ht;simp only[Rat.mul_one];exact⟨Rat.den_intCast _,by rw[Rat.num_intCast];omega⟩
   ·simp only[List.map_cons,List.map_nil,List.mem_singleton]at ht
    subst ht;exact⟨by simp,by simp⟩
 obtain⟨g1,g2,g3,g4⟩:=hQ;obtain⟨s1,s2,s3,s4⟩:=Lf _ p _ (Nat.le_refl _) h.vd g1 h.z g2;refine⟨s1,fun t ht=>⟨(s2 t ht).1,by have:=(s2 t ht).2;omega⟩,fun t ht=>?_,by have:=h.len;omega⟩;obtain⟨u,hu,ea,eb⟩:=s3 t ht;rcases hu with hu|hu
 ·have:=h.e u hu;omega
 ·have:=g4 u hu;omega
def Il (X:Abs.Rows) (I:Int):St:=ae 74 [.af,vi .i64 2,vi .i64 2,vi .i64 3,.c (.ptr 4 0 0),.af,.af,.af,.af,.c (.sl 5 0 0 false),vi .i64 I] [none,none,none,none,some (.var [.t (.aa false X)]),some (.rows 12 [] true false)]
def fk (X T:Abs.Rows) (I:Int):St:=ae 74 [.af,vi .i64 2,vi .i64 2,vi .i64 3,.c (.ptr 4 0 0),.af,.af,.af,.af,.c (.t (.aa false T)),vi .i64 I] [none,none,none,none,some (.var [.t (.aa false X)])]
def kF (X:Abs.Rows) (I:Int):Option Abs.Rows->St
 | none=>Il X I
 | some T=>fk X T I
def Xj (f:Nat->List T2) (i:Nat):Option Abs.Rows->Prop
 | none=>i=0
 | some T=>T=aP (f i)
theorem uZ (l:List R5) (hl:∀x∈l,x.ok) :
  ∃p,MP 3 p/\aH 11 [.val (.agg [.aa false (Ae l)]),.val (ti .i64 2),.val (ti .i64 2),.val (ti .i64 3)] ⟨[.val (tl (aP p))],[none,none,none,none]⟩:=by
 obtain⟨X,hX⟩:=aq (Ae l);have lX:X.length=l.length:=by rw[hX,Qo]
 obtain⟨n,hn⟩:=aq (min l.length 3);have key:∀i:Nat,i<n->∀p,MP i p->∃q,MP (i+1) q/\∃(d m0 m1:Int) (x:R5),x∈l/\(Ae l)[i]?=some x.row/\d=x.c.tmod 4/\m0=(x.e0.natAbs:Int).tmod 3/\m1=(x.e1.natAbs:Int).tmod (2-m0+1)/\0<=m0/\m0<=2/\0<=m1/\m1<=2-m0/\q=bN (p.length+(bM (d:Rat) 0 0 [⟨1,m0,m1⟩]).length) p (bM (d:Rat) 0 0 [⟨1,m0,m1⟩]):=fun i hi p hp=>by
  obtain⟨x,hx,hr⟩:=Xi (l:=l) (i:=i) (by omega);have a0:0<=(x.e0.natAbs:Int).tmod 3/\(x.e0.natAbs:Int).tmod 3<=2:=by rw[Int.tmod_eq_emod_of_nonneg (by omega)];omega
  obtain⟨m0,yu⟩:=aq ((x.e0.natAbs:Int).tmod 3);rw[<-yu]at a0;have a1:0<=(x.e1.natAbs:Int).tmod (2-m0+1)/\(x.e1.natAbs:Int).tmod (2-m0+1)<=2-m0:=by
   rw[Int.tmod_eq_emod_of_nonneg (by omega)];have h1:=Int.emod_nonneg (x.e1.natAbs:Int) (b:=2-m0+1) (by omega);have h2:=Int.emod_lt_of_pos (x.e1.natAbs:Int) (b:=2-m0+1) (by omega);omega
  obtain⟨m1,Ak⟩:=aq ((x.e1.natAbs:Int).tmod (2-m0+1));rw[<-Ak]at a1;exact⟨_,hp.step (x.c.tmod 4) m0 m1 (tm4 _) a0.1 a1.1 (by omega),_,m0,m1,x,hx,hr,rfl,yu,Ak,a0.1,a0.2,a1.1,a1.2,rfl⟩
 have ex:∃f:Nat->List T2,f 0=[]/\∀i,i<n->MP i (f i)/\MP (i+1) (f (i+1))/\∃(d m0 m1:Int) (x:R5),x∈l/\(Ae l)[i]?=some x.row/\d=x.c.tmod 4/\m0=(x.e0.natAbs:Int).tmod 3/\m1=(x.e1.natAbs:Int).tmod (2-m0+1)/\0<=m0/\m0<=2/\0<=m1/\m1<=2-m0/\f (i+1)=bN ((f i).length+(bM (d:Rat) 0 0 [⟨1,m0,m1⟩]).length) (f i) (bM (d:Rat) 0 0 [⟨1,m0,m1⟩]):=by
  have m0:MP 0 []:=⟨⟨by simp,List.Pairwise.nil⟩,by simp[Zb],by simp,by simp⟩;have hc:∀k:Nat,k<=n->∃f:Nat->List T2,f 0=[]/\MP k (f k)/\∀i,i<k->MP i (f i)/\MP (i+1) (f (i+1))/\∃(d m0 m1:Int) (x:R5),x∈l/\(Ae l)[i]?=some x.row/\d=x.c.tmod 4/\m0=(x.e0.natAbs:Int).tmod 3/\m1=(x.e1.natAbs:Int).tmod (2-m0+1)/\0<=m0/\m0<=2/\0<=m1/\m1<=2-m0/\f (i+1)=bN ((f i).length+(bM (d:Rat) 0 0 [⟨1,m0,m1⟩]).length) (f i) (bM (d:Rat) 0 0 [⟨1,m0,m1⟩]):=by
   intro k
   induction k with
   | zero=>intro _;exact⟨fun _=>[],rfl,m0,fun i hi=>absurd hi (by omega)⟩
   | succ k ih=>
    intro hk;obtain⟨f,h0,h1,h2⟩:=ih (by omega);obtain⟨q,hq,Xk⟩:=key k (by omega) (f k) h1;refine⟨fun i=>if i<=k then f i else q,by simp[h0],by simp only[if_neg (show ¬k+1<=k by omega)];exact hq,fun i hi=>?_⟩
    by_cases O9:i<k
    ·simp only[if_pos (show i<=k by omega),if_pos (show i+1<=k by omega)]
     exact h2 i O9
    ·obtain rfl:i=k:=by omega
     simp only[if_pos (Nat.le_refl i),if_neg (show ¬i+1<=i by omega)];exact⟨h1,hq,Xk⟩
  obtain⟨f,h0,_,h2⟩:=hc n (Nat.le_refl n);exact⟨f,h0,h2⟩
 clear key;obtain⟨f,f0,hf⟩:=ex;have jx:MP 3 (f n):=by
  have m0:MP 0 []:=⟨⟨by simp,List.Pairwise.nil⟩,by simp[Zb],by simp,by simp⟩;have:∃k,k<=3/\MP k (f n):=by
   cases Ka:n with
   | zero=>exact⟨0,by omega,by rw[f0];exact m0⟩
   | succ k=>exact⟨k+1,by omega,(hf k (by omega)).2.1⟩
  obtain⟨k,hk,h⟩:=this;exact⟨h.vd,fun t ht=>⟨(h.z t ht).1,by have:=(h.z t ht).2;omega⟩,h.e,by have:=h.len;omega⟩
 refine⟨f n,jx,?_⟩;rw[<-hX];obtain⟨Y,hY⟩:=aq (aP (f n));rw[<-hY];have Im:=PG 1 (by decide) (by decide);rw[show(((1:Int)):Rat)=1 from rfl]at Im;obtain⟨os,ot,orr,op,ow,_⟩:=bX 1;rw[ow]at Im;refine dE ai mixed [.val] Tryz.func11 rfl rfl (by kernel_rfl) fun zD zE _ _ _ zJ _ _ _ _ _ _ _ _ zV _ _ _ _ _ _ _ _ zz _ _ _ _ _ _ _ ab aB _ _ _ _ a9 aD _ _ _ _ _ _ _ _ _ _ _ _ A L F hS hF=>?_
 refine dJ ?_;cbv;repeat (first|(apply tT rfl;cbv)|(apply tF rfl;cbv)|(apply nd rfl;cbv))
 refine fX ai mixed hS (n:=n) (fun i (a:Option Abs.Rows)=>kF X (Int.ofNat i) a) (fun i a=>Xj f i a) (a0:=none) (fy ?_ ?_) rfl (by show 4<=6;omega) rfl ?_ ?_
 ·simp[dS,kF,Il,ae,vi,vb]
 ·simp[dU,kF,Il,ae]
 ·intro i a hi ha
  obtain⟨pm,pn,d,m0,m1,x,hx,hr,hd,yu,Ak,b0,b1,b2,b3,hq⟩:=hf i hi;obtain⟨oc,oe0,oe1⟩:=hl x hx;have TX:=xY x.e0 oe0.1 oe0.2;have TY:=xY x.e1 oe1.1 oe1.2;have hd4:=tm4 x.c;rw[<-hd]at hd4;have cd:=PG d (by omega) (by omega);have cS:=DW (d:Rat) [⟨1,m0,m1⟩] ((Qs.whole (n:=d) (k:=1) (by omega) (Nat.le_refl 1)).mono (by omega)) (fun t ht=>by
   rw[List.mem_singleton.1 ht];exact⟨by have:=Qs.whole (n:=1) (k:=1000) (by decide) (by omega);exact this,by simp only;omega,by simp only;omega⟩) (by simp)
  have pi:=(show MP i (f i) from pm);have cA:=qS (f i) (bM (d:Rat) 0 0 [⟨1,m0,m1⟩]) (a:=100) (b:=100) (fun t ht=>by
   have z:=pi.z t ht;have e:=pi.e t ht;exact⟨by rw[oL z.1];exact Qs.whole (by omega) (by omega),by omega,by omega⟩) (fun t ht=>by
   unfold bM at ht;split at ht
   ·simp at ht
   ·simp only[List.map_cons,List.map_nil,List.mem_singleton]at ht
    subst ht;refine⟨?_,by simp only;omega,by simp only;omega⟩;simp only[Rat.mul_one];exact Qs.whole (by omega) (by omega)) (by have:=pi.len;omega) (by unfold bM;split<;>simp) (by omega)
  rw[<-hq]at cA;have mY:Xj f (i+1) (some (aP (f (i+1)))):=rfl;have j2:aB X i=some x.row:=by rw[hS.nth,hX];exact hr
  unfold R5.row at j2;have c1:me zV (Int.ofNat i) (zz (ab X))=true:=by rw[hS.lt,hS.az,hS.len,lX];exact decide_eq_true (show((i:Nat):Int)<(l.length:Int) by omega)
  have i1:aE zD .i64 (eE zE (Int.ofNat i) 1)=(i:Int)+1:=by rw[hS.add,hS.wrap];exact wrap_i64 (show -9223372036854775808<=(i:Int)+1 by omega) (show(i:Int)+1<9223372036854775808 by omega)
  have TZ:zJ (x.e0.natAbs:Int) (Int.ofNat 3)=m0:=by rw[hS.rem,yu];rfl
  have DX:zJ (x.e1.natAbs:Int) (2-m0+1)=m1:=by rw[hS.rem,Ak]
  have w1:aE zD .i64 m1=m1:=by rw[hS.wrap];exact wrap_i64 (by omega) (by omega)
  generalize aP (bM (d:Rat) 0 0 [⟨1,m0,m1⟩])=TS at *;generalize aP (f (i+1))=TN at *;rw[show aP [⟨1,m0,m1⟩]=[[.v (.bool os),.aa false orr,.v (.bool ot),.aa false op,.v (.int .i64 m0),.v (.int .i64 m1),.v (.int .i64 0),.v (.int .i64 0),.v (.int .i64 0),.v (.int .i64 0),.v (.int .i64 0),.v (.int .i64 0)]] by
   show [(qc 1).row++m2 m0 m1]=_
   rw[ow];rfl]at cS
  obtain⟨ds,dt,dr,dp,dw,_⟩:=bX (d:Rat);rw[dw]at cd cS;have ed:aE zD .i64 (zJ x.c 4)=d:=by rw[hS.rem,<-hd,hS.wrap];exact wrap_i64 (by omega) (by omega)
  rw[<-ed]at cd;obtain⟨A0,hA0⟩:=aq (x.e0.natAbs:Int);obtain⟨A1,hA1⟩:=aq (x.e1.natAbs:Int);rw[<-hA0]at TX TZ;rw[<-hA1]at TY DX;generalize x.c=xc,x.e0=x0,x.e1=x1,x.e2=x2,x.e3=x3 at *;have vf:∀row:List Tree,a9 0 1 [row]=true:=fun row=>(hS.whole (r:=[row]) (len:=1) rfl).1
  have vp:∀row:List Tree,aD [row] 0 1=[row]:=fun row=>(hS.whole (r:=[row]) (len:=1) rfl).2
  cases a with
  | none=>
   obtain rfl:i=0:=ha;rw[f0,show aP []=[] from rfl]at cA;obtain⟨v1,v2⟩:=hS.whole (r:=[]) (len:=0) rfl;clear hq pm pn pi hx hl hr ow dw;obtain rfl|rfl|rfl:m0=0∨m0=1∨m0=2:=by omega
   ·have DX:zJ A1 (Int.ofNat 3)=m1:=DX
    rw[<-DX]at cS;refine⟨?_⟩;refine dJ ?_;cbv;apply tT c1;cbv;repeat (first|(apply tT rfl;cbv)|(apply tF rfl;cbv)|(apply nd rfl;cbv))
    refine bz ai mixed hS (3) ?_;cbv;repeat (first|apply bT rfl|apply bF rfl|apply nd rfl|(simp only[j2];cbv)|(refine hS.cl TX ?_;cbv)|(simp only[TZ];cbv)|(refine hS.cl TY ?_;cbv)|(refine hS.cl cd ?_;cbv)|(refine hS.cl Im ?_;cbv))
    apply nd (vf _);simp only[vp];refine hS.cl cS ?_;cbv;apply nd v1;simp only[v2];refine hS.cl cA ?_;cbv;refine aU [(4,4)] (some TN) ?_ ?_ ?_ ?_ rfl (by show 4<=5;omega) mY
    ·simp[bd,kF,fk,ae,vi,vb,AV.aw,AV.aJ,Cell.aw,ak]
    ·simp[bf,kF,fk,ae,Abs.look,ak,aA.aw,Cell.aw]
    ·simp[aF,kF,fk,ae,ak]
    ·simp
   ·have DX:zJ A1 (Int.ofNat 2)=m1:=DX
    rw[<-DX]at cS;refine⟨?_⟩;refine dJ ?_;cbv;apply tT c1;cbv;repeat (first|(apply tT rfl;cbv)|(apply tF rfl;cbv)|(apply nd rfl;cbv))
    refine bz ai mixed hS (3) ?_;cbv;repeat (first|apply bT rfl|apply bF rfl|apply nd rfl|(simp only[j2];cbv)|(refine hS.cl TX ?_;cbv)|(simp only[TZ];cbv)|(refine hS.cl TY ?_;cbv)|(refine hS.cl cd ?_;cbv)|(refine hS.cl Im ?_;cbv))
    apply nd (vf _);simp only[vp];refine hS.cl cS ?_;cbv;apply nd v1;simp only[v2];refine hS.cl cA ?_;cbv;refine aU [(4,4)] (some TN) ?_ ?_ ?_ ?_ rfl (by show 4<=5;omega) mY
    ·simp[bd,kF,fk,ae,vi,vb,AV.aw,AV.aJ,Cell.aw,ak]
    ·simp[bf,kF,fk,ae,Abs.look,ak,aA.aw,Cell.aw]
    ·simp[aF,kF,fk,ae,ak]
    ·simp
   ·have DX:zJ A1 (Int.ofNat 1)=m1:=DX
    rw[<-DX]at cS;refine⟨?_⟩;refine dJ ?_;cbv;apply tT c1;cbv;repeat (first|(apply tT rfl;cbv)|(apply tF rfl;cbv)|(apply nd rfl;cbv))
    refine bz ai mixed hS (3) ?_;cbv;repeat (first|apply bT rfl|apply bF rfl|apply nd rfl|(simp only[j2];cbv)|(refine hS.cl TX ?_;cbv)|(simp only[TZ];cbv)|(refine hS.cl TY ?_;cbv)|(refine hS.cl cd ?_;cbv)|(refine hS.cl Im ?_;cbv))
    apply nd (vf _);simp only[vp];refine hS.cl cS ?_;cbv;apply nd v1;simp only[v2];refine hS.cl cA ?_;cbv;refine aU [(4,4)] (some TN) ?_ ?_ ?_ ?_ rfl (by show 4<=5;omega) mY
    ·simp[bd,kF,fk,ae,vi,vb,AV.aw,AV.aJ,Cell.aw,ak]
    ·simp[bf,kF,fk,ae,Abs.look,ak,aA.aw,Cell.aw]
    ·simp[aF,kF,fk,ae,ak]
    ·simp
  | some T=>
   have hT:T=aP (f i):=ha;rw[<-hT]at cA;cbv at i1;clear hq pm pn pi hT hx hl hr ow dw;obtain rfl|rfl|rfl:m0=0∨m0=1∨m0=2:=by omega
   ·have DX:zJ A1 (Int.ofNat 3)=m1:=DX
    rw[<-DX]at cS;refine⟨?_⟩;refine dJ ?_;cbv;apply tT c1;cbv;refine tT (by rcases(show i=0∨i=1∨i=2 by omega) with h|h|h<;>rw[h]) ?_;cbv;repeat (first|(apply tT rfl;cbv)|(apply tF rfl;cbv)|(apply nd rfl;cbv))
    refine bz ai mixed hS (3) ?_;cbv;repeat (first|apply bT rfl|apply bF rfl|apply nd rfl|(simp only[j2];cbv)|(refine hS.cl TX ?_;cbv)|(simp only[TZ];cbv)|(refine hS.cl TY ?_;cbv)|(refine hS.cl cd ?_;cbv)|(refine hS.cl Im ?_;cbv))
    apply nd (vf _);simp only[vp];refine hS.cl cS ?_;cbv;refine hS.cl cA ?_;cbv;simp only[i1];refine aU [(4,4)] (some TN) ?_ ?_ ?_ ?_ rfl (by show 4<=5;omega) mY
    ·simp[bd,kF,fk,ae,vi,vb,AV.aw,AV.aJ,Cell.aw,ak]
    ·simp[bf,kF,fk,ae,Abs.look,ak,aA.aw,Cell.aw]
    ·simp[aF,kF,fk,ae,ak]
    ·simp
   ·have DX:zJ A1 (Int.ofNat 2)=m1:=DX
    rw[<-DX]at cS;refine⟨?_⟩;refine dJ ?_;cbv;apply tT c1;cbv;refine tT (by rcases(show i=0∨i=1∨i=2 by omega) with h|h|h<;>rw[h]) ?_;cbv;repeat (first|(apply tT rfl;cbv)|(apply tF rfl;cbv)|(apply nd rfl;cbv))
    refine bz ai mixed hS (3) ?_;cbv;repeat (first|apply bT rfl|apply bF rfl|apply nd rfl|(simp only[j2];cbv)|(refine hS.cl TX ?_;cbv)|(simp only[TZ];cbv)|(refine hS.cl TY ?_;cbv)|(refine hS.cl cd ?_;cbv)|(refine hS.cl Im ?_;cbv))
    apply nd (vf _);simp only[vp];refine hS.cl cS ?_;cbv;refine hS.cl cA ?_;cbv;simp only[i1];refine aU [(4,4)] (some TN) ?_ ?_ ?_ ?_ rfl (by show 4<=5;omega) mY
    ·simp[bd,kF,fk,ae,vi,vb,AV.aw,AV.aJ,Cell.aw,ak]
    ·simp[bf,kF,fk,ae,Abs.look,ak,aA.aw,Cell.aw]
    ·simp[aF,kF,fk,ae,ak]
    ·simp
   ·have DX:zJ A1 (Int.ofNat 1)=m1:=DX
    rw[<-DX]at cS;refine⟨?_⟩;refine dJ ?_;cbv;apply tT c1;cbv;refine tT (by rcases(show i=0∨i=1∨i=2 by omega) with h|h|h<;>rw[h]) ?_;cbv;repeat (first|(apply tT rfl;cbv)|(apply tF rfl;cbv)|(apply nd rfl;cbv))
    refine bz ai mixed hS (3) ?_;cbv;repeat (first|apply bT rfl|apply bF rfl|apply nd rfl|(simp only[j2];cbv)|(refine hS.cl TX ?_;cbv)|(simp only[TZ];cbv)|(refine hS.cl TY ?_;cbv)|(refine hS.cl cd ?_;cbv)|(refine hS.cl Im ?_;cbv))
    apply nd (vf _);simp only[vp];refine hS.cl cS ?_;cbv;refine hS.cl cA ?_;cbv;simp only[i1];refine aU [(4,4)] (some TN) ?_ ?_ ?_ ?_ rfl (by show 4<=5;omega) mY
    ·simp[bd,kF,fk,ae,vi,vb,AV.aw,AV.aJ,Cell.aw,ak]
    ·simp[bf,kF,fk,ae,Abs.look,ak,aA.aw,Cell.aw]
    ·simp[aF,kF,fk,ae,ak]
    ·simp
 ·intro a ha
  by_cases h3:l.length<=3
  ·have lE:me zV (Int.ofNat n) (zz (ab X))=false:=hS.fh (by omega)
   cases a with
   | none=>
    obtain rfl:n=0:=ha;obtain⟨v1,v2⟩:=hS.whole (r:=[]) (len:=0) rfl;have hY0:Y=[]:=by rw[hY,f0];rfl
    subst hY0;refine⟨?_⟩;refine dJ ?_;cbv;apply tF lE;cbv;repeat (first|(apply tT rfl;cbv)|(apply tF rfl;cbv)|(apply nd rfl;cbv))
    apply nd v1;simp only[v2];exact aC hF
   | some T=>
    obtain rfl:T=Y:=(show T=aP (f n) from ha).trans hY.symm;refine⟨?_⟩;refine dJ ?_;cbv;apply tF lE;cbv;repeat (first|(apply tT rfl;cbv)|(apply tF rfl;cbv)|(apply nd rfl;cbv))
    exact aC hF
  ·obtain rfl:n=3:=by omega
   have c1:me zV (Int.ofNat 3) (zz (ab X))=true:=by rw[hS.lt,hS.az,hS.len,lX];exact decide_eq_true (show((3:Nat):Int)<(l.length:Int) by omega)
   cases a with
   | none=>exact absurd (show(3:Nat)=0 from ha) (by decide)
   | some T=>
    obtain rfl:T=Y:=(show T=aP (f 3) from ha).trans hY.symm;refine⟨?_⟩;refine dJ ?_;cbv;apply tT c1;cbv;repeat (first|(apply tT rfl;cbv)|(apply tF rfl;cbv)|(apply nd rfl;cbv))
    exact aC hF
end Go.Proofs.YtekefilngojelaaGreat
end
