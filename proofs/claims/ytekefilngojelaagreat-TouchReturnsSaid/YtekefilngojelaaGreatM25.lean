/- A part of the proof. -/
import Derived.Test.YtekefilngojelaaGreatM9
import Derived.Test.YtekefilngojelaaGreatM15
import Derived.Test.YtekefilngojelaaGreatM17
import Derived.Test.YtekefilngojelaaGreatM18
import Derived.Test.YtekefilngojelaaGreatM20
import Derived.Test.YtekefilngojelaaGreatM24
set_option maxHeartbeats 0
set_option maxRecDepth 100000
set_option linter.unusedVariables false
set_option linter.unusedSimpArgs false
set_option linter.unusedSectionVars false
section
namespace Go.Proofs.YtekefilngojelaaGreat
open Go Go.Abs Go.Abs.M Go.Proofs
def Cg (l:List (List R5)):Abs.Rows:=l.map fun t=>[.aa false (Ah t)]
def L5 (l:List (List R5)):Prop:=l.length<=281474976710656/\∀t∈l,∀x∈t,x.ok
theorem QJ (l:List (List R5)):(Cg l).length=l.length:=by simp[Cg]
def Ch (X:Abs.Rows) (len:Nat) (O:Abs.Rows) (I:Int):St:=ae 37 [.c (.t (.aa false X)),vi .i64 2,vi .i64 2,vi .i64 3,vi .i64 6,.af,.af,.af,.af,.af,.af,.c (.sl 5 0 len false),vi .i64 I] [none,none,none,none,none,some (.rows 1 O true false)]
theorem gg (l:List (List R5)) (hl:L5 l) :
  ∃r:List (List T2),r.length=min l.length 6/\(∀p∈r,MP 3 p)/\ah Tryz.prog 65 [.val (tl (Cg l)),.val (ti .i64 2),.val (ti .i64 2),.val (ti .i64 3),.val (ti .i64 6)] ⟨[.val (tl (an r))],[none,none,none,none,none]⟩:=by
 have hM:∀i:Nat,∃p,MP 3 p/\(i<l.length->ah Tryz.prog 11 [.val (.agg [.aa false (Ah (l.getD i []))]),.val (ti .i64 2),.val (ti .i64 2),.val (ti .i64 3)] ⟨[.val (tl (aV p))],[none,none,none,none]⟩):=fun i=>by
  by_cases h:i<l.length
  ·have hm:l.getD i []∈l:=by rw[List.getD_eq_getElem?_getD,List.getElem?_eq_getElem h];exact List.getElem_mem h
   obtain⟨p,h1,h2⟩:=uX (l.getD i []) (hl.2 _ hm);exact⟨p,h1,fun _=>h2⟩
  ·exact⟨[],⟨⟨by simp,List.Pairwise.nil⟩,by simp[Zb],by simp,by simp⟩,fun h2=>absurd h2 h⟩
 obtain⟨f,hf⟩:=Classical.axiomOfChoice hM;obtain⟨n,hn⟩:∃n,n=min l.length 6:=⟨_,rfl⟩;refine⟨(List.range n).map f,by simp[hn],fun p hp=>by obtain⟨i,_,rfl⟩:=List.mem_map.1 hp;exact(hf i).1,?_⟩;obtain⟨X,hX⟩:∃X,X=Cg l:=⟨_,rfl⟩;have lX:X.length=l.length:=by rw[hX,QJ]
 obtain⟨Y,hY⟩:∃Y,Y=an ((List.range n).map f):=⟨_,rfl⟩;rw[<-hX,<-hY];refine dC aj mixed [.val] Tryz.func65 rfl rfl (by kernel_rfl) fun zD zE _ _ _ _ _ _ _ _ _ _ _ _ zV _ _ _ _ _ _ _ _ zz _ _ _ _ _ _ _ ab aD _ _ _ _ _ _ _ _ _ _ _ _ _ _ _ _ _ _ A L F hS hF=>?_
 cbv;refine fA aj mixed hS (n:=n) (fun i (O:Abs.Rows)=>Ch X i O (Int.ofNat i)) (fun i O=>O=an ((List.range i).map f)) (a0:=[]) (fi ?_ ?_) rfl (by show 5<=6;omega) (by simp[an]) ?_ ?_
 ·simp[dO,Ch,ae,vi,vb]
 ·simp[dP,Ch,ae]
 ·intro i O hi hO
  have c1:mD zV (Int.ofNat i) (zz (ab X))=true:=(hS.gC lX (show i<l.length by omega) (by have:=hl.1;omega)).1;have i1:aA zD .i64 (dU zE (Int.ofNat i) 1)=(i:Int)+1:=(hS.gC lX (show i<l.length by omega) (by have:=hl.1;omega)).2.1;have lO:i=O.length:=by rw[hO,nU];simp
  have cp:=(hf i).2 (by omega);have BD:O ++ [[.aa false (aV (f i))]]=an ((List.range (i+1)).map f):=by rw[List.range_succ,List.map_append,hO];simp[an]
  obtain⟨u0,u1,u2,u3,u4,u5,u6,u7⟩:=hS.ve (row:=[.aa false (aV (f i))]) (w:=1) rfl (r:=O) (len:=i) (b:=24) lO (by unfold az;omega);have j2:aD X i=some [.aa false (Ah (l.getD i []))]:=by
   rw[hS.nth,hX];unfold Cg;rw[List.getElem?_map,List.getElem?_eq_getElem (show i<l.length by omega),List.getD_eq_getElem?_getD,List.getElem?_eq_getElem (show i<l.length by omega)];rfl
  generalize Ah (l.getD i [])=Z1,aV (f i)=Z at *;cbv at i1;refine⟨?_⟩;refine dL ?_;cbv;refine tT c1 ?_;cbv;refine tT (by rcases(show i=0∨i=1∨i=2∨i=3∨i=4∨i=5 by omega) with h|h|h|h|h|h<;>rw[h]) ?_;cbv;repeat (first|(refine tT rfl ?_;cbv)|(refine tF rfl ?_;cbv)|(refine nd rfl ?_;cbv))
  simp only[j2];cbv;repeat (first|(refine tT rfl ?_;cbv)|(refine tF rfl ?_;cbv)|(refine nd rfl ?_;cbv))
  refine⟨_,hS.call cp,?_⟩;cbv;simp only[u0,i1];refine nd u1 (nd u2 (nd u3 (nd u4 (nd u5 ?_))));refine aQ [(5,9)] (O ++ [[.aa false Z]]) ?_ ?_ ?_ ?_ rfl (by show 5<=6;omega) BD
  ·simp[aZ,Ch,ae,vi,AV.ay,AV.aI,Cell.ay,aq,u6]
  ·simp[a8,Ch,ae,Abs.look,aq,aC.ay,u7,Cell.ay]
  ·simp[aF,Ch,ae,aq]
  ·simp
 ·intro O hO
  obtain⟨v1,v2⟩:=hS.whole (r:=O) (len:=n) (by rw[hO,nU];simp);rw[<-hY]at hO;rw[hO]at v1 v2;subst hO
  by_cases h6:l.length<=6
  ·have lE:mD zV (Int.ofNat n) (zz (ab X))=false:=hS.eU (by omega)
   refine⟨?_⟩;refine dL ?_;cbv;refine tF lE ?_;cbv;repeat (first|(refine tT rfl ?_;cbv)|(refine tF rfl ?_;cbv)|(refine nd rfl ?_;cbv))
   rw[v2];refine nd v1 ?_;exact hF _ (ak.refl _)
  ·obtain rfl:n=6:=by omega
   have c1:mD zV (Int.ofNat 6) (zz (ab X))=true:=by rw[hS.lt,hS.aB,hS.len,lX];exact decide_eq_true (show((6:Nat):Int)<(l.length:Int) by omega)
   refine⟨?_⟩;refine dL ?_;cbv;refine tT c1 ?_;cbv;repeat (first|(refine tT rfl ?_;cbv)|(refine tF rfl ?_;cbv)|(refine nd rfl ?_;cbv))
   rw[v2];refine nd v1 ?_;exact hF _ (ak.refl _)
open Go Go.Abs Go.Abs.M Go.Proofs
theorem yc (K:Int) (l:List (List R5)) (hl:L5 l) (v:List Int) (hv:JN v) :
  ∃E D:List (List T2),NM 2 E D/\(∀p∈E,SP p)/\(∀p∈D,SP p)/\E.length<=2/\D.length<=1 /\
   ah Tryz.prog 31 [.val (.agg [.v (.int .u8 K),.aa false (Cg l),.aa false (W .i8 v)])] ⟨[.val (.agg [.v (.int .i64 2),.aa false (an E),.aa false (an D)])],[none]⟩:=by
 obtain⟨r,I1,js,cl⟩:=gg l hl;obtain⟨a,a1,a2,cp⟩:=Af v hv 0 (by omega) (by omega);obtain⟨b,hb⟩:∃b:Int,b=IntKind.wrap .i64 ((BitVec.ofInt 64 a &&& BitVec.ofInt 64 1).toNat):=⟨_,rfl⟩;have mX:b=0∨b=1:=by
  have:(BitVec.ofInt 64 a &&& BitVec.ofInt 64 1).toNat<=1:=by
   rw[BitVec.toNat_and];exact Nat.le_trans Nat.and_le_right (by decide)
  rw[hb,wrap_i64 (by omega) (by omega)];omega
 obtain⟨n,hn⟩:∃n:Nat,n=min r.length (1+b.toNat):=⟨_,rfl⟩;obtain⟨m,hm⟩:∃m:Nat,m=min r.length (n+1):=⟨_,rfl⟩;have sp:∀p∈r,SP p:=fun p hp=>(js p hp).sp (by omega)
 have s1:=fun p hp=>sp p (List.mem_of_mem_take (i:=n) hp)
 have s2:∀p∈(r.drop n).take (m-n),SP p:=fun p hp=>sp p (List.mem_of_mem_drop (List.mem_of_mem_take hp))
 have l1:(r.take n).length<=2:=by rw[List.length_take];omega
 have l2:((r.drop n).take (m-n)).length<=1:=by rw[List.length_take,List.length_drop];omega
 obtain⟨e1,e2,e3⟩:=ij (plain:=false) s1;obtain⟨d1,d2,d3⟩:=ij (plain:=true) s2;have c1:=Xe (r.take n) false s1 (by omega);have c2:=Xe ((r.drop n).take (m-n)) true s2 (by omega);refine⟨ig false (r.take n),ig true ((r.drop n).take (m-n)),⟨by decide,fun p hp=>(e2 p hp).1,fun p hp=>⟨(d2 p hp).1,(d2 p hp).2.2 rfl⟩,e1,d1,by omega,by omega⟩,fun p hp=>(e2 p hp).2.1,fun p hp=>(d2 p hp).2.1,by omega,by omega,?_⟩
 have q1:an (r.take n)=(an r).take n:=by simp[an,List.map_take]
 have q2:an ((r.drop n).take (m-n))=((an r).drop n).take (m-n):=by simp[an,List.map_take,List.map_drop]
 rw[q1]at c1;rw[q2]at c2;have lr:(an r).length=r.length:=nU r;have hr6:r.length<=6:=by omega
 generalize an (ig false (r.take n))=YE,an (ig true ((r.drop n).take (m-n)))=YD at *;obtain⟨X,hXr⟩:∃X,X=an r:=⟨_,rfl⟩;rw[<-hXr]at c1 c2 cl lr;generalize Cg l=XL,W .i8 v=XV at *;refine ar aj mixed [.val] Tryz.func31 rfl rfl (by kernel_rfl) fun zD zE _ _ _ _ _ _ zN _ _ _ _ _ _ _ _ _ _ _ zj zu _ zz _ _ _ bN bE _ _ ab _ _ _ _ _ _ aE _ _ _ aN _ _ _ _ _ _ _ _ A L F hS hF=>?_
 refine dL ?_;cbv;refine⟨_,hS.call cl,?_⟩;cbv;repeat (first|(refine tT rfl ?_;cbv)|(refine tF rfl ?_;cbv)|(refine nd rfl ?_;cbv))
 refine⟨_,hS.call cp,?_⟩;cbv;obtain⟨nI,XF⟩:∃i:Int,i=(n:Int):=⟨_,rfl⟩;obtain⟨mI,Ab⟩:∃i:Int,i=(m:Int):=⟨_,rfl⟩;have zb:zN .i64 a 1=b:=by rw[hS.kI,hb];rfl
 have zb1:zD .i64 (zE 1 b)=1+b:=by rw[hS.add,hS.wrap];exact wrap_i64 (by omega) (by omega)
 have e0:zj (zz (ab X)) (zD .i64 (zE 1 (zN .i64 a 1)))=nI:=by
  rw[zb,zb1,hS.min,hS.aB,hS.len,lr];omega
 have zb2:zD .i64 (zE nI 1)=nI+1:=by rw[hS.add,hS.wrap];exact wrap_i64 (by omega) (by omega)
 have e1:zj (zz (ab X)) (zD .i64 (zE nI 1))=mI:=by
  rw[zb2,hS.min,hS.aB,hS.len,lr];omega
 have k1:bE 0 nI (ab X)=true:=by rw[hS.cut,hS.len,lr];exact decide_eq_true (by omega)
 have k2:bE nI mI (ab X)=true:=by rw[hS.cut,hS.len,lr];exact decide_eq_true (by omega)
 have n1:zu nI=n:=by rw[hS.nat,XF];rfl
 have p1:aE X 0 n=X.take n:=by rw[hS.part,List.drop_zero]
 have p2:bN mI nI=m-n:=by rw[hS.Kv];omega
 have p3:aE X n (m-n)=(X.drop n).take (m-n):=by rw[hS.part]
 have w1:aN 1 X=true:=by rw[hS.wide,hXr];simp[an]
 simp only[e0,n1,p1];refine nd k1 (nd w1 ?_);refine⟨_,hS.call c1,?_⟩;cbv;simp only[e1,n1,p2,p3];refine nd k2 (nd w1 ?_);refine⟨_,hS.call c2,?_⟩;cbv;exact hF _ (ak.refl _)
open Go Go.Abs Go.Abs.M Go.Proofs
def ui (n d:Int):Rat:=(n:Rat)*((d:Int):Rat)⁻¹
theorem D0 (n d:Int) (hn:n.natAbs<4294967296) (UT:d≠0) (hd:d.natAbs<4294967296):Qs (ui n d) 2:=by
 refine Bc (Qs.whole hn (Nat.le_refl 1)) (Bh ?_ (Qs.whole hd (Nat.le_refl 1)));intro h;exact UT (Rat.intCast_inj.1 (show((d:Int):Rat)=((0:Int):Rat) from h))
theorem kW (n d:Int) (hn:-128<=n/\n<128) (hd:d=2∨d=3∨d=5) :
  ah Tryz.prog 70 [.val (.agg [.v (.int .i8 n),.v (.int .i8 d),.v (.int .u8 0)])] ⟨[.val (.agg (qc (ui n d)).row)],[none]⟩:=by
 obtain⟨u,w,v,p,hr,c⟩:=FU n d 0 hn.1 hn.2 (by omega) (by omega) (by decide) (by decide);have e:FT n d 0=ui n d:=by
  have e1:rP n 0=n:=by unfold rP;simp
  have e2:nM d 0=d:=by unfold nM;rcases hd with rfl|rfl|rfl<;>decide
  unfold FT ui;rw[e1,e2,Rat.divInt_eq_div,Rat.div_def]
 rw[e]at hr;rw[tQ hr]at c;exact c
theorem QK (l:List Int) (hl:JN l) (k:Int) (k0:0<=k) (k1:k<=100) :
  ∃x:Bx,x.fit/\ah Tryz.prog 69 [.val (tl (W .i8 l)),.val (ti .i64 k)] ⟨[.val (.agg (BH x))],[none,none]⟩:=by
 obtain⟨a,a1,a2,ca⟩:=Af l hl (k+0) (by omega) (by omega);obtain⟨b,b1,b2,cb⟩:=Af l hl (k+1) (by omega) (by omega);obtain⟨g,g1,g2,cg⟩:=Af l hl k k0 (by omega);obtain⟨m,hm⟩:∃m:Int,m=IntKind.wrap .i64 ((BitVec.ofInt 64 g &&& BitVec.ofInt 64 7).toNat):=⟨_,rfl⟩;have J7:0<=m/\m<=7:=by
  have:(BitVec.ofInt 64 g &&& BitVec.ofInt 64 7).toNat<=7:=by
   rw[BitVec.toNat_and];exact Nat.le_trans Nat.and_le_right (by decide)
  rw[hm,wrap_i64 (by omega) (by omega)];omega
 have cw:=P3 0 (by decide) (by decide);rw[show(((0:Int)):Rat)=0 from rfl]at cw;have q1:=D0 a 3 (by omega) (by decide) (by decide);have q2:=D0 b 3 (by omega) (by decide) (by decide);have q3:=D0 m 2 (by omega) (by decide) (by decide);have c1:=kW a 3 ⟨a1,a2⟩ (by omega);have c2:=kW b 3 ⟨b1,b2⟩ (by omega);have c3:=kW m 2 (by omega) (by omega);obtain⟨s1,d1⟩:=tV q1 q3 (by omega)
 obtain⟨s2,d2⟩:=tV q2 q3 (by omega);have yw:0<=ui m 2:=by
  unfold ui;refine Rat.mul_nonneg ?_ (Rat.le_of_lt (Rat.inv_pos.2 (by decide)));exact Rat.intCast_nonneg.2 J7.1
 have hle:∀x:Rat,x<=x+ui m 2:=fun x=>by
  have:=Rat.add_le_add_left (c:=x) |>.2 yw
  rwa[Rat.add_zero]at this
 have q0:Qs (0:Rat) 100:=q0;refine⟨⟨ui a 3,ui a 3+ui m 2,ui b 3,ui b 3+ui m 2,0,0,0,0,0,0,0,0,0,0,0,0⟩,⟨⟨q1.mono (by omega),s1.mono (by omega),q2.mono (by omega),s2.mono (by omega),q0,q0,q0,q0,q0,q0,q0,q0,q0,q0,q0,q0⟩,hle _,hle _,rfl,rfl,rfl,rfl,rfl,rfl,rfl,rfl,rfl,rfl,rfl,rfl⟩,?_⟩;unfold BH;simp only;obtain⟨zs,zt,zr,zq,zw,_⟩:=bD 0;obtain⟨s3,t3,r3,p3,w3,_⟩:=bD (ui a 3);obtain⟨s4,t4,r4,p4,w4,_⟩:=bD (ui b 3)
 obtain⟨s5,t5,r5,p5,w5,_⟩:=bD (ui m 2);obtain⟨s6,t6,r6,p6,w6,_⟩:=bD (ui a 3+ui m 2);obtain⟨s7,t7,r7,p7,w7,_⟩:=bD (ui b 3+ui m 2);rw[zw]at cw;rw[w3]at c1 d1;rw[w4]at c2 d2;rw[w5]at c3 d1 d2;rw[w6]at d1;rw[w7]at d2;rw[zw,w3,w4,w6,w7];simp only[List.cons_append,List.nil_append];clear w3 w4 w5 w6 w7 zw q1 q2 q3 s1 s2 yw hle;generalize W .i8 l=X at *;refine dC aj mixed [.val] Tryz.func69 rfl rfl (by kernel_rfl) fun zD zE _ _ _ _ _ _ zN _ _ _ _ _ _ _ _ _ _ _ _ _ _ _ _ _ _ _ _ _ _ _ _ _ _ _ _ _ _ _ _ _ _ _ _ _ _ _ _ _ _ A L F hS hF=>?_
 have e0:aA zD .i64 (dU zE k 0)=k+0:=by rw[hS.add,hS.wrap];exact wrap_i64 (by omega) (by omega)
 have e1:aA zD .i64 (dU zE k 1)=k+1:=by rw[hS.add,hS.wrap];exact wrap_i64 (by omega) (by omega)
 have wi8:∀x:Int,-128<=x->x<128->IntKind.wrap .i8 x=x:=fun x h1 h2=>by
  unfold IntKind.wrap;simp[IntKind.bits,IntKind.signed];omega
 have ea:aA zD .i8 a=a:=by rw[hS.wrap];exact wi8 a a1 a2
 have eb:aA zD .i8 b=b:=by rw[hS.wrap];exact wi8 b b1 b2
 have hb7:zN .i64 g 7=m:=by rw[hS.kI,hm];rfl
 have em:aA zD .i8 (zN .i64 g 7)=m:=by rw[hb7,hS.wrap];exact wi8 m (by omega) (by omega)
 rw[<-e0]at ca;rw[<-e1]at cb;rw[<-ea]at c1;rw[<-eb]at c2;rw[<-em]at c3;refine dL ?_;cbv;refine aU aj mixed hS (9) ?_;cbv;repeat (first|apply bT rfl|apply bF rfl|apply nd rfl|(refine tT rfl ?_;cbv)|(refine tF rfl ?_;cbv)|(refine nd rfl ?_;cbv)|(refine⟨_,hS.call cw,?_⟩;cbv))
 refine aU aj mixed hS (3) ?_;cbv;repeat (first|apply bT rfl|apply bF rfl|apply nd rfl|(refine⟨_,hS.call ca,?_⟩;cbv)|(refine⟨_,hS.call c1,?_⟩;cbv)|(refine⟨_,hS.call cg,?_⟩;cbv)|(refine⟨_,hS.call c3,?_⟩;cbv)|(refine⟨_,hS.call d1,?_⟩;cbv)|(refine⟨_,hS.call cb,?_⟩;cbv)|(refine⟨_,hS.call c2,?_⟩;cbv)|(refine⟨_,hS.call d2,?_⟩;cbv))
 exact hF _ (ak.refl _)
open Go Go.Abs Go.Abs.M Go.Proofs
theorem yd (k:Int) (h0:0<=k) (h1:k<256):∃l,JL l/\ah Tryz.prog 68 [.val (ti .u8 k)] ⟨[.val (tl (gD l))],[none]⟩:=by
 obtain⟨r,hr⟩:∃r,r=k.tmod 8:=⟨_,rfl⟩;obtain⟨m,hm⟩:∃m,m=(k.tdiv 8).tmod 16:=⟨_,rfl⟩;have js:0<=r/\r<8:=by rw[hr,Int.tmod_eq_emod_of_nonneg h0];omega
 have J7:0<=m/\m<16:=by
  have h3:0<=k.tdiv 8:=Int.tdiv_nonneg h0 (by decide);rw[hm,Int.tmod_eq_emod_of_nonneg h3];omega
 have cl:ah Tryz.prog 104 [] ⟨[.val (tl (gD mm))],[]⟩:=Xv;have cg:ah Tryz.prog 105 [] ⟨[.val (tl (gD qJ))],[]⟩:=Xw;have cr:ah Tryz.prog 106 [] ⟨[.val (tl (gD gR))],[]⟩:=Xy;obtain⟨le,hle,ce⟩:=NY m J7.1 J7.2;obtain rfl|rfl|rfl|rfl|rfl|rfl|rfl|rfl:r=0∨r=1∨r=2∨r=3∨r=4∨r=5∨r=6∨r=7:=by omega
 ·refine⟨mm,Qw,?_⟩
  generalize gD mm=X at *;refine dC aj mixed [.val] Tryz.func68 rfl rfl (by kernel_rfl) fun zD _ _ _ zI zJ _ _ _ _ _ _ _ _ _ _ _ _ _ _ _ _ _ _ _ _ _ _ _ _ _ _ _ _ _ _ _ _ _ _ _ _ _ _ _ _ _ _ _ _ _ A L F hS hF=>?_
  have e8:zJ k 8=0:=by rw[hS.rem,<-hr]
  have w8:aA zD .u8 0=0:=by rw[hS.wrap];rfl
  refine dL ?_;cbv;simp only[e8];cbv;repeat (first|(refine tT rfl ?_;cbv)|(refine tF rfl ?_;cbv)|(refine nd rfl ?_;cbv))
  refine⟨_,hS.call cl,?_⟩;cbv;exact hF _ (ak.refl _)
 ·refine⟨qJ,T4,?_⟩
  generalize gD qJ=X at *;refine dC aj mixed [.val] Tryz.func68 rfl rfl (by kernel_rfl) fun zD _ _ _ zI zJ _ _ _ _ _ _ _ _ _ _ _ _ _ _ _ _ _ _ _ _ _ _ _ _ _ _ _ _ _ _ _ _ _ _ _ _ _ _ _ _ _ _ _ _ _ A L F hS hF=>?_
  have e8:zJ k 8=1:=by rw[hS.rem,<-hr]
  have w8:aA zD .u8 1=1:=by rw[hS.wrap];rfl
  refine dL ?_;cbv;simp only[e8];cbv;repeat (first|(refine tT rfl ?_;cbv)|(refine tF rfl ?_;cbv)|(refine nd rfl ?_;cbv))
  refine⟨_,hS.call cg,?_⟩;cbv;exact hF _ (ak.refl _)
 ·refine⟨gR,DS,?_⟩
  generalize gD gR=X at *;refine dC aj mixed [.val] Tryz.func68 rfl rfl (by kernel_rfl) fun zD _ _ _ zI zJ _ _ _ _ _ _ _ _ _ _ _ _ _ _ _ _ _ _ _ _ _ _ _ _ _ _ _ _ _ _ _ _ _ _ _ _ _ _ _ _ _ _ _ _ _ A L F hS hF=>?_
  have e8:zJ k 8=2:=by rw[hS.rem,<-hr]
  have w8:aA zD .u8 2=2:=by rw[hS.wrap];rfl
  refine dL ?_;cbv;simp only[e8];cbv;repeat (first|(refine tT rfl ?_;cbv)|(refine tF rfl ?_;cbv)|(refine nd rfl ?_;cbv))
  refine⟨_,hS.call cr,?_⟩;cbv;exact hF _ (ak.refl _)
 ·refine⟨gR,DS,?_⟩
  generalize gD gR=X at *;refine dC aj mixed [.val] Tryz.func68 rfl rfl (by kernel_rfl) fun zD _ _ _ zI zJ _ _ _ _ _ _ _ _ _ _ _ _ _ _ _ _ _ _ _ _ _ _ _ _ _ _ _ _ _ _ _ _ _ _ _ _ _ _ _ _ _ _ _ _ _ A L F hS hF=>?_
  have e8:zJ k 8=3:=by rw[hS.rem,<-hr]
  have w8:aA zD .u8 3=3:=by rw[hS.wrap];rfl
  refine dL ?_;cbv;simp only[e8];cbv;repeat (first|(refine tT rfl ?_;cbv)|(refine tF rfl ?_;cbv)|(refine nd rfl ?_;cbv))
  refine⟨_,hS.call cr,?_⟩;cbv;exact hF _ (ak.refl _)
 ·refine⟨xO,T5,?_⟩
  rw[show gD xO=[[.v (.int .i64 2),.v (.int .i64 3),.v (.int .i64 1),.v (.int .i64 1),.v (.int .i64 1),.v (.int .i64 1),.v (.int .i64 1),.v (.int .i64 1)]] from rfl];refine dC aj mixed [.val] Tryz.func68 rfl rfl (by kernel_rfl) fun zD _ _ _ zI zJ _ _ _ _ _ _ _ _ _ _ _ _ _ _ _ _ _ _ _ _ _ _ _ _ _ _ _ _ _ _ _ _ _ _ _ _ _ _ _ _ _ _ _ _ _ A L F hS hF=>?_
  have e8:zJ k 8=4:=by rw[hS.rem,<-hr]
  have w8:aA zD .u8 4=4:=by rw[hS.wrap];rfl
  refine dL ?_;cbv;simp only[e8];cbv;repeat (first|(refine tT rfl ?_;cbv)|(refine tF rfl ?_;cbv)|(refine nd rfl ?_;cbv))
  obtain⟨u1,u2⟩:=hS.whole (r:=[[.v (.int .i64 2),.v (.int .i64 3),.v (.int .i64 1),.v (.int .i64 1),.v (.int .i64 1),.v (.int .i64 1),.v (.int .i64 1),.v (.int .i64 1)]]) (len:=1) rfl;refine nd u1 ?_;rw[u2];exact hF _ (ak.refl _)
 ·refine⟨xP,T6,?_⟩
  rw[show gD xP=[[.v (.int .i64 1),.v (.int .i64 1),.v (.int .i64 0),.v (.int .i64 0),.v (.int .i64 0),.v (.int .i64 0),.v (.int .i64 0),.v (.int .i64 0)],[.v (.int .i64 1),.v (.int .i64 0),.v (.int .i64 2),.v (.int .i64 1),.v (.int .i64 1),.v (.int .i64 1),.v (.int .i64 1),.v (.int .i64 1)]] from rfl];refine dC aj mixed [.val] Tryz.func68 rfl rfl (by kernel_rfl) fun zD _ _ _ zI zJ _ _ _ _ _ _ _ _ _ _ _ _ _ _ _ _ _ _ _ _ _ _ _ _ _ _ _ _ _ _ _ _ _ _ _ _ _ _ _ _ _ _ _ _ _ A L F hS hF=>?_
  have e8:zJ k 8=5:=by rw[hS.rem,<-hr]
  have w8:aA zD .u8 5=5:=by rw[hS.wrap];rfl
  refine dL ?_;cbv;simp only[e8];cbv;repeat (first|(refine tT rfl ?_;cbv)|(refine tF rfl ?_;cbv)|(refine nd rfl ?_;cbv))
  obtain⟨u1,u2⟩:=hS.whole (r:=[[.v (.int .i64 1),.v (.int .i64 1),.v (.int .i64 0),.v (.int .i64 0),.v (.int .i64 0),.v (.int .i64 0),.v (.int .i64 0),.v (.int .i64 0)],[.v (.int .i64 1),.v (.int .i64 0),.v (.int .i64 2),.v (.int .i64 1),.v (.int .i64 1),.v (.int .i64 1),.v (.int .i64 1),.v (.int .i64 1)]]) (len:=2) rfl;refine nd u1 ?_;rw[u2];exact hF _ (ak.refl _)
 ·refine⟨le,hle,?_⟩
  generalize gD le=X at *;refine dC aj mixed [.val] Tryz.func68 rfl rfl (by kernel_rfl) fun zD _ _ _ zI zJ _ _ _ _ _ _ _ _ _ _ _ _ _ _ _ _ _ _ _ _ _ _ _ _ _ _ _ _ _ _ _ _ _ _ _ _ _ _ _ _ _ _ _ _ _ A L F hS hF=>?_
  have e8:zJ k 8=6:=by rw[hS.rem,<-hr]
  have w8:aA zD .u8 6=6:=by rw[hS.wrap];rfl
  have em:zJ (aA zD .u8 (zI k 8)) 16=m:=by
   have h8:0<=k.tdiv 8:=Int.tdiv_nonneg h0 (by decide);have h9:k.tdiv 8<=k:=Int.tdiv_le_self 8 h0;rw[hS.quo,hS.wrap,hS.rem,hm,wrap_u8 h8 (by omega)]
  rw[<-em]at ce;refine dL ?_;cbv;simp only[e8];cbv;repeat (first|(refine tT rfl ?_;cbv)|(refine tF rfl ?_;cbv)|(refine nd rfl ?_;cbv))
  refine⟨_,hS.call ce,?_⟩;cbv;exact hF _ (ak.refl _)
 ·refine⟨le,hle,?_⟩
  generalize gD le=X at *;refine dC aj mixed [.val] Tryz.func68 rfl rfl (by kernel_rfl) fun zD _ _ _ zI zJ _ _ _ _ _ _ _ _ _ _ _ _ _ _ _ _ _ _ _ _ _ _ _ _ _ _ _ _ _ _ _ _ _ _ _ _ _ _ _ _ _ _ _ _ _ A L F hS hF=>?_
  have e8:zJ k 8=7:=by rw[hS.rem,<-hr]
  have w8:aA zD .u8 7=7:=by rw[hS.wrap];rfl
  have em:zJ (aA zD .u8 (zI k 8)) 16=m:=by
   have h8:0<=k.tdiv 8:=Int.tdiv_nonneg h0 (by decide);have h9:k.tdiv 8<=k:=Int.tdiv_le_self 8 h0;rw[hS.quo,hS.wrap,hS.rem,hm,wrap_u8 h8 (by omega)]
  rw[<-em]at ce;refine dL ?_;cbv;simp only[e8];cbv;repeat (first|(refine tT rfl ?_;cbv)|(refine tF rfl ?_;cbv)|(refine nd rfl ?_;cbv))
  refine⟨_,hS.call ce,?_⟩;cbv;exact hF _ (ak.refl _)
end Go.Proofs.YtekefilngojelaaGreat
end
section
namespace Go.Abs
section
def sF (Z:ZI) (C:eh) (A:FuncId->Ask->pf->Prop) (L:Code->St->(bf->ST->Prop)->Prop) (c:Code) (Q:bf->ST->Prop):Nat->ST->Prop
 | 0,_=>False
 | n+1,st=>eo Z C A L c st fun e s=>match e with
  | .normal=>sF Z C A L c Q n (ST.lI s.fI)
  | .exit id=>Q (.exit id) s
  | .ret=>Q .ret s
theorem ye (Z:ZI) (C:eh) (A:FuncId->Ask->pf->Prop) (L:Code->St->(bf->ST->Prop)->Prop) (c:Code) (Q:bf->ST->Prop):∀(n:Nat) (st:ST),sF Z C A L c Q n st=oB Z C A L c Q n st
 | 0,_=>rfl
 | n+1,st=>by
  unfold sF oB;rw[BQ];congr 1;funext e s;cases e with
  | normal=>exact ye Z C A L c Q n _
  | exit id=>rfl
  | ret=>rfl
theorem Yg {Z:ZI} {C:eh} {A:FuncId->Ask->pf->Prop} {L:Code->St->(bf->ST->Prop)->Prop} {c:Code} {Q:bf->ST->Prop} {n:Nat} {st:ST} (h:sF Z C A L c Q n st):oB Z C A L c Q n st:=by
 rw[<-ye];exact h
end
section
variable {P:Program} {C:eh} {n0:Nat} {zD:IntKind->Int->Int} {zE zG zH zI zJ:Int->Int->Int} {zK zM zN zO zR zS:IntKind->Int->Int->Int} {zT zU zV zX:Int->Int->Bool} {zY:Bool->Bool} {zZ zg:Bool->Bool->Bool} {zh zj:Int->Int->Int} {zu:Int->Nat} {zy:Int->Nat->Bool} {zz:Nat->Int} {bd:Nat->Int->Nat} {ao:Nat->Nat->Bool} {aJ:Nat->Nat->Nat} {bN:Int->Int->Nat} {bE:Int->Int->Nat->Bool} {aO:Nat->Nat->Nat->Bool} {aR:Int->Int->Nat->Bool} {ab:Rows->Nat} {aD:Rows->Nat->Option (List Tree)} {bz:Rows->Nat->List Tree->Rows} {aL:IntKind->Rows->Nat->Bool} {aw:Rows->Nat->Int} {aP:IntKind->Rows->Nat->Int->Rows} {a9:Nat->Nat->Rows->Bool} {aE:Rows->Nat->Nat->Rows} {bQ bA:Rows->Nat->Rows->Rows} {bO:Nat->List Tree->Rows} {aN:Nat->Rows->Bool} {dc:List Bool->Bool} {de bg:List (Value×Tree)->Value->Bool} {bc:List (Value×Tree)->Value->Tree->List (Value×Tree)} {bX:Rows->Option ByteArray} {aY:List (Value×Tree)->Value->Option (Option Tree)} {zW:IntKind->List Int->Rows} {lK:(α:Type)->(Unit->α)->α} {A:FuncId->Ask->pf->Prop} {L:Code->St->(bf->ST->Prop)->Prop}
theorem fm (hC:bq P C) (eS:P.follows .mixedOrders=true) (hS:Std P n0 zD zE zG zH zI zJ zK zM zN zO zR zS zT zU zV zX zY zZ zg zh zj zu zy zz bd ao aJ bN bE aO aR ab aD bz aL aw aP a9 aE bQ bA bO aN dc de bg bc bX aY zW lK A L) {c:Code} {st:St} {Q:bf->ST->Prop} (n:Nat)
  (h:sF (ZI.mk zD zE zG zH zI zJ zK zM zN zO zR zS zT zU zV zX zY zZ zg zh zj zu zy zz bd ao aJ bN bE aO aR ab aD bz aL aw aP a9 aE bQ bA bO aN dc de bg bc bX aY) C A L c Q n (ST.lI st)):L c st Q:=aU hC eS hS n (Yg h)
end
section
variable {Z:ZI} {C:eh} {A:FuncId->Ask->pf->Prop} {L:Code->St->(bf->ST->Prop)->Prop} {st S0:ST} {Q:bf->ST->Prop}
theorem QL {c1 c2:Code} (h1:∀K:bf->ST->Prop,K .normal S0->eo Z C A L c1 st K) (h2:eo Z C A L c2 S0 Q):eo Z C A L (c1.seq c2) st Q:=h1 _ h2
theorem acQ {c:Code} (h1:∀K:bf->ST->Prop,K .normal S0->eo Z C A L c st K) (h2:Q .normal S0):eo Z C A L c st Q:=h1 _ h2
theorem Of {c:Operand} {x y:Code} (hb:(st.get c).bool?=some true) (h:eo Z C A L x st Q):eo Z C A L (.cond c x y) st Q:=by
 unfold eo;rw[hb];cases yI st.lit c with
 | true=>exact h
 | false=>exact⟨fun _=>h,fun e=>absurd e (by decide)⟩
end
end Go.Abs
end
