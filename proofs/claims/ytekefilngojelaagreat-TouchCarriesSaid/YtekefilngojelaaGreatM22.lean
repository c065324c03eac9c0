/- A part. -/
import Derived.Test.YtekefilngojelaaGreatM9
import Derived.Test.YtekefilngojelaaGreatM12
import Derived.Test.YtekefilngojelaaGreatM14
import Derived.Test.YtekefilngojelaaGreatM15
import Derived.Test.YtekefilngojelaaGreatM17
import Derived.Test.YtekefilngojelaaGreatM21
set_option maxHeartbeats 0
set_option maxRecDepth 100000
set_option linter.unusedVariables false
set_option linter.unusedSimpArgs false
set_option linter.unusedSectionVars false
section
namespace Go.Proofs.YtekefilngojelaaGreat
open Go Go.Abs Go.Abs.M Go.Proofs
def Ca (l:List (List R5)):Abs.Rows:=l.map fun t=>[.aa false (Ae t)]
def LI (l:List (List R5)):Prop:=l.length<=281474976710656/\∀t∈l,∀x∈t,x.ok
theorem Qq (l:List (List R5)):(Ca l).length=l.length:=by simp[Ca]
def Cb (X:Abs.Rows) (len:Nat) (O:Abs.Rows) (I:Int):St:=ae 37 [.c (.t (.aa false X)),vi .i64 2,vi .i64 2,vi .i64 3,vi .i64 6,.af,.af,.af,.af,.af,.af,.c (.sl 5 0 len false),vi .i64 I] [none,none,none,none,none,some (.rows 1 O true false)]
theorem gD (l:List (List R5)) (hl:LI l) :
  ∃r:aS,r.length=min l.length 6/\(∀p∈r,MP 3 p)/\aH 65 [.val (tl (Ca l)),.val (ti .i64 2),.val (ti .i64 2),.val (ti .i64 3),.val (ti .i64 6)] ⟨[.val (tl (aj r))],[none,none,none,none,none]⟩:=by
 have hM:∀i:Nat,∃p,MP 3 p/\(i<l.length->aH 11 [.val (.agg [.aa false (Ae (l.getD i []))]),.val (ti .i64 2),.val (ti .i64 2),.val (ti .i64 3)] ⟨[.val (tl (aP p))],[none,none,none,none]⟩):=fun i=>by
  by_cases h:i<l.length
  ·have hm:l.getD i []∈l:=by rw[List.getD_eq_getElem?_getD,List.getElem?_eq_getElem h];exact List.getElem_mem h
   obtain⟨p,h1,h2⟩:=uZ (l.getD i []) (hl.2 _ hm);exact⟨p,h1,fun _=>h2⟩
  ·exact⟨[],⟨⟨by simp,List.Pairwise.nil⟩,by simp[Zb],by simp,by simp⟩,fun h2=>absurd h2 h⟩
 obtain⟨f,hf⟩:=Classical.axiomOfChoice hM;obtain⟨n,hn⟩:=aq (min l.length 6);refine⟨(List.range n).map f,by simp[hn],fun p hp=>by obtain⟨i,_,rfl⟩:=List.mem_map.1 hp;exact(hf i).1,?_⟩;obtain⟨X,hX⟩:=aq (Ca l);have lX:X.length=l.length:=by rw[hX,Qq]
 obtain⟨Y,hY⟩:=aq (aj ((List.range n).map f));rw[<-hX,<-hY];refine dE ai mixed [.val] Tryz.func65 rfl rfl (by kernel_rfl) fun zD zE _ _ _ _ _ _ _ _ _ _ _ _ zV _ _ _ _ _ _ _ _ zz _ _ _ _ _ _ _ ab aB _ _ _ _ _ _ _ _ _ _ _ _ _ _ _ _ _ _ A L F hS hF=>?_
 cbv;refine fX ai mixed hS (n:=n) (fun i (O:Abs.Rows)=>Cb X i O (Int.ofNat i)) (fun i O=>O=aj ((List.range i).map f)) (a0:=[]) (fy ?_ ?_) rfl (by show 5<=6;omega) (by simp[aj]) ?_ ?_
 ·simp[dS,Cb,ae,vi,vb]
 ·simp[dU,Cb,ae]
 ·intro i O hi hO
  have c1:me zV (Int.ofNat i) (zz (ab X))=true:=(hS.ic lX (show i<l.length by omega) (by have:=hl.1;omega)).1;have i1:aE zD .i64 (eE zE (Int.ofNat i) 1)=(i:Int)+1:=(hS.ic lX (show i<l.length by omega) (by have:=hl.1;omega)).2.1;have lO:i=O.length:=by rw[hO,lB];simp
  have cp:=(hf i).2 (by omega);have BA:O ++ [[.aa false (aP (f i))]]=aj ((List.range (i+1)).map f):=by rw[List.range_succ,List.map_append,hO];simp[aj]
  obtain⟨u0,u1,u2,u3,u4,u5,u6,u7⟩:=hS.vg (row:=[.aa false (aP (f i))]) (w:=1) rfl (r:=O) (len:=i) (b:=24) lO (by unfold au;omega);have j2:aB X i=some [.aa false (Ae (l.getD i []))]:=by
   rw[hS.nth,hX];unfold Ca;rw[List.getElem?_map,List.getElem?_eq_getElem (show i<l.length by omega),List.getD_eq_getElem?_getD,List.getElem?_eq_getElem (show i<l.length by omega)];rfl
  generalize Ae (l.getD i [])=Z1,aP (f i)=Z at *;cbv at i1;refine⟨?_⟩;refine dJ ?_;cbv;apply tT c1;cbv;refine tT (by rcases(show i=0∨i=1∨i=2∨i=3∨i=4∨i=5 by omega) with h|h|h|h|h|h<;>rw[h]) ?_;cbv;repeat (first|(apply tT rfl;cbv)|(apply tF rfl;cbv)|(apply nd rfl;cbv))
  simp only[j2];cbv;repeat (first|(apply tT rfl;cbv)|(apply tF rfl;cbv)|(apply nd rfl;cbv))
  refine hS.cl cp ?_;cbv;simp only[u0,i1];refine nd u1 (nd u2 (nd u3 (nd u4 (nd u5 ?_))));refine aU [(5,9)] (O ++ [[.aa false Z]]) ?_ ?_ ?_ ?_ rfl (by show 5<=6;omega) BA
  ·simp[bd,Cb,ae,vi,AV.aw,AV.aJ,Cell.aw,ak,u6]
  ·simp[bf,Cb,ae,Abs.look,ak,aA.aw,u7,Cell.aw]
  ·simp[aF,Cb,ae,ak]
  ·simp
 ·intro O hO
  obtain⟨v1,v2⟩:=hS.whole (r:=O) (len:=n) (by rw[hO,lB];simp);rw[<-hY]at hO;rw[hO]at v1 v2;subst hO
  by_cases h6:l.length<=6
  ·have lE:me zV (Int.ofNat n) (zz (ab X))=false:=hS.fh (by omega)
   refine⟨?_⟩;refine dJ ?_;cbv;apply tF lE;cbv;repeat (first|(apply tT rfl;cbv)|(apply tF rfl;cbv)|(apply nd rfl;cbv))
   rw[v2];apply nd v1;exact aC hF
  ·obtain rfl:n=6:=by omega
   have c1:me zV (Int.ofNat 6) (zz (ab X))=true:=by rw[hS.lt,hS.az,hS.len,lX];exact decide_eq_true (show((6:Nat):Int)<(l.length:Int) by omega)
   refine⟨?_⟩;refine dJ ?_;cbv;apply tT c1;cbv;repeat (first|(apply tT rfl;cbv)|(apply tF rfl;cbv)|(apply nd rfl;cbv))
   rw[v2];apply nd v1;exact aC hF
theorem xZ (K:Int) (l:List (List R5)) (hl:LI l) (v:List Int) (hv:Jn v) :
  ∃E D:aS,Ov 2 E D/\(∀p∈E,SP p)/\(∀p∈D,SP p)/\E.length<=2/\D.length<=1 /\
   aH 31 [.val (.agg [.v (.int .u8 K),.aa false (Ca l),.aa false (W .i8 v)])] ⟨[.val (.agg [.v (.int .i64 2),.aa false (aj E),.aa false (aj D)])],[none]⟩:=by
 obtain⟨r,IF,kH,cl⟩:=gD l hl;obtain⟨a,a1,a2,cp⟩:=Ac v hv 0 (by omega) (by omega);obtain⟨b,hb⟩:=aq (IntKind.wrap .i64 ((BitVec.ofInt 64 a &&& BitVec.ofInt 64 1).toNat):Int);have nk:b=0∨b=1:=by
  have:(BitVec.ofInt 64 a &&& BitVec.ofInt 64 1).toNat<=1:=by
   rw[BitVec.toNat_and];exact Nat.le_trans Nat.and_le_right (by decide)
  rw[hb,wrap_i64 (by omega) (by omega)];omega
 obtain⟨n,hn⟩:=aq (min r.length (1+b.toNat):Nat);obtain⟨m,hm⟩:=aq (min r.length (n+1):Nat);have sp:∀p∈r,SP p:=fun p hp=>(kH p hp).sp (by omega)
 have s1:=fun p hp=>sp p (List.mem_of_mem_take (i:=n) hp)
 have s2:∀p∈(r.drop n).take (m-n),SP p:=fun p hp=>sp p (List.mem_of_mem_drop (List.mem_of_mem_take hp))
 have l1:(r.take n).length<=2:=by rw[List.length_take];omega
 have l2:((r.drop n).take (m-n)).length<=1:=by rw[List.length_take,List.length_drop];omega
 obtain⟨e1,e2,e3⟩:=iD (plain:=false) s1;obtain⟨d1,d2,d3⟩:=iD (plain:=true) s2;have c1:=WC (r.take n) false s1 (by omega);have c2:=WC ((r.drop n).take (m-n)) true s2 (by omega);refine⟨iC false (r.take n),iC true ((r.drop n).take (m-n)),⟨by decide,fun p hp=>(e2 p hp).1,fun p hp=>⟨(d2 p hp).1,(d2 p hp).2.2 rfl⟩,e1,d1,by omega,by omega⟩,fun p hp=>(e2 p hp).2.1,fun p hp=>(d2 p hp).2.1,by omega,by omega,?_⟩
 have q1:aj (r.take n)=(aj r).take n:=by simp[aj,List.map_take]
 have q2:aj ((r.drop n).take (m-n))=((aj r).drop n).take (m-n):=by simp[aj,List.map_take,List.map_drop]
 rw[q1]at c1;rw[q2]at c2;have lr:(aj r).length=r.length:=lB r;have hr6:r.length<=6:=by omega
 generalize aj (iC false (r.take n))=YE,aj (iC true ((r.drop n).take (m-n)))=YD at *;obtain⟨X,hXr⟩:=aq (aj r);rw[<-hXr]at c1 c2 cl lr;generalize Ca l=XL,W .i8 v=XV at *;refine an ai mixed [.val] Tryz.func31 rfl rfl (by kernel_rfl) fun zD zE _ _ _ _ _ _ zN _ _ _ _ _ _ _ _ _ _ _ zj zu _ zz _ _ _ bO bI _ _ ab _ _ _ _ _ _ aD _ _ _ aM _ _ _ _ _ _ _ _ A L F hS hF=>?_
 refine dJ ?_;cbv;refine hS.cl cl ?_;cbv;repeat (first|(apply tT rfl;cbv)|(apply tF rfl;cbv)|(apply nd rfl;cbv))
 refine hS.cl cp ?_;cbv;obtain⟨nI,W3⟩:=aq (n:Int);obtain⟨mI,yY⟩:=aq (m:Int);have zb:zN .i64 a 1=b:=by rw[hS.kQ,hb];rfl
 have zb1:zD .i64 (zE 1 b)=1+b:=by rw[hS.add,hS.wrap];exact wrap_i64 (by omega) (by omega)
 have e0:zj (zz (ab X)) (zD .i64 (zE 1 (zN .i64 a 1)))=nI:=by
  rw[zb,zb1,hS.min,hS.az,hS.len,lr];omega
 have zb2:zD .i64 (zE nI 1)=nI+1:=by rw[hS.add,hS.wrap];exact wrap_i64 (by omega) (by omega)
 have e1:zj (zz (ab X)) (zD .i64 (zE nI 1))=mI:=by
  rw[zb2,hS.min,hS.az,hS.len,lr];omega
 have k1:bI 0 nI (ab X)=true:=by rw[hS.cut,hS.len,lr];exact decide_eq_true (by omega)
 have k2:bI nI mI (ab X)=true:=by rw[hS.cut,hS.len,lr];exact decide_eq_true (by omega)
 have n1:zu nI=n:=by rw[hS.nat,W3];rfl
 have p1:aD X 0 n=X.take n:=by rw[hS.part,List.drop_zero]
 have p2:bO mI nI=m-n:=by rw[hS.J7];omega
 have p3:aD X n (m-n)=(X.drop n).take (m-n):=by rw[hS.part]
 have w1:aM 1 X=true:=by rw[hS.wide,hXr];simp[aj]
 simp only[e0,n1,p1];refine nd k1 (nd w1 ?_);refine hS.cl c1 ?_;cbv;simp only[e1,n1,p2,p3];refine nd k2 (nd w1 ?_);refine hS.cl c2 ?_;cbv;exact aC hF
def uv (n d:Int):Rat:=(n:Rat)*((d:Int):Rat)⁻¹
theorem DY (n d:Int) (hn:n.natAbs<4294967296) (Uy:d≠0) (hd:d.natAbs<4294967296):Qs (uv n d) 2:=by
 refine ub (Qs.whole hn (Nat.le_refl 1)) (Bf ?_ (Qs.whole hd (Nat.le_refl 1)));intro h;exact Uy (Rat.intCast_inj.1 (show((d:Int):Rat)=((0:Int):Rat) from h))
theorem lx (n d:Int) (hn:-128<=n/\n<128) (hd:d=2∨d=3∨d=5) :
  aH 70 [.val (.agg [.v (.int .i8 n),.v (.int .i8 d),.v (.int .u8 0)])] ⟨[.val (.agg (qc (uv n d)).row)],[none]⟩:=by
 obtain⟨u,w,v,p,hr,c⟩:=FI n d 0 hn.1 hn.2 (by omega) (by omega) (by decide) (by decide);have e:FH n d 0=uv n d:=by
  have e1:rU n 0=n:=by unfold rU;simp
  have e2:nV d 0=d:=by unfold nV;rcases hd with rfl|rfl|rfl<;>decide
  unfold FH uv;rw[e1,e2,Rat.divInt_eq_div,Rat.div_def]
 rw[e]at hr;rw[tZ hr]at c;exact c
theorem Qr (l:List Int) (hl:Jn l) (k:Int) (k0:0<=k) (k1:k<=100) :
  ∃x:Bx,x.fit/\aH 69 [.val (tl (W .i8 l)),.val (ti .i64 k)] ⟨[.val (.agg (BD x))],[none,none]⟩:=by
 obtain⟨a,a1,a2,ca⟩:=Ac l hl (k+0) (by omega) (by omega);obtain⟨b,b1,b2,cb⟩:=Ac l hl (k+1) (by omega) (by omega);obtain⟨g,g1,g2,cg⟩:=Ac l hl k k0 (by omega);obtain⟨m,hm⟩:=aq (IntKind.wrap .i64 ((BitVec.ofInt 64 g &&& BitVec.ofInt 64 7).toNat):Int);have JK:0<=m/\m<=7:=by
  have:(BitVec.ofInt 64 g &&& BitVec.ofInt 64 7).toNat<=7:=by
   rw[BitVec.toNat_and];exact Nat.le_trans Nat.and_le_right (by decide)
  rw[hm,wrap_i64 (by omega) (by omega)];omega
 have cw:=PG 0 (by decide) (by decide);rw[show(((0:Int)):Rat)=0 from rfl]at cw;have q1:=DY a 3 (by omega) (by decide) (by decide);have q2:=DY b 3 (by omega) (by decide) (by decide);have q3:=DY m 2 (by omega) (by decide) (by decide);have c1:=lx a 3 ⟨a1,a2⟩ (by omega);have c2:=lx b 3 ⟨b1,b2⟩ (by omega);have c3:=lx m 2 (by omega) (by omega);obtain⟨s1,d1⟩:=ud q1 q3 (by omega)
 obtain⟨s2,d2⟩:=ud q2 q3 (by omega);have yu:0<=uv m 2:=by
  unfold uv;refine Rat.mul_nonneg ?_ (Rat.le_of_lt (Rat.inv_pos.2 (by decide)));exact Rat.intCast_nonneg.2 JK.1
 have hle:∀x:Rat,x<=x+uv m 2:=fun x=>by
  have:=Rat.add_le_add_left (c:=x) |>.2 yu
  rwa[Rat.add_zero]at this
 have q0:Qs (0:Rat) 100:=q0;refine⟨⟨uv a 3,uv a 3+uv m 2,uv b 3,uv b 3+uv m 2,0,0,0,0,0,0,0,0,0,0,0,0⟩,⟨⟨q1.mono (by omega),s1.mono (by omega),q2.mono (by omega),s2.mono (by omega),q0,q0,q0,q0,q0,q0,q0,q0,q0,q0,q0,q0⟩,hle _,hle _,rfl,rfl,rfl,rfl,rfl,rfl,rfl,rfl,rfl,rfl,rfl,rfl⟩,?_⟩;unfold BD;simp only;obtain⟨zs,zt,zr,zq,zw,_⟩:=bX 0;obtain⟨s3,t3,r3,p3,w3,_⟩:=bX (uv a 3);obtain⟨s4,t4,r4,p4,w4,_⟩:=bX (uv b 3)
 obtain⟨s5,t5,r5,p5,w5,_⟩:=bX (uv m 2);obtain⟨s6,t6,r6,p6,w6,_⟩:=bX (uv a 3+uv m 2);obtain⟨s7,t7,r7,p7,w7,_⟩:=bX (uv b 3+uv m 2);rw[zw]at cw;rw[w3]at c1 d1;rw[w4]at c2 d2;rw[w5]at c3 d1 d2;rw[w6]at d1;rw[w7]at d2;rw[zw,w3,w4,w6,w7];simp only[List.cons_append,List.nil_append];clear w3 w4 w5 w6 w7 zw q1 q2 q3 s1 s2 yu hle;generalize W .i8 l=X at *;refine dE ai mixed [.val] Tryz.func69 rfl rfl (by kernel_rfl) fun zD zE _ _ _ _ _ _ zN _ _ _ _ _ _ _ _ _ _ _ _ _ _ _ _ _ _ _ _ _ _ _ _ _ _ _ _ _ _ _ _ _ _ _ _ _ _ _ _ _ _ A L F hS hF=>?_
 have e0:aE zD .i64 (eE zE k 0)=k+0:=by rw[hS.add,hS.wrap];exact wrap_i64 (by omega) (by omega)
 have e1:aE zD .i64 (eE zE k 1)=k+1:=by rw[hS.add,hS.wrap];exact wrap_i64 (by omega) (by omega)
 have wi8:∀x:Int,-128<=x->x<128->IntKind.wrap .i8 x=x:=fun x h1 h2=>by
  unfold IntKind.wrap;simp[IntKind.bits,IntKind.signed];omega
 have ea:aE zD .i8 a=a:=by rw[hS.wrap];exact wi8 a a1 a2
 have eb:aE zD .i8 b=b:=by rw[hS.wrap];exact wi8 b b1 b2
 have hb7:zN .i64 g 7=m:=by rw[hS.kQ,hm];rfl
 have em:aE zD .i8 (zN .i64 g 7)=m:=by rw[hb7,hS.wrap];exact wi8 m (by omega) (by omega)
 rw[<-e0]at ca;rw[<-e1]at cb;rw[<-ea]at c1;rw[<-eb]at c2;rw[<-em]at c3;refine dJ ?_;cbv;refine bz ai mixed hS (9) ?_;cbv;repeat (first|apply bT rfl|apply bF rfl|apply nd rfl|(apply tT rfl;cbv)|(apply tF rfl;cbv)|(apply nd rfl;cbv)|(refine hS.cl cw ?_;cbv))
 refine bz ai mixed hS (3) ?_;cbv;repeat (first|apply bT rfl|apply bF rfl|apply nd rfl|(refine hS.cl ca ?_;cbv)|(refine hS.cl c1 ?_;cbv)|(refine hS.cl cg ?_;cbv)|(refine hS.cl c3 ?_;cbv)|(refine hS.cl d1 ?_;cbv)|(refine hS.cl cb ?_;cbv)|(refine hS.cl c2 ?_;cbv)|(refine hS.cl d2 ?_;cbv))
 exact aC hF
theorem x8 (k:Int) (h0:0<=k) (h1:k<256):∃l,Jl l/\aH 68 [.val (ti .u8 k)] ⟨[.val (tl (iE l))],[none]⟩:=by
 obtain⟨r,hr⟩:=aq (k.tmod 8);obtain⟨m,hm⟩:=aq ((k.tdiv 8).tmod 16);have kH:0<=r/\r<8:=by rw[hr,Int.tmod_eq_emod_of_nonneg h0];omega
 have JK:0<=m/\m<16:=by
  have h3:0<=k.tdiv 8:=Int.tdiv_nonneg h0 (by decide);rw[hm,Int.tmod_eq_emod_of_nonneg h3];omega
 have cl:aH 104 [] ⟨[.val (tl (iE mE))],[]⟩:=WV;have cg:aH 105 [] ⟨[.val (tl (iE qR))],[]⟩:=WW;have cr:aH 106 [] ⟨[.val (tl (iE gZ))],[]⟩:=WX;obtain⟨le,hle,ce⟩:=NA m JK.1 JK.2;obtain rfl|rfl|rfl|rfl|rfl|rfl|rfl|rfl:r=0∨r=1∨r=2∨r=3∨r=4∨r=5∨r=6∨r=7:=by omega
 ·refine⟨mE,Qd,?_⟩
  generalize iE mE=X at *;refine dE ai mixed [.val] Tryz.func68 rfl rfl (by kernel_rfl) fun zD _ _ _ zI zJ _ _ _ _ _ _ _ _ _ _ _ _ _ _ _ _ _ _ _ _ _ _ _ _ _ _ _ _ _ _ _ _ _ _ _ _ _ _ _ _ _ _ _ _ _ A L F hS hF=>?_
  have e8:zJ k 8=0:=by rw[hS.rem,<-hr]
  have w8:aE zD .u8 0=0:=by rw[hS.wrap];rfl
  refine dJ ?_;cbv;simp only[e8];cbv;repeat (first|(apply tT rfl;cbv)|(apply tF rfl;cbv)|(apply nd rfl;cbv))
  refine hS.cl cl ?_;cbv;exact aC hF
 ·refine⟨qR,Tz,?_⟩
  generalize iE qR=X at *;refine dE ai mixed [.val] Tryz.func68 rfl rfl (by kernel_rfl) fun zD _ _ _ zI zJ _ _ _ _ _ _ _ _ _ _ _ _ _ _ _ _ _ _ _ _ _ _ _ _ _ _ _ _ _ _ _ _ _ _ _ _ _ _ _ _ _ _ _ _ _ A L F hS hF=>?_
  have e8:zJ k 8=1:=by rw[hS.rem,<-hr]
  have w8:aE zD .u8 1=1:=by rw[hS.wrap];rfl
  refine dJ ?_;cbv;simp only[e8];cbv;repeat (first|(apply tT rfl;cbv)|(apply tF rfl;cbv)|(apply nd rfl;cbv))
  refine hS.cl cg ?_;cbv;exact aC hF
 ·refine⟨gZ,DQ,?_⟩
  generalize iE gZ=X at *;refine dE ai mixed [.val] Tryz.func68 rfl rfl (by kernel_rfl) fun zD _ _ _ zI zJ _ _ _ _ _ _ _ _ _ _ _ _ _ _ _ _ _ _ _ _ _ _ _ _ _ _ _ _ _ _ _ _ _ _ _ _ _ _ _ _ _ _ _ _ _ A L F hS hF=>?_
  have e8:zJ k 8=2:=by rw[hS.rem,<-hr]
  have w8:aE zD .u8 2=2:=by rw[hS.wrap];rfl
  refine dJ ?_;cbv;simp only[e8];cbv;repeat (first|(apply tT rfl;cbv)|(apply tF rfl;cbv)|(apply nd rfl;cbv))
  refine hS.cl cr ?_;cbv;exact aC hF
 ·refine⟨gZ,DQ,?_⟩
  generalize iE gZ=X at *;refine dE ai mixed [.val] Tryz.func68 rfl rfl (by kernel_rfl) fun zD _ _ _ zI zJ _ _ _ _ _ _ _ _ _ _ _ _ _ _ _ _ _ _ _ _ _ _ _ _ _ _ _ _ _ _ _ _ _ _ _ _ _ _ _ _ _ _ _ _ _ A L F hS hF=>?_
  have e8:zJ k 8=3:=by rw[hS.rem,<-hr]
  have w8:aE zD .u8 3=3:=by rw[hS.wrap];rfl
  refine dJ ?_;cbv;simp only[e8];cbv;repeat (first|(apply tT rfl;cbv)|(apply tF rfl;cbv)|(apply nd rfl;cbv))
  refine hS.cl cr ?_;cbv;exact aC hF
 ·refine⟨xJ,TA,?_⟩
  rw[show iE xJ=[[.v (.int .i64 2),.v (.int .i64 3),.v (.int .i64 1),.v (.int .i64 1),.v (.int .i64 1),.v (.int .i64 1),.v (.int .i64 1),.v (.int .i64 1)]] from rfl];refine dE ai mixed [.val] Tryz.func68 rfl rfl (by kernel_rfl) fun zD _ _ _ zI zJ _ _ _ _ _ _ _ _ _ _ _ _ _ _ _ _ _ _ _ _ _ _ _ _ _ _ _ _ _ _ _ _ _ _ _ _ _ _ _ _ _ _ _ _ _ A L F hS hF=>?_
  have e8:zJ k 8=4:=by rw[hS.rem,<-hr]
  have w8:aE zD .u8 4=4:=by rw[hS.wrap];rfl
  refine dJ ?_;cbv;simp only[e8];cbv;repeat (first|(apply tT rfl;cbv)|(apply tF rfl;cbv)|(apply nd rfl;cbv))
  obtain⟨u1,u2⟩:=hS.whole (r:=[[.v (.int .i64 2),.v (.int .i64 3),.v (.int .i64 1),.v (.int .i64 1),.v (.int .i64 1),.v (.int .i64 1),.v (.int .i64 1),.v (.int .i64 1)]]) (len:=1) rfl;apply nd u1;rw[u2];exact aC hF
 ·refine⟨xK,TB,?_⟩
  rw[show iE xK=[[.v (.int .i64 1),.v (.int .i64 1),.v (.int .i64 0),.v (.int .i64 0),.v (.int .i64 0),.v (.int .i64 0),.v (.int .i64 0),.v (.int .i64 0)],[.v (.int .i64 1),.v (.int .i64 0),.v (.int .i64 2),.v (.int .i64 1),.v (.int .i64 1),.v (.int .i64 1),.v (.int .i64 1),.v (.int .i64 1)]] from rfl];refine dE ai mixed [.val] Tryz.func68 rfl rfl (by kernel_rfl) fun zD _ _ _ zI zJ _ _ _ _ _ _ _ _ _ _ _ _ _ _ _ _ _ _ _ _ _ _ _ _ _ _ _ _ _ _ _ _ _ _ _ _ _ _ _ _ _ _ _ _ _ A L F hS hF=>?_
  have e8:zJ k 8=5:=by rw[hS.rem,<-hr]
  have w8:aE zD .u8 5=5:=by rw[hS.wrap];rfl
  refine dJ ?_;cbv;simp only[e8];cbv;repeat (first|(apply tT rfl;cbv)|(apply tF rfl;cbv)|(apply nd rfl;cbv))
  obtain⟨u1,u2⟩:=hS.whole (r:=[[.v (.int .i64 1),.v (.int .i64 1),.v (.int .i64 0),.v (.int .i64 0),.v (.int .i64 0),.v (.int .i64 0),.v (.int .i64 0),.v (.int .i64 0)],[.v (.int .i64 1),.v (.int .i64 0),.v (.int .i64 2),.v (.int .i64 1),.v (.int .i64 1),.v (.int .i64 1),.v (.int .i64 1),.v (.int .i64 1)]]) (len:=2) rfl;apply nd u1;rw[u2];exact aC hF
 ·refine⟨le,hle,?_⟩
  generalize iE le=X at *;refine dE ai mixed [.val] Tryz.func68 rfl rfl (by kernel_rfl) fun zD _ _ _ zI zJ _ _ _ _ _ _ _ _ _ _ _ _ _ _ _ _ _ _ _ _ _ _ _ _ _ _ _ _ _ _ _ _ _ _ _ _ _ _ _ _ _ _ _ _ _ A L F hS hF=>?_
  have e8:zJ k 8=6:=by rw[hS.rem,<-hr]
  have w8:aE zD .u8 6=6:=by rw[hS.wrap];rfl
  have em:zJ (aE zD .u8 (zI k 8)) 16=m:=by
   have h8:0<=k.tdiv 8:=Int.tdiv_nonneg h0 (by decide);have h9:k.tdiv 8<=k:=Int.tdiv_le_self 8 h0;rw[hS.quo,hS.wrap,hS.rem,hm,wrap_u8 h8 (by omega)]
  rw[<-em]at ce;refine dJ ?_;cbv;simp only[e8];cbv;repeat (first|(apply tT rfl;cbv)|(apply tF rfl;cbv)|(apply nd rfl;cbv))
  refine hS.cl ce ?_;cbv;exact aC hF
 ·refine⟨le,hle,?_⟩
  generalize iE le=X at *;refine dE ai mixed [.val] Tryz.func68 rfl rfl (by kernel_rfl) fun zD _ _ _ zI zJ _ _ _ _ _ _ _ _ _ _ _ _ _ _ _ _ _ _ _ _ _ _ _ _ _ _ _ _ _ _ _ _ _ _ _ _ _ _ _ _ _ _ _ _ _ A L F hS hF=>?_
  have e8:zJ k 8=7:=by rw[hS.rem,<-hr]
  have w8:aE zD .u8 7=7:=by rw[hS.wrap];rfl
  have em:zJ (aE zD .u8 (zI k 8)) 16=m:=by
   have h8:0<=k.tdiv 8:=Int.tdiv_nonneg h0 (by decide);have h9:k.tdiv 8<=k:=Int.tdiv_le_self 8 h0;rw[hS.quo,hS.wrap,hS.rem,hm,wrap_u8 h8 (by omega)]
  rw[<-em]at ce;refine dJ ?_;cbv;simp only[e8];cbv;repeat (first|(apply tT rfl;cbv)|(apply tF rfl;cbv)|(apply nd rfl;cbv))
  refine hS.cl ce ?_;cbv;exact aC hF
end Go.Proofs.YtekefilngojelaaGreat
end
section
namespace Go.Abs
section
def sQ (Z:ZI) (C:eA) (A:FuncId->Ask->oV->Prop) (L:Code->St->(bq->ST->Prop)->Prop) (c:Code) (Q:bq->ST->Prop):Nat->ST->Prop
 | 0,_=>False
 | n+1,st=>eF Z C A L c st fun e s=>match e with
  | .normal=>sQ Z C A L c Q n (ST.mb s.fO)
  | .exit id=>Q (.exit id) s
  | .ret=>Q .ret s
theorem x9 (Z:ZI) (C:eA) (A:FuncId->Ask->oV->Prop) (L:Code->St->(bq->ST->Prop)->Prop) (c:Code) (Q:bq->ST->Prop):∀(n:Nat) (st:ST),sQ Z C A L c Q n st=oF Z C A L c Q n st
 | 0,_=>rfl
 | n+1,st=>by
  unfold sQ oF;rw[BI];congr 1;funext e s;cases e with
  | normal=>exact x9 Z C A L c Q n _
  | exit id=>rfl
  | ret=>rfl
theorem Xl {Z:ZI} {C:eA} {A:FuncId->Ask->oV->Prop} {L:Code->St->(bq->ST->Prop)->Prop} {c:Code} {Q:bq->ST->Prop} {n:Nat} {st:ST} (h:sQ Z C A L c Q n st):oF Z C A L c Q n st:=by
 rw[<-x9];exact h
end
section
variable {P:Program} {C:eA} {n0:Nat} {zD:IntKind->Int->Int} {zE zG zH zI zJ:Int->Int->Int} {zK zM zN zO zR zS:IntKind->Int->Int->Int} {zT zU zV zX:Int->Int->Bool} {zY:Bool->Bool} {zZ zg:Bool->Bool->Bool} {zh zj:Int->Int->Int} {zu:Int->Nat} {zy:Int->Nat->Bool} {zz:Nat->Int} {bg:Nat->Int->Nat} {ay:Nat->Nat->Bool} {aK:Nat->Nat->Nat} {bO:Int->Int->Nat} {bI:Int->Int->Nat->Bool} {aQ:Nat->Nat->Nat->Bool} {aT:Int->Int->Nat->Bool} {ab:Rows->Nat} {aB:Rows->Nat->Option (List Tree)} {bA:Rows->Nat->List Tree->Rows} {aL:IntKind->Rows->Nat->Bool} {ar:Rows->Nat->Int} {aR:IntKind->Rows->Nat->Int->Rows} {a9:Nat->Nat->Rows->Bool} {aD:Rows->Nat->Nat->Rows} {bV bB:Rows->Nat->Rows->Rows} {bR:Nat->List Tree->Rows} {aM:Nat->Rows->Bool} {db:List Bool->Bool} {dc bn:List (Value×Tree)->Value->Bool} {a8:List (Value×Tree)->Value->Tree->List (Value×Tree)} {bY:Rows->Option ByteArray} {aX:List (Value×Tree)->Value->Option (Option Tree)} {zW:IntKind->List Int->Rows} {kW:(α:Type)->(Unit->α)->α} {A:FuncId->Ask->oV->Prop} {L:Code->St->(bq->ST->Prop)->Prop}
theorem fm (hC:bC P C) (eY:P.follows .mixedOrders=true) (hS:Std P n0 zD zE zG zH zI zJ zK zM zN zO zR zS zT zU zV zX zY zZ zg zh zj zu zy zz bg ay aK bO bI aQ aT ab aB bA aL ar aR a9 aD bV bB bR aM db dc bn a8 bY aX zW kW A L) {c:Code} {st:St} {Q:bq->ST->Prop} (n:Nat)
  (h:sQ (ZI.mk zD zE zG zH zI zJ zK zM zN zO zR zS zT zU zV zX zY zZ zg zh zj zu zy zz bg ay aK bO bI aQ aT ab aB bA aL ar aR a9 aD bV bB bR aM db dc bn a8 bY aX) C A L c Q n (ST.mb st)):L c st Q:=bz hC eY hS n (Xl h)
end
section
variable {Z:ZI} {C:eA} {A:FuncId->Ask->oV->Prop} {L:Code->St->(bq->ST->Prop)->Prop} {st S0:ST} {Q:bq->ST->Prop}
theorem Qt {c1 c2:Code} (h1:∀K:bq->ST->Prop,K .normal S0->eF Z C A L c1 st K) (h2:eF Z C A L c2 S0 Q):eF Z C A L (c1.seq c2) st Q:=h1 _ h2
theorem abv {c:Code} (h1:∀K:bq->ST->Prop,K .normal S0->eF Z C A L c st K) (h2:Q .normal S0):eF Z C A L c st Q:=h1 _ h2
theorem NP {c:Operand} {x y:Code} (hb:(st.get c).bool?=some true) (h:eF Z C A L x st Q):eF Z C A L (.cond c x y) st Q:=by
 unfold eF;rw[hb];cases yF st.lit c with
 | true=>exact h
 | false=>exact⟨fun _=>h,fun e=>absurd e (by decide)⟩
end
end Go.Abs
end
