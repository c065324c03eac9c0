/-
  A part of the proof: TuB3t, TvL3t.
-/
import Derived.Test.YtekefilngojelaaGreatM17
import Derived.Test.YtekefilngojelaaGreatM18
import Derived.Test.YtekefilngojelaaGreatM23
set_option maxHeartbeats 0
set_option maxRecDepth 100000
set_option linter.unusedVariables false
set_option linter.unusedSimpArgs false
set_option linter.unusedSectionVars false
section
namespace Go.Proofs.YtekefilngojelaaGreat
open Go Go.Abs Go.Abs.M Go.Proofs
def fa (n d:Int):Rat:=(n:Rat)*((d:Int):Rat)⁻¹
theorem kV (n d:Int) (hn:n.natAbs<4294967296) (Rq:d≠0) (hd:d.natAbs<4294967296):Qs (fa n d) 2:=by
 refine yx (Qs.whole hn (Nat.le_refl 1)) (yC ?_ (Qs.whole hd (Nat.le_refl 1)));intro h;exact Rq (Rat.intCast_inj.1 (show((d:Int):Rat)=((0:Int):Rat) from h))
theorem gn (n d:Int) (hn:-128<=n/\n<128) (hd:d=2∨d=3∨d=5) :
  aA Tryz.prog 70 [.val (.agg [.v (.int .i8 n),.v (.int .i8 d),.v (.int .u8 0)])] ⟨[.val (.agg (qc (fa n d)).row)],[none]⟩:=by
 obtain⟨u,w,v,p,hr,c⟩:=DE n d 0 hn.1 hn.2 (by omega) (by omega) (by decide) (by decide);have e:DD n d 0=fa n d:=by
  have e1:qU n 0=n:=by unfold qU;simp
  have e2:mM d 0=d:=by unfold mM;rcases hd with rfl|rfl|rfl<;>decide
  unfold DD fa;rw[e1,e2,Rat.divInt_eq_div,Rat.div_def]
 rw[e]at hr;rw[sJ hr]at c;exact c
theorem F7 (l:List Int) (hl:nS l) (k:Int) (k0:0<=k) (k1:k<=100) :
  ∃x:Bx,x.fit/\aA Tryz.prog 69 [.val (tl (W .i8 l)),.val (ti .i64 k)] ⟨[.val (.agg (mS x))],[none,none]⟩:=by
 obtain⟨a,a1,a2,ca⟩:=jg l hl (k+0) (by omega) (by omega);obtain⟨b,b1,b2,cb⟩:=jg l hl (k+1) (by omega) (by omega);obtain⟨g,g1,g2,cg⟩:=jg l hl k k0 (by omega);obtain⟨m,hm⟩:∃m:Int,m=IntKind.wrap .i64 ((BitVec.ofInt 64 g &&& BitVec.ofInt 64 7).toNat):=⟨_,rfl⟩;have Hh:0<=m/\m<=7:=by
  have:(BitVec.ofInt 64 g &&& BitVec.ofInt 64 7).toNat<=7:=by
   rw[BitVec.toNat_and];exact Nat.le_trans Nat.and_le_right (by decide)
  rw[hm,wrap_i64 (by omega) (by omega)];omega
 have cw:=Oe 0 (by decide) (by decide);rw[show(((0:Int)):Rat)=0 from rfl]at cw;have q1:=kV a 3 (by omega) (by decide) (by decide);have q2:=kV b 3 (by omega) (by decide) (by decide);have q3:=kV m 2 (by omega) (by decide) (by decide);have c1:=gn a 3 ⟨a1,a2⟩ (by omega);have c2:=gn b 3 ⟨b1,b2⟩ (by omega);have c3:=gn m 2 (by omega) (by omega);obtain⟨s1,d1⟩:=sN q1 q3 (by omega)
 obtain⟨s2,d2⟩:=sN q2 q3 (by omega);have xh:0<=fa m 2:=by
  unfold fa;refine Rat.mul_nonneg ?_ (Rat.le_of_lt (Rat.inv_pos.2 (by decide)));exact Rat.intCast_nonneg.2 Hh.1
 have hle:∀x:Rat,x<=x+fa m 2:=fun x=>by
  have:=Rat.add_le_add_left (c:=x) |>.2 xh
  rwa[Rat.add_zero]at this
 have q0:Qs (0:Rat) 100:=q0;refine⟨⟨fa a 3,fa a 3+fa m 2,fa b 3,fa b 3+fa m 2,0,0,0,0,0,0,0,0,0,0,0,0⟩,⟨⟨q1.mono (by omega),s1.mono (by omega),q2.mono (by omega),s2.mono (by omega),q0,q0,q0,q0,q0,q0,q0,q0,q0,q0,q0,q0⟩,hle _,hle _,rfl,rfl,rfl,rfl,rfl,rfl,rfl,rfl,rfl,rfl,rfl,rfl⟩,?_⟩;unfold mS;simp only;obtain⟨zs,zt,zr,zq,zw,_⟩:=bq 0;obtain⟨s3,t3,r3,p3,w3,_⟩:=bq (fa a 3);obtain⟨s4,t4,r4,p4,w4,_⟩:=bq (fa b 3)
 obtain⟨s5,t5,r5,p5,w5,_⟩:=bq (fa m 2);obtain⟨s6,t6,r6,p6,w6,_⟩:=bq (fa a 3+fa m 2);obtain⟨s7,t7,r7,p7,w7,_⟩:=bq (fa b 3+fa m 2);rw[zw]at cw;rw[w3]at c1 d1;rw[w4]at c2 d2;rw[w5]at c3 d1 d2;rw[w6]at d1;rw[w7]at d2;rw[zw,w3,w4,w6,w7];simp only[List.cons_append,List.nil_append];clear w3 w4 w5 w6 w7 zw q1 q2 q3 s1 s2 xh hle;generalize W .i8 l=X at *;refine bz aD mixed [.val] Tryz.func69 rfl rfl (by kernel_rfl) fun zD zE zG zH zI zJ zK zL zM zN zO zR zS zT zU zV zX zY zZ zg zh zj zu zy zz aK ah aI aH ak aq ae aE aB aG ao az aJ an aO au aP ai aM aN ay aw aL ar zW bc A L F hS hF=>?_
 have e0:aZ zD .i64 (eZ zE k 0)=k+0:=by rw[hS.add,hS.wrap];exact wrap_i64 (by omega) (by omega)
 have e1:aZ zD .i64 (eZ zE k 1)=k+1:=by rw[hS.add,hS.wrap];exact wrap_i64 (by omega) (by omega)
 have ZP:∀x:Int,-128<=x->x<128->IntKind.wrap .i8 x=x:=fun x h1 h2=>by
  unfold IntKind.wrap;simp[IntKind.bits,IntKind.signed];omega
 have ea:aZ zD .i8 a=a:=by rw[hS.wrap];exact ZP a a1 a2
 have eb:aZ zD .i8 b=b:=by rw[hS.wrap];exact ZP b b1 b2
 have hb7:zM .i64 g 7=m:=by rw[hS.bP,hm];rfl
 have em:aZ zD .i8 (zM .i64 g 7)=m:=by rw[hb7,hS.wrap];exact ZP m (by omega) (by omega)
 rw[<-e0]at ca;rw[<-e1]at cb;rw[<-ea]at c1;rw[<-eb]at c2;rw[<-em]at c3;refine bg ?_;cbv;refine ba aD mixed hS (9) ?_;cbv;repeat (first|refine bT rfl ?_|refine bF rfl ?_|refine nd rfl ?_)
 repeat (first|(refine tT rfl ?_;cbv)|(refine tF rfl ?_;cbv)|(refine nd rfl ?_;cbv))
 refine⟨_,hS.call (cw),?_⟩;cbv;refine⟨_,hS.call (cw),?_⟩;cbv;cbv;repeat (first|refine bT rfl ?_|refine bF rfl ?_|refine nd rfl ?_)
 repeat (first|(refine tT rfl ?_;cbv)|(refine tF rfl ?_;cbv)|(refine nd rfl ?_;cbv))
 refine⟨_,hS.call (cw),?_⟩;cbv;refine⟨_,hS.call (cw),?_⟩;cbv;cbv;repeat (first|refine bT rfl ?_|refine bF rfl ?_|refine nd rfl ?_)
 repeat (first|(refine tT rfl ?_;cbv)|(refine tF rfl ?_;cbv)|(refine nd rfl ?_;cbv))
 refine⟨_,hS.call (cw),?_⟩;cbv;refine⟨_,hS.call (cw),?_⟩;cbv;cbv;repeat (first|refine bT rfl ?_|refine bF rfl ?_|refine nd rfl ?_)
 repeat (first|(refine tT rfl ?_;cbv)|(refine tF rfl ?_;cbv)|(refine nd rfl ?_;cbv))
 refine⟨_,hS.call (cw),?_⟩;cbv;refine⟨_,hS.call (cw),?_⟩;cbv;cbv;repeat (first|refine bT rfl ?_|refine bF rfl ?_|refine nd rfl ?_)
 repeat (first|(refine tT rfl ?_;cbv)|(refine tF rfl ?_;cbv)|(refine nd rfl ?_;cbv))
 refine⟨_,hS.call (cw),?_⟩;cbv;refine⟨_,hS.call (cw),?_⟩;cbv;cbv;repeat (first|refine bT rfl ?_|refine bF rfl ?_|refine nd rfl ?_)
 repeat (first|(refine tT rfl ?_;cbv)|(refine tF rfl ?_;cbv)|(refine nd rfl ?_;cbv))
 refine⟨_,hS.call (cw),?_⟩;cbv;refine⟨_,hS.call (cw),?_⟩;cbv;cbv;repeat (first|refine bT rfl ?_|refine bF rfl ?_|refine nd rfl ?_)
 repeat (first|(refine tT rfl ?_;cbv)|(refine tF rfl ?_;cbv)|(refine nd rfl ?_;cbv))
 refine⟨_,hS.call (cw),?_⟩;cbv;refine⟨_,hS.call (cw),?_⟩;cbv;cbv;repeat (first|refine bT rfl ?_|refine bF rfl ?_|refine nd rfl ?_)
 repeat (first|(refine tT rfl ?_;cbv)|(refine tF rfl ?_;cbv)|(refine nd rfl ?_;cbv))
 refine⟨_,hS.call (cw),?_⟩;cbv;refine⟨_,hS.call (cw),?_⟩;cbv;cbv;repeat (first|refine bT rfl ?_|refine bF rfl ?_|refine nd rfl ?_)
 repeat (first|(refine tT rfl ?_;cbv)|(refine tF rfl ?_;cbv)|(refine nd rfl ?_;cbv))
 refine ba aD mixed hS (3) ?_;cbv;repeat (first|refine bT rfl ?_|refine bF rfl ?_|refine nd rfl ?_)
 refine⟨_,hS.call (ca),?_⟩;cbv;refine⟨_,hS.call (c1),?_⟩;cbv;refine⟨_,hS.call (cg),?_⟩;cbv;refine⟨_,hS.call (c3),?_⟩;cbv;refine⟨_,hS.call (d1),?_⟩;cbv;cbv;repeat (first|refine bT rfl ?_|refine bF rfl ?_|refine nd rfl ?_)
 refine⟨_,hS.call (cb),?_⟩;cbv;refine⟨_,hS.call (c2),?_⟩;cbv;refine⟨_,hS.call (cg),?_⟩;cbv;refine⟨_,hS.call (c3),?_⟩;cbv;refine⟨_,hS.call (d2),?_⟩;cbv;cbv;repeat (first|refine bT rfl ?_|refine bF rfl ?_|refine nd rfl ?_)
 exact hF _ (aS.refl _)
open Go Go.Abs Go.Abs.M Go.Proofs
theorem wP (k:Int) (h0:0<=k) (h1:k<256):∃l,BG l/\aA Tryz.prog 68 [.val (ti .u8 k)] ⟨[.val (tl (iq l))],[none]⟩:=by
 obtain⟨r,hr⟩:∃r,r=k.tmod 8:=⟨_,rfl⟩;obtain⟨m,hm⟩:∃m,m=(k.tdiv 8).tmod 16:=⟨_,rfl⟩;have eL:0<=r/\r<8:=by rw[hr,Int.tmod_eq_emod_of_nonneg h0];omega
 have Hh:0<=m/\m<16:=by
  have h3:0<=k.tdiv 8:=Int.tdiv_nonneg h0 (by decide);rw[hm,Int.tmod_eq_emod_of_nonneg h3];omega
 have cl:aA Tryz.prog 104 [] ⟨[.val (tl (iq kQ))],[]⟩:=T3;have cg:aA Tryz.prog 105 [] ⟨[.val (tl (iq pO))],[]⟩:=T4;have cr:aA Tryz.prog 106 [] ⟨[.val (tl (iq gj))],[]⟩:=T5;obtain⟨le,hle,ce⟩:=K5 m Hh.1 Hh.2;obtain rfl|rfl|rfl|rfl|rfl|rfl|rfl|rfl:r=0∨r=1∨r=2∨r=3∨r=4∨r=5∨r=6∨r=7:=by omega
 ·refine⟨kQ,Nh,?_⟩
  generalize iq kQ=X at *;refine bz aD mixed [.val] Tryz.func68 rfl rfl (by kernel_rfl) fun zD zE zG zH zI zJ zK zL zM zN zO zR zS zT zU zV zX zY zZ zg zh zj zu zy zz aK ah aI aH ak aq ae aE aB aG ao az aJ an aO au aP ai aM aN ay aw aL ar zW bc A L F hS hF=>?_
  have e8:zJ k 8=0:=by rw[hS.rem,<-hr]
  have w8:aZ zD .u8 0=0:=by rw[hS.wrap];rfl
  refine bg ?_;cbv;simp only[e8];cbv;repeat (first|(refine tT rfl ?_;cbv)|(refine tF rfl ?_;cbv)|(refine nd rfl ?_;cbv))
  refine⟨_,hS.call (cl),?_⟩;cbv;exact hF _ (aS.refl _)
 ·refine⟨pO,Qr,?_⟩
  generalize iq pO=X at *;refine bz aD mixed [.val] Tryz.func68 rfl rfl (by kernel_rfl) fun zD zE zG zH zI zJ zK zL zM zN zO zR zS zT zU zV zX zY zZ zg zh zj zu zy zz aK ah aI aH ak aq ae aE aB aG ao az aJ an aO au aP ai aM aN ay aw aL ar zW bc A L F hS hF=>?_
  have e8:zJ k 8=1:=by rw[hS.rem,<-hr]
  have w8:aZ zD .u8 1=1:=by rw[hS.wrap];rfl
  refine bg ?_;cbv;simp only[e8];cbv;repeat (first|(refine tT rfl ?_;cbv)|(refine tF rfl ?_;cbv)|(refine nd rfl ?_;cbv))
  refine⟨_,hS.call (cg),?_⟩;cbv;exact hF _ (aS.refl _)
 ·refine⟨gj,BH,?_⟩
  generalize iq gj=X at *;refine bz aD mixed [.val] Tryz.func68 rfl rfl (by kernel_rfl) fun zD zE zG zH zI zJ zK zL zM zN zO zR zS zT zU zV zX zY zZ zg zh zj zu zy zz aK ah aI aH ak aq ae aE aB aG ao az aJ an aO au aP ai aM aN ay aw aL ar zW bc A L F hS hF=>?_
  have e8:zJ k 8=2:=by rw[hS.rem,<-hr]
  have w8:aZ zD .u8 2=2:=by rw[hS.wrap];rfl
  refine bg ?_;cbv;simp only[e8];cbv;repeat (first|(refine tT rfl ?_;cbv)|(refine tF rfl ?_;cbv)|(refine nd rfl ?_;cbv))
  refine⟨_,hS.call (cr),?_⟩;cbv;exact hF _ (aS.refl _)
 ·refine⟨gj,BH,?_⟩
  generalize iq gj=X at *;refine bz aD mixed [.val] Tryz.func68 rfl rfl (by kernel_rfl) fun zD zE zG zH zI zJ zK zL zM zN zO zR zS zT zU zV zX zY zZ zg zh zj zu zy zz aK ah aI aH ak aq ae aE aB aG ao az aJ an aO au aP ai aM aN ay aw aL ar zW bc A L F hS hF=>?_
  have e8:zJ k 8=3:=by rw[hS.rem,<-hr]
  have w8:aZ zD .u8 3=3:=by rw[hS.wrap];rfl
  refine bg ?_;cbv;simp only[e8];cbv;repeat (first|(refine tT rfl ?_;cbv)|(refine tF rfl ?_;cbv)|(refine nd rfl ?_;cbv))
  refine⟨_,hS.call (cr),?_⟩;cbv;exact hF _ (aS.refl _)
 ·refine⟨wA,Qt,?_⟩
  rw[show iq wA=[[.v (.int .i64 2),.v (.int .i64 3),.v (.int .i64 1),.v (.int .i64 1),.v (.int .i64 1),.v (.int .i64 1),.v (.int .i64 1),.v (.int .i64 1)]] from rfl];refine bz aD mixed [.val] Tryz.func68 rfl rfl (by kernel_rfl) fun zD zE zG zH zI zJ zK zL zM zN zO zR zS zT zU zV zX zY zZ zg zh zj zu zy zz aK ah aI aH ak aq ae aE aB aG ao az aJ an aO au aP ai aM aN ay aw aL ar zW bc A L F hS hF=>?_
  have e8:zJ k 8=4:=by rw[hS.rem,<-hr]
  have w8:aZ zD .u8 4=4:=by rw[hS.wrap];rfl
  refine bg ?_;cbv;simp only[e8];cbv;repeat (first|(refine tT rfl ?_;cbv)|(refine tF rfl ?_;cbv)|(refine nd rfl ?_;cbv))
  obtain⟨u1,u2⟩:=hS.whole (r:=[[.v (.int .i64 2),.v (.int .i64 3),.v (.int .i64 1),.v (.int .i64 1),.v (.int .i64 1),.v (.int .i64 1),.v (.int .i64 1),.v (.int .i64 1)]]) (len:=1) rfl;refine nd u1 ?_;rw[u2];exact hF _ (aS.refl _)
 ·refine⟨wC,Qu,?_⟩
  rw[show iq wC=[[.v (.int .i64 1),.v (.int .i64 1),.v (.int .i64 0),.v (.int .i64 0),.v (.int .i64 0),.v (.int .i64 0),.v (.int .i64 0),.v (.int .i64 0)],[.v (.int .i64 1),.v (.int .i64 0),.v (.int .i64 2),.v (.int .i64 1),.v (.int .i64 1),.v (.int .i64 1),.v (.int .i64 1),.v (.int .i64 1)]] from rfl];refine bz aD mixed [.val] Tryz.func68 rfl rfl (by kernel_rfl) fun zD zE zG zH zI zJ zK zL zM zN zO zR zS zT zU zV zX zY zZ zg zh zj zu zy zz aK ah aI aH ak aq ae aE aB aG ao az aJ an aO au aP ai aM aN ay aw aL ar zW bc A L F hS hF=>?_
  have e8:zJ k 8=5:=by rw[hS.rem,<-hr]
  have w8:aZ zD .u8 5=5:=by rw[hS.wrap];rfl
  refine bg ?_;cbv;simp only[e8];cbv;repeat (first|(refine tT rfl ?_;cbv)|(refine tF rfl ?_;cbv)|(refine nd rfl ?_;cbv))
  obtain⟨u1,u2⟩:=hS.whole (r:=[[.v (.int .i64 1),.v (.int .i64 1),.v (.int .i64 0),.v (.int .i64 0),.v (.int .i64 0),.v (.int .i64 0),.v (.int .i64 0),.v (.int .i64 0)],[.v (.int .i64 1),.v (.int .i64 0),.v (.int .i64 2),.v (.int .i64 1),.v (.int .i64 1),.v (.int .i64 1),.v (.int .i64 1),.v (.int .i64 1)]]) (len:=2) rfl;refine nd u1 ?_;rw[u2];exact hF _ (aS.refl _)
 ·refine⟨le,hle,?_⟩
  generalize iq le=X at *;refine bz aD mixed [.val] Tryz.func68 rfl rfl (by kernel_rfl) fun zD zE zG zH zI zJ zK zL zM zN zO zR zS zT zU zV zX zY zZ zg zh zj zu zy zz aK ah aI aH ak aq ae aE aB aG ao az aJ an aO au aP ai aM aN ay aw aL ar zW bc A L F hS hF=>?_
  have e8:zJ k 8=6:=by rw[hS.rem,<-hr]
  have w8:aZ zD .u8 6=6:=by rw[hS.wrap];rfl
  have em:zJ (aZ zD .u8 (zI k 8)) 16=m:=by
   have h8:0<=k.tdiv 8:=Int.tdiv_nonneg h0 (by decide);have h9:k.tdiv 8<=k:=Int.tdiv_le_self 8 h0;rw[hS.quo,hS.wrap,hS.rem,hm,wrap_u8 h8 (by omega)]
  rw[<-em]at ce;refine bg ?_;cbv;simp only[e8];cbv;repeat (first|(refine tT rfl ?_;cbv)|(refine tF rfl ?_;cbv)|(refine nd rfl ?_;cbv))
  refine⟨_,hS.call (ce),?_⟩;cbv;exact hF _ (aS.refl _)
 ·refine⟨le,hle,?_⟩
  generalize iq le=X at *;refine bz aD mixed [.val] Tryz.func68 rfl rfl (by kernel_rfl) fun zD zE zG zH zI zJ zK zL zM zN zO zR zS zT zU zV zX zY zZ zg zh zj zu zy zz aK ah aI aH ak aq ae aE aB aG ao az aJ an aO au aP ai aM aN ay aw aL ar zW bc A L F hS hF=>?_
  have e8:zJ k 8=7:=by rw[hS.rem,<-hr]
  have w8:aZ zD .u8 7=7:=by rw[hS.wrap];rfl
  have em:zJ (aZ zD .u8 (zI k 8)) 16=m:=by
   have h8:0<=k.tdiv 8:=Int.tdiv_nonneg h0 (by decide);have h9:k.tdiv 8<=k:=Int.tdiv_le_self 8 h0;rw[hS.quo,hS.wrap,hS.rem,hm,wrap_u8 h8 (by omega)]
  rw[<-em]at ce;refine bg ?_;cbv;simp only[e8];cbv;repeat (first|(refine tT rfl ?_;cbv)|(refine tF rfl ?_;cbv)|(refine nd rfl ?_;cbv))
  refine⟨_,hS.call (ce),?_⟩;cbv;exact hF _ (aS.refl _)
end Go.Proofs.YtekefilngojelaaGreat
end
