/- A part of the proof. -/
import Derived.Test.YtekefilngojelaaGreatM15
set_option maxHeartbeats 0
set_option maxRecDepth 100000
set_option linter.unusedVariables false
set_option linter.unusedSimpArgs false
section
namespace Go.Proofs.YtekefilngojelaaGreat
open Go Go.Abs Go.Abs.M Go.Proofs
structure Bx.fit (x:Bx):Prop where
 ok:x.ok
 Vg:x.u0<=x.v0
 XI:x.u1<=x.v1
 u2:x.u2=0
 v2:x.v2=0
 u3:x.u3=0
 v3:x.v3=0
 u4:x.u4=0
 v4:x.v4=0
 u5:x.u5=0
 v5:x.v5=0
 u6:x.u6=0
 v6:x.v6=0
 u7:x.u7=0
 v7:x.v7=0
def gZ (X:Abs.Rows) (n I:Int):St:=ae 55 [.c (.t (.aa false X)),vi .i64 n,.af,.af,vb false,vi .i64 I] [none,none]
theorem q0:Qs (0:Rat) 100:=by have:=Qs.whole (n:=0) (k:=100) (by decide) (by omega);exact this
theorem sC (l:List Bx) (n:Int) (hn:2<=n/\n<=4) (hl:∀x∈l,x.fit) (hk:l.length<=64):ah Tryz.prog 87 [.val (tl (oT l)),.val (ti .i64 n)] ⟨[.val (tb true)],[none,none]⟩:=by
 obtain⟨X,hX⟩:∃X,X=oT l:=⟨_,rfl⟩;obtain⟨k,ta⟩:∃n,n=l.length:=⟨_,rfl⟩;have lX:X.length=k:=by rw[hX,DM,ta]
 rw[<-hX];have cz:=xL;have XJ:=RP 0 0 q0 q0 Rat.le_refl;obtain⟨zs,zt,zr,zq,zw,_⟩:=bD 0;rw[zw]at cz XJ;simp only[List.cons_append,List.nil_append]at XJ;obtain rfl|rfl|rfl:n=2∨n=3∨n=4:=by omega
 ·refine dC aj mixed [.val] Tryz.func87 rfl rfl (by kernel_rfl) fun zD zE _ _ _ _ _ _ _ _ _ _ _ _ zV _ _ _ _ _ _ _ _ zz _ _ _ _ _ _ _ ab aD _ _ _ _ _ _ _ _ _ _ _ _ _ _ _ _ _ _ A L F hS hF=>?_
  have lE:=hS.eU lX;have Es:mD zV 64 (zz (ab X))=false:=by rw[hS.lt,hS.aB,hS.len,lX];exact decide_eq_false (by omega)
  cbv at Es;cbv;refine bF Es ?_;refine fA aj mixed hS (n:=k) (fun i (_:Unit)=>gZ X 2 (Int.ofNat i)) (fun i _=>True) (a0:=()) (fi ?_ ?_) rfl (by show 2<=2;omega) trivial ?_ ?_
  ·simp[dO,gZ,ae,vi,vb]
  ·simp[dP,gZ,ae]
  ·rintro i ⟨⟩ hi -
   have c1:=(hS.gC lX hi (by omega)).1;have i1:aA zD .i64 (dU zE (Int.ofNat i) 1)=(i:Int)+1:=(hS.gC lX hi (by omega)).2.1;obtain⟨x,kY,_,hr,_⟩:=JE (l:=l) (i:=i) (by omega);have hx:=hl x kY;obtain⟨NQ,NR,NS,NT,_⟩:=hx.ok;have d0:=RP x.u0 x.v0 NQ NR hx.Vg;have d1:=RP x.u1 x.v1 NS NT hx.XI;have j2:aD X i=some (BH x):=by rw[hS.nth,hX];exact hr
   unfold BH at j2;rw[hx.u2,hx.v2,hx.u3,hx.v3,hx.u4,hx.v4,hx.u5,hx.v5,hx.u6,hx.v6,hx.u7,hx.v7]at j2;obtain⟨s0,t0,r0,q0,w0,_⟩:=bD x.u0;obtain⟨s1,t1,r1,q1,w1,_⟩:=bD x.v0;obtain⟨s2,t2,r2,q2,w2,_⟩:=bD x.u1;obtain⟨s3,t3,r3,q3,w3,_⟩:=bD x.v1;rw[w0,w1]at d0;rw[w2,w3]at d1;rw[w0,w1,w2,w3,zw]at j2;simp only[List.cons_append,List.nil_append]at d0 d1;clear w0 w1 w2 w3 hx NQ NR NS NT hr
   cbv at j2;cbv at i1;refine⟨?_⟩;cbv;refine bT c1 ?_;refine aU aj mixed hS (9) ?_;cbv;repeat (first|apply bT rfl|apply bF rfl|apply nd rfl|(simp only[j2];cbv)|(refine⟨_,hS.call d0,?_⟩;cbv)|(refine⟨_,hS.call d1,?_⟩;cbv)|(refine⟨_,hS.call XJ,?_⟩;cbv)|(refine⟨_,hS.call cz,?_⟩;cbv)|(simp only[i1];cbv))
   refine aQ [] () ?_ ?_ ?_ ?_ rfl (by show 2<=2;omega) trivial
   ·simp[aZ,gZ,ae,vi,vb,AV.ay,AV.aI,Cell.ay]
   ·simp[a8,gZ,ae]
   ·simp[aF,gZ,ae]
   ·simp
  ·rintro⟨⟩ -
   refine⟨?_⟩;cbv;refine bF lE ?_;exact hF _ (ak.refl _)
 ·refine dC aj mixed [.val] Tryz.func87 rfl rfl (by kernel_rfl) fun zD zE _ _ _ _ _ _ _ _ _ _ _ _ zV _ _ _ _ _ _ _ _ zz _ _ _ _ _ _ _ ab aD _ _ _ _ _ _ _ _ _ _ _ _ _ _ _ _ _ _ A L F hS hF=>?_
  have lE:=hS.eU lX;have Es:mD zV 64 (zz (ab X))=false:=by rw[hS.lt,hS.aB,hS.len,lX];exact decide_eq_false (by omega)
  cbv at Es;cbv;refine bF Es ?_;refine fA aj mixed hS (n:=k) (fun i (_:Unit)=>gZ X 3 (Int.ofNat i)) (fun i _=>True) (a0:=()) (fi ?_ ?_) rfl (by show 2<=2;omega) trivial ?_ ?_
  ·simp[dO,gZ,ae,vi,vb]
  ·simp[dP,gZ,ae]
  ·rintro i ⟨⟩ hi -
   have c1:=(hS.gC lX hi (by omega)).1;have i1:aA zD .i64 (dU zE (Int.ofNat i) 1)=(i:Int)+1:=(hS.gC lX hi (by omega)).2.1;obtain⟨x,kY,_,hr,_⟩:=JE (l:=l) (i:=i) (by omega);have hx:=hl x kY;obtain⟨NQ,NR,NS,NT,_⟩:=hx.ok;have d0:=RP x.u0 x.v0 NQ NR hx.Vg;have d1:=RP x.u1 x.v1 NS NT hx.XI;have j2:aD X i=some (BH x):=by rw[hS.nth,hX];exact hr
   unfold BH at j2;rw[hx.u2,hx.v2,hx.u3,hx.v3,hx.u4,hx.v4,hx.u5,hx.v5,hx.u6,hx.v6,hx.u7,hx.v7]at j2;obtain⟨s0,t0,r0,q0,w0,_⟩:=bD x.u0;obtain⟨s1,t1,r1,q1,w1,_⟩:=bD x.v0;obtain⟨s2,t2,r2,q2,w2,_⟩:=bD x.u1;obtain⟨s3,t3,r3,q3,w3,_⟩:=bD x.v1;rw[w0,w1]at d0;rw[w2,w3]at d1;rw[w0,w1,w2,w3,zw]at j2;simp only[List.cons_append,List.nil_append]at d0 d1;clear w0 w1 w2 w3 hx NQ NR NS NT hr
   cbv at j2;cbv at i1;refine⟨?_⟩;cbv;refine bT c1 ?_;refine aU aj mixed hS (9) ?_;cbv;repeat (first|apply bT rfl|apply bF rfl|apply nd rfl|(simp only[j2];cbv)|(refine⟨_,hS.call d0,?_⟩;cbv)|(refine⟨_,hS.call d1,?_⟩;cbv)|(refine⟨_,hS.call XJ,?_⟩;cbv)|(refine⟨_,hS.call cz,?_⟩;cbv)|(simp only[i1];cbv))
   refine aQ [] () ?_ ?_ ?_ ?_ rfl (by show 2<=2;omega) trivial
   ·simp[aZ,gZ,ae,vi,vb,AV.ay,AV.aI,Cell.ay]
   ·simp[a8,gZ,ae]
   ·simp[aF,gZ,ae]
   ·simp
  ·rintro⟨⟩ -
   refine⟨?_⟩;cbv;refine bF lE ?_;exact hF _ (ak.refl _)
 ·refine dC aj mixed [.val] Tryz.func87 rfl rfl (by kernel_rfl) fun zD zE _ _ _ _ _ _ _ _ _ _ _ _ zV _ _ _ _ _ _ _ _ zz _ _ _ _ _ _ _ ab aD _ _ _ _ _ _ _ _ _ _ _ _ _ _ _ _ _ _ A L F hS hF=>?_
  have lE:=hS.eU lX;have Es:mD zV 64 (zz (ab X))=false:=by rw[hS.lt,hS.aB,hS.len,lX];exact decide_eq_false (by omega)
  cbv at Es;cbv;refine bF Es ?_;refine fA aj mixed hS (n:=k) (fun i (_:Unit)=>gZ X 4 (Int.ofNat i)) (fun i _=>True) (a0:=()) (fi ?_ ?_) rfl (by show 2<=2;omega) trivial ?_ ?_
  ·simp[dO,gZ,ae,vi,vb]
  ·simp[dP,gZ,ae]
  ·rintro i ⟨⟩ hi -
   have c1:=(hS.gC lX hi (by omega)).1;have i1:aA zD .i64 (dU zE (Int.ofNat i) 1)=(i:Int)+1:=(hS.gC lX hi (by omega)).2.1;obtain⟨x,kY,_,hr,_⟩:=JE (l:=l) (i:=i) (by omega);have hx:=hl x kY;obtain⟨NQ,NR,NS,NT,_⟩:=hx.ok;have d0:=RP x.u0 x.v0 NQ NR hx.Vg;have d1:=RP x.u1 x.v1 NS NT hx.XI;have j2:aD X i=some (BH x):=by rw[hS.nth,hX];exact hr
   unfold BH at j2;rw[hx.u2,hx.v2,hx.u3,hx.v3,hx.u4,hx.v4,hx.u5,hx.v5,hx.u6,hx.v6,hx.u7,hx.v7]at j2;obtain⟨s0,t0,r0,q0,w0,_⟩:=bD x.u0;obtain⟨s1,t1,r1,q1,w1,_⟩:=bD x.v0;obtain⟨s2,t2,r2,q2,w2,_⟩:=bD x.u1;obtain⟨s3,t3,r3,q3,w3,_⟩:=bD x.v1;rw[w0,w1]at d0;rw[w2,w3]at d1;rw[w0,w1,w2,w3,zw]at j2;simp only[List.cons_append,List.nil_append]at d0 d1;clear w0 w1 w2 w3 hx NQ NR NS NT hr
   cbv at j2;cbv at i1;refine⟨?_⟩;cbv;refine bT c1 ?_;refine aU aj mixed hS (9) ?_;cbv;repeat (first|apply bT rfl|apply bF rfl|apply nd rfl|(simp only[j2];cbv)|(refine⟨_,hS.call d0,?_⟩;cbv)|(refine⟨_,hS.call d1,?_⟩;cbv)|(refine⟨_,hS.call XJ,?_⟩;cbv)|(refine⟨_,hS.call cz,?_⟩;cbv)|(simp only[i1];cbv))
   refine aQ [] () ?_ ?_ ?_ ?_ rfl (by show 2<=2;omega) trivial
   ·simp[aZ,gZ,ae,vi,vb,AV.ay,AV.aI,Cell.ay]
   ·simp[a8,gZ,ae]
   ·simp[aF,gZ,ae]
   ·simp
  ·rintro⟨⟩ -
   refine⟨?_⟩;cbv;refine bF lE ?_;exact hF _ (ak.refl _)
end Go.Proofs.YtekefilngojelaaGreat
end
