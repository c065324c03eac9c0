/- A part. -/
import Derived.Test.YtekefilngojelaaGreatM12
set_option maxHeartbeats 0
set_option maxRecDepth 100000
set_option linter.unusedVariables false
set_option linter.unusedSimpArgs false
section
namespace Go.Proofs.YtekefilngojelaaGreat
open Go Go.Abs Go.Abs.M Go.Proofs
structure Bx.fit (x:Bx):Prop where
 ok:x.ok
 UM:x.u0<=x.v0
 W6:x.u1<=x.v1
 u2:x.u2=0
 v2:x.v2=0
 u3:x.u3=0
 v3:x.v3=0
 u4:x.u4=0
 v4:x.v4=0
 u5:x.u5=0
 v5:x.v5=0
 u6:x.u6=0
 v6:x.v6=0
 u7:x.u7=0
 v7:x.v7=0
def il (X:Abs.Rows) (n I:Int):St:=ae 55 [.c (.t (.aa false X)),vi .i64 n,.af,.af,vb false,vi .i64 I] [none,none]
theorem q0:Qs (0:Rat) 100:=by have:=Qs.whole (n:=0) (k:=100) (by decide) (by omega);exact this
theorem sL (l:List Bx) (n:Int) (hn:2<=n/\n<=4) (hl:∀x∈l,x.fit) (hk:l.length<=64):aH 87 [.val (tl (uk l)),.val (ti .i64 n)] ⟨[.val (tb true)],[none,none]⟩:=by
 obtain⟨X,hX⟩:=aq (uk l);obtain⟨k,tw⟩:=aq (l.length);have lX:X.length=k:=by rw[hX,DM,tw]
 rw[<-hX];have cz:=xH;have W7:=Rm 0 0 q0 q0 Rat.le_refl;obtain⟨zs,zt,zr,zq,zw,_⟩:=bX 0;rw[zw]at cz W7;simp only[List.cons_append,List.nil_append]at W7;obtain rfl|rfl|rfl:n=2∨n=3∨n=4:=by omega
 ·refine dE ai mixed [.val] Tryz.func87 rfl rfl (by kernel_rfl) fun zD zE _ _ _ _ _ _ _ _ _ _ _ _ zV _ _ _ _ _ _ _ _ zz _ _ _ _ _ _ _ ab aB _ _ _ _ _ _ _ _ _ _ _ _ _ _ _ _ _ _ A L F hS hF=>?_
  have lE:=hS.fh lX;have Ej:me zV 64 (zz (ab X))=false:=by rw[hS.lt,hS.az,hS.len,lX];exact decide_eq_false (by omega)
  cbv at Ej;cbv;apply bF Ej;refine fX ai mixed hS (n:=k) (fun i (_:Unit)=>il X 2 (Int.ofNat i)) (fun i _=>True) (a0:=()) (fy ?_ ?_) rfl (by show 2<=2;omega) trivial ?_ ?_
  ·simp[dS,il,ae,vi,vb]
  ·simp[dU,il,ae]
  ·rintro i ⟨⟩ hi -
   have c1:=(hS.ic lX hi (by omega)).1;have i1:aE zD .i64 (eE zE (Int.ofNat i) 1)=(i:Int)+1:=(hS.ic lX hi (by omega)).2.1;obtain⟨x,vn,_,hr,_⟩:=Ji (l:=l) (i:=i) (by omega);have hx:=hl x vn;obtain⟨Nu,Nv,Nw,Nx,_⟩:=hx.ok;have d0:=Rm x.u0 x.v0 Nu Nv hx.UM;have d1:=Rm x.u1 x.v1 Nw Nx hx.W6;have j2:aB X i=some (BD x):=by rw[hS.nth,hX];exact hr
   unfold BD at j2;rw[hx.u2,hx.v2,hx.u3,hx.v3,hx.u4,hx.v4,hx.u5,hx.v5,hx.u6,hx.v6,hx.u7,hx.v7]at j2;obtain⟨s0,t0,r0,q0,w0,_⟩:=bX x.u0;obtain⟨s1,t1,r1,q1,w1,_⟩:=bX x.v0;obtain⟨s2,t2,r2,q2,w2,_⟩:=bX x.u1;obtain⟨s3,t3,r3,q3,w3,_⟩:=bX x.v1;rw[w0,w1]at d0;rw[w2,w3]at d1;rw[w0,w1,w2,w3,zw]at j2;simp only[List.cons_append,List.nil_append]at d0 d1;clear w0 w1 w2 w3 hx Nu Nv Nw Nx hr
   cbv at j2;cbv at i1;refine⟨?_⟩;cbv;apply bT c1;refine bz ai mixed hS (9) ?_;cbv;repeat (first|apply bT rfl|apply bF rfl|apply nd rfl|(simp only[j2];cbv)|(refine hS.cl d0 ?_;cbv)|(refine hS.cl d1 ?_;cbv)|(refine hS.cl W7 ?_;cbv)|(refine hS.cl cz ?_;cbv)|(simp only[i1];cbv))
   refine aU [] () ?_ ?_ ?_ ?_ rfl (by show 2<=2;omega) trivial
   ·simp[bd,il,ae,vi,vb,AV.aw,AV.aJ,Cell.aw]
   ·simp[bf,il,ae]
   ·simp[aF,il,ae]
   ·simp
  ·rintro⟨⟩ -
   refine⟨?_⟩;cbv;apply bF lE;exact aC hF
 ·refine dE ai mixed [.val] Tryz.func87 rfl rfl (by kernel_rfl) fun zD zE _ _ _ _ _ _ _ _ _ _ _ _ zV _ _ _ _ _ _ _ _ zz _ _ _ _ _ _ _ ab aB _ _ _ _ _ _ _ _ _ _ _ _ _ _ _ _ _ _ A L F hS hF=>?_
  have lE:=hS.fh lX;have Ej:me zV 64 (zz (ab X))=false:=by rw[hS.lt,hS.az,hS.len,lX];exact decide_eq_false (by omega)
  cbv at Ej;cbv;apply bF Ej;refine fX ai mixed hS (n:=k) (fun i (_:Unit)=>il X 3 (Int.ofNat i)) (fun i _=>True) (a0:=()) (fy ?_ ?_) rfl (by show 2<=2;omega) trivial ?_ ?_
  ·simp[dS,il,ae,vi,vb]
  ·simp[dU,il,ae]
  ·rintro i ⟨⟩ hi -
   have c1:=(hS.ic lX hi (by omega)).1;have i1:aE zD .i64 (eE zE (Int.ofNat i) 1)=(i:Int)+1:=(hS.ic lX hi (by omega)).2.1;obtain⟨x,vn,_,hr,_⟩:=Ji (l:=l) (i:=i) (by omega);have hx:=hl x vn;obtain⟨Nu,Nv,Nw,Nx,_⟩:=hx.ok;have d0:=Rm x.u0 x.v0 Nu Nv hx.UM;have d1:=Rm x.u1 x.v1 Nw Nx hx.W6;have j2:aB X i=some (BD x):=by rw[hS.nth,hX];exact hr
   unfold BD at j2;rw[hx.u2,hx.v2,hx.u3,hx.v3,hx.u4,hx.v4,hx.u5,hx.v5,hx.u6,hx.v6,hx.u7,hx.v7]at j2;obtain⟨s0,t0,r0,q0,w0,_⟩:=bX x.u0;obtain⟨s1,t1,r1,q1,w1,_⟩:=bX x.v0;obtain⟨s2,t2,r2,q2,w2,_⟩:=bX x.u1;obtain⟨s3,t3,r3,q3,w3,_⟩:=bX x.v1;rw[w0,w1]at d0;rw[w2,w3]at d1;rw[w0,w1,w2,w3,zw]at j2;simp only[List.cons_append,List.nil_append]at d0 d1;clear w0 w1 w2 w3 hx Nu Nv Nw Nx hr
   cbv at j2;cbv at i1;refine⟨?_⟩;cbv;apply bT c1;refine bz ai mixed hS (9) ?_;cbv;repeat (first|apply bT rfl|apply bF rfl|apply nd rfl|(simp only[j2];cbv)|(refine hS.cl d0 ?_;cbv)|(refine hS.cl d1 ?_;cbv)|(refine hS.cl W7 ?_;cbv)|(refine hS.cl cz ?_;cbv)|(simp only[i1];cbv))
   refine aU [] () ?_ ?_ ?_ ?_ rfl (by show 2<=2;omega) trivial
   ·simp[bd,il,ae,vi,vb,AV.aw,AV.aJ,Cell.aw]
   ·simp[bf,il,ae]
   ·simp[aF,il,ae]
   ·simp
  ·rintro⟨⟩ -
   refine⟨?_⟩;cbv;apply bF lE;exact aC hF
 ·refine dE ai mixed [.val] Tryz.func87 rfl rfl (by kernel_rfl) fun zD zE _ _ _ _ _ _ _ _ _ _ _ _ zV _ _ _ _ _ _ _ _ zz _ _ _ _ _ _ _ ab aB _ _ _ _ _ _ _ _ _ _ _ _ _ _ _ _ _ _ A L F hS hF=>?_
  have lE:=hS.fh lX;have Ej:me zV 64 (zz (ab X))=false:=by rw[hS.lt,hS.az,hS.len,lX];exact decide_eq_false (by omega)
  cbv at Ej;cbv;apply bF Ej;refine fX ai mixed hS (n:=k) (fun i (_:Unit)=>il X 4 (Int.ofNat i)) (fun i _=>True) (a0:=()) (fy ?_ ?_) rfl (by show 2<=2;omega) trivial ?_ ?_
  ·simp[dS,il,ae,vi,vb]
  ·simp[dU,il,ae]
  ·rintro i ⟨⟩ hi -
   have c1:=(hS.ic lX hi (by omega)).1;have i1:aE zD .i64 (eE zE (Int.ofNat i) 1)=(i:Int)+1:=(hS.ic lX hi (by omega)).2.1;obtain⟨x,vn,_,hr,_⟩:=Ji (l:=l) (i:=i) (by omega);have hx:=hl x vn;obtain⟨Nu,Nv,Nw,Nx,_⟩:=hx.ok;have d0:=Rm x.u0 x.v0 Nu Nv hx.UM;have d1:=Rm x.u1 x.v1 Nw Nx hx.W6;have j2:aB X i=some (BD x):=by rw[hS.nth,hX];exact hr
   unfold BD at j2;rw[hx.u2,hx.v2,hx.u3,hx.v3,hx.u4,hx.v4,hx.u5,hx.v5,hx.u6,hx.v6,hx.u7,hx.v7]at j2;obtain⟨s0,t0,r0,q0,w0,_⟩:=bX x.u0;obtain⟨s1,t1,r1,q1,w1,_⟩:=bX x.v0;obtain⟨s2,t2,r2,q2,w2,_⟩:=bX x.u1;obtain⟨s3,t3,r3,q3,w3,_⟩:=bX x.v1;rw[w0,w1]at d0;rw[w2,w3]at d1;rw[w0,w1,w2,w3,zw]at j2;simp only[List.cons_append,List.nil_append]at d0 d1;clear w0 w1 w2 w3 hx Nu Nv Nw Nx hr
   cbv at j2;cbv at i1;refine⟨?_⟩;cbv;apply bT c1;refine bz ai mixed hS (9) ?_;cbv;repeat (first|apply bT rfl|apply bF rfl|apply nd rfl|(simp only[j2];cbv)|(refine hS.cl d0 ?_;cbv)|(refine hS.cl d1 ?_;cbv)|(refine hS.cl W7 ?_;cbv)|(refine hS.cl cz ?_;cbv)|(simp only[i1];cbv))
   refine aU [] () ?_ ?_ ?_ ?_ rfl (by show 2<=2;omega) trivial
   ·simp[bd,il,ae,vi,vb,AV.aw,AV.aJ,Cell.aw]
   ·simp[bf,il,ae]
   ·simp[aF,il,ae]
   ·simp
  ·rintro⟨⟩ -
   refine⟨?_⟩;cbv;apply bF lE;exact aC hF
end Go.Proofs.YtekefilngojelaaGreat
end
