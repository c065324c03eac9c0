/- A part of the proof. -/
import Derived.Test.YtekefilngojelaaGreatM9
import Derived.Test.YtekefilngojelaaGreatM13
import Derived.Test.YtekefilngojelaaGreatM14
set_option maxHeartbeats 0
set_option maxRecDepth 100000
set_option linter.unusedVariables false
set_option linter.unusedSimpArgs false
set_option linter.unusedSectionVars false
section
namespace Go.Proofs.YtekefilngojelaaGreat
open Go Go.Abs Go.Abs.M Go.Proofs
structure Fa where
 N:Int
 E:List (List T2)
 D:List (List T2)
 c:Cl
 e:Ce
structure Fa.ok (f:Fa):Prop where
 N:Eo f.N
 E:BL f.E
 D:BL f.D
 c:f.c.ok
 e:f.e.ok
def Fa.tree (f:Fa):List Tree:=.v (.int .i64 f.N) :: .aa false (an f.E) :: .aa false (an f.D)::(f.c.tree++f.e.tree)
def Ve (f:Fa):Abs.Rows:=TY f.N f.E f.D++RL f.c++Va f.e
theorem Is (f:Fa) (hf:f.ok):ah Tryz.prog 80 [.val (.agg f.tree)] ⟨[.val (tl (Ve f))],[none]⟩:=by
 obtain⟨N,E,D,⟨k,P,cn,cd,cr,O,Lc,Sg,Z⟩,⟨eN,kZ,G,eO,C,Q,Sx,⟨a0,a1,a2,a3,a4,a5,a6,a7⟩,U,U0,U1,U2,U3,U4,U5,U6,U7,At,Sq,Xx,eZ⟩⟩:=f;obtain⟨hN,hE,hD,hc,he⟩:=hf;simp only at hN hE hD hc he;have c0:=Gl N hN.1 hN.2 E D hE hD [] (by simp);have l0:=Qh (N:=N) hE hD;obtain⟨B1,eW⟩:∃Z,Z=TY N E D:=⟨_,rfl⟩;rw[List.nil_append,<-eW]at c0;rw[<-eW]at l0;have c1:=Gm _ hc B1 (by omega)
 have l1:=Qq hc;unfold Ve;simp only;rw[<-eW];generalize dh:B1++RL ⟨k,P,cn,cd,cr,O,Lc,Sg,Z⟩=B2 at *;have l2:B2.length<=7000000:=by rw[<-dh,List.length_append];omega
 have c2:=Ir _ he B2 (by omega);generalize kx:B2++Va ⟨eN,kZ,G,eO,C,Q,Sx,⟨a0,a1,a2,a3,a4,a5,a6,a7⟩,U,U0,U1,U2,U3,U4,U5,U6,U7,At,Sq,Xx,eZ⟩=B3 at *;clear dh kx eW hE hD hc he l0 l1 l2;simp only[Fa.tree,Cl.tree,Ce.tree,List.cons_append,List.nil_append]at c1 c2 ⊢;generalize an E=X1,an D=X2,aV P=X3,gD O=X4,an Lc=X5,DN Sg=X6,oT Z=X7,an kZ=X8,an G=X9,gD eO=X10,di C=X11,di Q=X12,di Sx=X13,ur U=V,ur U0=V0,ur U1=V1,ur U2=V2,ur U3=V3,ur U4=V4,ur U5=V5,ur U6=V6,ur U7=V7,Gn At=W0,Gp Sq=W1,Er Xx=W2,oT eZ=W3 at *
 refine ar aj mixed [.val] Tryz.func80 rfl rfl (by kernel_rfl) ?_;intros;rename_i ao _ _ _ _ _ ab _ _ _ _ _ _ _ _ _ _ _ _ _ _ _ _ _ _ _ A L F hS hF;have y0:ao 0 (ab [])=true:=by rw[hS.neq,hS.len];rfl
 have y1:ao (ab B1) (ab B1)=true:=by rw[hS.neq];exact decide_eq_true rfl
 have y2:ao (ab B2) (ab B2)=true:=by rw[hS.neq];exact decide_eq_true rfl
 have y3:ao (ab B3) (ab B3)=true:=by rw[hS.neq];exact decide_eq_true rfl
 cbv;refine nd y0 ?_;refine⟨_,hS.call c0,?_⟩;cbv;refine nd y1 ?_;refine⟨_,hS.call c1,?_⟩;cbv;refine nd y2 ?_;refine⟨_,hS.call c2,?_⟩;cbv;obtain⟨u1,u2⟩:=hS.whole (r:=B3) (len:=ab B3) (by rw[hS.len]);simp only[u2];refine nd u1 ?_;exact hF _ (ak.refl _)
def AB (R:Abs.Rows):Prop:=∀r∈R,Qa r
theorem AB.app {a b:Abs.Rows} (h:AB a) (g:AB b):AB (a++b):=fun r hr=>(List.mem_append.1 hr).elim (h r) (g r)
theorem AB.flat {α:Type} {f:α->Abs.Rows} {l:List α} (h:∀x∈l,AB (f x)):AB (l.flatMap f):=fun r hr=>by
 obtain⟨x,hx,hr⟩:=List.mem_flatMap.1 hr;exact h x hx r hr
theorem AB.nat {n:Int} (h0:0<=n) (h1:n<16384):AB (nB n):=DE h0 h1
theorem AB.len {n:Nat} (h1:n<=1000):AB (nB n):=DE (by omega) (by omega)
theorem AB.mu {n:Int} (h:Eo n):AB (iD n):=by
 obtain⟨h0,h1⟩:=NO h.1 h.2;exact DE h0 h1
theorem AB.q {x:Rat} (h:Qs x 100):AB (qB x):=TP (h.mono (by omega))
theorem AB.po {p:List T2} (h:BP p):AB (Gh p):=by
 unfold Gh;refine AB.app (AB.len (by have:=h.2;omega)) (AB.flat fun t ht=>?_);have ot:=h.1 t ht;unfold K6;refine AB.app (AB.q (ot.c.mono (by omega))) (AB.app (AB.nat ot.a.1 (by have:=ot.a.2;omega)) (AB.app (AB.nat ot.b.1 (by have:=ot.b.2;omega)) ?_));intro r hr;have e:∀x∈[fc 0,fc 0,fc 0,fc 0,fc 0,fc 0],x=fc 0:=by simp
 rw[e r hr];exact⟨0,by decide,by decide,rfl⟩
theorem AB.pl {l:List (List T2)} (h:BL l):AB (xJ l):=AB.app (AB.len (by have:=h.2;omega)) (AB.flat fun p hp=>AB.po (h.1 p hp))
theorem AB.tb {l:List (List (List T2))} (h:BT l):AB (NL l):=AB.app (AB.len (by have:=h.2;omega)) (AB.flat fun p hp=>AB.pl (h.1 p hp))
theorem AB.r8 {x:R8} (h:x.ok):AB (L1 x):=by
 obtain⟨h0,h1,h2,h3,h4,h5,h6,h7⟩:=h;exact(((((((AB.mu h0).app (AB.mu h1)).app (AB.mu h2)).app (AB.mu h3)).app (AB.mu h4)).app (AB.mu h5)).app (AB.mu h6)).app (AB.mu h7)
theorem AB.or {l:List R8} (h:(∀x∈l,x.ok)/\l.length<=100):AB (RJ l):=AB.app (AB.len (by have:=h.2;omega)) (AB.flat fun p hp=>AB.r8 (h.1 p hp))
theorem AB.u {l:List Rat} (h:BU l):AB (uB l):=AB.app (AB.len (by have:=h.2;omega)) (AB.flat fun p hp=>AB.q (h.1 p hp))
theorem AB.bx {l:List Bx} (h:(∀x∈l,x.ok)/\l.length<=100):AB (L3 l):=by
 refine AB.app (AB.len (by have:=h.2;omega)) (AB.flat fun p hp=>?_);obtain⟨h0,h1,h2,h3,h4,h5,h6,h7,h8,h9,EE,Ra,ff,Yw,h14,h15⟩:=h.1 p hp;exact(((((((((((((((AB.q h0).app (AB.q h1)).app (AB.q h2)).app (AB.q h3)).app (AB.q h4)).app (AB.q h5)).app (AB.q h6)).app (AB.q h7)).app (AB.q h8)).app (AB.q h9)).app (AB.q EE)).app (AB.q Ra)).app (AB.q ff)).app (AB.q Yw)).app (AB.q h14)).app (AB.q h15)
theorem AB.q8 {x:Q8} (h:x.ok):AB (NV x):=by
 obtain⟨h0,h1,h2,h3,h4,h5,h6,h7⟩:=h;exact(((((((AB.q h0).app (AB.q h1)).app (AB.q h2)).app (AB.q h3)).app (AB.q h4)).app (AB.q h5)).app (AB.q h6)).app (AB.q h7)
theorem AB.cl {c:Cl} (h:c.ok):AB (RL c):=
 (((((((((AB.mu h.k).app (AB.po h.P)).app (AB.mu h.cn)).app (AB.mu h.cd)).app (AB.mu h.cr)).app (AB.or h.O)).app (AB.pl h.L)).app (AB.len (by have:=h.S.2;omega))).app (AB.flat fun x hx=>AB.mu (h.S.1 x hx))).app (AB.bx h.B)
theorem AB.ce {e:Ce} (h:e.ok):AB (Va e):=by
 obtain⟨o0,o1,o2,o3,o4,o5,o6,o7⟩:=h.R;have p0:AB (iD e.N):=AB.mu h.N;have p1:AB (xJ e.kZ):=AB.pl h.kZ;have p2:AB (xJ e.G):=AB.pl h.G;have p3:AB (RJ e.O):=AB.or h.O;have p4:AB (NL e.C):=AB.tb h.C;have p5:AB (NL e.Q):=AB.tb h.Q;have p6:AB (NL e.Sx):=AB.tb h.Sx;have p7:AB (iD e.R.a0):=AB.mu o0;have p8:AB (iD e.R.a1):=AB.mu o1;have p9:AB (iD e.R.a2):=AB.mu o2;have p10:AB (iD e.R.a3):=AB.mu o3
 have p11:AB (iD e.R.a4):=AB.mu o4;have p12:AB (iD e.R.a5):=AB.mu o5;have p13:AB (iD e.R.a6):=AB.mu o6;have p14:AB (iD e.R.a7):=AB.mu o7;have p15:AB (uB e.U):=AB.u h.U;have p16:AB (uB e.U0):=AB.u h.U0;have p17:AB (uB e.U1):=AB.u h.U1;have p18:AB (uB e.U2):=AB.u h.U2;have p19:AB (uB e.U3):=AB.u h.U3;have p20:AB (uB e.U4):=AB.u h.U4;have p21:AB (uB e.U5):=AB.u h.U5;have p22:AB (uB e.U6):=AB.u h.U6
 have p23:AB (uB e.U7):=AB.u h.U7;have p24:AB (nB e.At.length):=AB.len (by have:=h.At.2;omega);have p25:AB ((e.At.flatMap yY)):=AB.flat fun x hx=>(AB.q (h.At.1 x hx).1).app (AB.q (h.At.1 x hx).2)
 have p26:AB (nB e.Sq.length):=AB.len (by have:=h.Sq.2;omega);have p27:AB ((e.Sq.flatMap yZ)):=AB.flat fun x hx=>(AB.q (h.Sq.1 x hx).1).app (AB.po (h.Sq.1 x hx).2)
 have p28:AB (nB e.X.length):=AB.len (by have:=h.X.2;omega);have p29:AB ((e.X.flatMap NV)):=AB.flat fun x hx=>AB.q8 (h.X.1 x hx)
 have p30:AB (L3 e.B):=AB.bx h.B;exact AB.app (AB.app (AB.app (AB.app (AB.app (AB.app (AB.app (AB.app (AB.app (AB.app (AB.app (AB.app (AB.app (AB.app (AB.app (AB.app (AB.app (AB.app (AB.app (AB.app (AB.app (AB.app (AB.app (AB.app (AB.app (AB.app (AB.app (AB.app (AB.app (AB.app (p0) p1) p2) p3) p4) p5) p6) p7) p8) p9) p10) p11) p12) p13) p14) p15) p16) p17) p18) p19) p20) p21) p22) p23) p24) p25) p26) p27) p28) p29) p30
theorem Qv {f:Fa} (hf:f.ok):∃s,ZI.bV.str (Ve f)=some s:=by
 have h:AB (Ve f):=(((AB.mu hf.N).app (AB.pl hf.E)).app (AB.pl hf.D)).app (AB.cl hf.c) |>.app (AB.ce hf.e)
 obtain⟨l,h1,_⟩:=nQ h;exact⟨⟨l.toArray⟩,by show(dZ (Ve f)).map _=_;rw[h1];rfl⟩
theorem It (C:eh) (slot:Nat) (σ:Operand->AV) (h:Hp) (t:TypeId) (x y:Operand) (t':TypeId) (s:ByteArray) (hx:σ x=.c (.t (.v (.string s)))) (hy:σ y=.c (.t (.v (.string s)))) :
  evalOp C slot σ h (.binOp .eql t x y t')=some { val:=dY (.bool true) }:=by
 unfold evalOp;simp only[hx,hy,J2,beq_self_eq_true,Option.map_some]
theorem Gs (f:Fa) (hf:f.ok):ah Tryz.prog 46 [.val (.agg f.tree),.val (.agg f.tree)] ⟨[.val (tb true)],[none,none]⟩:=by
 have c:=Is f hf;obtain⟨s,hs⟩:=Qv hf;generalize Ve f=B at *;obtain⟨N,E,D,⟨k,P,cn,cd,cr,O,Lc,Sg,Z⟩,⟨eN,kZ,G,eO,C,Q,Sx,⟨a0,a1,a2,a3,a4,a5,a6,a7⟩,U,U0,U1,U2,U3,U4,U5,U6,U7,At,Sq,Xx,eZ⟩⟩:=f;simp only[Fa.tree,Cl.tree,Ce.tree,List.cons_append,List.nil_append]at c ⊢;generalize an E=X1,an D=X2,aV P=X3,gD O=X4,an Lc=X5,DN Sg=X6,oT Z=X7,an kZ=X8,an G=X9,gD eO=X10,di C=X11,di Q=X12,di Sx=X13,ur U=V,ur U0=V0,ur U1=V1,ur U2=V2,ur U3=V3,ur U4=V4,ur U5=V5,ur U6=V6,ur U7=V7,Gn At=W0,Gp Sq=W1,Er Xx=W2,oT eZ=W3 at *
 refine ar aj mixed [.val] Tryz.func46 rfl rfl (by kernel_rfl) ?_;intros;rename_i bX _ _ _ A L F hS hF;have u3:bX B=some s:=by rw[hS.str];exact hs
 cbv;refine⟨_,hS.call c,?_⟩;cbv;rw[u3];simp only[];generalize hv:Value.string s=v;cbv;refine⟨_,hS.call c,?_⟩;cbv;rw[u3];simp only[];rw[hv];cbv;subst hv;simp only[];rw[It _ _ _ _ _ _ _ _ s rfl rfl];cbv;exact hF _ (ak.refl _)
open Go Go.Abs Go.Abs.M Go.Proofs
theorem RP (x y:Rat) (hx:Qs x 100) (hy:Qs y 100) (h:x<=y):ah Tryz.prog 124 [.val (.agg ((qc x).row++(qc y).row))] ⟨[.val (tb true)],[none]⟩:=by
 have c1:=RE (hx.mono (by omega):Qs x 1000000);have c2:=RE (hy.mono (by omega):Qs y 1000000);have c3:=F9 (x:=x) (y:=y) (hx.mono (by omega)) (hy.mono (by omega));have hc:jh x y<=0:=by
  rcases Gc x y with⟨e,_⟩|⟨e,_⟩|⟨_,g⟩
  ·omega
  ·omega
  ·exact absurd h (Rat.not_le.2 g)
 generalize jh x y=c at *;obtain⟨s1,t1,r1,q1,w1,_⟩:=bD x;obtain⟨s2,t2,r2,q2,w2,_⟩:=bD y;rw[w1]at c1 c3 ⊢;rw[w2]at c2 c3 ⊢;simp only[List.cons_append,List.nil_append];clear w1 w2;refine ar aj mixed [.val] Tryz.func124 rfl rfl (by kernel_rfl) ?_;intros;rename_i zX _ _ _ _ _ _ _ _ _ _ _ _ _ _ _ _ _ _ _ _ _ _ _ _ _ _ _ _ _ _ _ _ _ _ _ A L F hS hF;have z:zX c 0=true:=by rw[hS.le];exact decide_eq_true hc
 cbv;refine⟨_,hS.call c1,?_⟩;cbv;refine bT rfl ?_;refine⟨_,hS.call c2,?_⟩;cbv;refine bT rfl ?_;refine⟨_,hS.call c3,?_⟩;cbv;exact bn hF (jz z)
theorem xL:ah Tryz.prog 123 [.val (.agg (qc 0).row)] ⟨[.val (tb true)],[none]⟩:=by
 have c1:=P3 0 (by decide) (by decide);have c2:=Bj (x:=0) (y:=0) (by have:=Qs.whole (n:=0) (k:=1000000) (by decide) (by omega);exact this);rw[decide_eq_true rfl]at c2;rw[show(((0:Int)):Rat)=0 from rfl]at c1;obtain⟨s1,t1,r1,q1,w1,_⟩:=bD 0;rw[w1]at c1 c2 ⊢;refine ar aj mixed [.val] Tryz.func123 rfl rfl (by kernel_rfl) ?_;intros;rename_i A L F hS hF;cbv;refine⟨_,hS.call c1,?_⟩;cbv
 refine⟨_,hS.call c2,?_⟩;cbv;exact hF _ (ak.refl _)
theorem Lf (n:Int) (h0:0<=n) (h1:n<=1000000):ah Tryz.prog 119 [.val (ti .i64 n)] ⟨[.val (tb true)],[none]⟩:=by
 refine ar aj mixed [.val] Tryz.func119 rfl rfl (by kernel_rfl) ?_;intros;rename_i zX _ _ _ _ _ _ _ _ _ _ _ _ _ _ _ _ _ _ _ _ _ _ _ _ _ _ _ _ _ _ _ _ _ _ _ A L F hS hF;have z0:zX 0 n=true:=by rw[hS.le];exact decide_eq_true h0
 have z1:zX n 1000000=true:=by rw[hS.le];exact decide_eq_true h1
 cbv;refine bT z0 ?_;exact bn hF (jz z1)
def BO (X:Abs.Rows) (I:Int):St:=ae 22 [.c (.t (.aa false X)),.af,vb false,vi .i64 I] [none]
theorem Gt (l:List Int) (hl:∀x∈l,-1<=x/\x<=1) (hk:l.length<=1000):ah Tryz.prog 120 [.val (tl (DN l))] ⟨[.val (tb true)],[none]⟩:=by
 obtain⟨X,hX⟩:∃X,X=DN l:=⟨_,rfl⟩;obtain⟨n,fD⟩:∃n,n=l.length:=⟨_,rfl⟩;have lX:X.length=n:=by rw[hX,DO,fD]
 rw[<-hX];refine ar aj mixed [.val] Tryz.func120 rfl rfl (by kernel_rfl) ?_;intros;rename_i zV _ _ _ _ _ _ _ _ _ _ _ _ _ _ _ _ _ _ _ aL aw _ _ _ _ _ _ _ _ _ _ _ _ _ _ _ A L F hS hF;have lE:=hS.eU lX;cbv;refine fA aj mixed hS (n:=n) (fun i (_:Unit)=>BO X (Int.ofNat i)) (fun i _=>True) (a0:=()) (fi ?_ ?_) rfl (Nat.le_refl 1) trivial ?_ ?_
 ·simp[dO,BO,ae,vi,vb]
 ·simp[dP,BO,ae]
 ·rintro i ⟨⟩ hi -
  obtain⟨c1,i1,j1,n0⟩:=hS.gC lX hi (by omega);obtain⟨x,kY,_,hr,eC⟩:=RK (l:=l) (i:=i) (by omega);have j2:aw X i=x:=by rw[hS.dF,hX];unfold DN;rw[mP];exact hr
  have j3:aL .i64 X i=true:=by rw[hS.gE,hX];unfold DN;rw[kM];exact decide_eq_true (by omega)
  have z1:zV x (-1)=false:=by rw[hS.lt];exact decide_eq_false (by have:=hl x kY;omega)
  have z2:zV 1 x=false:=by rw[hS.lt];exact decide_eq_false (by have:=hl x kY;omega)
  refine⟨?_⟩;cbv;refine bT c1 ?_;simp only[j1,j2];refine nd n0 (nd j3 ?_);refine bF z1 ?_;refine nd n0 (nd j3 ?_);refine bF z2 ?_;refine aQ [] () ?_ ?_ ?_ ?_ rfl (Nat.le_refl 1) trivial
  ·simp[aZ,BO,ae,vi,vb,AV.ay,AV.aI,Cell.ay]
   exact i1
  ·simp[a8,BO,ae]
  ·simp[aF,BO,ae]
  ·simp
 ·rintro⟨⟩ -
  refine⟨?_⟩;cbv;refine bF lE ?_;exact hF _ (ak.refl _)
end Go.Proofs.YtekefilngojelaaGreat
end
section
namespace Go.Abs
structure Xt (b:Bool) (p q:Unit->Prop):Prop where
 t:b=true->p ()
 f:b=false->q ()
theorem NX (b:Bool) (p q:Unit->Prop):Xt b p q=Br b (p ()) (q ()):=propext ⟨fun h=>⟨h.t,h.f⟩,fun h=>⟨h.t,h.f⟩⟩
theorem tT {b:Bool} {p q:Unit->Prop} (h:b=true) (hp:p ()):Xt b p q:=⟨fun _=>hp,fun h'=>absurd (h.symm.trans h') (by decide)⟩
theorem tF {b:Bool} {p q:Unit->Prop} (h:b=false) (hq:q ()):Xt b p q:=⟨fun h'=>absurd (h.symm.trans h') (by decide),fun _=>hq⟩
section
variable (Z:ZI) (C:eh)
def DR (gs:List Nat) (lit:Bool) (o:Oper) (e:bW) (k:Bool->bW->Prop):Prop:=
 match gs with
 | []=>k lit e
 | g::gs=>match o.dst with
  | none=>k lit e
  | some d=>match(g::gs).contains d with
   | true=>match lit with
    | true=>k true e
    | false=>match e.val.bool? with
     | some b=>Xt b (fun _=>k true { e with val:=dY (.bool true) }) (fun _=>k true { e with val:=dY (.bool false) })
     | none=>k false e
   | false=>k lit e
theorem Lg (gs:List Nat) (lit:Bool) (o:Oper) (e:bW) (k:Bool->bW->Prop):DR gs lit o e k=tG gs lit o e k:=by
 unfold DR tG;cases gs with
 | nil=>rfl
 | cons g gs=>
  cases o.dst with
  | none=>rfl
  | some d=>
   simp only;cases(g::gs).contains d with
   | false=>rfl
   | true=>
    cases lit with
    | true=>rfl
    | false=>
     simp only;cases e.val.bool? with
     | none=>rfl
     | some b=>exact NX _ _ _
def Gu (A:FuncId->Ask->pf->Prop) (ops:List Oper) (gs:List Nat):List Oper->Nat->ST->List bW->(List bW->ST->Prop)->Prop
 | [],_,st,tr,Q=>Q tr st
 | o::os,slot,st,tr,Q=>Dg Z C A ops slot o st fun e=>DR gs (Jk st o.op) o e fun b e=>Gu A ops gs os (slot+slotsOf C o.op) ((st.app o e).addLit b o) (tr ++ [e]) Q
theorem Gv (A:FuncId->Ask->pf->Prop) (ops:List Oper) (gs:List Nat):∀(os:List Oper) (slot:Nat) (st:ST) (tr:List bW) (Q:List bW->ST->Prop),Gu Z C A ops gs os slot st tr Q=AP Z C A ops gs os slot st tr Q
 | [],_,_,_,_=>rfl
 | o::os,slot,st,tr,Q=>by
  unfold Gu AP;have:(fun e=>DR gs (Jk st o.op) o e fun b e=>Gu Z C A ops gs os (slot+slotsOf C o.op) ((st.app o e).addLit b o) (tr ++ [e]) Q)=(fun e=>tG gs (Jk st o.op) o e fun b e=>AP Z C A ops gs os (slot+slotsOf C o.op) ((st.app o e).addLit b o) (tr ++ [e]) Q):=by
   funext e;rw[Lg];congr 1;funext b e;exact Gv A ops gs os _ _ _ _
  rw[this]
def eo (A:FuncId->Ask->pf->Prop) (L:Code->St->(bf->ST->Prop)->Prop):Code->ST->(bf->ST->Prop)->Prop
 | .skip,st,Q=>Q .normal st
 | .ret,st,Q=>Q .ret st
 | .exit id,st,Q=>Q (.exit id) st
 | .seq x y,st,Q=>eo A L x st fun e s=>match e with
  | .normal=>eo A L y s Q
  | .exit id=>Q (.exit id) s
  | .ret=>Q .ret s
 | .region _ ops draw,st,Q=>Gu Z C A ops.toList (oA ops.toList ops.toList []) ops.toList st.heap.length (st.ext (bB C ops.toList)) [] fun aS tu=>match draw with
  | false=>Q .normal tu
  | true=>match AN ops.toList aS with
   | true=>Q .normal tu
   | false=>False
 | .cond c x y,st,Q=>match(st.get c).bool? with
  | some b=>match yI st.lit c with
   | true=>match b with
    | true=>eo A L x st Q
    | false=>eo A L y st Q
   | false=>Xt b (fun _=>eo A L x st Q) (fun _=>eo A L y st Q)
  | none=>False
 | .block id c,st,Q=>eo A L c st fun e s=>match e with
  | .normal=>Q .normal s
  | .exit Ej=>if Ej=id then Q .normal s else Q (.exit Ej) s
  | .ret=>Q .ret s
 | .loop c,st,Q=>match st.fI with
  | ⟨t,h⟩=>L c ⟨t,h⟩ Q
 | _,_,_=>False
theorem BQ (A:FuncId->Ask->pf->Prop) (L:Code->St->(bf->ST->Prop)->Prop):∀(c:Code) (st:ST) (Q:bf->ST->Prop),eo Z C A L c st Q=dJ Z C A L c st Q:=by
 intro c
 induction c with
 | seq x y Fh Fi=>
  intro st Q;unfold eo dJ;rw[Fh];congr 1;funext e s;cases e with
  | normal=>exact Fi s Q
  | exit id=>rfl
  | ret=>rfl
 | region id ops draw=>
  intro st Q;unfold eo dJ;exact Gv Z C A _ _ _ _ _ _ _
 | cond c x y Fh Fi=>
  intro st Q;unfold eo dJ;cases(st.get c).bool? with
  | none=>rfl
  | some b=>
   simp only;cases yI st.lit c with
   | true=>cases b with
    | true=>exact Fh st Q
    | false=>exact Fi st Q
   | false=>
    simp only;rw[NX,Fh,Fi]
 | block id c ih=>
  intro st Q;unfold eo dJ;rw[ih];congr 1
 | _=>intro st Q;rfl
theorem dL {Z:ZI} {C:eh} {A:FuncId->Ask->pf->Prop} {L:Code->St->(bf->ST->Prop)->Prop} {c:Code} {st:ST} {Q:bf->ST->Prop} (h:eo Z C A L c st Q):dJ Z C A L c st Q:=by
 rw[<-BQ];exact h
end
end Go.Abs
end
section
namespace Go.Proofs.YtekefilngojelaaGreat
open Go Go.Abs Go.Abs.M Go.Proofs
theorem Gw:ah Tryz.prog 121 [.val (.agg [.v (.int .i64 0),.v (.int .i64 0),.v (.int .i64 0),.v (.int .i64 0),.v (.int .i64 0),.v (.int .i64 0),.v (.int .i64 0),.v (.int .i64 0),.aa false [],.aa false [],.aa false [],.aa false [],.aa false [],.aa false [],.aa false [],.aa false [],.aa false []])] ⟨[.val (tb true)],[none]⟩:=by
 refine dC aj mixed [.val] Tryz.func121 rfl rfl (by kernel_rfl) ?_;intros;rename_i zz _ _ _ _ _ _ _ ab _ _ _ _ _ _ _ _ _ _ _ _ _ _ _ _ _ _ _ A L F hS hF;have z0:zz (ab [])=0:=by rw[hS.aB,hS.len];rfl
 refine dL ?_;cbv;refine aU aj mixed hS (9) ?_;simp only[z0];cbv;repeat (first|apply bT rfl|apply bF rfl|apply nd rfl)
 simp only[z0];cbv;repeat (first|(refine tT rfl ?_;cbv)|(refine tF rfl ?_;cbv)|(refine nd rfl ?_;cbv))
 exact hF _ (ak.refl _)
theorem Gx (a1:Int) (U U1:Abs.Rows):ah Tryz.prog 121 [.val (.agg [.v (.int .i64 1),.v (.int .i64 a1),.v (.int .i64 0),.v (.int .i64 0),.v (.int .i64 0),.v (.int .i64 0),.v (.int .i64 0),.v (.int .i64 0),.aa false U,.aa false [],.aa false U1,.aa false [],.aa false [],.aa false [],.aa false [],.aa false [],.aa false []])] ⟨[.val (tb false)],[none]⟩:=by
 refine dC aj mixed [.val] Tryz.func121 rfl rfl (by kernel_rfl) ?_;intros;rename_i A L F hS hF;refine dL ?_;cbv;refine aU aj mixed hS (9) ?_;cbv;repeat (first|apply bT rfl|apply bF rfl|apply nd rfl)
 refine⟨fun _=>?_,fun _=>?_⟩
 ·cbv
  repeat (first|(refine tT rfl ?_;cbv)|(refine tF rfl ?_;cbv)|(refine nd rfl ?_;cbv))
  exact hF _ (ak.refl _)
 ·cbv
  repeat (first|(refine tT rfl ?_;cbv)|(refine tF rfl ?_;cbv)|(refine nd rfl ?_;cbv))
  exact hF _ (ak.refl _)
theorem xM (N r0 r1 r2 r3 r4 r5 r6 r7:Int) (X1 X2 X3 X4 X5 X6 Y0 Y1 Y2 Y3 Y4 Y5 Y6 Y7 Y8 Z1 Z2 Z3 Z4:Abs.Rows) (b0 b1 b2 b3 b4 b5 b6 b7 b8 b9 L0 Ie:Bool)
  (h0:b0=decide (N≠0)) (h1:b1=decide (0<X1.length)) (h2:b2=decide (0<X2.length)) (h3:b3=decide (0<X3.length)) (h4:b4=decide (0<X4.length)) (h5:b5=decide (0<X5.length)) (h6:b6=decide (0<X6.length)) (h8:b8=decide (0<Z1.length)) (h9:b9=decide (0<Z2.length)) (EE:L0=decide (0<Z3.length)) (Ra:Ie=decide (0<Z4.length)) (hn:ah Tryz.prog 121 [.val (.agg [.v (.int .i64 r0),.v (.int .i64 r1),.v (.int .i64 r2),.v (.int .i64 r3),.v (.int .i64 r4),.v (.int .i64 r5),.v (.int .i64 r6),.v (.int .i64 r7),.aa false Y0,.aa false Y1,.aa false Y2,.aa false Y3,.aa false Y4,.aa false Y5,.aa false Y6,.aa false Y7,.aa false Y8])] ⟨[.val (tb b7)],[none]⟩) :
  ah Tryz.prog 82 [.val (.agg [.v (.int .i64 N),.aa false X1,.aa false X2,.aa false X3,.aa false X4,.aa false X5,.aa false X6,.v (.int .i64 r0),.v (.int .i64 r1),.v (.int .i64 r2),.v (.int .i64 r3),.v (.int .i64 r4),.v (.int .i64 r5),.v (.int .i64 r6),.v (.int .i64 r7),.aa false Y0,.aa false Y1,.aa false Y2,.aa false Y3,.aa false Y4,.aa false Y5,.aa false Y6,.aa false Y7,.aa false Y8,.aa false Z1,.aa false Z2,.aa false Z3,.aa false Z4])] ⟨[.val (.agg [.v (.bool b0),.v (.bool b1),.v (.bool b2),.v (.bool b3),.v (.bool b4),.v (.bool b5),.v (.bool b6),.v (.bool (!b7)),.v (.bool b8),.v (.bool b9),.v (.bool L0),.v (.bool Ie)])],[none]⟩:=by
 refine ar aj mixed [.val] Tryz.func82 rfl rfl (by kernel_rfl) ?_;intros;rename_i zU zV _ zY _ _ _ _ _ _ zz _ _ _ _ _ _ _ ab _ _ _ _ _ _ _ _ _ _ _ _ _ _ _ _ _ _ _ A L F hS hF;have e0:zU N 0=b0:=by rw[hS.ne,h0]
 have e1:zV 0 (zz (ab X1))=b1:=by rw[hS.lt,hS.aB,hS.len,h1,decide_eq_decide];omega
 have e2:zV 0 (zz (ab X2))=b2:=by rw[hS.lt,hS.aB,hS.len,h2,decide_eq_decide];omega
 have e3:zV 0 (zz (ab X3))=b3:=by rw[hS.lt,hS.aB,hS.len,h3,decide_eq_decide];omega
 have e4:zV 0 (zz (ab X4))=b4:=by rw[hS.lt,hS.aB,hS.len,h4,decide_eq_decide];omega
 have e5:zV 0 (zz (ab X5))=b5:=by rw[hS.lt,hS.aB,hS.len,h5,decide_eq_decide];omega
 have e6:zV 0 (zz (ab X6))=b6:=by rw[hS.lt,hS.aB,hS.len,h6,decide_eq_decide];omega
 have e8:zV 0 (zz (ab Z1))=b8:=by rw[hS.lt,hS.aB,hS.len,h8,decide_eq_decide];omega
 have e9:zV 0 (zz (ab Z2))=b9:=by rw[hS.lt,hS.aB,hS.len,h9,decide_eq_decide];omega
 have yO:zV 0 (zz (ab Z3))=L0:=by rw[hS.lt,hS.aB,hS.len,EE,decide_eq_decide];omega
 have KH:zV 0 (zz (ab Z4))=Ie:=by rw[hS.lt,hS.aB,hS.len,Ra,decide_eq_decide];omega
 have e7:zY b7=!b7:=by rw[hS.not]
 clear h0 h1 h2 h3 h4 h5 h6 h8 h9 EE Ra;cbv;refine⟨_,hS.call hn,?_⟩;cbv;simp only[e0,e1,e2,e3,e4,e5,e6,e7,e8,e9,yO,KH];exact hF _ (ak.refl _)
end Go.Proofs.YtekefilngojelaaGreat
end
