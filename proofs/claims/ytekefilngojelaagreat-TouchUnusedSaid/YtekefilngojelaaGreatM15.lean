/-
  A part of the proof: TwK3t, TvF3t, GabsThk, TvP3t.
-/
import Derived.Test.YtekefilngojelaaGreatM9
import Derived.Test.YtekefilngojelaaGreatM13
import Derived.Test.YtekefilngojelaaGreatM14
set_option maxHeartbeats 0
set_option maxRecDepth 100000
set_option linter.unusedVariables false
set_option linter.unusedSimpArgs false
set_option linter.unusedSectionVars false
section
namespace Go.Proofs.YtekefilngojelaaGreat
open Go Go.Abs Go.Abs.M Go.Proofs
structure Fa where
 N:Int
 E:List (List T2)
 D:List (List T2)
 c:Cl
 e:Ce
structure Fa.ok (f:Fa):Prop where
 N:FR f.N
 E:BL f.E
 D:BL f.D
 c:f.c.ok
 e:f.e.ok
def AB (R:Abs.Rows):Prop:=∀r∈R,Nd r
theorem AB.app {a b:Abs.Rows} (h:AB a) (g:AB b):AB (a++b):=fun r hr=>(List.mem_append.1 hr).elim (h r) (g r)
theorem AB.flat {α:Type} {f:α->Abs.Rows} {l:List α} (h:∀x∈l,AB (f x)):AB (l.flatMap f):=fun r hr=>by
 obtain⟨x,hx,hr⟩:=List.mem_flatMap.1 hr;exact h x hx r hr
theorem AB.nat {n:Int} (h0:0<=n) (h1:n<16384):AB (nB n):=Bz h0 h1
theorem AB.len {n:Nat} (h1:n<=1000):AB (nB n):=Bz (by omega) (by omega)
theorem AB.mu {n:Int} (h:FR n):AB (oB n):=by
 obtain⟨h0,h1⟩:=Qp h.1 h.2;exact Bz h0 h1
theorem AB.q {x:Rat} (h:Qs x 100):AB (qB x):=Qk (h.mono (by omega))
theorem AB.po {p:List T2} (h:BP p):AB (TR p):=by
 unfold TR;refine AB.app (AB.len (by have:=h.2;omega)) (AB.flat fun t ht=>?_);have ot:=h.1 t ht;unfold teB;refine AB.app (AB.q (ot.c.mono (by omega))) (AB.app (AB.nat ot.a.1 (by have:=ot.a.2;omega)) (AB.app (AB.nat ot.b.1 (by have:=ot.b.2;omega)) ?_));intro r hr;have e:∀x∈[eH 0,eH 0,eH 0,eH 0,eH 0,eH 0],x=eH 0:=by simp
 rw[e r hr];exact⟨0,by decide,by decide,rfl⟩
theorem AB.pl {l:List (List T2)} (h:BL l):AB (Ql l):=AB.app (AB.len (by have:=h.2;omega)) (AB.flat fun p hp=>AB.po (h.1 p hp))
theorem AB.tb {l:List (List (List T2))} (h:BT l):AB (Qm l):=AB.app (AB.len (by have:=h.2;omega)) (AB.flat fun p hp=>AB.pl (h.1 p hp))
theorem AB.r8 {x:R8} (h:x.ok):AB (r8B x):=by
 obtain⟨h0,h1,h2,h3,h4,h5,h6,h7⟩:=h;exact(((((((AB.mu h0).app (AB.mu h1)).app (AB.mu h2)).app (AB.mu h3)).app (AB.mu h4)).app (AB.mu h5)).app (AB.mu h6)).app (AB.mu h7)
theorem AB.or {l:List R8} (h:(∀x∈l,x.ok)/\l.length<=100):AB (VR l):=AB.app (AB.len (by have:=h.2;omega)) (AB.flat fun p hp=>AB.r8 (h.1 p hp))
theorem AB.u {l:List Rat} (h:BU l):AB (uB l):=AB.app (AB.len (by have:=h.2;omega)) (AB.flat fun p hp=>AB.q (h.1 p hp))
theorem AB.bx {l:List Bx} (h:(∀x∈l,x.ok)/\l.length<=100):AB (VS l):=by
 refine AB.app (AB.len (by have:=h.2;omega)) (AB.flat fun p hp=>?_);obtain⟨h0,h1,h2,h3,h4,h5,h6,h7,h8,h9,Gm,Mm,ug,U8,h14,h15⟩:=h.1 p hp;exact(((((((((((((((AB.q h0).app (AB.q h1)).app (AB.q h2)).app (AB.q h3)).app (AB.q h4)).app (AB.q h5)).app (AB.q h6)).app (AB.q h7)).app (AB.q h8)).app (AB.q h9)).app (AB.q Gm)).app (AB.q Mm)).app (AB.q ug)).app (AB.q U8)).app (AB.q h14)).app (AB.q h15)
theorem AB.q8 {x:Q8} (h:x.ok):AB (Zu x):=by
 obtain⟨h0,h1,h2,h3,h4,h5,h6,h7⟩:=h;exact(((((((AB.q h0).app (AB.q h1)).app (AB.q h2)).app (AB.q h3)).app (AB.q h4)).app (AB.q h5)).app (AB.q h6)).app (AB.q h7)
theorem AB.cl {c:Cl} (h:c.ok):AB (clB c):=
 (((((((((AB.mu h.k).app (AB.po h.P)).app (AB.mu h.cn)).app (AB.mu h.cd)).app (AB.mu h.cr)).app (AB.or h.O)).app (AB.pl h.L)).app (AB.len (by have:=h.S.2;omega))).app (AB.flat fun x hx=>AB.mu (h.S.1 x hx))).app (AB.bx h.B)
theorem AB.ce {e:Ce} (h:e.ok):AB (ceB e):=by
 obtain⟨o0,o1,o2,o3,o4,o5,o6,o7⟩:=h.R;have p0:AB (oB e.N):=AB.mu h.N;have p1:AB (Ql e.gC):=AB.pl h.gC;have p2:AB (Ql e.G):=AB.pl h.G;have p3:AB (VR e.O):=AB.or h.O;have p4:AB (Qm e.C):=AB.tb h.C;have p5:AB (Qm e.Q):=AB.tb h.Q;have p6:AB (Qm e.Sx):=AB.tb h.Sx;have p7:AB (oB e.R.a0):=AB.mu o0;have p8:AB (oB e.R.a1):=AB.mu o1;have p9:AB (oB e.R.a2):=AB.mu o2;have p10:AB (oB e.R.a3):=AB.mu o3
 have p11:AB (oB e.R.a4):=AB.mu o4;have p12:AB (oB e.R.a5):=AB.mu o5;have p13:AB (oB e.R.a6):=AB.mu o6;have p14:AB (oB e.R.a7):=AB.mu o7;have p15:AB (uB e.U):=AB.u h.U;have p16:AB (uB e.U0):=AB.u h.U0;have p17:AB (uB e.U1):=AB.u h.U1;have p18:AB (uB e.U2):=AB.u h.U2;have p19:AB (uB e.U3):=AB.u h.U3;have p20:AB (uB e.U4):=AB.u h.U4;have p21:AB (uB e.U5):=AB.u h.U5;have p22:AB (uB e.U6):=AB.u h.U6
 have p23:AB (uB e.U7):=AB.u h.U7;have p24:AB (nB e.At.length):=AB.len (by have:=h.At.2;omega);have p25:AB ((e.At.flatMap TZ)):=AB.flat fun x hx=>(AB.q (h.At.1 x hx).1).app (AB.q (h.At.1 x hx).2)
 have p26:AB (nB e.Sq.length):=AB.len (by have:=h.Sq.2;omega);have p27:AB ((e.Sq.flatMap T0)):=AB.flat fun x hx=>(AB.q (h.Sq.1 x hx).1).app (AB.po (h.Sq.1 x hx).2)
 have p28:AB (nB e.X.length):=AB.len (by have:=h.X.2;omega);have p29:AB ((e.X.flatMap Zu)):=AB.flat fun x hx=>AB.q8 (h.X.1 x hx)
 have p30:AB (VS e.B):=AB.bx h.B;exact AB.app (AB.app (AB.app (AB.app (AB.app (AB.app (AB.app (AB.app (AB.app (AB.app (AB.app (AB.app (AB.app (AB.app (AB.app (AB.app (AB.app (AB.app (AB.app (AB.app (AB.app (AB.app (AB.app (AB.app (AB.app (AB.app (AB.app (AB.app (AB.app (AB.app (p0) p1) p2) p3) p4) p5) p6) p7) p8) p9) p10) p11) p12) p13) p14) p15) p16) p17) p18) p19) p20) p21) p22) p23) p24) p25) p26) p27) p28) p29) p30
open Go Go.Abs Go.Abs.M Go.Proofs
end Go.Proofs.YtekefilngojelaaGreat
end
section
namespace Go.Abs
structure T1 (b:Bool) (p q:Unit->Prop):Prop where
 t:b=true->p ()
 f:b=false->q ()
theorem K4 (b:Bool) (p q:Unit->Prop):T1 b p q=Br b (p ()) (q ()):=propext ⟨fun h=>⟨h.t,h.f⟩,fun h=>⟨h.t,h.f⟩⟩
theorem tT {b:Bool} {p q:Unit->Prop} (h:b=true) (hp:p ()):T1 b p q:=⟨fun _=>hp,fun h'=>absurd (h.symm.trans h') (by decide)⟩
theorem tF {b:Bool} {p q:Unit->Prop} (h:b=false) (hq:q ()):T1 b p q:=⟨fun h'=>absurd (h.symm.trans h') (by decide),fun _=>hq⟩
section
variable (Z:ZI) (C:dP)
def BF (gs:List Nat) (lit:Bool) (o:Oper) (e:bZ) (k:Bool->bZ->Prop):Prop:=
 match gs with
 | []=>k lit e
 | g::gs=>match o.dst with
  | none=>k lit e
  | some d=>match(g::gs).contains d with
   | true=>match lit with
    | true=>k true e
    | false=>match e.val.bool? with
     | some b=>T1 b (fun _=>k true { e with val:=dM (.bool true) }) (fun _=>k true { e with val:=dM (.bool false) })
     | none=>k false e
   | false=>k lit e
theorem Ih (gs:List Nat) (lit:Bool) (o:Oper) (e:bZ) (k:Bool->bZ->Prop):BF gs lit o e k=sv gs lit o e k:=by
 unfold BF sv;cases gs with
 | nil=>rfl
 | cons g gs=>
  cases o.dst with
  | none=>rfl
  | some d=>
   simp only;cases(g::gs).contains d with
   | false=>rfl
   | true=>
    cases lit with
    | true=>rfl
    | false=>
     simp only;cases e.val.bool? with
     | none=>rfl
     | some b=>exact K4 _ _ _
def DY (A:FuncId->Ask->pc->Prop) (ops:List Oper) (gs:List Nat):List Oper->Nat->ST->List bZ->(List bZ->ST->Prop)->Prop
 | [],_,st,tr,Q=>Q tr st
 | o::os,slot,st,tr,Q=>A9 Z C A ops slot o st fun e=>BF gs (GG st o.op) o e fun b e=>DY A ops gs os (slot+slotsOf C o.op) ((st.app o e).addLit b o) (tr ++ [e]) Q
theorem DZ (A:FuncId->Ask->pc->Prop) (ops:List Oper) (gs:List Nat):∀(os:List Oper) (slot:Nat) (st:ST) (tr:List bZ) (Q:List bZ->ST->Prop),DY Z C A ops gs os slot st tr Q=yi Z C A ops gs os slot st tr Q
 | [],_,_,_,_=>rfl
 | o::os,slot,st,tr,Q=>by
  unfold DY yi;have:(fun e=>BF gs (GG st o.op) o e fun b e=>DY Z C A ops gs os (slot+slotsOf C o.op) ((st.app o e).addLit b o) (tr ++ [e]) Q)=(fun e=>sv gs (GG st o.op) o e fun b e=>yi Z C A ops gs os (slot+slotsOf C o.op) ((st.app o e).addLit b o) (tr ++ [e]) Q):=by
   funext e;rw[Ih];congr 1;funext b e;exact DZ A ops gs os _ _ _ _
  rw[this]
def fA (A:FuncId->Ask->pc->Prop) (L:Code->St->(bC->ST->Prop)->Prop):Code->ST->(bC->ST->Prop)->Prop
 | .skip,st,Q=>Q .normal st
 | .ret,st,Q=>Q .ret st
 | .exit id,st,Q=>Q (.exit id) st
 | .seq x y,st,Q=>fA A L x st fun e s=>match e with
  | .normal=>fA A L y s Q
  | .exit id=>Q (.exit id) s
  | .ret=>Q .ret s
 | .region _ ops draw,st,Q=>DY Z C A ops.toList (nq ops.toList ops.toList []) ops.toList st.heap.length (st.ext (bB C ops.toList)) [] fun bd rY=>match draw with
  | false=>Q .normal rY
  | true=>match yg ops.toList bd with
   | true=>Q .normal rY
   | false=>False
 | .cond c x y,st,Q=>match(st.get c).bool? with
  | some b=>match A7 st.lit c with
   | true=>match b with
    | true=>fA A L x st Q
    | false=>fA A L y st Q
   | false=>T1 b (fun _=>fA A L x st Q) (fun _=>fA A L y st Q)
  | none=>False
 | .block id c,st,Q=>fA A L c st fun e s=>match e with
  | .normal=>Q .normal s
  | .exit Cj=>if Cj=id then Q .normal s else Q (.exit Cj) s
  | .ret=>Q .ret s
 | .loop c,st,Q=>match st.fe with
  | ⟨t,h⟩=>L c ⟨t,h⟩ Q
 | _,_,_=>False
theorem yS (A:FuncId->Ask->pc->Prop) (L:Code->St->(bC->ST->Prop)->Prop):∀(c:Code) (st:ST) (Q:bC->ST->Prop),fA Z C A L c st Q=dz Z C A L c st Q:=by
 intro c
 induction c with
 | seq x y C8 C9=>
  intro st Q;unfold fA dz;rw[C8];congr 1;funext e s;cases e with
  | normal=>exact C9 s Q
  | exit id=>rfl
  | ret=>rfl
 | region id ops draw=>
  intro st Q;unfold fA dz;exact DZ Z C A _ _ _ _ _ _ _
 | cond c x y C8 C9=>
  intro st Q;unfold fA dz;cases(st.get c).bool? with
  | none=>rfl
  | some b=>
   simp only;cases A7 st.lit c with
   | true=>cases b with
    | true=>exact C8 st Q
    | false=>exact C9 st Q
   | false=>
    simp only;rw[K4,C8,C9]
 | block id c ih=>
  intro st Q;unfold fA dz;rw[ih];congr 1
 | _=>intro st Q;rfl
theorem bg {Z:ZI} {C:dP} {A:FuncId->Ask->pc->Prop} {L:Code->St->(bC->ST->Prop)->Prop} {c:Code} {st:ST} {Q:bC->ST->Prop} (h:fA Z C A L c st Q):dz Z C A L c st Q:=by
 rw[<-yS];exact h
end
end Go.Abs
end
section
namespace Go.Proofs.YtekefilngojelaaGreat
open Go Go.Abs Go.Abs.M Go.Proofs
end Go.Proofs.YtekefilngojelaaGreat
end
