/- A part. -/
import Derived.Test.YtekefilngojelaaGreatM9
import Derived.Test.YtekefilngojelaaGreatM11
import Derived.Test.YtekefilngojelaaGreatM12
import Derived.Test.YtekefilngojelaaGreatM14
set_option maxHeartbeats 0
set_option maxRecDepth 100000
set_option linter.unusedVariables false
set_option linter.unusedSimpArgs false
set_option linter.unusedSectionVars false
section
namespace Go.Proofs.YtekefilngojelaaGreat
open Go Go.Abs Go.Abs.M Go.Proofs
structure BO where
 N:Int
 X1:Abs.Rows
 X2:Abs.Rows
 X3:Abs.Rows
 X4:Abs.Rows
 X5:Abs.Rows
 X6:Abs.Rows
 r0:Int
 r1:Int
 r2:Int
 r3:Int
 r4:Int
 r5:Int
 r6:Int
 r7:Int
 Y0:Abs.Rows
 Y1:Abs.Rows
 Y2:Abs.Rows
 Y3:Abs.Rows
 Y4:Abs.Rows
 Y5:Abs.Rows
 Y6:Abs.Rows
 Y7:Abs.Rows
 Y8:Abs.Rows
 Z1:Abs.Rows
 Z2:Abs.Rows
 Z3:Abs.Rows
 Z4:Abs.Rows
def BO.row (x:BO):List Tree:=[.v (.int .i64 x.N),.aa false x.X1,.aa false x.X2,.aa false x.X3,.aa false x.X4,.aa false x.X5,.aa false x.X6,.v (.int .i64 x.r0),.v (.int .i64 x.r1),.v (.int .i64 x.r2),.v (.int .i64 x.r3),.v (.int .i64 x.r4),.v (.int .i64 x.r5),.v (.int .i64 x.r6),.v (.int .i64 x.r7),.aa false x.Y0,.aa false x.Y1,.aa false x.Y2,.aa false x.Y3,.aa false x.Y4,.aa false x.Y5,.aa false x.Y6,.aa false x.Y7,.aa false x.Y8,.aa false x.Z1,.aa false x.Z2,.aa false x.Z3,.aa false x.Z4]
theorem uX (N:Int) (hN:2<=N/\N<=4) (E:aS) (X:Abs.Rows) (x:BO) (all:Bool) (G:aS) (O:List R8) (C Q Sx:fi)
  (hE:E.length<=6) (hG:(∀p∈G,VP p 64)/\G.length<=3) (hO:Jl O) (hC:WU C G.length E.length)
  (hQ:all=true->WU Q E.length G.length/\WU Sx (G.length*(G.length-1)/2) G.length)
  (e2:x.X2=aj G) (e3:x.X3=iE O) (e4:x.X4=dL C) (e5:x.X5=dL Q) (e6:x.X6=dL Sx) :
  aH 88 [.val (.agg [.v (.int .i64 N),.aa false (aj E),.aa false X]),.val (.agg x.row),.val (tb all)] ⟨[.val (tb true)],[none,none,none]⟩:=by
 obtain⟨xN,X1,X2,X3,X4,X5,X6,r0,r1,r2,r3,r4,r5,r6,r7,Y0,Y1,Y2,Y3,Y4,Y5,Y6,Y7,Y8,Z1,Z2,Z3,Z4⟩:=x;simp only at e2 e3 e4 e5 e6;simp only[BO.row];obtain⟨g,hg⟩:=aq (G.length);obtain⟨m,hm⟩:=aq (E.length);have lg:X2.length=g:=by rw[e2,lB,hg]
 have lm:(aj E).length=m:=by rw[lB,hm]
 have cF:=jL G N hN hG.1 (by have:=hG.2;omega);have cO:=sG O hO;rw[<-hg,<-hm]at hC hQ;have hg3:g<=3:=by rw[hg];exact hG.2
 have hm6:m<=6:=by rw[hm];exact hE
 have cC:=j9 C g m N hN hC (by omega) (by omega);have cQ:=fun h=>j9 Q m g N hN (hQ h).1 (by omega) (by omega)
 have cS:=fun h=>j9 Sx (g*(g-1)/2) g N hN (hQ h).2 (by
  have:g=0∨g=1∨g=2∨g=3:=by omega
  rcases this with rfl|rfl|rfl|rfl<;>decide) (by omega)
 rw[<-e2]at cF;rw[<-e3]at cO;rw[<-e4]at cC;rw[<-e5]at cQ;rw[<-e6]at cS;clear e2 e3 e4 e5 e6 hC hQ hG hO;obtain⟨gI,Qe⟩:=aq (g:Int);obtain⟨mI,yY⟩:=aq (m:Int);obtain⟨sI,LH⟩:=aq (((g*(g-1)/2:Nat):Int):Int);rw[<-Qe]at cC cQ cS;rw[<-yY]at cC cQ;rw[<-LH]at cS;generalize aj E=XE at *;refine an ai mixed [.val] Tryz.func88 rfl rfl (by kernel_rfl) fun zD _ zG zH zI _ _ _ _ _ _ _ _ _ zV _ zY _ _ _ _ _ _ zz _ _ _ _ _ _ _ ab _ _ _ _ _ _ _ _ _ _ _ _ _ _ _ _ _ _ _ A L F hS hF=>?_
 have eg:zz (ab X2)=gI:=by rw[hS.az,hS.len,lg,Qe]
 have em:zz (ab XE)=mI:=by rw[hS.az,hS.len,lm,yY]
 have y:zY true=false:=by rw[hS.not];rfl
 have y2:zY false=true:=by rw[hS.not];rfl
 have g64:zV 64 gI=false:=dF (hS.lt ..) (by omega);have es:zD .i64 (zI (zD .i64 (zH gI (zD .i64 (zG gI 1)))) 2)=sI:=by
  have w1:zD .i64 (zG gI 1)=gI-1:=by rw[hS.sub,hS.wrap];exact wrap_i64 (by omega) (by omega)
  rw[w1,hS.mul,hS.quo,Qe,LH];have:g=0∨g=1∨g=2∨g=3:=by omega
  rcases this with rfl|rfl|rfl|rfl<;>rw[hS.wrap,hS.wrap]<;>decide
 clear Qe yY LH lg lm;refine dJ ?_;cbv;simp only[eg,em];apply tF g64;cbv;refine hS.cl cF ?_;cbv;apply tF y;cbv;refine hS.cl cO ?_;cbv;apply tF y;cbv;refine hS.cl cC ?_;cbv;apply tF y;cbv;cases all with
 | false=>
  apply tT y2;cbv;exact aC hF
 | true=>
  apply tF y;cbv;refine hS.cl ((cQ rfl)) ?_;cbv;apply tT rfl;cbv;simp only[es];refine hS.cl ((cS rfl)) ?_;cbv;exact aC hF
end Go.Proofs.YtekefilngojelaaGreat
end
section
namespace Go.Abs
def bP (z:Int->Int->Int) (a b:Int):Int:=match a,b with
 | .ofNat n,.ofNat m=>.ofNat (n%m)
 | a,b=>z a b
def xM (z:Int->Int->Int) (a b:Int):Int:=match a,b with
 | .ofNat n,.ofNat m=>.ofNat (n/m)
 | a,b=>z a b
def H8 (z:Int->Int->Nat) (a b:Int):Nat:=match a,b with
 | .ofNat n,.ofNat m=>n-m
 | a,b=>z a b
def H9 (z:Int->Int->Nat->Bool) (a b:Int) (c:Nat):Bool:=match a,b with
 | .ofNat n,.ofNat m=>Nat.ble n m&&Nat.ble m c
 | a,b=>z a b c
def xO (z:Nat->Nat->Nat->Bool) (a b c:Nat):Bool:=match Nat.blt ((a+b)*c) 1000000 with
 | true=>true
 | false=>z a b c
def xP (z:Int->Int->Nat->Bool) (a b:Int) (c:Nat):Bool:=match a,b with
 | .ofNat n,.ofNat m=>(match Nat.ble n m&&Nat.blt (m*c) 1000000 with|true=>true|false=>z a b c)
 | a,b=>z a b c
def um:Rows->Nat->Option (List Tree)
 | [],_=>none
 | x::_,0=>some x
 | _::l,n+1=>um l n
def Ia (a b:Nat) (r:Rows):Bool:=Nat.ble (a+b) r.length
def BQ (r:Rows) (a n:Nat):Rows:=(r.drop a).take n
def KT (r:Rows) (a:Nat) (x:Rows):Rows:=r.drop a++x
def sH (a:Nat):Rows->Bool
 | []=>true
 | x::l=>Nat.beq x.length a&&sH a l
def KU:Bool->Bool->Bool
 | true,b=>b
 | false,true=>false
 | false,false=>true
def KW:Bool->Bool->Bool
 | true,true=>false
 | true,false=>true
 | false,b=>b
def eqK (a b:IntKind):Bool:=match a,b with
 | .i64,.i64=>true
 | .i8,.i8=>true
 | .u8,.u8=>true
 | a,b=>a==b
def Ib (k:IntKind) (l:Rows) (i:Nat):Bool:=match um l i with
 | some [.v (.int k' _)]=>eqK k' k
 | _=>false
def xQ (l:Rows) (i:Nat):Int:=match um l i with
 | some [.v (.int _ x)]=>x
 | _=>0
def BR (k:IntKind) (l:Rows) (i:Nat) (x:Int):Rows:=l.set i [.v (.int k x)]
theorem TC (a b:IntKind):eqK a b=(a==b):=by unfold eqK;split<;>rfl
theorem vT:∀(r:Rows) (i:Nat),um r i=r[i]?
 | [],i=>by simp[um]
 | x::l,0=>by simp[um]
 | x::l,n+1=>by simp[um,vT l n]
theorem Gh (a:Nat):∀r:Rows,sH a r=r.all fun x=>x.length==a
 | []=>rfl
 | x::l=>by rw[sH,List.all_cons,Gh a l,show Nat.beq x.length a=(x.length==a) from by rw[Bool.eq_iff_iff];simp]
theorem NB:1000000<=au:=by unfold au;omega
section
variable {P:Program} {C:eA} {n0:Nat} {zD:IntKind->Int->Int} {zE zG zH zI zJ:Int->Int->Int} {zK zM zN zO zR zS:IntKind->Int->Int->Int} {zT zU zV zX:Int->Int->Bool} {zY:Bool->Bool} {zZ zg:Bool->Bool->Bool} {zh zj:Int->Int->Int} {zu:Int->Nat} {zy:Int->Nat->Bool} {zz:Nat->Int} {bg:Nat->Int->Nat} {ay:Nat->Nat->Bool} {aK:Nat->Nat->Nat} {bO:Int->Int->Nat} {bI:Int->Int->Nat->Bool} {aQ:Nat->Nat->Nat->Bool} {aT:Int->Int->Nat->Bool} {ab:Rows->Nat} {aB:Rows->Nat->Option (List Tree)} {bA:Rows->Nat->List Tree->Rows} {aL:IntKind->Rows->Nat->Bool} {ar:Rows->Nat->Int} {aR:IntKind->Rows->Nat->Int->Rows} {a9:Nat->Nat->Rows->Bool} {aD:Rows->Nat->Nat->Rows} {bV bB:Rows->Nat->Rows->Rows} {bR:Nat->List Tree->Rows} {aM:Nat->Rows->Bool} {db:List Bool->Bool} {dc bn:List (Value×Tree)->Value->Bool} {a8:List (Value×Tree)->Value->Tree->List (Value×Tree)} {bY:Rows->Option ByteArray} {aX:List (Value×Tree)->Value->Option (Option Tree)} {zW:IntKind->List Int->Rows} {kW:(α:Type)->(Unit->α)->α} {A:FuncId->Ask->oV->Prop} {L:Code->St->(bq->ST->Prop)->Prop}
theorem Std.lits (h:Std P n0 zD zE zG zH zI zJ zK zM zN zO zR zS zT zU zV zX zY zZ zg zh zj zu zy zz bg ay aK bO bI aQ aT ab aB bA aL ar aR a9 aD bV bB bR aM db dc bn a8 bY aX zW kW A L):∃zr zq zd zc zo zm,zJ=bP zr/\zI=xM zq/\bO=H8 zd/\bI=H9 zc/\aQ=xO zo/\aT=xP zm/\zz=Int.ofNat/\ay=Nat.beq/\aK=Nat.add/\ab=List.length/\aB=um/\bA=List.set/\a9=Ia/\aD=BQ/\bV=KT/\bR=List.replicate/\aM=sH/\zZ=KU/\zg=KW/\aL=Ib/\ar=xQ/\aR=BR/\bB=aZ:=by
 refine⟨zJ,zI,bO,bI,aQ,aT,?_,?_,?_,?_,?_,?_,?_,?_,?_,?_,?_,?_,?_,?_,?_,?_,?_,?_,?_,?_,?_,?_,?_⟩
 ·funext a b
  unfold bP;split
  ·rw[h.rem];rfl
  ·rfl
 ·funext a b
  unfold xM;split
  ·rw[h.quo];rfl
  ·rfl
 ·funext a b
  unfold H8;split
  ·rw[h.J7];rfl
  ·rfl
 ·funext a b c
  unfold H9;split
  ·rename_i n m
   rw[h.cut];show decide ((0:Int)<=(n:Int)/\(n:Int)<=(m:Int)/\(m:Int)<=(c:Int))=(Nat.ble n m&&Nat.ble m c)
   rw[Bool.eq_iff_iff];simp
  ·rfl
 ·funext a b c
  unfold xO;split
  ·rename_i e
   rw[h.room];have:=Nat.le_of_ble_eq_true e;exact decide_eq_true (by have:=NB;omega)
  ·rfl
 ·funext a b c
  unfold xP;split
  ·rename_i n m
   split
   ·rename_i e
    rw[h.nG];simp only[Bool.and_eq_true]at e;have e1:=Nat.le_of_ble_eq_true e.1;have e2:=Nat.le_of_ble_eq_true e.2;refine decide_eq_true ⟨?_,?_,?_⟩
    ·show(0:Int)<=(n:Int);omega
    ·show(n:Int)<=(m:Int);omega
    ·have:=NB
     show(m:Int)*(c:Int)<=(au:Int)
     have:((m*c:Nat):Int)<=(au:Int):=by omega
     simpa using this
   ·rfl
  ·rfl
 ·funext a;rw[h.az];rfl
 ·funext a b;rw[h.neq,Bool.eq_iff_iff];simp
 ·funext a b;rw[h.fN];rfl
 ·funext a;rw[h.len]
 ·funext a b;rw[h.nth,vT]
 ·funext a b c;rw[h.E9]
 ·funext a b c;rw[h.fit];unfold Ia;rw[Bool.eq_iff_iff];simp
 ·funext a b c;rw[h.part];rfl
 ·funext a b c;rw[h.ext];rfl
 ·funext a b;rw[h.rep]
 ·funext a b;rw[h.wide,Gh]
 ·funext a b;rw[h.beq];cases a<;>cases b<;>rfl
 ·funext a b;rw[h.bne];cases a<;>cases b<;>rfl
 ·funext a b c;rw[h.gM];unfold Ib;rw[vT];simp only[TC];rfl
 ·funext a b;rw[h.dK];unfold xQ;rw[vT];rfl
 ·funext a b c d;rw[h.oW];rfl
 ·funext a b c;rw[h.yD]
end
section
variable {P:Program} {C:eA}
theorem fb (hC:bC P C) (eY:P.follows .mixedOrders=true) {f:FuncId} {fn:Func} {c:Code} {args:List Arg} {res:ko} (om:List Mode) (jx:P.funcs[f]?=some fn) (fg:(fn.name == "runtime.NumGoroutine")=false) (dD:fn.body=some c) (hT:jk c=true)
  (h:∀(zD:IntKind->Int->Int) (zE zG zH zI zJ:Int->Int->Int) (zK zM zN zO zR zS:IntKind->Int->Int->Int) (zT zU zV zX:Int->Int->Bool) (zY:Bool->Bool) (zh zj:Int->Int->Int) (zu:Int->Nat) (zy:Int->Nat->Bool) (bg:Nat->Int->Nat) (bO:Int->Int->Nat) (bI:Int->Int->Nat->Bool) (aQ:Nat->Nat->Nat->Bool) (aT:Int->Int->Nat->Bool) (db:List Bool->Bool) (dc bn:List (Value×Tree)->Value->Bool) (a8:List (Value×Tree)->Value->Tree->List (Value×Tree)) (bY:Rows->Option ByteArray) (aX:List (Value×Tree)->Value->Option (Option Tree)) (zW:IntKind->List Int->Rows) (kW:(α:Type)->(Unit->α)->α) A L (F:ko->Prop),Std P args.length (aE zD) (eE zE) (mT zG) (nM zH) (xM zI) (bP zJ) zK zM zN zO zR zS (fA zT) (IZ zU) (me zV) (sY zX) (rO zY) KU KW zh zj (rL zu) (rM zy) Int.ofNat (rN bg) Nat.beq Nat.add (H8 bO) (H9 bI) (xO aQ) (xP aT) List.length um List.set Ib xQ BR Ia BQ KT aZ List.replicate sH db dc bn a8 bY aX zW kW A L->(∀r,fV r res->F r)->eF (ZI.mk (aE zD) (eE zE) (mT zG) (nM zH) (xM zI) (bP zJ) zK zM zN zO zR zS (fA zT) (IZ zU) (me zV) (sY zX) (rO zY) KU KW zh zj (rL zu) (rM zy) Int.ofNat (rN bg) Nat.beq Nat.add (H8 bO) (H9 bI) (xO aQ) (xP aT) List.length um List.set Ib xQ BR Ia BQ KT aZ List.replicate sH db dc bn a8 bY aX) C A L c (ST.mb (kX (ZI.mk (aE zD) (eE zE) (mT zG) (nM zH) (xM zI) (bP zJ) zK zM zN zO zR zS (fA zT) (IZ zU) (me zV) (sY zX) (rO zY) KU KW zh zj (rL zu) (rM zy) Int.ofNat (rN bg) Nat.beq Nat.add (H8 bO) (H9 bI) (xO aQ) (xP aT) List.length um List.set Ib xQ BR Ia BQ KT aZ List.replicate sH db dc bn a8 bY aX) args fn.ntmps)) fun e s=>match e with
   | .exit _=>False
   | .normal=>yH (ZI.mk (aE zD) (eE zE) (mT zG) (nM zH) (xM zI) (bP zJ) zK zM zN zO zR zS (fA zT) (IZ zU) (me zV) (sY zX) (rO zY) KU KW zh zj (rL zu) (rM zy) Int.ofNat (rN bg) Nat.beq Nat.add (H8 bO) (H9 bI) (xO aQ) (xP aT) List.length um List.set Ib xQ BR Ia BQ KT aZ List.replicate sH db dc bn a8 bY aX) C s args fn.results.toList om F
   | .ret=>yH (ZI.mk (aE zD) (eE zE) (mT zG) (nM zH) (xM zI) (bP zJ) zK zM zN zO zR zS (fA zT) (IZ zU) (me zV) (sY zX) (rO zY) KU KW zh zj (rL zu) (rM zy) Int.ofNat (rN bg) Nat.beq Nat.add (H8 bO) (H9 bI) (xO aQ) (xP aT) List.length um List.set Ib xQ BR Ia BQ KT aZ List.replicate sH db dc bn a8 bY aX) C s args fn.results.toList om F):eP P f args res:=by
 refine dE hC eY om jx fg dD hT fun zD zE zG zH zI zJ zK zM zN zO zR zS zT zU zV zX zY _ _ zh zj zu zy _ bg _ _ bO bI aQ aT _ _ _ _ _ _ _ _ _ _ _ _ db dc bn a8 bY aX zW kW A L F hS hF=>?_
 obtain⟨zr,zq,zd,zc,zo,zm,rfl,rfl,rfl,rfl,rfl,rfl,rfl,rfl,rfl,rfl,rfl,rfl,rfl,rfl,rfl,rfl,rfl,rfl,rfl,rfl,rfl,rfl,rfl⟩:=hS.lits;exact dJ (h _ _ _ _ _ _ _ _ _ _ _ _ _ _ _ _ _ _ _ _ _ _ _ _ _ _ _ _ _ _ _ _ _ _ _ _ _ hS hF)
end
end Go.Abs
end
section
namespace Go.Proofs.YtekefilngojelaaGreat
open Go Go.Abs Go.Abs.M Go.Proofs
theorem Ic (R:List Tree) (hR:∃a b c,R=[a,b,c]) (N k cn cd cr:Int) (XE XD P O Lc Sg B:Abs.Rows) (x:BO)
  (cK:aH 31 [.val (.agg R)] ⟨[.val (.agg [.v (.int .i64 N),.aa false XE,.aa false XD])],[none]⟩)
  (cC:aH 32 [.val (.agg R)] ⟨[.val (.agg [.v (.int .i64 k),.aa false P,.v (.int .i64 cn),.v (.int .i64 cd),.v (.int .i64 cr),.aa false O,.aa false Lc,.aa false Sg,.aa false B])],[none]⟩)
  (cE:aH 33 [.val (.agg R),.val (.agg [.v (.int .i64 N),.aa false XE,.aa false XD]),.val (.agg [.v (.int .i64 k),.aa false P,.v (.int .i64 cn),.v (.int .i64 cd),.v (.int .i64 cr),.aa false O,.aa false Lc,.aa false Sg,.aa false B])] ⟨[.val (.agg x.row)],[none,none,none]⟩) :
  aH 9 [.val (.agg R)] ⟨[.val (.agg (.v (.int .i64 N) :: .aa false XE :: .aa false XD :: .v (.int .i64 k) :: .aa false P :: .v (.int .i64 cn) :: .v (.int .i64 cd) :: .v (.int .i64 cr) :: .aa false O :: .aa false Lc :: .aa false Sg :: .aa false B::x.row))],[none]⟩:=by
 obtain⟨a,b,c,rfl⟩:=hR;obtain⟨xN,X1,X2,X3,X4,X5,X6,r0,r1,r2,r3,r4,r5,r6,r7,Y0,Y1,Y2,Y3,Y4,Y5,Y6,Y7,Y8,Z1,Z2,Z3,Z4⟩:=x;simp only[BO.row]at cE ⊢;refine an ai mixed [.val] Tryz.func9 rfl rfl (by kernel_rfl) ?_;intros;rename_i A L F hS hF;cbv;refine hS.cl cK ?_;cbv;refine hS.cl cC ?_;cbv;refine hS.cl cE ?_;cbv;exact aC hF
structure Q8.fit (x:Q8):Prop where
 a0:Qs x.a0 100
 a1:x.a1=0
 a2:x.a2=0
 a3:x.a3=0
 a4:x.a4=0
 a5:x.a5=0
 a6:x.a6=0
 a7:x.a7=0
def ij (X:Abs.Rows) (n I:Int):St:=ae 43 [.c (.t (.aa false X)),vi .i64 n,.af,.af,vb false,vi .i64 I] [none,none]
theorem q0s:Qs (0:Rat) 1000000:=by have:=Qs.whole (n:=0) (k:=1000000) (by decide) (by omega);exact this
theorem yZ (l:List Q8) (n:Int) (hn:2<=n/\n<=4) (hl:∀x∈l,x.fit) (hk:l.length<=64):aH 86 [.val (tl (Jk l)),.val (ti .i64 n)] ⟨[.val (tb true)],[none,none]⟩:=by
 obtain⟨X,hX⟩:=aq (Jk l);obtain⟨k,tw⟩:=aq (l.length);have lX:X.length=k:=by rw[hX,Qc,tw]
 rw[<-hX];have cz:=xH;have cv:=Re q0s;obtain⟨zs,zt,zr,zq,zw,_⟩:=bX 0;rw[zw]at cz cv;obtain rfl|rfl|rfl:n=2∨n=3∨n=4:=by omega
 ·refine dE ai mixed [.val] Tryz.func86 rfl rfl (by kernel_rfl) fun zD zE _ _ _ _ _ _ _ _ _ _ _ _ _ zX _ _ _ _ _ _ _ zz _ _ _ _ _ _ _ ab aB _ _ _ _ _ _ _ _ _ _ _ _ _ _ _ _ _ _ A L F hS hF=>?_
  have lE:=hS.fh lX;have Ej:sY zX (zz (ab X)) 64=true:=by rw[hS.le,hS.az,hS.len,lX];exact decide_eq_true (by omega)
  cbv;refine fX ai mixed hS (n:=k) (fun i (_:Unit)=>ij X 2 (Int.ofNat i)) (fun i _=>True) (a0:=()) (fy ?_ ?_) rfl (by show 2<=2;omega) trivial ?_ ?_
  ·simp[dS,ij,ae,vi,vb]
  ·simp[dU,ij,ae]
  ·rintro i ⟨⟩ hi -
   have c1:=(hS.ic lX hi (by omega)).1;have i1:aE zD .i64 (eE zE (Int.ofNat i) 1)=(i:Int)+1:=(hS.ic lX hi (by omega)).2.1;obtain⟨x,vn,hr,_⟩:=Ny (l:=l) (i:=i) (by omega);have hx:=hl x vn;have d0:=Re (hx.a0.mono (by omega):Qs x.a0 1000000);have j2:aB X i=some (Rl x):=by rw[hS.nth,hX];exact hr
   unfold Rl at j2;rw[hx.a1,hx.a2,hx.a3,hx.a4,hx.a5,hx.a6,hx.a7]at j2;obtain⟨s0,t0,r0,q0,w0,_⟩:=bX x.a0;rw[w0]at d0;rw[w0,zw]at j2;clear w0 hx hr;cbv at j2;cbv at i1;refine⟨?_⟩;refine dJ ?_;cbv;apply tT c1;cbv;refine bz ai mixed hS (9) ?_;cbv;repeat (first|apply bT rfl|apply bF rfl|apply nd rfl|(simp only[j2];cbv)|(refine hS.cl d0 ?_;cbv)|(refine hS.cl cv ?_;cbv)|(refine hS.cl cz ?_;cbv)|(simp only[i1];cbv))
   refine aU [] () ?_ ?_ ?_ ?_ rfl (by show 2<=2;omega) trivial
   ·simp[bd,ij,ae,vi,vb,AV.aw,AV.aJ,Cell.aw]
   ·simp[bf,ij,ae]
   ·simp[aF,ij,ae]
   ·simp
  ·rintro⟨⟩ -
   refine⟨?_⟩;cbv;apply bF lE;exact bc hF (jf Ej)
 ·refine dE ai mixed [.val] Tryz.func86 rfl rfl (by kernel_rfl) fun zD zE _ _ _ _ _ _ _ _ _ _ _ _ _ zX _ _ _ _ _ _ _ zz _ _ _ _ _ _ _ ab aB _ _ _ _ _ _ _ _ _ _ _ _ _ _ _ _ _ _ A L F hS hF=>?_
  have lE:=hS.fh lX;have Ej:sY zX (zz (ab X)) 64=true:=by rw[hS.le,hS.az,hS.len,lX];exact decide_eq_true (by omega)
  cbv;refine fX ai mixed hS (n:=k) (fun i (_:Unit)=>ij X 3 (Int.ofNat i)) (fun i _=>True) (a0:=()) (fy ?_ ?_) rfl (by show 2<=2;omega) trivial ?_ ?_
  ·simp[dS,ij,ae,vi,vb]
  ·simp[dU,ij,ae]
  ·rintro i ⟨⟩ hi -
   have c1:=(hS.ic lX hi (by omega)).1;have i1:aE zD .i64 (eE zE (Int.ofNat i) 1)=(i:Int)+1:=(hS.ic lX hi (by omega)).2.1;obtain⟨x,vn,hr,_⟩:=Ny (l:=l) (i:=i) (by omega);have hx:=hl x vn;have d0:=Re (hx.a0.mono (by omega):Qs x.a0 1000000);have j2:aB X i=some (Rl x):=by rw[hS.nth,hX];exact hr
   unfold Rl at j2;rw[hx.a1,hx.a2,hx.a3,hx.a4,hx.a5,hx.a6,hx.a7]at j2;obtain⟨s0,t0,r0,q0,w0,_⟩:=bX x.a0;rw[w0]at d0;rw[w0,zw]at j2;clear w0 hx hr;cbv at j2;cbv at i1;refine⟨?_⟩;refine dJ ?_;cbv;apply tT c1;cbv;refine bz ai mixed hS (9) ?_;cbv;repeat (first|apply bT rfl|apply bF rfl|apply nd rfl|(simp only[j2];cbv)|(refine hS.cl d0 ?_;cbv)|(refine hS.cl cv ?_;cbv)|(refine hS.cl cz ?_;cbv)|(simp only[i1];cbv))
   refine aU [] () ?_ ?_ ?_ ?_ rfl (by show 2<=2;omega) trivial
   ·simp[bd,ij,ae,vi,vb,AV.aw,AV.aJ,Cell.aw]
   ·simp[bf,ij,ae]
   ·simp[aF,ij,ae]
   ·simp
  ·rintro⟨⟩ -
   refine⟨?_⟩;cbv;apply bF lE;exact bc hF (jf Ej)
 ·refine dE ai mixed [.val] Tryz.func86 rfl rfl (by kernel_rfl) fun zD zE _ _ _ _ _ _ _ _ _ _ _ _ _ zX _ _ _ _ _ _ _ zz _ _ _ _ _ _ _ ab aB _ _ _ _ _ _ _ _ _ _ _ _ _ _ _ _ _ _ A L F hS hF=>?_
  have lE:=hS.fh lX;have Ej:sY zX (zz (ab X)) 64=true:=by rw[hS.le,hS.az,hS.len,lX];exact decide_eq_true (by omega)
  cbv;refine fX ai mixed hS (n:=k) (fun i (_:Unit)=>ij X 4 (Int.ofNat i)) (fun i _=>True) (a0:=()) (fy ?_ ?_) rfl (by show 2<=2;omega) trivial ?_ ?_
  ·simp[dS,ij,ae,vi,vb]
  ·simp[dU,ij,ae]
  ·rintro i ⟨⟩ hi -
   have c1:=(hS.ic lX hi (by omega)).1;have i1:aE zD .i64 (eE zE (Int.ofNat i) 1)=(i:Int)+1:=(hS.ic lX hi (by omega)).2.1;obtain⟨x,vn,hr,_⟩:=Ny (l:=l) (i:=i) (by omega);have hx:=hl x vn;have d0:=Re (hx.a0.mono (by omega):Qs x.a0 1000000);have j2:aB X i=some (Rl x):=by rw[hS.nth,hX];exact hr
   unfold Rl at j2;rw[hx.a1,hx.a2,hx.a3,hx.a4,hx.a5,hx.a6,hx.a7]at j2;obtain⟨s0,t0,r0,q0,w0,_⟩:=bX x.a0;rw[w0]at d0;rw[w0,zw]at j2;clear w0 hx hr;cbv at j2;cbv at i1;refine⟨?_⟩;refine dJ ?_;cbv;apply tT c1;cbv;refine bz ai mixed hS (9) ?_;cbv;repeat (first|apply bT rfl|apply bF rfl|apply nd rfl|(simp only[j2];cbv)|(refine hS.cl d0 ?_;cbv)|(refine hS.cl cv ?_;cbv)|(refine hS.cl cz ?_;cbv)|(simp only[i1];cbv))
   refine aU [] () ?_ ?_ ?_ ?_ rfl (by show 2<=2;omega) trivial
   ·simp[bd,ij,ae,vi,vb,AV.aw,AV.aJ,Cell.aw]
   ·simp[bf,ij,ae]
   ·simp[aF,ij,ae]
   ·simp
  ·rintro⟨⟩ -
   refine⟨?_⟩;cbv;apply bF lE;exact bc hF (jf Ej)
def Aa (l:aS) (av:List Int) (n:Nat):Nat->List (Option (List T2))
 | 0=>List.replicate n none
 | i+1=>if 0<=av.getD i (-1) then(Aa l av n i).set (av.getD i (-1)).toNat (some (l.getD i [])) else Aa l av n i
theorem oO (l:aS) (av:List Int) (n:Nat):∀i,(Aa l av n i).length=n
 | 0=>by simp[Aa]
 | i+1=>by unfold Aa;split<;>simp[oO l av n i]
def UK (l:aS) (av:List Int) (n:Nat):aS:=(Aa l av n l.length).map fun o=>o.getD []
def sJ:Option (List T2)->List Tree
 | none=>[.aa true []]
 | some p=>[.aa false (aP p)]
theorem Qf (o:Option (List T2)):∀(j:Nat) (t':Tree),(([.aa false (aP (o.getD []))]:List Tree))[j]?=some t'->∃t,(sJ o)[j]?=some t/\aY t t':=by
 intro j t' h;cases j with
 | succ j=>simp at h
 | zero=>
  have h:Tree.aa false (aP (o.getD []))=t':=by simpa using h
  subst h;cases o with
  | none=>exact⟨_,rfl,aY.drop _ _⟩
  | some p=>exact⟨_,rfl,aY.refl _⟩
theorem g7 (L:List (Option (List T2))) (cp:Bool):aY (.aa cp (L.map sJ)) (.aa false (aj (L.map fun o=>o.getD []))):=by
 have hp:aj (L.map fun o=>o.getD [])=L.map fun o=>[.aa false (aP (o.getD []))]:=by simp[aj]
 rw[hp];have key:∀(i j:Nat) (t':Tree),fo (L.map fun o=>[Tree.aa false (aP (o.getD []))]) i j=some t'->∃t,fo (L.map sJ) i j=some t/\aY t t':=by
  intro i j t' h;unfold fo at h ⊢;obtain⟨r,h1,h2⟩:=Option.bind_eq_some_iff.1 h;rw[List.getElem?_map]at h1;obtain⟨o,h3,rfl⟩:=Option.map_eq_some_iff.1 h1;obtain⟨t,h4,h5⟩:=Qf o j t' h2;exact⟨t,by rw[List.getElem?_map,h3];exact h4,h5⟩
 refine .aa cp false _ _ (fun i j=>(fo (L.map sJ) i j).getD (.v undef)) (fun h=>by cases h) (by simp) (fun n h r hr=>?_) (fun i j t' h=>?_) (fun i j t' h=>?_)
 ·obtain⟨o,ho,rfl⟩:=List.mem_map.1 hr
  have:=h (sJ o) (List.mem_map.2 ⟨o,ho,rfl⟩);cases o<;>exact this
 ·obtain⟨t,h1,h2⟩:=key i j t' h
  rw[h1];rfl
 ·obtain⟨t,h1,h2⟩:=key i j t' h
  show aY ((fo (L.map sJ) i j).getD _) t'
  rw[h1];exact h2
def DR (X Y:Abs.Rows) (n:Nat) (M:Int) (R:Abs.Rows) (I:Int):St:=ae 39 [.af,.c (.t (.aa false Y)),.af,.af,.af,.af,.af,.c (.sl 3 0 n false),.af,.af,.af,.af,.c (.t (.aa false X)),vi .i64 M,vi .i64 I] [none,none,none,some (.rows 1 R true false)]
theorem BS (l:aS) (av:List Int) (n:Nat) (hl:l.length<=1000) (hn:n<=1000) (hA:av.length=l.length) (hb:∀a∈av,a<n) :
  aH 42 [.val (tl (aj l)),.val (tl (W .i64 av)),.val (ti .i64 (n:Int))] ⟨[.val (tl (aj (UK l av n)))],[none,none,none]⟩:=by
 obtain⟨X,hX⟩:=aq (aj l);obtain⟨Y,hY⟩:=aq (W .i64 av);obtain⟨m,hm⟩:=aq (l.length);have lX:X.length=m:=by rw[hX,lB,hm]
 have lY:Y.length=m:=by rw[hY,jr,hA,hm]
 obtain⟨M,hM⟩:=aq (m:Int);obtain⟨N,hN⟩:=aq (n:Int);obtain⟨R0,Ec⟩:=aq ((Aa l av n 0).map sJ);rw[<-hX,<-hY,<-hN];refine an ai mixed [.val] Tryz.func42 rfl rfl (by kernel_rfl) ?_;intros;rename_i zV zX _ _ _ _ _ zu zy zz bg _ _ _ _ _ aT ab aB bA aL ar _ _ _ _ _ bR _ _ _ _ _ _ _ _ _ A L F hS hF;have xN:zz (ab X)=M:=by rw[hS.az,hS.len,lX,hM]
 have k1:aT N N 24=true:=by rw[hS.nG,hN];exact decide_eq_true ⟨by omega,by omega,by unfold au;omega⟩
 have k2:zu N=n:=by rw[hS.nat,hN];rfl
 have k3:bR n [.aa true []]=R0:=by rw[hS.rep,Ec];simp[Aa,sJ]
 cbv;simp only[k2,k3,xN];apply nd k1;refine mV ai mixed hS (n:=m) (fun i (R:Abs.Rows)=>DR X Y n M R (Int.ofNat i)) (fun i R=>R=(Aa l av n i).map sJ) (a0:=R0) (fy ?_ ?_) rfl (Nat.le_add_left 3 1) Ec ?_ ?_
 ·simp[dS,DR,ae,vi,vb]
 ·simp[dU,DR,ae]
 ·intro i R hi hR
  have UU:=hS.ic lX hi (by omega);have l1:=UU.1;have i1:=UU.2.1;have j1:=UU.2.2.1;have n0:=UU.2.2.2;clear UU;have l1:zV (Int.ofNat i) M=true:=by rw[<-xN];exact l1
  obtain⟨p,hp,gp,hr,_,_⟩:=fq (l:=l) (i:=i) (by omega);have lN:zV (Int.ofNat i) (zz (ab Y))=true:=(hS.ic lY hi (by omega)).1;have YG:i<av.length:=by omega
  obtain⟨a,ha⟩:=aq (av.getD i (-1));have haA:a∈av:=by rw[ha,List.getD_eq_getElem?_getD,List.getElem?_eq_getElem YG];exact List.getElem_mem YG
  have g1:aL .i64 Y i=true:=by rw[hS.gM,hY,kY];exact decide_eq_true YG
  have g2:ar Y i=a:=by rw[hS.dK,hY,m8,ha,List.getD_eq_getElem?_getD,List.getD_eq_getElem?_getD,List.getElem?_eq_getElem YG];rfl
  have j2:aB X i=some [.aa false (aP p)]:=by rw[hS.nth,hX];exact hr
  have hlp:l.getD i []=p:=by rw[List.getD_eq_getElem?_getD,gp];rfl
  obtain⟨Z,hZ⟩:=aq (aP p);rw[<-hZ]at j2
  by_cases h0:0<=a
  ·have z0:zX 0 a=true:=dT (hS.le ..) h0
   obtain⟨b,nk⟩:∃b:Nat,(b:Int)=a:=⟨a.toNat,by omega⟩;have Ut:b<n:=Int.ofNat_lt.1 (by rw[nk];exact hb a haA);have Rf:R.set b [.aa false Z]=(Aa l av n (i+1)).map sJ:=by
    unfold Aa;rw[<-ha,if_pos h0,<-nk,Int.toNat_natCast,List.map_set,hR,hlp,hZ];rfl
   have z1:zy a n=true:=by rw[hS.yC,<-nk];exact decide_eq_true ⟨Int.natCast_nonneg b,Int.ofNat_lt.2 Ut⟩
   have z2:bg 0 a=b:=by rw[hS.idx,<-nk,Int.toNat_natCast,Nat.zero_add]
   obtain⟨o,ho⟩:∃o,R[b]?=some (sJ o):=⟨(Aa l av n i)[b]'(by rw[oO];exact Ut),by rw[hR];simp[oO,Ut]⟩;have z3:aB R b=some (sJ o):=by rw[hS.nth];exact ho
   obtain⟨t0,ht0⟩:∃t0,sJ o=[t0]:=by cases o<;>exact⟨_,rfl⟩
   rw[ht0]at z3;have z4:bA R b (aZ [t0] 0 [.aa false Z])=R.set b [.aa false Z]:=by rw[hS.E9];rfl
   clear hR ha haA ho ht0 nk;cbv;apply bT l1;rw[j1,j2];cbv;refine nd n0 (bT lN ?_);simp only[j1,g2,z2,z3];cbv;refine nd n0 (nd g1 (bT z0 (nd n0 (nd g1 (nd z1 ?_)))));refine aU [] (R.set b [.aa false Z]) ?_ ?_ ?_ ?_ rfl (Nat.le_add_left 3 1) Rf
   ·simp[bd,DR,ae,vi,vb,AV.aw,AV.aJ,Cell.aw,ak,i1]
   ·simp[bf,DR,ae,Abs.look,ak,aA.aw,Cell.aw,z4]
   ·simp[aF,DR,ae,ak]
   ·simp
  ·have z0:zX 0 a=false:=dF (hS.le ..) h0
   have Rf:R=(Aa l av n (i+1)).map sJ:=by
    unfold Aa;rw[<-ha,if_neg h0];exact hR
   clear hR ha haA;cbv;apply bT l1;rw[j1,j2];cbv;refine nd n0 (bT lN ?_);simp only[j1,g2];refine nd n0 (nd g1 (bF z0 ?_));refine aU [] R ?_ ?_ ?_ ?_ rfl (Nat.le_add_left 3 1) Rf
   ·simp[bd,DR,ae,vi,vb,AV.aw,AV.aJ,Cell.aw,ak,i1]
   ·simp[bf,DR,ae,Abs.look,ak,aA.aw,Cell.aw]
   ·simp[aF,DR,ae,ak]
   ·simp
 ·intro R hR
  have lE:zV (Int.ofNat m) M=false:=by rw[<-xN];exact hS.fh lX
  have UU:=hS.whole (r:=R) (len:=n) (by rw[hR,List.length_map,oO]);have f1:=UU.1;have f2:=UU.2;clear UU;have hle:aY (.aa false R) (.aa false (aj (UK l av n))):=by
   rw[hR,hm];exact g7 _ _
  cbv;refine bF lE (nd f1 ?_);rw[f2];exact ib hF hle
theorem T2.int.ok {t:T2} (h:t.int):t.ok 1000 30000:=by
 refine⟨⟨?_,?_⟩,⟨h.a.1,by have:=h.a.2;omega⟩,⟨h.b.1,by have:=h.b.2;omega⟩⟩
 ·unfold nl;rw[xE (by have:=h.n.1;omega) (by have:=h.n.2;omega)];exact(by decide:1<=1000)
 ·rw[h.d];unfold nl;rw[xE (by omega) (by omega)];decide
theorem KP.ok {p:List T2} (h:KP p):(∀t∈p,t.ok 1000 30000)/\p.length<=1000:=⟨fun t ht=>(h.1 t ht).ok,by have:=h.2;omega⟩
theorem xR {p:List T2}:∀ {to:aS} {k:Nat},nc k to p=-1∨∃j:Nat,k<=j/\j<k+to.length/\nc k to p=(j:Int)
 | [],k=>.inl rfl
 | q::qs,k=>by
  unfold nc;split
  ·exact .inr ⟨k,Nat.le_refl _,by simp,rfl⟩
  ·rcases xR (p:=p) (to:=qs) (k:=k+1) with h|⟨j,h1,h2,h3⟩
   ·exact .inl h
   ·exact .inr ⟨j,by omega,by simp;omega,h3⟩
theorem Qg {x y:Rat} (h1:Qs x 1000000) (h2:Qs y 1000000):aH 145 [.val (.agg (qc x).row),.val (.agg (qc y).row)] ⟨[.val (ti .i64 (jt x y))],[none,none]⟩:=
 Ku _ (fP x) (fP y) rfl (h1.mono (by omega)) (h2.mono (by omega))
theorem KX {x y:Rat}:jt x y=0↔x=y:=by
 have h:=KA x y;constructor
 ·intro e
  have f1:¬x<y:=fun h'=>by have:=h.1.2 h';omega
  have f2:¬y<x:=fun h'=>by have:=h.2.2 h';omega
  exact Rat.le_antisymm (Rat.not_lt.1 f2) (Rat.not_lt.1 f1)
 ·rintro rfl
  unfold jt;rw[if_neg Rat.lt_irrefl,if_neg Rat.lt_irrefl]
theorem Gi (t u:T2) (ht:Qs t.c 1000) (hu:Qs u.c 1000):aH 144 [.val (.agg t.row),.val (.agg u.row)] ⟨[.val (tb (decide (t=u)))],[none,none]⟩:=by
 have cs:=Qg (x:=t.c) (y:=u.c) (ht.mono (by omega)) (hu.mono (by omega));obtain⟨s1,v1,r1,p1,e1,w1⟩:=xz t;obtain⟨s2,v2,r2,p2,e2,w2⟩:=xz u;rw[e1,e2]at cs;rw[w1,w2];obtain⟨B,hB⟩:=aq (jt t.c u.c);rw[<-hB]at cs;have hB0:B=0↔t.c=u.c:=by rw[hB];exact KX
 obtain⟨D,hD⟩:=aq (decide (t=u));rw[<-hD];unfold na;have hT:t.a=u.a/\t.b=u.b->decide (B=0)=D:=fun h=>by rw[hD,decide_eq_decide,uh,hB0];exact⟨fun e=>⟨e,h⟩,fun e=>e.1⟩
 have hE:¬(t.a=u.a/\t.b=u.b)->false=D:=fun h=>by rw[hD];exact(decide_eq_false fun e=>h (uh.1 e).2).symm
 generalize t.a=a,t.b=b,u.a=c,u.b=d at *;refine an ai mixed [.val] Tryz.func144 rfl rfl (by kernel_rfl) ?_;intros;rename_i zT _ _ _ _ _ _ _ _ _ _ _ _ _ _ _ _ _ _ _ _ _ _ _ _ _ _ _ _ _ _ _ _ _ _ _ _ _ _ A L F hS hF;have z0:zT 0 0=true:=by rw[hS.eq];rfl
 have zB:zT B 0=decide (B=0):=hS.eq _ _;cbv
 by_cases h:a=c/\b=d
 ·have z1:zT a c=true:=dT (hS.eq ..) h.1
  have z2:zT b d=true:=dT (hS.eq ..) h.2;apply bT (by rw[z0,z1,z2]);refine hS.cl cs ?_;cbv;exact bc hF (jf (zB.trans (hT h)))
 ·refine bF ?_ (bc hF (jf (hE h)))
  by_cases h1:a=c
  ·have z1:zT a c=true:=dT (hS.eq ..) h1
   have z2:zT b d=false:=dF (hS.eq ..) fun e=>h ⟨h1,e⟩
   rw[z1,z2]
  ·have z1:zT a c=false:=dF (hS.eq ..) h1
   rw[z1]
def KY (X Y:Abs.Rows) (N I:Int):St:=ae 32 [.af,.c (.t (.aa false Y)),.c (.t (.v (.func (.func 144) #[] #[]))),.af,.af,.af,vb false,.af,.af,.af,.af,.af,.af,.af,.af,.c (.t (.aa false X)),vi .i64 N,vi .i64 I] [none,none,none]
theorem NC (l k:List T2) (hl:∀t∈l,t.ok 1000 30000) (hk:∀t∈k,t.ok 1000 30000) (hn:l.length<=1000) (hm:k.length<=1000) :
  aH 143 [.val (tl (aP l)),.val (tl (aP k)),.val (.c (.v (.func (.func 144) #[] #[])))] ⟨[.val (tb (decide (l=k)))],[none,none,none]⟩:=by
 obtain⟨X,hX⟩:=aq (aP l);obtain⟨Y,hY⟩:=aq (aP k);obtain⟨n,fx⟩:=aq (l.length);obtain⟨D,hD⟩:=aq (decide (l=k));have lX:X.length=n:=by rw[hX,pK,fx]
 have lY:Y.length=k.length:=by rw[hY,pK]
 obtain⟨N,hN⟩:=aq (n:Int);rw[<-hX,<-hY,<-hD];refine an ai mixed [.val] Tryz.func143 rfl rfl (by kernel_rfl) ?_;intros;rename_i zU zV _ zY _ _ _ _ _ _ zz _ _ _ _ _ _ _ ab aB _ _ _ _ _ _ _ _ _ _ _ _ _ _ _ _ _ _ A L F hS hF;have xN:zz (ab X)=N:=by rw[hS.az,hS.len,lX,hN]
 cbv
 by_cases Nc:n=k.length
 ·have z:zU (zz (ab X)) (zz (ab Y))=false:=by rw[hS.ne,hS.az,hS.az,hS.len,hS.len,lX,lY,Nc];simp
  apply bF z;simp only[xN];refine mV ai mixed hS (n:=n) (fun i (d:Unit)=>KY X Y N (Int.ofNat i)) (fun i d=>l.take i=k.take i) (a0:=()) (fy ?_ ?_) rfl (Nat.le_refl 3) rfl ?_ ?_
  ·simp[dS,KY,ae,vi,vb]
  ·simp[dU,KY,ae]
  ·intro i d hi hd
   have UU:=hS.ic lX hi (by omega);have l1:=UU.1;have i1:=UU.2.1;have j1:=UU.2.2.1;have n0:=UU.2.2.2;clear UU;have l1:zV (Int.ofNat i) N=true:=by rw[<-xN];exact l1
   obtain⟨t,s,v,r,p,ht,gt,_,hr,wt,fc,_⟩:=ig (l:=l) (i:=i) (by omega);obtain⟨u,s2,v2,r2,p2,hu,gu,_,kH,wu,PH,_⟩:=ig (l:=k) (i:=i) (by omega);have j2:aB X i=some (na s r v p t.a t.b):=by rw[hS.nth,hX];exact hr
   have j3:aB Y i=some (na s2 r2 v2 p2 u.a u.b):=by rw[hS.nth,hY];exact kH
   have cs:=Gi t u (hl t ht).c (hk u hu).c;rw[wt,wu]at cs
   by_cases Dz:t=u
   ·rw[decide_eq_true Dz]at cs
    have hR:l.take (i+1)=k.take (i+1):=by rw[fc,PH,hd,Dz]
    have y:zY true=false:=by rw[hS.not];rfl
    generalize t.a=a,t.b=b,u.a=a2,u.b=b2 at *;unfold na at cs;cbv;apply bT l1;rw[j1,j2];cbv;apply nd n0;rw[j1,j3];cbv;apply nd n0;refine hS.cl cs ?_;cbv;apply bF y;refine aU [] () ?_ ?_ ?_ ?_ rfl (Nat.le_refl 3) hR
    ·simp[bd,KY,ae,vi,vb,AV.aw,AV.aJ,Cell.aw,i1]
    ·simp[bf,KY,ae]
    ·simp[aF,KY,ae]
    ·simp
   ·rw[decide_eq_false Dz]at cs
    have y:zY false=true:=by rw[hS.not];rfl
    have HS:false=D:=by
     rw[hD];exact(decide_eq_false fun e=>Dz (by rw[e,gu]at gt;exact(Option.some.inj gt).symm)).symm
    generalize t.a=a,t.b=b,u.a=a2,u.b=b2 at *;unfold na at cs;cbv;apply bT l1;rw[j1,j2];cbv;apply nd n0;rw[j1,j3];cbv;apply nd n0;refine hS.cl cs ?_;cbv;apply bT y;exact bc hF (jf HS)
  ·intro d hd
   have lE:zV (Int.ofNat n) N=false:=by rw[<-xN];exact hS.fh lX
   have Te:true=D:=by
    rw[hD];refine(decide_eq_true ?_).symm;rw[List.take_of_length_le (by omega),List.take_of_length_le (by omega)]at hd;exact hd
   cbv;apply bF lE;exact bc hF (jf Te)
 ·have z:zU (zz (ab X)) (zz (ab Y))=true:=by rw[hS.ne,hS.az,hS.az,hS.len,hS.len,lX,lY];exact decide_eq_true (by omega)
  have HS:false=D:=by rw[hD];exact(decide_eq_false fun e=>Nc (by rw[fx,e])).symm
  exact bT z (bc hF (jf HS))
theorem Gj (l k:List T2) (hl:∀t∈l,t.ok 1000 30000) (hk:∀t∈k,t.ok 1000 30000) (hn:l.length<=1000) (hm:k.length<=1000) :
  aH 115 [.val (tl (aP l)),.val (tl (aP k))] ⟨[.val (tb (decide (l=k)))],[none,none]⟩:=by
 have c:=NC l k hl hk hn hm;generalize decide (l=k)=D,aP l=X,aP k=Y at *;refine an ai mixed [.val] Tryz.func115 rfl rfl (by kernel_rfl) ?_;intros;rename_i A L F hS hF;cbv;refine hS.cl c ?_;cbv;exact aC hF
def Qh (p:List T2):Prop:=(∀t∈p,t.ok 1000 30000)/\p.length<=1000
def KZ (X Y:Abs.Rows) (N I:Int):St:=ae 32 [.af,.c (.t (.aa false Y)),.c (.t (.v (.func (.func 115) #[] #[]))),.af,.af,.af,vb false,.af,.af,.af,.af,.af,.af,.af,.af,.c (.t (.aa false X)),vi .i64 N,vi .i64 I] [none,none,none]
theorem ND (l k:aS) (hl:∀p∈l,Qh p) (hk:∀p∈k,Qh p) (hn:l.length<=1000) (hm:k.length<=1000) :
  aH 114 [.val (tl (aj l)),.val (tl (aj k)),.val (.c (.v (.func (.func 115) #[] #[])))] ⟨[.val (tb (decide (l=k)))],[none,none,none]⟩:=by
 obtain⟨X,hX⟩:=aq (aj l);obtain⟨Y,hY⟩:=aq (aj k);obtain⟨n,fx⟩:=aq (l.length);obtain⟨D,hD⟩:=aq (decide (l=k));have lX:X.length=n:=by rw[hX,lB,fx]
 have lY:Y.length=k.length:=by rw[hY,lB]
 obtain⟨N,hN⟩:=aq (n:Int);rw[<-hX,<-hY,<-hD];refine an ai mixed [.val] Tryz.func114 rfl rfl (by kernel_rfl) ?_;intros;rename_i zU zV _ zY _ _ _ _ _ _ zz _ _ _ _ _ _ _ ab aB _ _ _ _ _ _ _ _ _ _ _ _ _ _ _ _ _ _ A L F hS hF;have xN:zz (ab X)=N:=by rw[hS.az,hS.len,lX,hN]
 cbv
 by_cases Nc:n=k.length
 ·have z:zU (zz (ab X)) (zz (ab Y))=false:=by rw[hS.ne,hS.az,hS.az,hS.len,hS.len,lX,lY,Nc];simp
  apply bF z;simp only[xN];refine mV ai mixed hS (n:=n) (fun i (d:Unit)=>KZ X Y N (Int.ofNat i)) (fun i d=>l.take i=k.take i) (a0:=()) (fy ?_ ?_) rfl (Nat.le_refl 3) rfl ?_ ?_
  ·simp[dS,KZ,ae,vi,vb]
  ·simp[dU,KZ,ae]
  ·intro i d hi hd
   have UU:=hS.ic lX hi (by omega);have l1:=UU.1;have i1:=UU.2.1;have j1:=UU.2.2.1;have n0:=UU.2.2.2;clear UU;have l1:zV (Int.ofNat i) N=true:=by rw[<-xN];exact l1
   obtain⟨p,hp,gp,hr,fc,_⟩:=fq (l:=l) (i:=i) (by omega);obtain⟨u,hu,gu,kH,PH,_⟩:=fq (l:=k) (i:=i) (by omega);have j2:aB X i=some [.aa false (aP p)]:=by rw[hS.nth,hX];exact hr
   have j3:aB Y i=some [.aa false (aP u)]:=by rw[hS.nth,hY];exact kH
   have cs:=Gj p u (hl p hp).1 (hk u hu).1 (hl p hp).2 (hk u hu).2;obtain⟨Z1,hZ1⟩:=aq (aP p);obtain⟨Z2,UL⟩:=aq (aP u);rw[<-hZ1]at j2 cs;rw[<-UL]at j3 cs
   by_cases Dz:p=u
   ·rw[decide_eq_true Dz]at cs
    have hR:l.take (i+1)=k.take (i+1):=by rw[fc,PH,hd,Dz]
    have y:zY true=false:=by rw[hS.not];rfl
    cbv;apply bT l1;rw[j1,j2];cbv;apply nd n0;rw[j1,j3];cbv;apply nd n0;refine hS.cl cs ?_;cbv;apply bF y;refine aU [] () ?_ ?_ ?_ ?_ rfl (Nat.le_refl 3) hR
    ·simp[bd,KZ,ae,vi,vb,AV.aw,AV.aJ,Cell.aw,i1]
    ·simp[bf,KZ,ae]
    ·simp[aF,KZ,ae]
    ·simp
   ·rw[decide_eq_false Dz]at cs
    have y:zY false=true:=by rw[hS.not];rfl
    have HS:false=D:=by
     rw[hD];exact(decide_eq_false fun e=>Dz (by rw[e,gu]at gp;exact(Option.some.inj gp).symm)).symm
    cbv;apply bT l1;rw[j1,j2];cbv;apply nd n0;rw[j1,j3];cbv;apply nd n0;refine hS.cl cs ?_;cbv;apply bT y;exact bc hF (jf HS)
  ·intro d hd
   have lE:zV (Int.ofNat n) N=false:=by rw[<-xN];exact hS.fh lX
   have Te:true=D:=by
    rw[hD];refine(decide_eq_true ?_).symm;rw[List.take_of_length_le (by omega),List.take_of_length_le (by omega)]at hd;exact hd
   cbv;apply bF lE;exact bc hF (jf Te)
 ·have z:zU (zz (ab X)) (zz (ab Y))=true:=by rw[hS.ne,hS.az,hS.az,hS.len,hS.len,lX,lY];exact decide_eq_true (by omega)
  have HS:false=D:=by rw[hD];exact(decide_eq_false fun e=>Nc (by rw[fx,e])).symm
  exact bT z (bc hF (jf HS))
theorem xS (l k:aS) (hl:∀p∈l,Qh p) (hk:∀p∈k,Qh p) (hn:l.length<=1000) (hm:k.length<=1000) :
  aH 77 [.val (tl (aj l)),.val (tl (aj k))] ⟨[.val (tb (decide (l=k)))],[none,none]⟩:=by
 have c:=ND l k hl hk hn hm;generalize decide (l=k)=D,aj l=X,aj k=Y at *;refine an ai mixed [.val] Tryz.func77 rfl rfl (by kernel_rfl) ?_;intros;rename_i A L F hS hF;cbv;refine hS.cl c ?_;cbv;exact aC hF
def BV (X Y:Abs.Rows) (N I:Int):St:=ae 27 [.c (.t (.aa false X)),.c (.t (.aa false Y)),.af,.af,vb false,vi .i64 I] [none,none]
theorem K0 (l k:aS) (hl:∀p∈l,Qh p) (hk:∀p∈k,Qh p) (hn:l.length<=1000) (hm:k.length<=1000) :
  aH 24 [.val (tl (aj l)),.val (tl (aj k))] ⟨[.val (tb (decide (l=k)))],[none,none]⟩:=by
 obtain⟨X,hX⟩:=aq (aj l);obtain⟨Y,hY⟩:=aq (aj k);obtain⟨n,fx⟩:=aq (l.length);obtain⟨D,hD⟩:=aq (decide (l=k));have lX:X.length=n:=by rw[hX,lB,fx]
 have lY:Y.length=k.length:=by rw[hY,lB]
 obtain⟨N,hN⟩:=aq (n:Int);rw[<-hX,<-hY,<-hD];refine an ai mixed [.val] Tryz.func24 rfl rfl (by kernel_rfl) ?_;intros;rename_i zU zV _ zY _ _ _ _ _ _ zz _ _ _ _ _ _ _ ab aB _ _ _ _ _ _ _ _ _ _ _ _ _ _ _ _ _ _ A L F hS hF;have xN:zz (ab X)=N:=by rw[hS.az,hS.len,lX,hN]
 cbv
 by_cases Nc:n=k.length
 ·have z:zU (zz (ab X)) (zz (ab Y))=false:=by rw[hS.ne,hS.az,hS.az,hS.len,hS.len,lX,lY,Nc];simp
  apply bF z
  skip
  refine mV ai mixed hS (n:=n) (fun i (d:Unit)=>BV X Y N (Int.ofNat i)) (fun i d=>l.take i=k.take i) (a0:=()) (fy ?_ ?_) rfl (Nat.le_refl 2) rfl ?_ ?_
  ·simp[dS,BV,ae,vi,vb]
  ·simp[dU,BV,ae]
  ·intro i d hi hd
   have UU:=hS.ic lX hi (by omega);have l1:=UU.1;have i1:=UU.2.1;have j1:=UU.2.2.1;have n0:=UU.2.2.2;clear UU
   skip
   obtain⟨p,hp,gp,hr,fc,_⟩:=fq (l:=l) (i:=i) (by omega);obtain⟨u,hu,gu,kH,PH,_⟩:=fq (l:=k) (i:=i) (by omega);have j2:aB X i=some [.aa false (aP p)]:=by rw[hS.nth,hX];exact hr
   have j3:aB Y i=some [.aa false (aP u)]:=by rw[hS.nth,hY];exact kH
   have cs:=nX p u (hl p hp).1 (hl p hp).2 (hk u hu).2;obtain⟨Z1,hZ1⟩:=aq (aP p);obtain⟨Z2,UL⟩:=aq (aP u);rw[<-hZ1]at j2 cs;rw[<-UL]at j3 cs
   by_cases Dz:p=u
   ·rw[decide_eq_true Dz]at cs
    have hR:l.take (i+1)=k.take (i+1):=by rw[fc,PH,hd,Dz]
    have y:zY true=false:=by rw[hS.not];rfl
    cbv;apply bT l1;rw[j1,j2];cbv;apply nd n0;rw[j1,j3];cbv;apply nd n0;refine hS.cl cs ?_;cbv;apply bF y;refine aU [] () ?_ ?_ ?_ ?_ rfl (Nat.le_refl 2) hR
    ·simp[bd,BV,ae,vi,vb,AV.aw,AV.aJ,Cell.aw,i1]
    ·simp[bf,BV,ae]
    ·simp[aF,BV,ae]
    ·simp
   ·rw[decide_eq_false Dz]at cs
    have y:zY false=true:=by rw[hS.not];rfl
    have HS:false=D:=by
     rw[hD];exact(decide_eq_false fun e=>Dz (by rw[e,gu]at gp;exact(Option.some.inj gp).symm)).symm
    cbv;apply bT l1;rw[j1,j2];cbv;apply nd n0;rw[j1,j3];cbv;apply nd n0;refine hS.cl cs ?_;cbv;apply bT y;exact bc hF (jf HS)
  ·intro d hd
   have lE:zV (Int.ofNat n) (zz (ab X))=false:=hS.fh lX;have Te:true=D:=by
    rw[hD];refine(decide_eq_true ?_).symm;rw[List.take_of_length_le (by omega),List.take_of_length_le (by omega)]at hd;exact hd
   cbv;apply bF lE;exact bc hF (jf Te)
 ·have z:zU (zz (ab X)) (zz (ab Y))=true:=by rw[hS.ne,hS.az,hS.az,hS.len,hS.len,lX,lY];exact decide_eq_true (by omega)
  have HS:false=D:=by rw[hD];exact(decide_eq_false fun e=>Nc (by rw[fx,e])).symm
  exact bT z (bc hF (jf HS))
def K1 (N:Int) (E D aG:Tree) (T:Abs.Rows) (q:jJ) (M I J:Int):St:=ae 48 [.af,vi .i64 I,.af,.af,vb false,.af,.af,.af,.af,.af,.af,.af,.af,.af,.af,.af,.af,.af,.af,.af,.af,.af,.af,.af,.af,.af,.af,.af,.af,.c (.t (.aa false T)),vi .i64 M,vi .i64 J] [none,none]
theorem TD (N:Int) (E D aG:Tree) (C:fi) (n:Nat) (hn:n<=1000) (hC:C.length<=1000) (hr:∀r∈C,r.length=n) (q:jJ) (i:Nat) (hi:i<n) :
  aH 38 [.val (.agg (fT N E D 12 aG (.aa false (dL C)) q)),.val (ti .i64 (Int.ofNat i))] ⟨[.val (tb (C.any fun r=>F5 r i))],[none,none]⟩:=by
 obtain⟨T,hT⟩:=aq (dL C);have lT:T.length=C.length:=by rw[hT,mD]
 obtain⟨m,hm⟩:=aq (C.length);obtain⟨M,hM⟩:=aq (m:Int);obtain⟨u,hu⟩:=aq (C.any fun r=>F5 r i);rw[<-hT,<-hu];refine an ai mixed [.val] Tryz.func38 rfl rfl (by kernel_rfl) fun zD zE _ _ _ _ _ _ _ _ _ _ _ zU zV zX _ _ _ _ _ zu _ zz _ _ _ _ _ _ _ ab aB _ _ _ _ _ _ _ _ _ _ _ _ _ _ _ _ _ _ A L F hS hF=>?_
 have z1:zU 12 12=false:=by rw[hS.ne];rfl
 have mN:zz (ab T)=M:=by rw[hS.az,hS.len,lT,hM,hm]
 have j1i:zu (Int.ofNat i)=i:=by rw[hS.nat];rfl
 have n0i:zX 0 (Int.ofNat i)=true:=dT (hS.le ..) (show(0:Int)<=(i:Int) by omega);cbv;apply bF z1;simp only[mN];refine mV ai mixed hS (n:=m) (fun j (d:Unit)=>K1 N E D aG T q M (Int.ofNat i) (Int.ofNat j)) (fun j d=>((C.take j).any fun r=>F5 r i)=false) (a0:=()) (fy ?_ ?_) rfl (Nat.le_refl 2) rfl ?_ ?_
 ·simp[dS,K1,ae,vi,vb]
 ·simp[dU,K1,ae]
 ·intro j d hj hd
  obtain⟨r,hrm,gr,pS,fc⟩:=H5 (l:=C) (i:=j) (by omega);have hrn:=hr r hrm;obtain⟨p,hp,gp,hrp,_,_⟩:=fq (l:=r) (i:=i) (by omega);obtain⟨X,hX⟩:=aq (aj r);obtain⟨Z,hZ⟩:=aq (aP p);have lX:X.length=n:=by rw[hX,lB,hrn]
  have lZ:Z.length=p.length:=by rw[hZ,pK]
  rw[<-hX]at pS;rw[<-hX,<-hZ]at hrp;have huc:F5 r i=decide (0<p.length):=by unfold F5;rw[List.getD_eq_getElem?_getD,gp];rfl
  have l1:zV (Int.ofNat j) M=true:=by rw[hS.lt,hM];exact decide_eq_true (show(j:Int)<(m:Int) by omega)
  have i1:zD .i64 (zE (j:Int) 1)=(j:Int)+1:=by rw[hS.add,hS.wrap];exact wrap_i64 (by omega) (by omega)
  have j1:zu (Int.ofNat j)=j:=by rw[hS.nat];rfl
  have n0:zX 0 (Int.ofNat j)=true:=dT (hS.le ..) (show(0:Int)<=(j:Int) by omega);have j2:aB T j=some [.aa false X]:=by rw[hS.nth,hT];rw[hX];exact hX▸pS
  have l2:zV (Int.ofNat i) (zz (ab X))=true:=by rw[hS.lt,hS.az,hS.len,lX];exact decide_eq_true (show(i:Int)<(n:Int) by omega)
  have j3:aB X i=some [.aa false Z]:=by rw[hS.nth];exact hrp
  by_cases A7:0<p.length
  ·have l3:zV 0 (zz (ab Z))=true:=by rw[hS.lt,hS.az,hS.len,lZ];exact decide_eq_true (by omega)
   have hut:true=u:=by rw[hu];exact(List.any_eq_true.2 ⟨r,hrm,by rw[huc];exact decide_eq_true A7⟩).symm
   cbv;apply bT l1;rw[j1,j2];cbv;refine nd n0 (bT l2 ?_);rw[j1i,j3];cbv;refine nd n0i (bT l3 ?_);exact bc hF (jf hut)
  ·have l3:zV 0 (zz (ab Z))=false:=by rw[hS.lt,hS.az,hS.len,lZ];exact decide_eq_false (by omega)
   have hR:((C.take (j+1)).any fun r=>F5 r i)=false:=by
    rw[fc,List.any_append,hd,Bool.false_or,List.any_cons,List.any_nil,Bool.or_false,huc];exact decide_eq_false A7
   cbv;apply bT l1;rw[j1,j2];cbv;refine nd n0 (bT l2 ?_);rw[j1i,j3];cbv;refine nd n0i (bF l3 ?_);refine aU [] () ?_ ?_ ?_ ?_ rfl (Nat.le_refl 2) hR
   ·simp[bd,K1,ae,vi,vb,AV.aw,AV.aJ,Cell.aw,ak,i1]
   ·simp[bf,K1,ae]
   ·simp[aF,K1,ae]
   ·simp
 ·intro d hd
  rw[List.take_of_length_le (by omega)]at hd;have lE:zV (Int.ofNat m) M=false:=by rw[hS.lt,hM];exact decide_eq_false (show ¬(m:Int)<(m:Int) by omega)
  cbv;apply bF lE;exact bc hF (jf (hd.symm.trans hu.symm))
def jR (v:Nat->Bool) (n:Nat):List Int:=((List.range n).filter v).map fun i:Nat=>(i:Int)
theorem DS {v:Nat->Bool} {i:Nat} (h:v i=true):jR v (i+1)=jR v i ++ [(i:Int)]:=by simp[jR,List.range_succ,List.filter_append,h]
theorem Ie {v:Nat->Bool} {i:Nat} (h:v i=false):jR v (i+1)=jR v i:=by simp[jR,List.range_succ,List.filter_append,h]
theorem Gk (v:Nat->Bool) (n:Nat):(jR v n).length<=n:=by unfold jR;rw[List.length_map];exact Nat.le_trans (List.length_filter_le _ _) (by simp)
def Ab (N:Int) (X:Abs.Rows) (D:Tree) (k:Int) (aG C:Tree) (q:jJ):Option aA:=some (.var [.t (.v (.int .i64 N)),.t (.aa false X),.t D,.t (.v (.int .i64 k)),.t (.aa false q.P),.t (.v (.int .i64 q.cn)),.t (.v (.int .i64 q.cd)),.t (.v (.int .i64 q.cr)),.t (.aa false q.O),.t (.aa false q.Lc),.t (.aa false q.S),.t (.aa false q.B),.t (.v (.int .i64 q.eN)),.t aG,.t (.aa false q.G),.t (.aa false q.eO),.t C,.t (.aa false q.Q),.t (.aa false q.Sx),.t (.v (.int .i64 q.r0)),.t (.v (.int .i64 q.r1)),.t (.v (.int .i64 q.r2)),.t (.v (.int .i64 q.r3)),.t (.v (.int .i64 q.r4)),.t (.v (.int .i64 q.r5)),.t (.v (.int .i64 q.r6)),.t (.v (.int .i64 q.r7)),.t (.aa false q.r8),.t (.aa false q.r9),.t (.aa false q.Ts),.t (.aa false q.Wu),.t (.aa false q.Wv),.t (.aa false q.Ww),.t (.aa false q.Wx),.t (.aa false q.Wy),.t (.aa false q.Yx),.t (.aa false q.At),.t (.aa false q.Sq),.t (.aa false q.X),.t (.aa false q.eB)])
def kD (N:Int) (X:Abs.Rows) (D:Tree) (k:Int) (aG C:Tree) (q:jJ) (M I:Int):Option (Nat×Abs.Rows)->St
 | none=>ae 26 [.af,.c (.ptr 1 0 0),.af,.c (.t (.aa true [])),.af,.af,.af,.af,vi .i64 M,vi .i64 I] [none,Ab N X D k aG C q]
 | some z=>ae 26 [.af,.c (.ptr 1 0 0),.af,.c (.sl 2 0 z.1 false),.af,.af,.af,.af,vi .i64 M,vi .i64 I] [none,Ab N X D k aG C q,some (.rows 1 z.2 true false)]
def WY (v:Nat->Bool) (i:Nat):Option (Nat×Abs.Rows)->Prop
 | none=>jR v i=[]
 | some z=>z.2=W .i64 (jR v i)/\z.1=(jR v i).length
theorem Ig (N:Int) (eqs:aS) (D:Tree) (k:Int) (aG C:Tree) (q:jJ) (w:Bool) (u:Nat->Bool) (hn:eqs.length<=1000)
  (hw:aH 25 [.val (.agg (cT k q))] ⟨[.val (tb w)],[none]⟩)
  (hu:w=false->∀i,i<eqs.length->aH 38 [.val (.agg (fT N (.aa false (aj eqs)) D k aG C q)),.val (ti .i64 (Int.ofNat i))] ⟨[.val (tb (u i))],[none,none]⟩) :
  aH 12 [.val (.agg (fT N (.aa false (aj eqs)) D k aG C q))] ⟨[.val (tl (W .i64 (jR (fun i=>w||u i) eqs.length)))],[none]⟩:=by
 obtain⟨X,hX⟩:=aq (aj eqs);obtain⟨n,fx⟩:=aq (eqs.length);have lX:X.length=n:=by rw[hX,lB,fx]
 obtain⟨M,hM⟩:=aq (n:Int);obtain⟨v,hv⟩:=aq (fun i=>w||u i:Nat->Bool);have yL:w=true->∀i,v i=true:=fun h i=>by rw[hv,h];rfl
 have YH:w=false->∀i,v i=u i:=fun h i=>by rw[hv,h];rfl
 rw[<-hX,<-fx,<-hv];rw[<-hX,<-fx]at hu;unfold cT at hw;unfold fT at *;refine an ai mixed [.val] Tryz.func12 rfl rfl (by kernel_rfl) fun zD zE _ _ _ _ _ _ _ _ _ _ _ _ zV _ _ _ _ _ _ _ _ zz _ _ aK _ _ _ _ ab _ _ _ _ _ _ _ bV _ _ aM _ _ _ _ _ _ _ _ A L F hS hF=>?_
 have xN:zz (ab X)=M:=by rw[hS.az,hS.len,lX,hM]
 cbv;simp only[xN];refine mV ai mixed hS (n:=n) (fun i a=>kD N X D k aG C q M (Int.ofNat i) a) (fun i a=>WY v i a) (a0:=none) (fy ?_ ?_) rfl (Nat.le_add_left 1 1) (show jR v 0=[] from rfl) ?_ ?_
 ·simp[dS,kD,ae,vi,vb]
 ·simp[dU,kD,Ab,ae]
 ·intro i a hi ha
  have l1:zV (Int.ofNat i) M=true:=by rw[hS.lt,hM];exact decide_eq_true (show(i:Int)<(n:Int) by omega)
  have i1:zD .i64 (zE (i:Int) 1)=(i:Int)+1:=by rw[hS.add,hS.wrap];exact wrap_i64 (by omega) (by omega)
  have PO:aM 1 []=true:=by rw[hS.wide];rfl
  have z0:ab []=0:=by rw[hS.len];rfl
  cases a with
  | none=>
   have ha:jR v i=[]:=ha;have b1:WY v (i+1) (some (1,[[.v (.int .i64 (Int.ofNat i))]]))∨v i=false:=by
    by_cases h:v i=true
    ·exact .inl ⟨by rw[DS h,ha];rfl,by rw[DS h,ha];rfl⟩
    ·exact .inr (by simpa using h)
   have b2:v i=false->WY v (i+1) none:=fun h=>by show jR v (i+1)=[];rw[Ie h,ha]
   have UU:=hS.vg (row:=[Tree.v (.int .i64 (Int.ofNat i))]) (w:=1) rfl (r:=[]) (len:=0) (b:=8) rfl (by unfold au;omega);have u0:=UU.1;have u1:=UU.2.1;have u2:=UU.2.2.1;have u3:=UU.2.2.2.1;have u4:=UU.2.2.2.2.1;have u5:=UU.2.2.2.2.2.1;have u6:=UU.2.2.2.2.2.2.1;have u7:=UU.2.2.2.2.2.2.2;clear UU;have u8:aK (ab []) (ab [[Tree.v (.int .i64 (i:Int))]])=1:=by rw[z0];exact u6
   have u7:bV [] 0 [[Tree.v (.int .i64 (i:Int))]]=[[Tree.v (.int .i64 (i:Int))]]:=u7;rw[<-z0]at u4
   by_cases TE:w=true
   ·have b3:=b1.resolve_right (by rw[yL TE i];simp)
    rw[TE]at hw;cbv;apply bT l1;refine hS.cl hw ?_;cbv;apply bT rfl;rw[u0];refine nd u1 (nd u2 (nd u3 (nd PO (nd u4 ?_))));refine aU [(2,7)] (some (1,[[.v (.int .i64 (Int.ofNat i))]])) ?_ ?_ ?_ ?_ rfl (Nat.le_add_left 1 2) b3
    ·simp[bd,kD,Ab,ae,vi,vb,AV.aw,AV.aJ,Cell.aw,ak,i1,u8]
    ·simp[bf,kD,Ab,ae,Abs.look,ak,aA.aw,Cell.aw,u7]
    ·simp[aF,kD,Ab,ae,ak]
    ·simp
   ·have Qi:w=false:=by simpa using TE
    have cu:=hu Qi i hi;rw[Qi]at hw
    by_cases K2:u i=true
    ·have b3:=b1.resolve_right (by rw[YH Qi i,K2];simp)
     rw[K2]at cu;cbv;apply bT l1;refine hS.cl hw ?_;cbv;apply bF rfl;refine hS.cl cu ?_;cbv;apply bT rfl;rw[u0];refine nd u1 (nd u2 (nd u3 (nd PO (nd u4 ?_))));refine aU [(2,7)] (some (1,[[.v (.int .i64 (Int.ofNat i))]])) ?_ ?_ ?_ ?_ rfl (Nat.le_add_left 1 2) b3
     ·simp[bd,kD,Ab,ae,vi,vb,AV.aw,AV.aJ,Cell.aw,ak,i1,u8]
     ·simp[bf,kD,Ab,ae,Abs.look,ak,aA.aw,Cell.aw,u7]
     ·simp[aF,kD,Ab,ae,ak]
     ·simp
    ·have K2:u i=false:=by simpa using K2
     have b3:=b2 (by rw[YH Qi i,K2]);rw[K2]at cu;cbv;apply bT l1;refine hS.cl hw ?_;cbv;apply bF rfl;refine hS.cl cu ?_;cbv;apply bF rfl;refine aU [] none ?_ ?_ ?_ ?_ rfl (Nat.le_add_left 1 1) b3
     ·simp[bd,kD,Ab,ae,vi,vb,AV.aw,AV.aJ,Cell.aw,ak,i1,u6]
     ·simp[bf,kD,Ab,ae,Abs.look,ak,aA.aw,Cell.aw,u7]
     ·simp[aF,kD,Ab,ae,ak]
     ·simp
  | some z=>
   obtain⟨len,R⟩:=z;obtain⟨ha,hlen⟩:=ha;simp only at ha hlen;have UC:=Gk v i;have b1:WY v (i+1) (some (len+1,R ++ [[.v (.int .i64 (Int.ofNat i))]]))∨v i=false:=by
    by_cases h:v i=true
    ·exact .inl ⟨by rw[DS h];show R++_=_;rw[ha];simp[W],by rw[DS h,List.length_append,<-hlen];rfl⟩
    ·exact .inr (by simpa using h)
   have b2:v i=false->WY v (i+1) (some (len,R)):=fun h=>⟨by rw[Ie h];exact ha,by rw[Ie h];exact hlen⟩
   have UU:=hS.vg (row:=[Tree.v (.int .i64 (Int.ofNat i))]) (w:=1) rfl (r:=R) (len:=len) (b:=8) (by rw[hlen,ha,jr]) (by unfold au;omega);have u0:=UU.1;have u1:=UU.2.1;have u2:=UU.2.2.1;have u3:=UU.2.2.2.1;have u4:=UU.2.2.2.2.1;have u5:=UU.2.2.2.2.2.1;have u6:=UU.2.2.2.2.2.2.1;have u7:=UU.2.2.2.2.2.2.2;clear UU;have u6:aK len (ab [[Tree.v (.int .i64 (i:Int))]])=len+1:=u6;have u7:bV R 0 [[Tree.v (.int .i64 (i:Int))]]=R ++ [[Tree.v (.int .i64 (i:Int))]]:=u7
   by_cases TE:w=true
   ·have b3:=b1.resolve_right (by rw[yL TE i];simp)
    rw[TE]at hw;cbv;apply bT l1;refine hS.cl hw ?_;cbv;apply bT rfl;rw[u0];refine nd u1 (nd u2 (nd u3 (nd u4 (nd u5 ?_))));refine aU [(2,8)] (some (len+1,R ++ [[.v (.int .i64 (Int.ofNat i))]])) ?_ ?_ ?_ ?_ rfl (Nat.le_add_left 1 2) b3
    ·simp[bd,kD,Ab,ae,vi,vb,AV.aw,AV.aJ,Cell.aw,ak,i1,u6]
    ·simp[bf,kD,Ab,ae,Abs.look,ak,aA.aw,Cell.aw,u7]
    ·simp[aF,kD,Ab,ae,ak]
    ·simp
   ·have Qi:w=false:=by simpa using TE
    have cu:=hu Qi i hi;rw[Qi]at hw
    by_cases K2:u i=true
    ·have b3:=b1.resolve_right (by rw[YH Qi i,K2];simp)
     rw[K2]at cu;cbv;apply bT l1;refine hS.cl hw ?_;cbv;apply bF rfl;refine hS.cl cu ?_;cbv;apply bT rfl;rw[u0];refine nd u1 (nd u2 (nd u3 (nd u4 (nd u5 ?_))));refine aU [(2,8)] (some (len+1,R ++ [[.v (.int .i64 (Int.ofNat i))]])) ?_ ?_ ?_ ?_ rfl (Nat.le_add_left 1 2) b3
     ·simp[bd,kD,Ab,ae,vi,vb,AV.aw,AV.aJ,Cell.aw,ak,i1,u6]
     ·simp[bf,kD,Ab,ae,Abs.look,ak,aA.aw,Cell.aw,u7]
     ·simp[aF,kD,Ab,ae,ak]
     ·simp
    ·have K2:u i=false:=by simpa using K2
     have b3:=b2 (by rw[YH Qi i,K2]);rw[K2]at cu;cbv;apply bT l1;refine hS.cl hw ?_;cbv;apply bF rfl;refine hS.cl cu ?_;cbv;apply bF rfl;refine aU [] (some (len,R)) ?_ ?_ ?_ ?_ rfl (Nat.le_add_left 1 2) b3
     ·simp[bd,kD,Ab,ae,vi,vb,AV.aw,AV.aJ,Cell.aw,ak,i1,u6]
     ·simp[bf,kD,Ab,ae,Abs.look,ak,aA.aw,Cell.aw,u7]
     ·simp[aF,kD,Ab,ae,ak]
     ·simp
 ·intro a ha
  have lE:zV (Int.ofNat n) M=false:=by rw[hS.lt,hM];exact decide_eq_false (show ¬(n:Int)<(n:Int) by omega)
  cases a with
  | none=>
   have ha:jR v n=[]:=ha;rw[ha]at hF;cbv;apply bF lE;exact ib hF (aY.drop _ _)
  | some z=>
   obtain⟨len,R⟩:=z;obtain⟨ha,hlen⟩:=ha;simp only at ha hlen;have UU:=hS.whole (r:=R) (len:=len) (by rw[hlen,ha,jr]);have f1:=UU.1;have f2:=UU.2;clear UU;rw[<-ha]at hF;cbv;refine bF lE (nd f1 ?_);rw[f2];exact aC hF
def kT (N:Int) (E D:aS):List Tree:=[.v (.int .i64 N),.aa false (aj E),.aa false (aj D)]
def uY (N:Int) (E D:aS) (k M:Int) (E' D':aS):Bool:=
 if yW k=true then decide (M=N)&&decide (E'=E) else if k=12 then decide (M=N) else if k=3 then decide (N<=M)&&decide (D'=D) else decide (N<=M)
structure LP (l:aS):Prop where
 k:∀p∈l,KP p
 n:l.length<=1000
theorem LP.ok {l:aS} (h:LP l):∀p∈l,Qh p:=fun p hp=>⟨(h.k p hp).ok.1,(h.k p hp).ok.2⟩
theorem K3 (N M k:Int) (E D E' D':aS) (hE:LP E) (hD:LP D) (vC:LP E') (OE:LP D') (hk:1<=k/\k<=13) (aG C:Tree) (q:jJ) :
  aH 40 [.val (.agg (fT N (.aa false (aj E)) (.aa false (aj D)) k aG C q)),.val (.agg (kT M E' D'))] ⟨[.val (tb (uY N E D k M E' D'))],[none,none]⟩:=by
 have hw:=qQ k hk q;have c1:=xS E' E vC.ok hE.ok vC.n hE.n;have c2:=xS D' D OE.ok hD.ok OE.n hD.n;obtain⟨R,hR⟩:=aq (uY N E D k M E' D');rw[<-hR];unfold uY at hR;generalize decide (E'=E)=b1,decide (D'=D)=b2 at *;unfold kT;generalize aj E=X,aj D=X2 at *;generalize aj E'=Y,aj D'=Y2 at *;unfold cT at hw;unfold fT
 by_cases h1:yW k=true
 ·rw[if_pos h1]at hR
  rw[h1]at hw;refine an ai mixed [.val] Tryz.func40 rfl rfl (by kernel_rfl) ?_;intros;rename_i zT _ _ zX _ _ _ _ _ _ _ _ _ _ _ _ _ _ _ _ _ _ _ _ _ _ _ _ _ _ _ _ _ _ _ _ _ _ _ A L F hS hF;have z1:zT M N=decide (M=N):=hS.eq _ _;cbv;refine hS.cl hw ?_;cbv;apply bT rfl
  by_cases h2:M=N
  ·rw[decide_eq_true h2]at hR z1
   apply bT z1;refine hS.cl c1 ?_;cbv;exact bc hF (jf (by rw[hR];rfl))
  ·rw[decide_eq_false h2]at hR z1
   apply bF z1;exact bc hF (jf (by rw[hR];rfl))
 ·rw[if_neg h1]at hR
  have h1:yW k=false:=by simpa using h1
  rw[h1]at hw
  by_cases h2:k=12
  ·rw[if_pos h2]at hR
   refine an ai mixed [.val] Tryz.func40 rfl rfl (by kernel_rfl) ?_;intros;rename_i zT _ _ zX _ _ _ _ _ _ _ _ _ _ _ _ _ _ _ _ _ _ _ _ _ _ _ _ _ _ _ _ _ _ _ _ _ _ _ A L F hS hF;have z1:zT M N=decide (M=N):=hS.eq _ _;have z2:zT k 12=true:=dT (hS.eq ..) h2;cbv;refine hS.cl hw ?_;cbv;apply bF rfl;apply bT z2;exact bc hF (jf (z1.trans hR.symm))
  ·rw[if_neg h2]at hR
   by_cases h3:k=3
   ·rw[if_pos h3]at hR
    refine an ai mixed [.val] Tryz.func40 rfl rfl (by kernel_rfl) ?_;intros;rename_i zT _ _ zX _ _ _ _ _ _ _ _ _ _ _ _ _ _ _ _ _ _ _ _ _ _ _ _ _ _ _ _ _ _ _ _ _ _ _ A L F hS hF;have z1:zX N M=decide (N<=M):=hS.le _ _;have z2:zT k 12=false:=dF (hS.eq ..) h2;have z3:zT k 3=true:=dT (hS.eq ..) h3;cbv;refine hS.cl hw ?_;cbv;apply bF rfl;apply bF z2;apply bT z3
    by_cases h4:N<=M
    ·rw[decide_eq_true h4]at hR z1
     apply bT z1;refine hS.cl c2 ?_;cbv;exact bc hF (jf (by rw[hR];rfl))
    ·rw[decide_eq_false h4]at hR z1
     apply bF z1;exact bc hF (jf (by rw[hR];rfl))
   ·rw[if_neg h3]at hR
    refine an ai mixed [.val] Tryz.func40 rfl rfl (by kernel_rfl) ?_;intros;rename_i zT _ _ zX _ _ _ _ _ _ _ _ _ _ _ _ _ _ _ _ _ _ _ _ _ _ _ _ _ _ _ _ _ _ _ _ _ _ _ A L F hS hF;have z1:zX N M=decide (N<=M):=hS.le _ _;have z2:zT k 12=false:=dF (hS.eq ..) h2;have z3:zT k 3=false:=dF (hS.eq ..) h3;cbv;refine hS.cl hw ?_;cbv;apply bF rfl;apply bF z2;apply bF z3;exact bc hF (jf (z1.trans hR.symm))
def kE:jJ:=⟨[],0,0,0,[],[],[],[],0,[],[],[],[],0,0,0,0,0,0,0,0,[],[],[],[],[],[],[],[],[],[],[],[],[]⟩
def zF:List Tree:=fT 0 (.aa false []) (.aa false []) 0 (.aa false []) (.aa false []) kE
def fB (N:Int) (E D:Tree) (k:Int) (aG C:Tree) (q:jJ):Option aA:=some (.var ((fT N E D k aG C q).map .t))
def NF (M:Int) (E D:Tree):Option aA:=some (.var [.t (.v (.int .i64 M)),.t E,.t D])
def Jm:List Tree:=[.v (.int .i64 0),.aa true [],.aa true [],.v (.int .i64 0),.aa true [],.v (.int .i64 0),.v (.int .i64 0),.v (.int .i64 0),.aa true [],.aa true [],.aa true [],.aa true [],.v (.int .i64 0),.aa true [],.aa true [],.aa true [],.aa true [],.aa true [],.aa true [],.v (.int .i64 0),.v (.int .i64 0),.v (.int .i64 0),.v (.int .i64 0),.v (.int .i64 0),.v (.int .i64 0),.v (.int .i64 0),.v (.int .i64 0),.aa true [],.aa true [],.aa true [],.aa true [],.aa true [],.aa true [],.aa true [],.aa true [],.aa true [],.aa true [],.aa true [],.aa true [],.aa true []]
theorem Ih:jq (.agg Jm) (.agg zF):=by
 have d:aY (.aa true []) (.aa false []):=aY.drop _ _;have r:aY (.v (.int .i64 0)) (.v (.int .i64 0)):=aY.refl _;simp[Jm,zF,fT,kE,jq,ku,d,r]
theorem K4 (N M k:Int) (E D E' D':aS) (aG C:Tree) (q:jJ)
  (hf:aH 40 [.val (.agg (fT N (.aa false (aj E)) (.aa false (aj D)) k aG C q)),.val (.agg (kT M E' D'))] ⟨[.val (tb false)],[none,none]⟩) :
  aH 14 [.val (.agg (fT N (.aa false (aj E)) (.aa false (aj D)) k aG C q)),.val (.agg (kT M E' D'))] ⟨[.val (.agg zF),.val (tb false)],[none,none]⟩:=by
 have hz:=Ih;unfold Jm at hz;unfold kT at *;generalize aj E=X,aj D=X2 at *;generalize aj E'=Y,aj D'=Y2 at *;unfold fT at *;refine an ai mixed [.val,.val] Tryz.func14 rfl rfl (by kernel_rfl) ?_;intros;rename_i zY _ _ _ _ _ _ _ _ _ _ _ _ _ _ _ _ _ _ _ _ _ _ _ _ _ _ _ _ _ _ _ _ _ _ A L F hS hF;have y:zY false=true:=by rw[hS.not];rfl
 cbv;refine hS.cl hf ?_;cbv;apply bT y;exact Fl hF hz (jq.refl _)
theorem K5 (N M k:Int) (E D E' D':aS) (aG C:Tree) (q:jJ)
  (hf:aH 40 [.val (.agg (fT N (.aa false (aj E)) (.aa false (aj D)) k aG C q)),.val (.agg (kT M E' D'))] ⟨[.val (tb true)],[none,none]⟩)
  (hw:aH 25 [.val (.agg (cT k q))] ⟨[.val (tb true)],[none]⟩) :
  aH 14 [.val (.agg (fT N (.aa false (aj E)) (.aa false (aj D)) k aG C q)),.val (.agg (kT M E' D'))] ⟨[.val (.agg (fT M (.aa false (aj E')) (.aa false (aj D')) k aG C q)),.val (tb true)],[none,none]⟩:=by
 unfold kT cT at *;generalize aj E=X,aj D=X2 at *;generalize aj E'=Y,aj D'=Y2 at *;unfold fT at *;refine an ai mixed [.val,.val] Tryz.func14 rfl rfl (by kernel_rfl) ?_;intros;rename_i zY _ _ _ _ _ _ _ _ _ _ _ _ _ _ _ _ _ _ _ _ _ _ _ _ _ _ _ _ _ _ _ _ _ _ A L F hS hF;have y:zY true=false:=by rw[hS.not];rfl
 cbv;refine hS.cl hf ?_;cbv;apply bF y;refine hS.cl hw ?_;cbv;apply bT rfl;exact aC hF
def vq (N M k:Int) (X X2 Y Y2:Abs.Rows) (aG C:Tree) (q:jJ) (av L:Abs.Rows) (m J:Int):St:=ae 91 [.af,.af,.c (.ptr 2 0 0),.c (.ptr 3 0 0),.c (.ptr 4 0 0),vb false,.c (.ptr 7 0 0),.c (.t (.aa false av)),.af,.af,.af,.af,.af,.af,.af,.af,.af,.af,.af,.af,.af,.af,.af,.af,.af,.af,.af,.af,.af,.af,.af,.af,.af,.af,.c (.t (.aa false L)),vi .i64 m,vi .i64 J] [none,none,fB N (.aa false X) (.aa false X2) k aG C q,NF M (.aa false Y) (.aa false Y2),some (.var (Jm.map .t)),none,none,fB M (.aa false Y) (.aa false Y2) k aG C q]
theorem K6 (N M k:Int) (E D E' D':aS) (aG C:Tree) (q:jJ) (av ix:List Int) (n:Nat) (b:Bool) (xT:Abs.Rows) (hk:k≠12)
  (hL:ix.length<=1000) (Ro:∀x∈ix,0<=x/\x<n) (eL:av.length=n) (hb:b=true↔∀x∈ix,0<=av.getD x.toNat (-1))
  (hf:aH 40 [.val (.agg (fT N (.aa false (aj E)) (.aa false (aj D)) k aG C q)),.val (.agg (kT M E' D'))] ⟨[.val (tb true)],[none,none]⟩)
  (hw:aH 25 [.val (.agg (cT k q))] ⟨[.val (tb false)],[none]⟩)
  (hp:aH 41 [.val (tl (aj E)),.val (tl (aj E'))] ⟨[.val (tl (W .i64 av))],[none,none]⟩)
  (hu:aH 12 [.val (.agg (fT N (.aa false (aj E)) (.aa false (aj D)) k aG C q))] ⟨[.val (tl (W .i64 ix))],[none]⟩)
  (hm:b=true->aH 42 [.val (.c aG),.val (tl (W .i64 av)),.val (ti .i64 (E'.length:Int))] ⟨[.val (tl xT)],[none,none,none]⟩) :
  aH 14 [.val (.agg (fT N (.aa false (aj E)) (.aa false (aj D)) k aG C q)),.val (.agg (kT M E' D'))] ⟨[.val (.agg (if b=true then fT M (.aa false (aj E')) (.aa false (aj D')) k (.aa false xT) C q else zF)),.val (tb b)],[none,none]⟩:=by
 have hz:=Ih;obtain⟨Av,TF⟩:=aq (W .i64 av);obtain⟨Lr,Qj⟩:=aq (W .i64 ix);obtain⟨l,hl⟩:=aq (ix.length);obtain⟨m,Uh⟩:=aq (l:Int);have Qk:Lr.length=l:=by rw[Qj,jr,hl]
 have lY:(aj E').length=E'.length:=lB _;obtain⟨el,Rp⟩:=aq (E'.length:Int);rw[<-TF]at hp hm;rw[<-Qj]at hu;rw[<-Rp]at hm;unfold kT cT at *;generalize aj E=X,aj D=X2 at *;generalize aj E'=Y,aj D'=Y2 at *;unfold fT at *;refine an ai mixed [.val,.val] Tryz.func14 rfl rfl (by kernel_rfl) fun zD zE _ _ _ _ _ _ _ _ _ _ _ zU zV zX zY _ _ _ _ zu _ zz _ _ _ _ _ _ _ ab _ _ aL ar _ _ _ _ _ _ _ _ _ _ _ _ _ _ _ A L F hS hF=>?_
 have y:zY true=false:=by rw[hS.not];rfl
 have lN:zz (ab Lr)=m:=by rw[hS.az,hS.len,Qk,Uh]
 have yN:zz (ab Y)=el:=by rw[hS.az,hS.len,lY,Rp]
 have zk:zU k 12=true:=dT (hS.ne ..) hk;cbv;refine hS.cl hf ?_;cbv;apply bF y;refine hS.cl hw ?_;cbv;apply bF rfl;refine hS.cl hp ?_;cbv;refine hS.cl hu ?_;cbv;simp only[lN];refine mV ai mixed hS (n:=l) (fun j (d:Unit)=>vq N M k X X2 Y Y2 aG C q Av Lr m (Int.ofNat j)) (fun j d=>∀x∈ix.take j,0<=av.getD x.toNat (-1)) (a0:=()) (fy ?_ ?_) rfl (Nat.le_add_left 2 6) (by simp) ?_ ?_
 ·simp[dS,vq,ae,vi,vb]
 ·simp[dU,vq,fB,fT,NF,Jm,ae]
 ·intro j d hj hd
  have l1:zV (Int.ofNat j) m=true:=by rw[<-lN];exact(hS.ic Qk hj (by omega)).1
  have i1:zD .i64 (zE (j:Int) 1)=(j:Int)+1:=(hS.ic Qk hj (by omega)).2.1;have j1:zu (Int.ofNat j)=j:=by rw[hS.nat];rfl
  have n0:zX 0 (Int.ofNat j)=true:=dT (hS.le ..) (show(0:Int)<=(j:Int) by omega);have K7:j<ix.length:=by omega
  obtain⟨x,hx⟩:∃x:Nat,(x:Int)=ix[j]:=⟨ix[j].toNat,by have:=(Ro _ (List.getElem_mem K7)).1;omega⟩;have hxn:x<n:=Int.ofNat_lt.1 (by rw[hx];exact(Ro _ (List.getElem_mem K7)).2);have fc:ix.take (j+1)=ix.take j ++ [(x:Int)]:=by rw[List.take_add_one,List.getElem?_eq_getElem K7,hx];rfl
  have g1:aL .i64 Lr j=true:=by rw[hS.gM,Qj,kY];exact decide_eq_true K7
  have g2:ar Lr j=Int.ofNat x:=by rw[hS.dK,Qj,m8,List.getD_eq_getElem?_getD,List.getElem?_eq_getElem K7];exact hx.symm
  obtain⟨a,ha⟩:=aq (av.getD x (-1));have g3:aL .i64 Av x=true:=by rw[hS.gM,TF,kY];exact decide_eq_true (by omega)
  have g4:ar Av x=a:=by rw[hS.dK,TF,m8,ha,List.getD_eq_getElem?_getD,List.getD_eq_getElem?_getD,List.getElem?_eq_getElem (show x<av.length by omega)];rfl
  have j3:zu (Int.ofNat x)=x:=by rw[hS.nat];rfl
  have n3:zX 0 (Int.ofNat x)=true:=dT (hS.le ..) (show(0:Int)<=(x:Int) by omega)
  by_cases h0:a<0
  ·have z0:zV a 0=true:=dT (hS.lt ..) h0
   have I8:b=false:=by
    cases bQ:b with
    | false=>rfl
    | true=>
     have:=hb.1 bQ (x:Int) (by rw[hx];exact List.getElem_mem K7);rw[Int.toNat_natCast,<-ha]at this;omega
   rw[I8]at hF;clear hx fc ha;cbv;apply bT l1;simp only[j1,g2,j3,g4];refine nd n0 (nd g1 (nd n3 (nd g3 (bT z0 ?_))));exact Fl hF hz (jq.refl _)
  ·have z0:zV a 0=false:=dF (hS.lt ..) h0
   have hR:∀x∈ix.take (j+1),0<=av.getD x.toNat (-1):=by
    rw[fc];intro z hz;rcases List.mem_append.1 hz with hz|hz
    ·exact hd z hz
    ·rw[List.mem_singleton.1 hz,Int.toNat_natCast,<-ha];omega
   clear hx fc ha;cbv;apply bT l1;simp only[j1,g2,j3,g4];refine nd n0 (nd g1 (nd n3 (nd g3 (bF z0 ?_))));refine aU [(2,2),(3,3),(4,4),(7,7)] () ?_ ?_ ?_ ?_ rfl (Nat.le_add_left 2 6) hR
   ·simp[bd,vq,ae,vi,vb,AV.aw,AV.aJ,Cell.aw,ak,i1]
   ·simp[bf,vq,fB,fT,NF,Jm,ae,Abs.look,ak,aA.aw,Cell.aw]
   ·simp[aF,vq,fB,fT,NF,Jm,ae,ak]
   ·simp
 ·intro d hd
  rw[List.take_of_length_le (by omega)]at hd;have WZ:b=true:=hb.2 hd;have lE:zV (Int.ofNat l) m=false:=by rw[<-lN];exact hS.fh Qk
  have cm:=hm WZ;rw[WZ]at hF;rw[if_pos rfl]at hF;cbv;refine bF lE (bT zk ?_);simp only[yN];refine hS.cl cm ?_;cbv;exact aC hF
def Jn (l:List Int):Prop:=(∀x∈l,-128<=x/\x<128)/\l.length<=281474976710656
theorem Ac (l:List Int) (hl:Jn l) (k:Int) (k0:0<=k) (k1:k<=1000) :
  ∃v:Int,-128<=v/\v<128/\aH 66 [.val (tl (W .i8 l)),.val (ti .i64 k)] ⟨[.val (ti .i64 v)],[none,none]⟩:=by
 obtain⟨X,hX⟩:=aq (W .i8 l);have lX:X.length=l.length:=by rw[hX];unfold W;exact List.length_map ..
 by_cases h0:l.length=0
 ·refine⟨0,by decide,by decide,?_⟩
  rw[<-hX];refine an ai mixed [.val] Tryz.func66 rfl rfl (by kernel_rfl) fun zD _ _ _ _ zJ _ _ _ _ _ _ zT zU _ zX _ _ _ _ _ zu _ zz _ _ _ _ _ _ _ ab _ _ aL ar _ _ _ _ _ _ _ _ _ _ _ _ _ _ _ A L F hS hF=>?_
  have z0:zT (zz (ab X)) 0=true:=by rw[hS.eq,hS.az,hS.len,lX,h0];rfl
  cbv;apply bT z0;exact aC hF
 ·obtain⟨j,hj⟩:=aq (k.toNat%l.length)
  have OD:j<l.length:=by rw[hj];exact Nat.mod_lt _ (by omega)
  obtain⟨v,hv⟩:=aq (l.getD j 0);have Rq:v∈l:=by rw[hv,List.getD_eq_getElem?_getD,List.getElem?_eq_getElem OD];exact List.getElem_mem OD
  refine⟨v,(hl.1 v Rq).1,(hl.1 v Rq).2,?_⟩;rw[<-hX];have abk:k.tmod (l.length:Int)=(j:Int):=by
   rw[Int.tmod_eq_emod_of_nonneg k0,hj,Int.natCast_emod,Int.toNat_of_nonneg k0]
  refine an ai mixed [.val] Tryz.func66 rfl rfl (by kernel_rfl) fun zD _ _ _ _ zJ _ _ _ _ _ _ zT zU _ zX _ _ _ _ _ zu _ zz _ _ _ _ _ _ _ ab _ _ aL ar _ _ _ _ _ _ _ _ _ _ _ _ _ _ _ A L F hS hF=>?_
  have z0:zT (zz (ab X)) 0=false:=by rw[hS.eq,hS.az,hS.len,lX];exact decide_eq_false (by omega)
  have z1:zU (zz (ab X)) 0=true:=by rw[hS.ne,hS.az,hS.len,lX];exact decide_eq_true (by omega)
  have e1:zJ k (zz (ab X))=(j:Int):=by rw[hS.rem,hS.az,hS.len,lX];exact abk
  have e2:zD .i64 (j:Int)=(j:Int):=by rw[hS.wrap];exact wrap_i64 (by omega) (by have:=hl.2;omega)
  have e3:zu (j:Int)=j:=by rw[hS.nat];rfl
  have n0:zX 0 (j:Int)=true:=dT (hS.le ..) (by omega);have j2:ar X j=v:=by rw[hS.dK,hX,m8];exact hv.symm
  have j3:aL .i8 X j=true:=by rw[hS.gM,hX,kY];exact decide_eq_true OD
  have e4:zD .i64 v=v:=by rw[hS.wrap];exact wrap_i64 (by have:=(hl.1 v Rq).1;omega) (by have:=(hl.1 v Rq).2;omega)
  cbv;apply bF z0;simp only[e1,e2,e3,j2,e4];refine nd z1 (nd n0 (nd j3 ?_));exact aC hF
def mF (X:Abs.Rows) (k n:Int) (len:Nat) (O:Abs.Rows) (I:Int):St:=ae 35 [.c (.t (.aa false X)),vi .i64 k,vi .i64 n,.af,.af,.af,.af,.c (.sl 3 0 len false),vi .i64 I] [none,none,none,some (.rows 1 O true false)]
theorem Rt (l:aS) (hl:∀p∈l,SP p) (hk:l.length<=1000) (k:Int) (k0:0<=k) (k1:k<=1000) (n:Nat) (n1:n<=20) :
  ∃r:aS,r.length=n/\(∀p∈r,SP p)/\aH 67 [.val (tl (aj l)),.val (ti .i64 k),.val (ti .i64 (n:Int))] ⟨[.val (tl (aj r))],[none,none,none]⟩:=by
 obtain⟨f,hf⟩:=aq (fun i=>if l.length=0 then [] else l.getD ((k.toNat+i)%l.length) []:Nat->List T2);have sp0:SP []:=⟨by simp,⟨by simp,List.Pairwise.nil⟩,by simp,by show(-1:Int)<=12;omega⟩;have Gz:∀i,SP (f i):=fun i=>by
  rw[hf];simp only;split
  ·exact sp0
  ·rename_i h
   rw[List.getD_eq_getElem?_getD,List.getElem?_eq_getElem (Nat.mod_lt _ (by omega))];exact hl _ (List.getElem_mem _)
 refine⟨(List.range n).map f,by simp,fun p hp=>by obtain⟨i,_,rfl⟩:=List.mem_map.1 hp;exact Gz i,?_⟩;obtain⟨X,hX⟩:=aq (aj l);have lX:X.length=l.length:=by rw[hX,lB]
 obtain⟨Y,hY⟩:=aq (aj ((List.range n).map f));obtain⟨nI,W3⟩:=aq (n:Int);rw[<-hX,<-hY,<-W3];refine an ai mixed [.val] Tryz.func67 rfl rfl (by kernel_rfl) fun zD zE _ _ _ zJ _ _ _ _ _ _ zT zU zV zX _ _ _ _ _ zu _ zz _ _ _ _ _ _ _ ab aB _ _ _ _ _ _ _ _ _ _ _ _ _ _ _ _ _ _ A L F hS hF=>?_
 have lE:zV (Int.ofNat n) nI=false:=by rw[hS.lt,W3];exact decide_eq_false (by show ¬((n:Int)<n);omega)
 cbv;refine fX ai mixed hS (n:=n) (fun i (O:Abs.Rows)=>mF X k nI i O (Int.ofNat i)) (fun i O=>O=aj ((List.range i).map f)) (a0:=[]) (fy ?_ ?_) rfl (by show 3<=4;omega) (by simp[aj]) ?_ ?_
 ·simp[dS,mF,ae,vi,vb]
 ·simp[dU,mF,ae]
 ·intro i O hi hO
  have c1:zV (Int.ofNat i) nI=true:=by rw[hS.lt,W3];exact decide_eq_true (by show(i:Int)<n;omega)
  have i1:zD .i64 (zE (Int.ofNat i) 1)=(i:Int)+1:=by rw[hS.add,hS.wrap];exact wrap_i64 (by show -9223372036854775808<=(i:Int)+1;omega) (by show(i:Int)+1<9223372036854775808;omega)
  have lO:i=O.length:=by rw[hO,lB];simp
  obtain⟨row,dk⟩:=aq ([.aa false (aP (f i))]:List Tree);have BA:O ++ [row]=aj ((List.range (i+1)).map f):=by rw[List.range_succ,List.map_append,hO,dk];simp[aj]
  obtain⟨u0,u1,u2,u3,u4,u5,u6,u7⟩:=hS.vg (row:=row) (w:=1) (by rw[dk];rfl) (r:=O) (len:=i) (b:=24) lO (by unfold au;omega)
  by_cases h0:l.length=0
  ·have z0:zT (zz (ab X)) 0=true:=by rw[hS.eq,hS.az,hS.len,lX,h0];rfl
   have kH:row=[.aa false []]:=by rw[dk,hf];simp[h0,aP]
   obtain⟨v1,v2⟩:=hS.whole (r:=[]) (len:=0) rfl;refine⟨?_⟩;cbv;refine bT c1 (bT z0 ?_);rw[kH]at u0 u1 u2 u3 u4 u6 u7 BA;simp only[v2,u0];refine nd v1 (nd u1 (nd u2 (nd u3 (nd u4 (nd u5 ?_)))));refine aU [(3,6)] (O ++ [[.aa false []]]) ?_ ?_ ?_ ?_ rfl (by show 3<=4;omega) BA
   ·simp[bd,mF,ae,vi,AV.aw,AV.aJ,Cell.aw,ak,u6]
    exact i1
   ·simp[bf,mF,ae,Abs.look,ak,aA.aw,u7,Cell.aw]
   ·simp[aF,mF,ae,ak]
   ·simp
  ·obtain⟨j,hj⟩:=aq ((k.toNat+i)%l.length)
   have OD:j<l.length:=by rw[hj];exact Nat.mod_lt _ (by omega)
   have W4:f i=l[j]:=by rw[hf];simp only[if_neg h0];rw[<-hj,List.getD_eq_getElem?_getD,List.getElem?_eq_getElem OD];rfl
   have z0:zT (zz (ab X)) 0=false:=by rw[hS.eq,hS.az,hS.len,lX];exact decide_eq_false (by omega)
   have z1:zU (zz (ab X)) 0=true:=by rw[hS.ne,hS.az,hS.len,lX];exact decide_eq_true (by omega)
   have e0:zD .i64 (zE k (Int.ofNat i))=k+(i:Int):=by rw[hS.add,hS.wrap];exact wrap_i64 (by show -9223372036854775808<=k+(i:Int);omega) (by show k+(i:Int)<9223372036854775808;omega)
   have e1:zJ (k+(i:Int)) (zz (ab X))=(j:Int):=by
    rw[hS.rem,hS.az,hS.len,lX,Int.tmod_eq_emod_of_nonneg (by omega),hj,Int.natCast_emod,Int.natCast_add,Int.toNat_of_nonneg k0]
   have e2:zD .i64 (j:Int)=(j:Int):=by rw[hS.wrap];exact wrap_i64 (by omega) (by omega)
   have e3:zu (j:Int)=j:=by rw[hS.nat];rfl
   have n0:zX 0 (j:Int)=true:=dT (hS.le ..) (by omega);have j2:aB X j=some row:=by rw[hS.nth,hX,dk,W4];simp[aj,OD]
   rw[dk]at u0 u1 u2 u3 u4 u6 u7 BA j2;generalize aP (f i)=Z at *;refine⟨?_⟩;cbv;refine bT c1 (bF z0 ?_);simp only[e0,e1,e2,e3,j2];cbv;simp only[u0];refine nd z1 (nd n0 (nd u1 (nd u2 (nd u3 (nd u4 (nd u5 ?_))))));refine aU [(3,5)] (O ++ [[.aa false Z]]) ?_ ?_ ?_ ?_ rfl (by show 3<=4;omega) BA
   ·simp[bd,mF,ae,vi,AV.aw,AV.aJ,Cell.aw,ak,u6]
    exact i1
   ·simp[bf,mF,ae,Abs.look,ak,aA.aw,u7,Cell.aw]
   ·simp[aF,mF,ae,ak]
   ·simp
 ·intro O hO
  obtain⟨v1,v2⟩:=hS.whole (r:=O) (len:=n) (by rw[hO,lB];simp);rw[<-hY]at hO;rw[hO]at v1 v2;subst hO;refine⟨?_⟩;cbv;apply bF lE;rw[v2];apply nd v1;exact aC hF
def uo (X:Abs.Rows) (r c:Int) (len:Nat) (O:Abs.Rows) (I:Int):St:=ae 25 [.c (.t (.aa false X)),vi .i64 r,vi .i64 c,.af,.af,.af,.af,.c (.sl 3 0 len false),vi .i64 I] [none,none,none,some (.rows 1 O true false)]
def K8 (t:fi) (r c:Nat):Prop:=t.length=r/\∀p∈t,p.length=c/\∀q∈p,SP q
theorem ke (l:aS) (hl:∀p∈l,SP p) (hk:l.length<=1000) (r c:Nat) (r1:r<=10) (c1:c<=10) :
  ∃t,K8 t r c/\aH 71 [.val (tl (aj l)),.val (ti .i64 (r:Int)),.val (ti .i64 (c:Int))] ⟨[.val (tl (dL t))],[none,none,none]⟩:=by
 have hP:=fun i:Nat=>Rt l hl hk (if i<10 then(i:Int)*(c:Int) else 0) (by split;exact Int.mul_nonneg (by omega) (by omega);omega) (by
  split
  ·have:(i:Int)*(c:Int)<=10*10:=Int.mul_le_mul (by omega) (by omega) (by omega) (by omega)
   omega
  ·omega) c (by omega)
 obtain⟨f,hf⟩:=Classical.axiomOfChoice hP;refine⟨(List.range r).map f,⟨by simp,fun p hp=>by obtain⟨i,_,rfl⟩:=List.mem_map.1 hp;exact⟨(hf i).1,(hf i).2.1⟩⟩,?_⟩;have hC:∀i:Nat,i<10->aH 67 [.val (tl (aj l)),.val (ti .i64 ((i:Int)*(c:Int))),.val (ti .i64 (c:Int))] ⟨[.val (tl (aj (f i)))],[none,none,none]⟩:=fun i hi=>by
  have:=(hf i).2.2;rw[if_pos hi]at this;exact this
 clear hf hP;obtain⟨Y,hY⟩:=aq (dL ((List.range r).map f));obtain⟨rI,hrI⟩:=aq (r:Int);obtain⟨cI,hcI⟩:=aq (c:Int);have XW:0<=cI/\cI<=10:=by omega
 rw[<-hY,<-hrI,<-hcI];rw[<-hcI]at hC;generalize aj l=X at *;refine an ai mixed [.val] Tryz.func71 rfl rfl (by kernel_rfl) fun zD zE _ zH _ _ _ _ _ _ _ _ _ _ zV _ _ _ _ _ _ _ _ _ _ _ _ _ _ _ _ _ _ _ _ _ _ _ _ _ _ _ _ _ _ _ _ _ _ _ _ A L F hS hF=>?_
 have lE:zV (Int.ofNat r) rI=false:=by rw[hS.lt,hrI];exact decide_eq_false (by show ¬((r:Int)<r);omega)
 cbv;refine fX ai mixed hS (n:=r) (fun i (O:Abs.Rows)=>uo X rI cI i O (Int.ofNat i)) (fun i O=>O=dL ((List.range i).map f)) (a0:=[]) (fy ?_ ?_) rfl (by show 3<=4;omega) (by simp[dL]) ?_ ?_
 ·simp[dS,uo,ae,vi,vb]
 ·simp[dU,uo,ae]
 ·intro i O hi hO
  have d1:zV (Int.ofNat i) rI=true:=by rw[hS.lt,hrI];exact decide_eq_true (by show(i:Int)<r;omega)
  have i1:zD .i64 (zE (Int.ofNat i) 1)=(i:Int)+1:=by rw[hS.add,hS.wrap];exact wrap_i64 (by show -9223372036854775808<=(i:Int)+1;omega) (by show(i:Int)+1<9223372036854775808;omega)
  have hb:(i:Int)*cI<=10*10:=Int.mul_le_mul (by omega) XW.2 XW.1 (by omega);have En:0<=(i:Int)*cI:=Int.mul_nonneg (by omega) XW.1;have e0:zD .i64 (zH (Int.ofNat i) cI)=(i:Int)*cI:=by rw[hS.mul,hS.wrap];exact wrap_i64 (by show -9223372036854775808<=(i:Int)*cI;omega) (by show(i:Int)*cI<9223372036854775808;omega)
  have lO:i=O.length:=by rw[hO,mD];simp
  have cp:=hC i (by omega);have BA:O ++ [[.aa false (aj (f i))]]=dL ((List.range (i+1)).map f):=by rw[List.range_succ,List.map_append,hO];simp[dL]
  obtain⟨u0,u1,u2,u3,u4,u5,u6,u7⟩:=hS.vg (row:=[.aa false (aj (f i))]) (w:=1) rfl (r:=O) (len:=i) (b:=24) lO (by unfold au;omega);generalize aj (f i)=Z at *;refine⟨?_⟩;cbv;apply bT d1;simp only[e0];refine hS.cl cp ?_;cbv;simp only[u0];refine nd u1 (nd u2 (nd u3 (nd u4 (nd u5 ?_))));refine aU [(3,7)] (O ++ [[.aa false Z]]) ?_ ?_ ?_ ?_ rfl (by show 3<=4;omega) BA
  ·simp[bd,uo,ae,vi,AV.aw,AV.aJ,Cell.aw,ak,u6]
   exact i1
  ·simp[bf,uo,ae,Abs.look,ak,aA.aw,u7,Cell.aw]
  ·simp[aF,uo,ae,ak]
  ·simp
 ·intro O hO
  obtain⟨v1,v2⟩:=hS.whole (r:=O) (len:=r) (by rw[hO,mD];simp);rw[<-hY]at hO;rw[hO]at v1 v2;subst hO;refine⟨?_⟩;cbv;apply bF lE;rw[v2];apply nd v1;exact aC hF
end Go.Proofs.YtekefilngojelaaGreat
end
