/- A part of the proof. -/
import Derived.Test.YtekefilngojelaaGreatM9
import Derived.Test.YtekefilngojelaaGreatM12
import Derived.Test.YtekefilngojelaaGreatM13
import Derived.Test.YtekefilngojelaaGreatM15
import Derived.Test.YtekefilngojelaaGreatM17
set_option maxHeartbeats 0
set_option maxRecDepth 100000
set_option linter.unusedVariables false
set_option linter.unusedSimpArgs false
set_option linter.unusedSectionVars false
section
namespace Go.Proofs.YtekefilngojelaaGreat
open Go Go.Abs Go.Abs.M Go.Proofs
structure BW where
 N:Int
 X1:Abs.Rows
 X2:Abs.Rows
 X3:Abs.Rows
 X4:Abs.Rows
 X5:Abs.Rows
 X6:Abs.Rows
 r0:Int
 r1:Int
 r2:Int
 r3:Int
 r4:Int
 r5:Int
 r6:Int
 r7:Int
 Y0:Abs.Rows
 Y1:Abs.Rows
 Y2:Abs.Rows
 Y3:Abs.Rows
 Y4:Abs.Rows
 Y5:Abs.Rows
 Y6:Abs.Rows
 Y7:Abs.Rows
 Y8:Abs.Rows
 Z1:Abs.Rows
 Z2:Abs.Rows
 Z3:Abs.Rows
 Z4:Abs.Rows
def BW.row (x:BW):List Tree:=[.v (.int .i64 x.N),.aa false x.X1,.aa false x.X2,.aa false x.X3,.aa false x.X4,.aa false x.X5,.aa false x.X6,.v (.int .i64 x.r0),.v (.int .i64 x.r1),.v (.int .i64 x.r2),.v (.int .i64 x.r3),.v (.int .i64 x.r4),.v (.int .i64 x.r5),.v (.int .i64 x.r6),.v (.int .i64 x.r7),.aa false x.Y0,.aa false x.Y1,.aa false x.Y2,.aa false x.Y3,.aa false x.Y4,.aa false x.Y5,.aa false x.Y6,.aa false x.Y7,.aa false x.Y8,.aa false x.Z1,.aa false x.Z2,.aa false x.Z3,.aa false x.Z4]
theorem uV (N:Int) (hN:2<=N/\N<=4) (E:List (List T2)) (X:Abs.Rows) (x:BW) (all:Bool) (G:List (List T2)) (O:List R8) (C Q Sx:List (List (List T2)))
  (hE:E.length<=6) (hG:(∀p∈G,VP p 64)/\G.length<=3) (hO:JL O) (hC:Xu C G.length E.length)
  (hQ:all=true->Xu Q E.length G.length/\Xu Sx (G.length*(G.length-1)/2) G.length)
  (e2:x.X2=an G) (e3:x.X3=gD O) (e4:x.X4=di C) (e5:x.X5=di Q) (e6:x.X6=di Sx) :
  ah Tryz.prog 88 [.val (.agg [.v (.int .i64 N),.aa false (an E),.aa false X]),.val (.agg x.row),.val (tb all)] ⟨[.val (tb true)],[none,none,none]⟩:=by
 obtain⟨xN,X1,X2,X3,X4,X5,X6,r0,r1,r2,r3,r4,r5,r6,r7,Y0,Y1,Y2,Y3,Y4,Y5,Y6,Y7,Y8,Z1,Z2,Z3,Z4⟩:=x;simp only at e2 e3 e4 e5 e6;simp only[BW.row];obtain⟨g,hg⟩:∃g,g=G.length:=⟨_,rfl⟩;obtain⟨m,hm⟩:∃m,m=E.length:=⟨_,rfl⟩;have lg:X2.length=g:=by rw[e2,nU,hg]
 have lm:(an E).length=m:=by rw[nU,hm]
 have cF:=jD G N hN hG.1 (by have:=hG.2;omega);have cO:=sw O hO;rw[<-hg,<-hm]at hC hQ;have hg3:g<=3:=by rw[hg];exact hG.2
 have hm6:m<=6:=by rw[hm];exact hE
 have cC:=jZ C g m N hN hC (by omega) (by omega);have cQ:=fun h=>jZ Q m g N hN (hQ h).1 (by omega) (by omega)
 have cS:=fun h=>jZ Sx (g*(g-1)/2) g N hN (hQ h).2 (by
  have:g=0∨g=1∨g=2∨g=3:=by omega
  rcases this with rfl|rfl|rfl|rfl<;>decide) (by omega)
 rw[<-e2]at cF;rw[<-e3]at cO;rw[<-e4]at cC;rw[<-e5]at cQ;rw[<-e6]at cS;clear e2 e3 e4 e5 e6 hC hQ hG hO;obtain⟨gI,Qx⟩:∃i:Int,i=(g:Int):=⟨_,rfl⟩;obtain⟨mI,Ab⟩:∃i:Int,i=(m:Int):=⟨_,rfl⟩;obtain⟨sI,L4⟩:∃i:Int,i=((g*(g-1)/2:Nat):Int):=⟨_,rfl⟩;rw[<-Qx]at cC cQ cS;rw[<-Ab]at cC cQ;rw[<-L4]at cS;generalize an E=XE at *;refine ar aj mixed [.val] Tryz.func88 rfl rfl (by kernel_rfl) fun zD _ zG zH zI _ _ _ _ _ _ _ _ _ zV _ zY _ _ _ _ _ _ zz _ _ _ _ _ _ _ ab _ _ _ _ _ _ _ _ _ _ _ _ _ _ _ _ _ _ _ A L F hS hF=>?_
 have eg:zz (ab X2)=gI:=by rw[hS.aB,hS.len,lg,Qx]
 have em:zz (ab XE)=mI:=by rw[hS.aB,hS.len,lm,Ab]
 have y:zY true=false:=by rw[hS.not];rfl
 have y2:zY false=true:=by rw[hS.not];rfl
 have g64:zV 64 gI=false:=by rw[hS.lt];exact decide_eq_false (by omega)
 have es:zD .i64 (zI (zD .i64 (zH gI (zD .i64 (zG gI 1)))) 2)=sI:=by
  have w1:zD .i64 (zG gI 1)=gI-1:=by rw[hS.sub,hS.wrap];exact wrap_i64 (by omega) (by omega)
  rw[w1,hS.mul,hS.quo,Qx,L4];have:g=0∨g=1∨g=2∨g=3:=by omega
  rcases this with rfl|rfl|rfl|rfl<;>rw[hS.wrap,hS.wrap]<;>decide
 clear Qx Ab L4 lg lm;refine dL ?_;cbv;simp only[eg,em];refine tF g64 ?_;cbv;refine⟨_,hS.call cF,?_⟩;cbv;refine tF y ?_;cbv;refine⟨_,hS.call cO,?_⟩;cbv;refine tF y ?_;cbv;refine⟨_,hS.call cC,?_⟩;cbv;refine tF y ?_;cbv;cases all with
 | false=>
  refine tT y2 ?_;cbv;exact hF _ (ak.refl _)
 | true=>
  refine tF y ?_;cbv;refine⟨_,hS.call ((cQ rfl)),?_⟩;cbv;refine tT rfl ?_;cbv;simp only[es];refine⟨_,hS.call ((cS rfl)),?_⟩;cbv;exact hF _ (ak.refl _)
end Go.Proofs.YtekefilngojelaaGreat
end
section
namespace Go.Abs
def bJ (z:Int->Int->Int) (a b:Int):Int:=match a,b with
 | .ofNat n,.ofNat m=>.ofNat (n%m)
 | a,b=>z a b
def xR (z:Int->Int->Int) (a b:Int):Int:=match a,b with
 | .ofNat n,.ofNat m=>.ofNat (n/m)
 | a,b=>z a b
def Iv (z:Int->Int->Nat) (a b:Int):Nat:=match a,b with
 | .ofNat n,.ofNat m=>n-m
 | a,b=>z a b
def Iw (z:Int->Int->Nat->Bool) (a b:Int) (c:Nat):Bool:=match a,b with
 | .ofNat n,.ofNat m=>Nat.ble n m&&Nat.ble m c
 | a,b=>z a b c
def xS (z:Nat->Nat->Nat->Bool) (a b c:Nat):Bool:=match Nat.blt ((a+b)*c) 1000000 with
 | true=>true
 | false=>z a b c
def xT (z:Int->Int->Nat->Bool) (a b:Int) (c:Nat):Bool:=match a,b with
 | .ofNat n,.ofNat m=>(match Nat.ble n m&&Nat.blt (m*c) 1000000 with|true=>true|false=>z a b c)
 | a,b=>z a b c
def ue:Rows->Nat->Option (List Tree)
 | [],_=>none
 | x::_,0=>some x
 | _::l,n+1=>ue l n
def Ix (a b:Nat) (r:Rows):Bool:=Nat.ble (a+b) r.length
def BX (r:Rows) (a n:Nat):Rows:=(r.drop a).take n
def Lh (r:Rows) (a:Nat) (x:Rows):Rows:=r.drop a++x
def sA (a:Nat):Rows->Bool
 | []=>true
 | x::l=>Nat.beq x.length a&&sA a l
def Li:Bool->Bool->Bool
 | true,b=>b
 | false,true=>false
 | false,false=>true
def Lj:Bool->Bool->Bool
 | true,true=>false
 | true,false=>true
 | false,b=>b
def eqK (a b:IntKind):Bool:=match a,b with
 | .i64,.i64=>true
 | .i8,.i8=>true
 | .u8,.u8=>true
 | a,b=>a==b
def Iy (k:IntKind) (l:Rows) (i:Nat):Bool:=match ue l i with
 | some [.v (.int k' _)]=>eqK k' k
 | _=>false
def xU (l:Rows) (i:Nat):Int:=match ue l i with
 | some [.v (.int _ x)]=>x
 | _=>0
def BY (k:IntKind) (l:Rows) (i:Nat) (x:Int):Rows:=l.set i [.v (.int k x)]
theorem T7 (a b:IntKind):eqK a b=(a==b):=by unfold eqK;split<;>rfl
theorem vY:∀(r:Rows) (i:Nat),ue r i=r[i]?
 | [],i=>by simp[ue]
 | x::l,0=>by simp[ue]
 | x::l,n+1=>by simp[ue,vY l n]
theorem Gz (a:Nat):∀r:Rows,sA a r=r.all fun x=>x.length==a
 | []=>rfl
 | x::l=>by rw[sA,List.all_cons,Gz a l,show Nat.beq x.length a=(x.length==a) from by rw[Bool.eq_iff_iff];simp]
theorem NZ:1000000<=az:=by unfold az;omega
section
variable {P:Program} {C:eh} {n0:Nat} {zD:IntKind->Int->Int} {zE zG zH zI zJ:Int->Int->Int} {zK zM zN zO zR zS:IntKind->Int->Int->Int} {zT zU zV zX:Int->Int->Bool} {zY:Bool->Bool} {zZ zg:Bool->Bool->Bool} {zh zj:Int->Int->Int} {zu:Int->Nat} {zy:Int->Nat->Bool} {zz:Nat->Int} {bd:Nat->Int->Nat} {ao:Nat->Nat->Bool} {aJ:Nat->Nat->Nat} {bN:Int->Int->Nat} {bE:Int->Int->Nat->Bool} {aO:Nat->Nat->Nat->Bool} {aR:Int->Int->Nat->Bool} {ab:Rows->Nat} {aD:Rows->Nat->Option (List Tree)} {bz:Rows->Nat->List Tree->Rows} {aL:IntKind->Rows->Nat->Bool} {aw:Rows->Nat->Int} {aP:IntKind->Rows->Nat->Int->Rows} {a9:Nat->Nat->Rows->Bool} {aE:Rows->Nat->Nat->Rows} {bQ bA:Rows->Nat->Rows->Rows} {bO:Nat->List Tree->Rows} {aN:Nat->Rows->Bool} {dc:List Bool->Bool} {de bg:List (Value×Tree)->Value->Bool} {bc:List (Value×Tree)->Value->Tree->List (Value×Tree)} {bX:Rows->Option ByteArray} {aY:List (Value×Tree)->Value->Option (Option Tree)} {zW:IntKind->List Int->Rows} {lK:(α:Type)->(Unit->α)->α} {A:FuncId->Ask->pf->Prop} {L:Code->St->(bf->ST->Prop)->Prop}
theorem Std.lits (h:Std P n0 zD zE zG zH zI zJ zK zM zN zO zR zS zT zU zV zX zY zZ zg zh zj zu zy zz bd ao aJ bN bE aO aR ab aD bz aL aw aP a9 aE bQ bA bO aN dc de bg bc bX aY zW lK A L):∃zr zq zd zc zo zm,zJ=bJ zr/\zI=xR zq/\bN=Iv zd/\bE=Iw zc/\aO=xS zo/\aR=xT zm/\zz=Int.ofNat/\ao=Nat.beq/\aJ=Nat.add/\ab=List.length/\aD=ue/\bz=List.set/\a9=Ix/\aE=BX/\bQ=Lh/\bO=List.replicate/\aN=sA/\zZ=Li/\zg=Lj/\aL=Iy/\aw=xU/\aP=BY/\bA=aX:=by
 refine⟨zJ,zI,bN,bE,aO,aR,?_,?_,?_,?_,?_,?_,?_,?_,?_,?_,?_,?_,?_,?_,?_,?_,?_,?_,?_,?_,?_,?_,?_⟩
 ·funext a b
  unfold bJ;split
  ·rw[h.rem];rfl
  ·rfl
 ·funext a b
  unfold xR;split
  ·rw[h.quo];rfl
  ·rfl
 ·funext a b
  unfold Iv;split
  ·rw[h.Kv];rfl
  ·rfl
 ·funext a b c
  unfold Iw;split
  ·rename_i n m
   rw[h.cut];show decide ((0:Int)<=(n:Int)/\(n:Int)<=(m:Int)/\(m:Int)<=(c:Int))=(Nat.ble n m&&Nat.ble m c)
   rw[Bool.eq_iff_iff];simp
  ·rfl
 ·funext a b c
  unfold xS;split
  ·rename_i e
   rw[h.room];have:=Nat.le_of_ble_eq_true e;exact decide_eq_true (by have:=NZ;omega)
  ·rfl
 ·funext a b c
  unfold xT;split
  ·rename_i n m
   split
   ·rename_i e
    rw[h.nq];simp only[Bool.and_eq_true]at e;have e1:=Nat.le_of_ble_eq_true e.1;have e2:=Nat.le_of_ble_eq_true e.2;refine decide_eq_true ⟨?_,?_,?_⟩
    ·show(0:Int)<=(n:Int);omega
    ·show(n:Int)<=(m:Int);omega
    ·have:=NZ
     show(m:Int)*(c:Int)<=(az:Int)
     have:((m*c:Nat):Int)<=(az:Int):=by omega
     simpa using this
   ·rfl
  ·rfl
 ·funext a;rw[h.aB];rfl
 ·funext a b;rw[h.neq,Bool.eq_iff_iff];simp
 ·funext a b;rw[h.fH];rfl
 ·funext a;rw[h.len]
 ·funext a b;rw[h.nth,vY]
 ·funext a b c;rw[h.Fl]
 ·funext a b c;rw[h.fit];unfold Ix;rw[Bool.eq_iff_iff];simp
 ·funext a b c;rw[h.part];rfl
 ·funext a b c;rw[h.ext];rfl
 ·funext a b;rw[h.rep]
 ·funext a b;rw[h.wide,Gz]
 ·funext a b;rw[h.beq];cases a<;>cases b<;>rfl
 ·funext a b;rw[h.bne];cases a<;>cases b<;>rfl
 ·funext a b c;rw[h.gE];unfold Iy;rw[vY];simp only[T7];rfl
 ·funext a b;rw[h.dF];unfold xU;rw[vY];rfl
 ·funext a b c d;rw[h.oP];rfl
 ·funext a b c;rw[h.yG]
end
section
variable {P:Program} {C:eh}
theorem ep (hC:bq P C) (eS:P.follows .mixedOrders=true) {f:FuncId} {fn:Func} {c:Code} {args:List Arg} {res:mB} (om:List Mode) (jm:P.funcs[f]?=some fn) (fb:(fn.name == "runtime.NumGoroutine")=false) (dB:fn.body=some c) (hT:iY c=true)
  (h:∀(zD:IntKind->Int->Int) (zE zG zH zI zJ:Int->Int->Int) (zK zM zN zO zR zS:IntKind->Int->Int->Int) (zT zU zV zX:Int->Int->Bool) (zY:Bool->Bool) (zh zj:Int->Int->Int) (zu:Int->Nat) (zy:Int->Nat->Bool) (bd:Nat->Int->Nat) (bN:Int->Int->Nat) (bE:Int->Int->Nat->Bool) (aO:Nat->Nat->Nat->Bool) (aR:Int->Int->Nat->Bool) (dc:List Bool->Bool) (de bg:List (Value×Tree)->Value->Bool) (bc:List (Value×Tree)->Value->Tree->List (Value×Tree)) (bX:Rows->Option ByteArray) (aY:List (Value×Tree)->Value->Option (Option Tree)) (zW:IntKind->List Int->Rows) (lK:(α:Type)->(Unit->α)->α) A L (F:mB->Prop),Std P args.length (aA zD) (dU zE) (mK zG) (ny zH) (xR zI) (bJ zJ) zK zM zN zO zR zS (fo zT) (Jm zU) (mD zV) (sT zX) (rH zY) Li Lj zh zj (rE zu) (rF zy) Int.ofNat (rG bd) Nat.beq Nat.add (Iv bN) (Iw bE) (xS aO) (xT aR) List.length ue List.set Iy xU BY Ix BX Lh aX List.replicate sA dc de bg bc bX aY zW lK A L->(∀r,ak r res->F r)->eo (ZI.mk (aA zD) (dU zE) (mK zG) (ny zH) (xR zI) (bJ zJ) zK zM zN zO zR zS (fo zT) (Jm zU) (mD zV) (sT zX) (rH zY) Li Lj zh zj (rE zu) (rF zy) Int.ofNat (rG bd) Nat.beq Nat.add (Iv bN) (Iw bE) (xS aO) (xT aR) List.length ue List.set Iy xU BY Ix BX Lh aX List.replicate sA dc de bg bc bX aY) C A L c (ST.lI (kL (ZI.mk (aA zD) (dU zE) (mK zG) (ny zH) (xR zI) (bJ zJ) zK zM zN zO zR zS (fo zT) (Jm zU) (mD zV) (sT zX) (rH zY) Li Lj zh zj (rE zu) (rF zy) Int.ofNat (rG bd) Nat.beq Nat.add (Iv bN) (Iw bE) (xS aO) (xT aR) List.length ue List.set Iy xU BY Ix BX Lh aX List.replicate sA dc de bg bc bX aY) args fn.ntmps)) fun e s=>match e with
   | .exit _=>False
   | .normal=>yK (ZI.mk (aA zD) (dU zE) (mK zG) (ny zH) (xR zI) (bJ zJ) zK zM zN zO zR zS (fo zT) (Jm zU) (mD zV) (sT zX) (rH zY) Li Lj zh zj (rE zu) (rF zy) Int.ofNat (rG bd) Nat.beq Nat.add (Iv bN) (Iw bE) (xS aO) (xT aR) List.length ue List.set Iy xU BY Ix BX Lh aX List.replicate sA dc de bg bc bX aY) C s args fn.results.toList om F
   | .ret=>yK (ZI.mk (aA zD) (dU zE) (mK zG) (ny zH) (xR zI) (bJ zJ) zK zM zN zO zR zS (fo zT) (Jm zU) (mD zV) (sT zX) (rH zY) Li Lj zh zj (rE zu) (rF zy) Int.ofNat (rG bd) Nat.beq Nat.add (Iv bN) (Iw bE) (xS aO) (xT aR) List.length ue List.set Iy xU BY Ix BX Lh aX List.replicate sA dc de bg bc bX aY) C s args fn.results.toList om F):ah P f args res:=by
 refine dC hC eS om jm fb dB hT fun zD zE zG zH zI zJ zK zM zN zO zR zS zT zU zV zX zY _ _ zh zj zu zy _ bd _ _ bN bE aO aR _ _ _ _ _ _ _ _ _ _ _ _ dc de bg bc bX aY zW lK A L F hS hF=>?_
 obtain⟨zr,zq,zd,zc,zo,zm,rfl,rfl,rfl,rfl,rfl,rfl,rfl,rfl,rfl,rfl,rfl,rfl,rfl,rfl,rfl,rfl,rfl,rfl,rfl,rfl,rfl,rfl,rfl⟩:=hS.lits;exact dL (h _ _ _ _ _ _ _ _ _ _ _ _ _ _ _ _ _ _ _ _ _ _ _ _ _ _ _ _ _ _ _ _ _ _ _ _ _ hS hF)
end
end Go.Abs
end
section
namespace Go.Proofs.YtekefilngojelaaGreat
open Go Go.Abs Go.Abs.M Go.Proofs
theorem IA (R:List Tree) (hR:∃a b c,R=[a,b,c]) (N k cn cd cr:Int) (XE XD P O Lc Sg B:Abs.Rows) (x:BW)
  (cK:ah Tryz.prog 31 [.val (.agg R)] ⟨[.val (.agg [.v (.int .i64 N),.aa false XE,.aa false XD])],[none]⟩)
  (cC:ah Tryz.prog 32 [.val (.agg R)] ⟨[.val (.agg [.v (.int .i64 k),.aa false P,.v (.int .i64 cn),.v (.int .i64 cd),.v (.int .i64 cr),.aa false O,.aa false Lc,.aa false Sg,.aa false B])],[none]⟩)
  (cE:ah Tryz.prog 33 [.val (.agg R),.val (.agg [.v (.int .i64 N),.aa false XE,.aa false XD]),.val (.agg [.v (.int .i64 k),.aa false P,.v (.int .i64 cn),.v (.int .i64 cd),.v (.int .i64 cr),.aa false O,.aa false Lc,.aa false Sg,.aa false B])] ⟨[.val (.agg x.row)],[none,none,none]⟩) :
  ah Tryz.prog 9 [.val (.agg R)] ⟨[.val (.agg (.v (.int .i64 N) :: .aa false XE :: .aa false XD :: .v (.int .i64 k) :: .aa false P :: .v (.int .i64 cn) :: .v (.int .i64 cd) :: .v (.int .i64 cr) :: .aa false O :: .aa false Lc :: .aa false Sg :: .aa false B::x.row))],[none]⟩:=by
 obtain⟨a,b,c,rfl⟩:=hR;obtain⟨xN,X1,X2,X3,X4,X5,X6,r0,r1,r2,r3,r4,r5,r6,r7,Y0,Y1,Y2,Y3,Y4,Y5,Y6,Y7,Y8,Z1,Z2,Z3,Z4⟩:=x;simp only[BW.row]at cE ⊢;refine ar aj mixed [.val] Tryz.func9 rfl rfl (by kernel_rfl) ?_;intros;rename_i A L F hS hF;cbv;refine⟨_,hS.call cK,?_⟩;cbv;refine⟨_,hS.call cC,?_⟩;cbv;refine⟨_,hS.call cE,?_⟩;cbv;exact hF _ (ak.refl _)
open Go Go.Abs Go.Abs.M Go.Proofs
structure Q8.fit (x:Q8):Prop where
 a0:Qs x.a0 100
 a1:x.a1=0
 a2:x.a2=0
 a3:x.a3=0
 a4:x.a4=0
 a5:x.a5=0
 a6:x.a6=0
 a7:x.a7=0
def gY (X:Abs.Rows) (n I:Int):St:=ae 43 [.c (.t (.aa false X)),vi .i64 n,.af,.af,vb false,vi .i64 I] [none,none]
theorem q0s:Qs (0:Rat) 1000000:=by have:=Qs.whole (n:=0) (k:=1000000) (by decide) (by omega);exact this
theorem Ac (l:List Q8) (n:Int) (hn:2<=n/\n<=4) (hl:∀x∈l,x.fit) (hk:l.length<=64):ah Tryz.prog 86 [.val (tl (Er l)),.val (ti .i64 n)] ⟨[.val (tb true)],[none,none]⟩:=by
 obtain⟨X,hX⟩:∃X,X=Er l:=⟨_,rfl⟩;obtain⟨k,ta⟩:∃n,n=l.length:=⟨_,rfl⟩;have lX:X.length=k:=by rw[hX,JH,ta]
 rw[<-hX];have cz:=xL;have cv:=RE q0s;obtain⟨zs,zt,zr,zq,zw,_⟩:=bD 0;rw[zw]at cz cv;obtain rfl|rfl|rfl:n=2∨n=3∨n=4:=by omega
 ·refine dC aj mixed [.val] Tryz.func86 rfl rfl (by kernel_rfl) fun zD zE _ _ _ _ _ _ _ _ _ _ _ _ _ zX _ _ _ _ _ _ _ zz _ _ _ _ _ _ _ ab aD _ _ _ _ _ _ _ _ _ _ _ _ _ _ _ _ _ _ A L F hS hF=>?_
  have lE:=hS.eU lX;have Es:sT zX (zz (ab X)) 64=true:=by rw[hS.le,hS.aB,hS.len,lX];exact decide_eq_true (by omega)
  cbv;refine fA aj mixed hS (n:=k) (fun i (_:Unit)=>gY X 2 (Int.ofNat i)) (fun i _=>True) (a0:=()) (fi ?_ ?_) rfl (by show 2<=2;omega) trivial ?_ ?_
  ·simp[dO,gY,ae,vi,vb]
  ·simp[dP,gY,ae]
  ·rintro i ⟨⟩ hi -
   have c1:=(hS.gC lX hi (by omega)).1;have i1:aA zD .i64 (dU zE (Int.ofNat i) 1)=(i:Int)+1:=(hS.gC lX hi (by omega)).2.1;obtain⟨x,kY,hr,_⟩:=JI (l:=l) (i:=i) (by omega);have hx:=hl x kY;have d0:=RE (hx.a0.mono (by omega):Qs x.a0 1000000);have j2:aD X i=some (OP x):=by rw[hS.nth,hX];exact hr
   unfold OP at j2;rw[hx.a1,hx.a2,hx.a3,hx.a4,hx.a5,hx.a6,hx.a7]at j2;obtain⟨s0,t0,r0,q0,w0,_⟩:=bD x.a0;rw[w0]at d0;rw[w0,zw]at j2;clear w0 hx hr;cbv at j2;cbv at i1;refine⟨?_⟩;refine dL ?_;cbv;refine tT c1 ?_;cbv;refine aU aj mixed hS (9) ?_;cbv;repeat (first|apply bT rfl|apply bF rfl|apply nd rfl|(simp only[j2];cbv)|(refine⟨_,hS.call d0,?_⟩;cbv)|(refine⟨_,hS.call cv,?_⟩;cbv)|(refine⟨_,hS.call cz,?_⟩;cbv)|(simp only[i1];cbv))
   refine aQ [] () ?_ ?_ ?_ ?_ rfl (by show 2<=2;omega) trivial
   ·simp[aZ,gY,ae,vi,vb,AV.ay,AV.aI,Cell.ay]
   ·simp[a8,gY,ae]
   ·simp[aF,gY,ae]
   ·simp
  ·rintro⟨⟩ -
   refine⟨?_⟩;cbv;refine bF lE ?_;exact bn hF (jz Es)
 ·refine dC aj mixed [.val] Tryz.func86 rfl rfl (by kernel_rfl) fun zD zE _ _ _ _ _ _ _ _ _ _ _ _ _ zX _ _ _ _ _ _ _ zz _ _ _ _ _ _ _ ab aD _ _ _ _ _ _ _ _ _ _ _ _ _ _ _ _ _ _ A L F hS hF=>?_
  have lE:=hS.eU lX;have Es:sT zX (zz (ab X)) 64=true:=by rw[hS.le,hS.aB,hS.len,lX];exact decide_eq_true (by omega)
  cbv;refine fA aj mixed hS (n:=k) (fun i (_:Unit)=>gY X 3 (Int.ofNat i)) (fun i _=>True) (a0:=()) (fi ?_ ?_) rfl (by show 2<=2;omega) trivial ?_ ?_
  ·simp[dO,gY,ae,vi,vb]
  ·simp[dP,gY,ae]
  ·rintro i ⟨⟩ hi -
   have c1:=(hS.gC lX hi (by omega)).1;have i1:aA zD .i64 (dU zE (Int.ofNat i) 1)=(i:Int)+1:=(hS.gC lX hi (by omega)).2.1;obtain⟨x,kY,hr,_⟩:=JI (l:=l) (i:=i) (by omega);have hx:=hl x kY;have d0:=RE (hx.a0.mono (by omega):Qs x.a0 1000000);have j2:aD X i=some (OP x):=by rw[hS.nth,hX];exact hr
   unfold OP at j2;rw[hx.a1,hx.a2,hx.a3,hx.a4,hx.a5,hx.a6,hx.a7]at j2;obtain⟨s0,t0,r0,q0,w0,_⟩:=bD x.a0;rw[w0]at d0;rw[w0,zw]at j2;clear w0 hx hr;cbv at j2;cbv at i1;refine⟨?_⟩;refine dL ?_;cbv;refine tT c1 ?_;cbv;refine aU aj mixed hS (9) ?_;cbv;repeat (first|apply bT rfl|apply bF rfl|apply nd rfl|(simp only[j2];cbv)|(refine⟨_,hS.call d0,?_⟩;cbv)|(refine⟨_,hS.call cv,?_⟩;cbv)|(refine⟨_,hS.call cz,?_⟩;cbv)|(simp only[i1];cbv))
   refine aQ [] () ?_ ?_ ?_ ?_ rfl (by show 2<=2;omega) trivial
   ·simp[aZ,gY,ae,vi,vb,AV.ay,AV.aI,Cell.ay]
   ·simp[a8,gY,ae]
   ·simp[aF,gY,ae]
   ·simp
  ·rintro⟨⟩ -
   refine⟨?_⟩;cbv;refine bF lE ?_;exact bn hF (jz Es)
 ·refine dC aj mixed [.val] Tryz.func86 rfl rfl (by kernel_rfl) fun zD zE _ _ _ _ _ _ _ _ _ _ _ _ _ zX _ _ _ _ _ _ _ zz _ _ _ _ _ _ _ ab aD _ _ _ _ _ _ _ _ _ _ _ _ _ _ _ _ _ _ A L F hS hF=>?_
  have lE:=hS.eU lX;have Es:sT zX (zz (ab X)) 64=true:=by rw[hS.le,hS.aB,hS.len,lX];exact decide_eq_true (by omega)
  cbv;refine fA aj mixed hS (n:=k) (fun i (_:Unit)=>gY X 4 (Int.ofNat i)) (fun i _=>True) (a0:=()) (fi ?_ ?_) rfl (by show 2<=2;omega) trivial ?_ ?_
  ·simp[dO,gY,ae,vi,vb]
  ·simp[dP,gY,ae]
  ·rintro i ⟨⟩ hi -
   have c1:=(hS.gC lX hi (by omega)).1;have i1:aA zD .i64 (dU zE (Int.ofNat i) 1)=(i:Int)+1:=(hS.gC lX hi (by omega)).2.1;obtain⟨x,kY,hr,_⟩:=JI (l:=l) (i:=i) (by omega);have hx:=hl x kY;have d0:=RE (hx.a0.mono (by omega):Qs x.a0 1000000);have j2:aD X i=some (OP x):=by rw[hS.nth,hX];exact hr
   unfold OP at j2;rw[hx.a1,hx.a2,hx.a3,hx.a4,hx.a5,hx.a6,hx.a7]at j2;obtain⟨s0,t0,r0,q0,w0,_⟩:=bD x.a0;rw[w0]at d0;rw[w0,zw]at j2;clear w0 hx hr;cbv at j2;cbv at i1;refine⟨?_⟩;refine dL ?_;cbv;refine tT c1 ?_;cbv;refine aU aj mixed hS (9) ?_;cbv;repeat (first|apply bT rfl|apply bF rfl|apply nd rfl|(simp only[j2];cbv)|(refine⟨_,hS.call d0,?_⟩;cbv)|(refine⟨_,hS.call cv,?_⟩;cbv)|(refine⟨_,hS.call cz,?_⟩;cbv)|(simp only[i1];cbv))
   refine aQ [] () ?_ ?_ ?_ ?_ rfl (by show 2<=2;omega) trivial
   ·simp[aZ,gY,ae,vi,vb,AV.ay,AV.aI,Cell.ay]
   ·simp[a8,gY,ae]
   ·simp[aF,gY,ae]
   ·simp
  ·rintro⟨⟩ -
   refine⟨?_⟩;cbv;refine bF lE ?_;exact bn hF (jz Es)
open Go Go.Abs Go.Abs.M Go.Proofs
def Ad (l:List (List T2)) (av:List Int) (n:Nat):Nat->List (Option (List T2))
 | 0=>List.replicate n none
 | i+1=>if 0<=av.getD i (-1) then(Ad l av n i).set (av.getD i (-1)).toNat (some (l.getD i [])) else Ad l av n i
theorem oI (l:List (List T2)) (av:List Int) (n:Nat):∀i,(Ad l av n i).length=n
 | 0=>by simp[Ad]
 | i+1=>by unfold Ad;split<;>simp[oI l av n i]
def Vf (l:List (List T2)) (av:List Int) (n:Nat):List (List T2):=(Ad l av n l.length).map fun o=>o.getD []
def sB:Option (List T2)->List Tree
 | none=>[.aa true []]
 | some p=>[.aa false (aV p)]
theorem Qy (o:Option (List T2)):∀(j:Nat) (t':Tree),(([.aa false (aV (o.getD []))]:List Tree))[j]?=some t'->∃t,(sB o)[j]?=some t/\aW t t':=by
 intro j t' h;cases j with
 | succ j=>simp at h
 | zero=>
  have h:Tree.aa false (aV (o.getD []))=t':=by simpa using h
  subst h;cases o with
  | none=>exact⟨_,rfl,aW.drop _ _⟩
  | some p=>exact⟨_,rfl,aW.refl _⟩
theorem gS (L:List (Option (List T2))) (cp:Bool):aW (.aa cp (L.map sB)) (.aa false (an (L.map fun o=>o.getD []))):=by
 have hp:an (L.map fun o=>o.getD [])=L.map fun o=>[.aa false (aV (o.getD []))]:=by simp[an]
 rw[hp];have key:∀(i j:Nat) (t':Tree),fg (L.map fun o=>[Tree.aa false (aV (o.getD []))]) i j=some t'->∃t,fg (L.map sB) i j=some t/\aW t t':=by
  intro i j t' h;unfold fg at h ⊢;obtain⟨r,h1,h2⟩:=Option.bind_eq_some_iff.1 h;rw[List.getElem?_map]at h1;obtain⟨o,h3,rfl⟩:=Option.map_eq_some_iff.1 h1;obtain⟨t,h4,h5⟩:=Qy o j t' h2;exact⟨t,by rw[List.getElem?_map,h3];exact h4,h5⟩
 refine .aa cp false _ _ (fun i j=>(fg (L.map sB) i j).getD (.v undef)) (fun h=>by cases h) (by simp) (fun n h r hr=>?_) (fun i j t' h=>?_) (fun i j t' h=>?_)
 ·obtain⟨o,ho,rfl⟩:=List.mem_map.1 hr
  have:=h (sB o) (List.mem_map.2 ⟨o,ho,rfl⟩);cases o<;>exact this
 ·obtain⟨t,h1,h2⟩:=key i j t' h
  rw[h1];rfl
 ·obtain⟨t,h1,h2⟩:=key i j t' h
  show aW ((fg (L.map sB) i j).getD _) t'
  rw[h1];exact h2
def DT (X Y:Abs.Rows) (n:Nat) (M:Int) (R:Abs.Rows) (I:Int):St:=ae 39 [.af,.c (.t (.aa false Y)),.af,.af,.af,.af,.af,.c (.sl 3 0 n false),.af,.af,.af,.af,.c (.t (.aa false X)),vi .i64 M,vi .i64 I] [none,none,none,some (.rows 1 R true false)]
theorem BZ (l:List (List T2)) (av:List Int) (n:Nat) (hl:l.length<=1000) (hn:n<=1000) (hA:av.length=l.length) (hb:∀a∈av,a<n) :
  ah Tryz.prog 42 [.val (tl (an l)),.val (tl (W .i64 av)),.val (ti .i64 (n:Int))] ⟨[.val (tl (an (Vf l av n)))],[none,none,none]⟩:=by
 obtain⟨X,hX⟩:∃X,X=an l:=⟨_,rfl⟩;obtain⟨Y,hY⟩:∃X,X=W .i64 av:=⟨_,rfl⟩;obtain⟨m,hm⟩:∃m,m=l.length:=⟨_,rfl⟩;have lX:X.length=m:=by rw[hX,nU,hm]
 have lY:Y.length=m:=by rw[hY,jf,hA,hm]
 obtain⟨M,hM⟩:∃M:Int,M=(m:Int):=⟨_,rfl⟩;obtain⟨N,hN⟩:∃N:Int,N=(n:Int):=⟨_,rfl⟩;obtain⟨R0,I5⟩:∃R0,R0=(Ad l av n 0).map sB:=⟨_,rfl⟩;rw[<-hX,<-hY,<-hN];refine ar aj mixed [.val] Tryz.func42 rfl rfl (by kernel_rfl) ?_;intros;rename_i zV zX _ _ _ _ _ zu zy zz bd _ _ _ _ _ aR ab aD bz aL aw _ _ _ _ _ bO _ _ _ _ _ _ _ _ _ A L F hS hF;have xN:zz (ab X)=M:=by rw[hS.aB,hS.len,lX,hM]
 have k1:aR N N 24=true:=by rw[hS.nq,hN];exact decide_eq_true ⟨by omega,by omega,by unfold az;omega⟩
 have k2:zu N=n:=by rw[hS.nat,hN];rfl
 have k3:bO n [.aa true []]=R0:=by rw[hS.rep,I5];simp[Ad,sB]
 cbv;simp only[k2,k3,xN];refine nd k1 ?_;refine nA aj mixed hS (n:=m) (fun i (R:Abs.Rows)=>DT X Y n M R (Int.ofNat i)) (fun i R=>R=(Ad l av n i).map sB) (a0:=R0) (fi ?_ ?_) rfl (Nat.le_add_left 3 1) I5 ?_ ?_
 ·simp[dO,DT,ae,vi,vb]
 ·simp[dP,DT,ae]
 ·intro i R hi hR
  have UU:=hS.gC lX hi (by omega);have l1:=UU.1;have i1:=UU.2.1;have j1:=UU.2.2.1;have n0:=UU.2.2.2;clear UU;have l1:zV (Int.ofNat i) M=true:=by rw[<-xN];exact l1
  obtain⟨p,hp,gp,hr,_,_⟩:=gP (l:=l) (i:=i) (by omega);have lN:zV (Int.ofNat i) (zz (ab Y))=true:=(hS.gC lY hi (by omega)).1;have ZJ:i<av.length:=by omega
  obtain⟨a,ha⟩:∃a,a=av.getD i (-1):=⟨_,rfl⟩;have haA:a∈av:=by rw[ha,List.getD_eq_getElem?_getD,List.getElem?_eq_getElem ZJ];exact List.getElem_mem ZJ
  have g1:aL .i64 Y i=true:=by rw[hS.gE,hY,kM];exact decide_eq_true ZJ
  have g2:aw Y i=a:=by rw[hS.dF,hY,mP,ha,List.getD_eq_getElem?_getD,List.getD_eq_getElem?_getD,List.getElem?_eq_getElem ZJ];rfl
  have j2:aD X i=some [.aa false (aV p)]:=by rw[hS.nth,hX];exact hr
  have hlp:l.getD i []=p:=by rw[List.getD_eq_getElem?_getD,gp];rfl
  obtain⟨Z,hZ⟩:∃Z,Z=aV p:=⟨_,rfl⟩;rw[<-hZ]at j2
  by_cases h0:0<=a
  ·have z0:zX 0 a=true:=by rw[hS.le];exact decide_eq_true h0
   obtain⟨b,mX⟩:∃b:Nat,(b:Int)=a:=⟨a.toNat,by omega⟩;have UO:b<n:=Int.ofNat_lt.1 (by rw[mX];exact hb a haA);have RH:R.set b [.aa false Z]=(Ad l av n (i+1)).map sB:=by
    unfold Ad;rw[<-ha,if_pos h0,<-mX,Int.toNat_natCast,List.map_set,hR,hlp,hZ];rfl
   have z1:zy a n=true:=by rw[hS.yF,<-mX];exact decide_eq_true ⟨Int.natCast_nonneg b,Int.ofNat_lt.2 UO⟩
   have z2:bd 0 a=b:=by rw[hS.idx,<-mX,Int.toNat_natCast,Nat.zero_add]
   obtain⟨o,ho⟩:∃o,R[b]?=some (sB o):=⟨(Ad l av n i)[b]'(by rw[oI];exact UO),by rw[hR];simp[oI,UO]⟩;have z3:aD R b=some (sB o):=by rw[hS.nth];exact ho
   obtain⟨t0,ht0⟩:∃t0,sB o=[t0]:=by cases o<;>exact⟨_,rfl⟩
   rw[ht0]at z3;have z4:bz R b (aX [t0] 0 [.aa false Z])=R.set b [.aa false Z]:=by rw[hS.Fl];rfl
   clear hR ha haA ho ht0 mX;cbv;refine bT l1 ?_;rw[j1,j2];cbv;refine nd n0 (bT lN ?_);simp only[j1,g2,z2,z3];cbv;refine nd n0 (nd g1 (bT z0 (nd n0 (nd g1 (nd z1 ?_)))));refine aQ [] (R.set b [.aa false Z]) ?_ ?_ ?_ ?_ rfl (Nat.le_add_left 3 1) RH
   ·simp[aZ,DT,ae,vi,vb,AV.ay,AV.aI,Cell.ay,aq,i1]
   ·simp[a8,DT,ae,Abs.look,aq,aC.ay,Cell.ay,z4]
   ·simp[aF,DT,ae,aq]
   ·simp
  ·have z0:zX 0 a=false:=by rw[hS.le];exact decide_eq_false h0
   have RH:R=(Ad l av n (i+1)).map sB:=by
    unfold Ad;rw[<-ha,if_neg h0];exact hR
   clear hR ha haA;cbv;refine bT l1 ?_;rw[j1,j2];cbv;refine nd n0 (bT lN ?_);simp only[j1,g2];refine nd n0 (nd g1 (bF z0 ?_));refine aQ [] R ?_ ?_ ?_ ?_ rfl (Nat.le_add_left 3 1) RH
   ·simp[aZ,DT,ae,vi,vb,AV.ay,AV.aI,Cell.ay,aq,i1]
   ·simp[a8,DT,ae,Abs.look,aq,aC.ay,Cell.ay]
   ·simp[aF,DT,ae,aq]
   ·simp
 ·intro R hR
  have lE:zV (Int.ofNat m) M=false:=by rw[<-xN];exact hS.eU lX
  have UU:=hS.whole (r:=R) (len:=n) (by rw[hR,List.length_map,oI]);have f1:=UU.1;have f2:=UU.2;clear UU;have hle:aW (.aa false R) (.aa false (an (Vf l av n))):=by
   rw[hR,hm];exact gS _ _
  cbv;refine bF lE (nd f1 ?_);rw[f2];exact gX hF hle
open Go Go.Abs Go.Abs.M Go.Proofs
theorem T2.int.ok {t:T2} (h:t.int):t.ok 1000 30000:=by
 refine⟨⟨?_,?_⟩,⟨h.a.1,by have:=h.a.2;omega⟩,⟨h.b.1,by have:=h.b.2;omega⟩⟩
 ·unfold nl;rw[xG (by have:=h.n.1;omega) (by have:=h.n.2;omega)];exact(by decide:1<=1000)
 ·rw[h.d];unfold nl;rw[xG (by omega) (by omega)];decide
theorem KP.ok {p:List T2} (h:KP p):(∀t∈p,t.ok 1000 30000)/\p.length<=1000:=⟨fun t ht=>(h.1 t ht).ok,by have:=h.2;omega⟩
theorem xV {p:List T2}:∀ {to:List (List T2)} {k:Nat},mQ k to p=-1∨∃j:Nat,k<=j/\j<k+to.length/\mQ k to p=(j:Int)
 | [],k=>.inl rfl
 | q::qs,k=>by
  unfold mQ;split
  ·exact .inr ⟨k,Nat.le_refl _,by simp,rfl⟩
  ·rcases xV (p:=p) (to:=qs) (k:=k+1) with h|⟨j,h1,h2,h3⟩
   ·exact .inl h
   ·exact .inr ⟨j,by omega,by simp;omega,h3⟩
open Go Go.Abs Go.Abs.M Go.Proofs
theorem Qz {x y:Rat} (h1:Qs x 1000000) (h2:Qs y 1000000):ah Tryz.prog 145 [.val (.agg (qc x).row),.val (.agg (qc y).row)] ⟨[.val (ti .i64 (jh x y))],[none,none]⟩:=
 KU _ (fJ x) (fJ y) rfl (h1.mono (by omega)) (h2.mono (by omega))
theorem Lk {x y:Rat}:jh x y=0↔x=y:=by
 have h:=K0 x y;constructor
 ·intro e
  have f1:¬x<y:=fun h'=>by have:=h.1.2 h';omega
  have f2:¬y<x:=fun h'=>by have:=h.2.2 h';omega
  exact Rat.le_antisymm (Rat.not_lt.1 f2) (Rat.not_lt.1 f1)
 ·rintro rfl
  unfold jh;rw[if_neg Rat.lt_irrefl,if_neg Rat.lt_irrefl]
theorem GA (t u:T2) (ht:Qs t.c 1000) (hu:Qs u.c 1000):ah Tryz.prog 144 [.val (.agg t.row),.val (.agg u.row)] ⟨[.val (tb (decide (t=u)))],[none,none]⟩:=by
 have cs:=Qz (x:=t.c) (y:=u.c) (ht.mono (by omega)) (hu.mono (by omega));obtain⟨s1,v1,r1,p1,e1,w1⟩:=xB t;obtain⟨s2,v2,r2,p2,e2,w2⟩:=xB u;rw[e1,e2]at cs;rw[w1,w2];obtain⟨B,hB⟩:∃B,B=jh t.c u.c:=⟨_,rfl⟩;rw[<-hB]at cs;have hB0:B=0↔t.c=u.c:=by rw[hB];exact Lk
 obtain⟨D,hD⟩:∃B,B=decide (t=u):=⟨_,rfl⟩;rw[<-hD];unfold nO;have hT:t.a=u.a/\t.b=u.b->decide (B=0)=D:=fun h=>by rw[hD,decide_eq_decide,tY,hB0];exact⟨fun e=>⟨e,h⟩,fun e=>e.1⟩
 have hE:¬(t.a=u.a/\t.b=u.b)->false=D:=fun h=>by rw[hD];exact(decide_eq_false fun e=>h (tY.1 e).2).symm
 generalize t.a=a,t.b=b,u.a=c,u.b=d at *;refine ar aj mixed [.val] Tryz.func144 rfl rfl (by kernel_rfl) ?_;intros;rename_i zT _ _ _ _ _ _ _ _ _ _ _ _ _ _ _ _ _ _ _ _ _ _ _ _ _ _ _ _ _ _ _ _ _ _ _ _ _ _ A L F hS hF;have z0:zT 0 0=true:=by rw[hS.eq];rfl
 have zB:zT B 0=decide (B=0):=hS.eq _ _;cbv
 by_cases h:a=c/\b=d
 ·have z1:zT a c=true:=by rw[hS.eq];exact decide_eq_true h.1
  have z2:zT b d=true:=by rw[hS.eq];exact decide_eq_true h.2
  refine bT (by rw[z0,z1,z2]) ?_;refine⟨_,hS.call cs,?_⟩;cbv;exact bn hF (jz (zB.trans (hT h)))
 ·refine bF ?_ (bn hF (jz (hE h)))
  by_cases h1:a=c
  ·have z1:zT a c=true:=by rw[hS.eq];exact decide_eq_true h1
   have z2:zT b d=false:=by rw[hS.eq];exact decide_eq_false fun e=>h ⟨h1,e⟩
   rw[z1,z2]
  ·have z1:zT a c=false:=by rw[hS.eq];exact decide_eq_false h1
   rw[z1]
def Ll (X Y:Abs.Rows) (N I:Int):St:=ae 32 [.af,.c (.t (.aa false Y)),.c (.t (.v (.func (.func 144) #[] #[]))),.af,.af,.af,vb false,.af,.af,.af,.af,.af,.af,.af,.af,.c (.t (.aa false X)),vi .i64 N,vi .i64 I] [none,none,none]
theorem N0 (l k:List T2) (hl:∀t∈l,t.ok 1000 30000) (hk:∀t∈k,t.ok 1000 30000) (hn:l.length<=1000) (hm:k.length<=1000) :
  ah Tryz.prog 143 [.val (tl (aV l)),.val (tl (aV k)),.val (.c (.v (.func (.func 144) #[] #[])))] ⟨[.val (tb (decide (l=k)))],[none,none,none]⟩:=by
 obtain⟨X,hX⟩:∃X,X=aV l:=⟨_,rfl⟩;obtain⟨Y,hY⟩:∃X,X=aV k:=⟨_,rfl⟩;obtain⟨n,fD⟩:∃n,n=l.length:=⟨_,rfl⟩;obtain⟨D,hD⟩:∃B,B=decide (l=k):=⟨_,rfl⟩;have lX:X.length=n:=by rw[hX,qE,fD]
 have lY:Y.length=k.length:=by rw[hY,qE]
 obtain⟨N,hN⟩:∃N:Int,N=(n:Int):=⟨_,rfl⟩;rw[<-hX,<-hY,<-hD];refine ar aj mixed [.val] Tryz.func143 rfl rfl (by kernel_rfl) ?_;intros;rename_i zU zV _ zY _ _ _ _ _ _ zz _ _ _ _ _ _ _ ab aD _ _ _ _ _ _ _ _ _ _ _ _ _ _ _ _ _ _ A L F hS hF;have xN:zz (ab X)=N:=by rw[hS.aB,hS.len,lX,hN]
 cbv
 by_cases RF:n=k.length
 ·have z:zU (zz (ab X)) (zz (ab Y))=false:=by rw[hS.ne,hS.aB,hS.aB,hS.len,hS.len,lX,lY,RF];simp
  refine bF z ?_;simp only[xN];refine nA aj mixed hS (n:=n) (fun i (d:Unit)=>Ll X Y N (Int.ofNat i)) (fun i d=>l.take i=k.take i) (a0:=()) (fi ?_ ?_) rfl (Nat.le_refl 3) rfl ?_ ?_
  ·simp[dO,Ll,ae,vi,vb]
  ·simp[dP,Ll,ae]
  ·intro i d hi hd
   have UU:=hS.gC lX hi (by omega);have l1:=UU.1;have i1:=UU.2.1;have j1:=UU.2.2.1;have n0:=UU.2.2.2;clear UU;have l1:zV (Int.ofNat i) N=true:=by rw[<-xN];exact l1
   obtain⟨t,s,v,r,p,ht,gt,_,hr,wt,eC,_⟩:=iN (l:=l) (i:=i) (by omega);obtain⟨u,s2,v2,r2,p2,hu,gu,_,js,wu,Tz,_⟩:=iN (l:=k) (i:=i) (by omega);have j2:aD X i=some (nO s r v p t.a t.b):=by rw[hS.nth,hX];exact hr
   have j3:aD Y i=some (nO s2 r2 v2 p2 u.a u.b):=by rw[hS.nth,hY];exact js
   have cs:=GA t u (hl t ht).c (hk u hu).c;rw[wt,wu]at cs
   by_cases Jy:t=u
   ·rw[decide_eq_true Jy]at cs
    have hR:l.take (i+1)=k.take (i+1):=by rw[eC,Tz,hd,Jy]
    have y:zY true=false:=by rw[hS.not];rfl
    generalize t.a=a,t.b=b,u.a=a2,u.b=b2 at *;unfold nO at cs;cbv;refine bT l1 ?_;rw[j1,j2];cbv;refine nd n0 ?_;rw[j1,j3];cbv;refine nd n0 ?_;refine⟨_,hS.call cs,?_⟩;cbv;refine bF y ?_;refine aQ [] () ?_ ?_ ?_ ?_ rfl (Nat.le_refl 3) hR
    ·simp[aZ,Ll,ae,vi,vb,AV.ay,AV.aI,Cell.ay,i1]
    ·simp[a8,Ll,ae]
    ·simp[aF,Ll,ae]
    ·simp
   ·rw[decide_eq_false Jy]at cs
    have y:zY false=true:=by rw[hS.not];rfl
    have Nx:false=D:=by
     rw[hD];exact(decide_eq_false fun e=>Jy (by rw[e,gu]at gt;exact(Option.some.inj gt).symm)).symm
    generalize t.a=a,t.b=b,u.a=a2,u.b=b2 at *;unfold nO at cs;cbv;refine bT l1 ?_;rw[j1,j2];cbv;refine nd n0 ?_;rw[j1,j3];cbv;refine nd n0 ?_;refine⟨_,hS.call cs,?_⟩;cbv;refine bT y ?_;exact bn hF (jz Nx)
  ·intro d hd
   have lE:zV (Int.ofNat n) N=false:=by rw[<-xN];exact hS.eU lX
   have WW:true=D:=by
    rw[hD];refine(decide_eq_true ?_).symm;rw[List.take_of_length_le (by omega),List.take_of_length_le (by omega)]at hd;exact hd
   cbv;refine bF lE ?_;exact bn hF (jz WW)
 ·have z:zU (zz (ab X)) (zz (ab Y))=true:=by rw[hS.ne,hS.aB,hS.aB,hS.len,hS.len,lX,lY];exact decide_eq_true (by omega)
  have Nx:false=D:=by rw[hD];exact(decide_eq_false fun e=>RF (by rw[fD,e])).symm
  exact bT z (bn hF (jz Nx))
theorem GB (l k:List T2) (hl:∀t∈l,t.ok 1000 30000) (hk:∀t∈k,t.ok 1000 30000) (hn:l.length<=1000) (hm:k.length<=1000) :
  ah Tryz.prog 115 [.val (tl (aV l)),.val (tl (aV k))] ⟨[.val (tb (decide (l=k)))],[none,none]⟩:=by
 have c:=N0 l k hl hk hn hm;generalize decide (l=k)=D,aV l=X,aV k=Y at *;refine ar aj mixed [.val] Tryz.func115 rfl rfl (by kernel_rfl) ?_;intros;rename_i A L F hS hF;cbv;refine⟨_,hS.call c,?_⟩;cbv;exact hF _ (ak.refl _)
open Go Go.Abs Go.Abs.M Go.Proofs
def Xz (p:List T2):Prop:=(∀t∈p,t.ok 1000 30000)/\p.length<=1000
def Lm (X Y:Abs.Rows) (N I:Int):St:=ae 32 [.af,.c (.t (.aa false Y)),.c (.t (.v (.func (.func 115) #[] #[]))),.af,.af,.af,vb false,.af,.af,.af,.af,.af,.af,.af,.af,.c (.t (.aa false X)),vi .i64 N,vi .i64 I] [none,none,none]
theorem N4 (l k:List (List T2)) (hl:∀p∈l,Xz p) (hk:∀p∈k,Xz p) (hn:l.length<=1000) (hm:k.length<=1000) :
  ah Tryz.prog 114 [.val (tl (an l)),.val (tl (an k)),.val (.c (.v (.func (.func 115) #[] #[])))] ⟨[.val (tb (decide (l=k)))],[none,none,none]⟩:=by
 obtain⟨X,hX⟩:∃X,X=an l:=⟨_,rfl⟩;obtain⟨Y,hY⟩:∃X,X=an k:=⟨_,rfl⟩;obtain⟨n,fD⟩:∃n,n=l.length:=⟨_,rfl⟩;obtain⟨D,hD⟩:∃B,B=decide (l=k):=⟨_,rfl⟩;have lX:X.length=n:=by rw[hX,nU,fD]
 have lY:Y.length=k.length:=by rw[hY,nU]
 obtain⟨N,hN⟩:∃N:Int,N=(n:Int):=⟨_,rfl⟩;rw[<-hX,<-hY,<-hD];refine ar aj mixed [.val] Tryz.func114 rfl rfl (by kernel_rfl) ?_;intros;rename_i zU zV _ zY _ _ _ _ _ _ zz _ _ _ _ _ _ _ ab aD _ _ _ _ _ _ _ _ _ _ _ _ _ _ _ _ _ _ A L F hS hF;have xN:zz (ab X)=N:=by rw[hS.aB,hS.len,lX,hN]
 cbv
 by_cases RF:n=k.length
 ·have z:zU (zz (ab X)) (zz (ab Y))=false:=by rw[hS.ne,hS.aB,hS.aB,hS.len,hS.len,lX,lY,RF];simp
  refine bF z ?_;simp only[xN];refine nA aj mixed hS (n:=n) (fun i (d:Unit)=>Lm X Y N (Int.ofNat i)) (fun i d=>l.take i=k.take i) (a0:=()) (fi ?_ ?_) rfl (Nat.le_refl 3) rfl ?_ ?_
  ·simp[dO,Lm,ae,vi,vb]
  ·simp[dP,Lm,ae]
  ·intro i d hi hd
   have UU:=hS.gC lX hi (by omega);have l1:=UU.1;have i1:=UU.2.1;have j1:=UU.2.2.1;have n0:=UU.2.2.2;clear UU;have l1:zV (Int.ofNat i) N=true:=by rw[<-xN];exact l1
   obtain⟨p,hp,gp,hr,eC,_⟩:=gP (l:=l) (i:=i) (by omega);obtain⟨u,hu,gu,js,Tz,_⟩:=gP (l:=k) (i:=i) (by omega);have j2:aD X i=some [.aa false (aV p)]:=by rw[hS.nth,hX];exact hr
   have j3:aD Y i=some [.aa false (aV u)]:=by rw[hS.nth,hY];exact js
   have cs:=GB p u (hl p hp).1 (hk u hu).1 (hl p hp).2 (hk u hu).2;obtain⟨Z1,hZ1⟩:∃Z,Z=aV p:=⟨_,rfl⟩;obtain⟨Z2,ZK⟩:∃Z,Z=aV u:=⟨_,rfl⟩;rw[<-hZ1]at j2 cs;rw[<-ZK]at j3 cs
   by_cases Jy:p=u
   ·rw[decide_eq_true Jy]at cs
    have hR:l.take (i+1)=k.take (i+1):=by rw[eC,Tz,hd,Jy]
    have y:zY true=false:=by rw[hS.not];rfl
    cbv;refine bT l1 ?_;rw[j1,j2];cbv;refine nd n0 ?_;rw[j1,j3];cbv;refine nd n0 ?_;refine⟨_,hS.call cs,?_⟩;cbv;refine bF y ?_;refine aQ [] () ?_ ?_ ?_ ?_ rfl (Nat.le_refl 3) hR
    ·simp[aZ,Lm,ae,vi,vb,AV.ay,AV.aI,Cell.ay,i1]
    ·simp[a8,Lm,ae]
    ·simp[aF,Lm,ae]
    ·simp
   ·rw[decide_eq_false Jy]at cs
    have y:zY false=true:=by rw[hS.not];rfl
    have Nx:false=D:=by
     rw[hD];exact(decide_eq_false fun e=>Jy (by rw[e,gu]at gp;exact(Option.some.inj gp).symm)).symm
    cbv;refine bT l1 ?_;rw[j1,j2];cbv;refine nd n0 ?_;rw[j1,j3];cbv;refine nd n0 ?_;refine⟨_,hS.call cs,?_⟩;cbv;refine bT y ?_;exact bn hF (jz Nx)
  ·intro d hd
   have lE:zV (Int.ofNat n) N=false:=by rw[<-xN];exact hS.eU lX
   have WW:true=D:=by
    rw[hD];refine(decide_eq_true ?_).symm;rw[List.take_of_length_le (by omega),List.take_of_length_le (by omega)]at hd;exact hd
   cbv;refine bF lE ?_;exact bn hF (jz WW)
 ·have z:zU (zz (ab X)) (zz (ab Y))=true:=by rw[hS.ne,hS.aB,hS.aB,hS.len,hS.len,lX,lY];exact decide_eq_true (by omega)
  have Nx:false=D:=by rw[hD];exact(decide_eq_false fun e=>RF (by rw[fD,e])).symm
  exact bT z (bn hF (jz Nx))
theorem xW (l k:List (List T2)) (hl:∀p∈l,Xz p) (hk:∀p∈k,Xz p) (hn:l.length<=1000) (hm:k.length<=1000) :
  ah Tryz.prog 77 [.val (tl (an l)),.val (tl (an k))] ⟨[.val (tb (decide (l=k)))],[none,none]⟩:=by
 have c:=N4 l k hl hk hn hm;generalize decide (l=k)=D,an l=X,an k=Y at *;refine ar aj mixed [.val] Tryz.func77 rfl rfl (by kernel_rfl) ?_;intros;rename_i A L F hS hF;cbv;refine⟨_,hS.call c,?_⟩;cbv;exact hF _ (ak.refl _)
open Go Go.Abs Go.Abs.M Go.Proofs
def Ln (N:Int) (E D aG:Tree) (T:Abs.Rows) (q:jC) (M I J:Int):St:=ae 48 [.af,vi .i64 I,.af,.af,vb false,.af,.af,.af,.af,.af,.af,.af,.af,.af,.af,.af,.af,.af,.af,.af,.af,.af,.af,.af,.af,.af,.af,.af,.af,.c (.t (.aa false T)),vi .i64 M,vi .i64 J] [none,none]
theorem T8 (N:Int) (E D aG:Tree) (C:List (List (List T2))) (n:Nat) (hn:n<=1000) (hC:C.length<=1000) (hr:∀r∈C,r.length=n) (q:jC) (i:Nat) (hi:i<n) :
  ah Tryz.prog 38 [.val (.agg (fT N E D 12 aG (.aa false (di C)) q)),.val (ti .i64 (Int.ofNat i))] ⟨[.val (tb (C.any fun r=>vW r i))],[none,none]⟩:=by
 obtain⟨T,hT⟩:∃X,X=di C:=⟨_,rfl⟩;have lT:T.length=C.length:=by rw[hT,jY]
 obtain⟨m,hm⟩:∃m,m=C.length:=⟨_,rfl⟩;obtain⟨M,hM⟩:∃M:Int,M=(m:Int):=⟨_,rfl⟩;obtain⟨u,hu⟩:∃u,u=(C.any fun r=>vW r i):=⟨_,rfl⟩;rw[<-hT,<-hu];refine ar aj mixed [.val] Tryz.func38 rfl rfl (by kernel_rfl) fun zD zE _ _ _ _ _ _ _ _ _ _ _ zU zV zX _ _ _ _ _ zu _ zz _ _ _ _ _ _ _ ab aD _ _ _ _ _ _ _ _ _ _ _ _ _ _ _ _ _ _ A L F hS hF=>?_
 have z1:zU 12 12=false:=by rw[hS.ne];rfl
 have mN:zz (ab T)=M:=by rw[hS.aB,hS.len,lT,hM,hm]
 have j1i:zu (Int.ofNat i)=i:=by rw[hS.nat];rfl
 have n0i:zX 0 (Int.ofNat i)=true:=by rw[hS.le];exact decide_eq_true (show(0:Int)<=(i:Int) by omega)
 cbv;refine bF z1 ?_;simp only[mN];refine nA aj mixed hS (n:=m) (fun j (d:Unit)=>Ln N E D aG T q M (Int.ofNat i) (Int.ofNat j)) (fun j d=>((C.take j).any fun r=>vW r i)=false) (a0:=()) (fi ?_ ?_) rfl (Nat.le_refl 2) rfl ?_ ?_
 ·simp[dO,Ln,ae,vi,vb]
 ·simp[dP,Ln,ae]
 ·intro j d hj hd
  obtain⟨r,hrm,gr,pI,eC⟩:=DG (l:=C) (i:=j) (by omega);have hrn:=hr r hrm;obtain⟨p,hp,gp,hrp,_,_⟩:=gP (l:=r) (i:=i) (by omega);obtain⟨X,hX⟩:∃X,X=an r:=⟨_,rfl⟩;obtain⟨Z,hZ⟩:∃X,X=aV p:=⟨_,rfl⟩;have lX:X.length=n:=by rw[hX,nU,hrn]
  have lZ:Z.length=p.length:=by rw[hZ,qE]
  rw[<-hX]at pI;rw[<-hX,<-hZ]at hrp;have huc:vW r i=decide (0<p.length):=by unfold vW;rw[List.getD_eq_getElem?_getD,gp];rfl
  have l1:zV (Int.ofNat j) M=true:=by rw[hS.lt,hM];exact decide_eq_true (show(j:Int)<(m:Int) by omega)
  have i1:zD .i64 (zE (j:Int) 1)=(j:Int)+1:=by rw[hS.add,hS.wrap];exact wrap_i64 (by omega) (by omega)
  have j1:zu (Int.ofNat j)=j:=by rw[hS.nat];rfl
  have n0:zX 0 (Int.ofNat j)=true:=by rw[hS.le];exact decide_eq_true (show(0:Int)<=(j:Int) by omega)
  have j2:aD T j=some [.aa false X]:=by rw[hS.nth,hT];rw[hX];exact hX▸pI
  have l2:zV (Int.ofNat i) (zz (ab X))=true:=by rw[hS.lt,hS.aB,hS.len,lX];exact decide_eq_true (show(i:Int)<(n:Int) by omega)
  have j3:aD X i=some [.aa false Z]:=by rw[hS.nth];exact hrp
  by_cases G4:0<p.length
  ·have l3:zV 0 (zz (ab Z))=true:=by rw[hS.lt,hS.aB,hS.len,lZ];exact decide_eq_true (by omega)
   have hut:true=u:=by rw[hu];exact(List.any_eq_true.2 ⟨r,hrm,by rw[huc];exact decide_eq_true G4⟩).symm
   cbv;refine bT l1 ?_;rw[j1,j2];cbv;refine nd n0 (bT l2 ?_);rw[j1i,j3];cbv;refine nd n0i (bT l3 ?_);exact bn hF (jz hut)
  ·have l3:zV 0 (zz (ab Z))=false:=by rw[hS.lt,hS.aB,hS.len,lZ];exact decide_eq_false (by omega)
   have hR:((C.take (j+1)).any fun r=>vW r i)=false:=by
    rw[eC,List.any_append,hd,Bool.false_or,List.any_cons,List.any_nil,Bool.or_false,huc];exact decide_eq_false G4
   cbv;refine bT l1 ?_;rw[j1,j2];cbv;refine nd n0 (bT l2 ?_);rw[j1i,j3];cbv;refine nd n0i (bF l3 ?_);refine aQ [] () ?_ ?_ ?_ ?_ rfl (Nat.le_refl 2) hR
   ·simp[aZ,Ln,ae,vi,vb,AV.ay,AV.aI,Cell.ay,aq,i1]
   ·simp[a8,Ln,ae]
   ·simp[aF,Ln,ae]
   ·simp
 ·intro d hd
  rw[List.take_of_length_le (by omega)]at hd;have lE:zV (Int.ofNat m) M=false:=by rw[hS.lt,hM];exact decide_eq_false (show ¬(m:Int)<(m:Int) by omega)
  cbv;refine bF lE ?_;exact bn hF (jz (hd.symm.trans hu.symm))
def jK (v:Nat->Bool) (n:Nat):List Int:=((List.range n).filter v).map fun i:Nat=>(i:Int)
theorem DU {v:Nat->Bool} {i:Nat} (h:v i=true):jK v (i+1)=jK v i ++ [(i:Int)]:=by simp[jK,List.range_succ,List.filter_append,h]
theorem IB {v:Nat->Bool} {i:Nat} (h:v i=false):jK v (i+1)=jK v i:=by simp[jK,List.range_succ,List.filter_append,h]
theorem GC (v:Nat->Bool) (n:Nat):(jK v n).length<=n:=by unfold jK;rw[List.length_map];exact Nat.le_trans (List.length_filter_le _ _) (by simp)
def Ae (N:Int) (X:Abs.Rows) (D:Tree) (k:Int) (aG C:Tree) (q:jC):Option aC:=some (.var [.t (.v (.int .i64 N)),.t (.aa false X),.t D,.t (.v (.int .i64 k)),.t (.aa false q.P),.t (.v (.int .i64 q.cn)),.t (.v (.int .i64 q.cd)),.t (.v (.int .i64 q.cr)),.t (.aa false q.O),.t (.aa false q.Lc),.t (.aa false q.S),.t (.aa false q.B),.t (.v (.int .i64 q.eN)),.t aG,.t (.aa false q.G),.t (.aa false q.eO),.t C,.t (.aa false q.Q),.t (.aa false q.Sx),.t (.v (.int .i64 q.r0)),.t (.v (.int .i64 q.r1)),.t (.v (.int .i64 q.r2)),.t (.v (.int .i64 q.r3)),.t (.v (.int .i64 q.r4)),.t (.v (.int .i64 q.r5)),.t (.v (.int .i64 q.r6)),.t (.v (.int .i64 q.r7)),.t (.aa false q.r8),.t (.aa false q.r9),.t (.aa false q.TR),.t (.aa false q.W4),.t (.aa false q.W5),.t (.aa false q.W6),.t (.aa false q.W7),.t (.aa false q.W8),.t (.aa false q.Zi),.t (.aa false q.At),.t (.aa false q.Sq),.t (.aa false q.X),.t (.aa false q.eB)])
def kt (N:Int) (X:Abs.Rows) (D:Tree) (k:Int) (aG C:Tree) (q:jC) (M I:Int):Option (Nat×Abs.Rows)->St
 | none=>ae 26 [.af,.c (.ptr 1 0 0),.af,.c (.t (.aa true [])),.af,.af,.af,.af,vi .i64 M,vi .i64 I] [none,Ae N X D k aG C q]
 | some z=>ae 26 [.af,.c (.ptr 1 0 0),.af,.c (.sl 2 0 z.1 false),.af,.af,.af,.af,vi .i64 M,vi .i64 I] [none,Ae N X D k aG C q,some (.rows 1 z.2 true false)]
def XA (v:Nat->Bool) (i:Nat):Option (Nat×Abs.Rows)->Prop
 | none=>jK v i=[]
 | some z=>z.2=W .i64 (jK v i)/\z.1=(jK v i).length
theorem IC (N:Int) (eqs:List (List T2)) (D:Tree) (k:Int) (aG C:Tree) (q:jC) (w:Bool) (u:Nat->Bool) (hn:eqs.length<=1000)
  (hw:ah Tryz.prog 25 [.val (.agg (cT k q))] ⟨[.val (tb w)],[none]⟩)
  (hu:w=false->∀i,i<eqs.length->ah Tryz.prog 38 [.val (.agg (fT N (.aa false (an eqs)) D k aG C q)),.val (ti .i64 (Int.ofNat i))] ⟨[.val (tb (u i))],[none,none]⟩) :
  ah Tryz.prog 12 [.val (.agg (fT N (.aa false (an eqs)) D k aG C q))] ⟨[.val (tl (W .i64 (jK (fun i=>w||u i) eqs.length)))],[none]⟩:=by
 obtain⟨X,hX⟩:∃X,X=an eqs:=⟨_,rfl⟩;obtain⟨n,fD⟩:∃n,n=eqs.length:=⟨_,rfl⟩;have lX:X.length=n:=by rw[hX,nU,fD]
 obtain⟨M,hM⟩:∃M:Int,M=(n:Int):=⟨_,rfl⟩;obtain⟨v,hv⟩:∃v:Nat->Bool,v=fun i=>w||u i:=⟨_,rfl⟩
 have yQ:w=true->∀i,v i=true:=fun h i=>by rw[hv,h];rfl
 have ZL:w=false->∀i,v i=u i:=fun h i=>by rw[hv,h];rfl
 rw[<-hX,<-fD,<-hv];rw[<-hX,<-fD]at hu;unfold cT at hw;unfold fT at *;refine ar aj mixed [.val] Tryz.func12 rfl rfl (by kernel_rfl) fun zD zE _ _ _ _ _ _ _ _ _ _ _ _ zV _ _ _ _ _ _ _ _ zz _ _ aJ _ _ _ _ ab _ _ _ _ _ _ _ bQ _ _ aN _ _ _ _ _ _ _ _ A L F hS hF=>?_
 have xN:zz (ab X)=M:=by rw[hS.aB,hS.len,lX,hM]
 cbv;simp only[xN];refine nA aj mixed hS (n:=n) (fun i a=>kt N X D k aG C q M (Int.ofNat i) a) (fun i a=>XA v i a) (a0:=none) (fi ?_ ?_) rfl (Nat.le_add_left 1 1) (show jK v 0=[] from rfl) ?_ ?_
 ·simp[dO,kt,ae,vi,vb]
 ·simp[dP,kt,Ae,ae]
 ·intro i a hi ha
  have l1:zV (Int.ofNat i) M=true:=by rw[hS.lt,hM];exact decide_eq_true (show(i:Int)<(n:Int) by omega)
  have i1:zD .i64 (zE (i:Int) 1)=(i:Int)+1:=by rw[hS.add,hS.wrap];exact wrap_i64 (by omega) (by omega)
  have P9:aN 1 []=true:=by rw[hS.wide];rfl
  have z0:ab []=0:=by rw[hS.len];rfl
  cases a with
  | none=>
   have ha:jK v i=[]:=ha;have b1:XA v (i+1) (some (1,[[.v (.int .i64 (Int.ofNat i))]]))∨v i=false:=by
    by_cases h:v i=true
    ·exact .inl ⟨by rw[DU h,ha];rfl,by rw[DU h,ha];rfl⟩
    ·exact .inr (by simpa using h)
   have b2:v i=false->XA v (i+1) none:=fun h=>by show jK v (i+1)=[];rw[IB h,ha]
   have UU:=hS.ve (row:=[Tree.v (.int .i64 (Int.ofNat i))]) (w:=1) rfl (r:=[]) (len:=0) (b:=8) rfl (by unfold az;omega);have u0:=UU.1;have u1:=UU.2.1;have u2:=UU.2.2.1;have u3:=UU.2.2.2.1;have u4:=UU.2.2.2.2.1;have u5:=UU.2.2.2.2.2.1;have u6:=UU.2.2.2.2.2.2.1;have u7:=UU.2.2.2.2.2.2.2;clear UU;have u8:aJ (ab []) (ab [[Tree.v (.int .i64 (i:Int))]])=1:=by rw[z0];exact u6
   have u7:bQ [] 0 [[Tree.v (.int .i64 (i:Int))]]=[[Tree.v (.int .i64 (i:Int))]]:=u7;rw[<-z0]at u4
   by_cases T9:w=true
   ·have b3:=b1.resolve_right (by rw[yQ T9 i];simp)
    rw[T9]at hw;cbv;refine bT l1 ?_;refine⟨_,hS.call hw,?_⟩;cbv;refine bT rfl ?_;rw[u0];refine nd u1 (nd u2 (nd u3 (nd P9 (nd u4 ?_))));refine aQ [(2,7)] (some (1,[[.v (.int .i64 (Int.ofNat i))]])) ?_ ?_ ?_ ?_ rfl (Nat.le_add_left 1 2) b3
    ·simp[aZ,kt,Ae,ae,vi,vb,AV.ay,AV.aI,Cell.ay,aq,i1,u8]
    ·simp[a8,kt,Ae,ae,Abs.look,aq,aC.ay,Cell.ay,u7]
    ·simp[aF,kt,Ae,ae,aq]
    ·simp
   ·have QA:w=false:=by simpa using T9
    have cu:=hu QA i hi;rw[QA]at hw
    by_cases Lo:u i=true
    ·have b3:=b1.resolve_right (by rw[ZL QA i,Lo];simp)
     rw[Lo]at cu;cbv;refine bT l1 ?_;refine⟨_,hS.call hw,?_⟩;cbv;refine bF rfl ?_;refine⟨_,hS.call cu,?_⟩;cbv;refine bT rfl ?_;rw[u0];refine nd u1 (nd u2 (nd u3 (nd P9 (nd u4 ?_))));refine aQ [(2,7)] (some (1,[[.v (.int .i64 (Int.ofNat i))]])) ?_ ?_ ?_ ?_ rfl (Nat.le_add_left 1 2) b3
     ·simp[aZ,kt,Ae,ae,vi,vb,AV.ay,AV.aI,Cell.ay,aq,i1,u8]
     ·simp[a8,kt,Ae,ae,Abs.look,aq,aC.ay,Cell.ay,u7]
     ·simp[aF,kt,Ae,ae,aq]
     ·simp
    ·have Lo:u i=false:=by simpa using Lo
     have b3:=b2 (by rw[ZL QA i,Lo]);rw[Lo]at cu;cbv;refine bT l1 ?_;refine⟨_,hS.call hw,?_⟩;cbv;refine bF rfl ?_;refine⟨_,hS.call cu,?_⟩;cbv;refine bF rfl ?_;refine aQ [] none ?_ ?_ ?_ ?_ rfl (Nat.le_add_left 1 1) b3
     ·simp[aZ,kt,Ae,ae,vi,vb,AV.ay,AV.aI,Cell.ay,aq,i1,u6]
     ·simp[a8,kt,Ae,ae,Abs.look,aq,aC.ay,Cell.ay,u7]
     ·simp[aF,kt,Ae,ae,aq]
     ·simp
  | some z=>
   obtain⟨len,R⟩:=z;obtain⟨ha,hlen⟩:=ha;simp only at ha hlen;have UZ:=GC v i;have b1:XA v (i+1) (some (len+1,R ++ [[.v (.int .i64 (Int.ofNat i))]]))∨v i=false:=by
    by_cases h:v i=true
    ·exact .inl ⟨by rw[DU h];show R++_=_;rw[ha];simp[W],by rw[DU h,List.length_append,<-hlen];rfl⟩
    ·exact .inr (by simpa using h)
   have b2:v i=false->XA v (i+1) (some (len,R)):=fun h=>⟨by rw[IB h];exact ha,by rw[IB h];exact hlen⟩
   have UU:=hS.ve (row:=[Tree.v (.int .i64 (Int.ofNat i))]) (w:=1) rfl (r:=R) (len:=len) (b:=8) (by rw[hlen,ha,jf]) (by unfold az;omega);have u0:=UU.1;have u1:=UU.2.1;have u2:=UU.2.2.1;have u3:=UU.2.2.2.1;have u4:=UU.2.2.2.2.1;have u5:=UU.2.2.2.2.2.1;have u6:=UU.2.2.2.2.2.2.1;have u7:=UU.2.2.2.2.2.2.2;clear UU;have u6:aJ len (ab [[Tree.v (.int .i64 (i:Int))]])=len+1:=u6;have u7:bQ R 0 [[Tree.v (.int .i64 (i:Int))]]=R ++ [[Tree.v (.int .i64 (i:Int))]]:=u7
   by_cases T9:w=true
   ·have b3:=b1.resolve_right (by rw[yQ T9 i];simp)
    rw[T9]at hw;cbv;refine bT l1 ?_;refine⟨_,hS.call hw,?_⟩;cbv;refine bT rfl ?_;rw[u0];refine nd u1 (nd u2 (nd u3 (nd u4 (nd u5 ?_))));refine aQ [(2,8)] (some (len+1,R ++ [[.v (.int .i64 (Int.ofNat i))]])) ?_ ?_ ?_ ?_ rfl (Nat.le_add_left 1 2) b3
    ·simp[aZ,kt,Ae,ae,vi,vb,AV.ay,AV.aI,Cell.ay,aq,i1,u6]
    ·simp[a8,kt,Ae,ae,Abs.look,aq,aC.ay,Cell.ay,u7]
    ·simp[aF,kt,Ae,ae,aq]
    ·simp
   ·have QA:w=false:=by simpa using T9
    have cu:=hu QA i hi;rw[QA]at hw
    by_cases Lo:u i=true
    ·have b3:=b1.resolve_right (by rw[ZL QA i,Lo];simp)
     rw[Lo]at cu;cbv;refine bT l1 ?_;refine⟨_,hS.call hw,?_⟩;cbv;refine bF rfl ?_;refine⟨_,hS.call cu,?_⟩;cbv;refine bT rfl ?_;rw[u0];refine nd u1 (nd u2 (nd u3 (nd u4 (nd u5 ?_))));refine aQ [(2,8)] (some (len+1,R ++ [[.v (.int .i64 (Int.ofNat i))]])) ?_ ?_ ?_ ?_ rfl (Nat.le_add_left 1 2) b3
     ·simp[aZ,kt,Ae,ae,vi,vb,AV.ay,AV.aI,Cell.ay,aq,i1,u6]
     ·simp[a8,kt,Ae,ae,Abs.look,aq,aC.ay,Cell.ay,u7]
     ·simp[aF,kt,Ae,ae,aq]
     ·simp
    ·have Lo:u i=false:=by simpa using Lo
     have b3:=b2 (by rw[ZL QA i,Lo]);rw[Lo]at cu;cbv;refine bT l1 ?_;refine⟨_,hS.call hw,?_⟩;cbv;refine bF rfl ?_;refine⟨_,hS.call cu,?_⟩;cbv;refine bF rfl ?_;refine aQ [] (some (len,R)) ?_ ?_ ?_ ?_ rfl (Nat.le_add_left 1 2) b3
     ·simp[aZ,kt,Ae,ae,vi,vb,AV.ay,AV.aI,Cell.ay,aq,i1,u6]
     ·simp[a8,kt,Ae,ae,Abs.look,aq,aC.ay,Cell.ay,u7]
     ·simp[aF,kt,Ae,ae,aq]
     ·simp
 ·intro a ha
  have lE:zV (Int.ofNat n) M=false:=by rw[hS.lt,hM];exact decide_eq_false (show ¬(n:Int)<(n:Int) by omega)
  cases a with
  | none=>
   have ha:jK v n=[]:=ha;rw[ha]at hF;cbv;refine bF lE ?_;exact gX hF (aW.drop _ _)
  | some z=>
   obtain⟨len,R⟩:=z;obtain⟨ha,hlen⟩:=ha;simp only at ha hlen;have UU:=hS.whole (r:=R) (len:=len) (by rw[hlen,ha,jf]);have f1:=UU.1;have f2:=UU.2;clear UU;rw[<-ha]at hF;cbv;refine bF lE (nd f1 ?_);rw[f2];exact hF _ (ak.refl _)
open Go Go.Abs Go.Abs.M Go.Proofs
open Go Go.Abs Go.Abs.M Go.Proofs
def kT (N:Int) (E D:List (List T2)):List Tree:=[.v (.int .i64 N),.aa false (an E),.aa false (an D)]
def uW (N:Int) (E D:List (List T2)) (k M:Int) (E' D':List (List T2)):Bool:=
 if yq k=true then decide (M=N)&&decide (E'=E) else if k=12 then decide (M=N) else if k=3 then decide (N<=M)&&decide (D'=D) else decide (N<=M)
structure LP (l:List (List T2)):Prop where
 k:∀p∈l,KP p
 n:l.length<=1000
theorem LP.ok {l:List (List T2)} (h:LP l):∀p∈l,Xz p:=fun p hp=>⟨(h.k p hp).ok.1,(h.k p hp).ok.2⟩
theorem Lp (N M k:Int) (E D E' D':List (List T2)) (hE:LP E) (hD:LP D) (yn:LP E') (Sk:LP D') (hk:1<=k/\k<=13) (aG C:Tree) (q:jC) :
  ah Tryz.prog 40 [.val (.agg (fT N (.aa false (an E)) (.aa false (an D)) k aG C q)),.val (.agg (kT M E' D'))] ⟨[.val (tb (uW N E D k M E' D'))],[none,none]⟩:=by
 have hw:=qH k hk q;have c1:=xW E' E yn.ok hE.ok yn.n hE.n;have c2:=xW D' D Sk.ok hD.ok Sk.n hD.n;obtain⟨R,hR⟩:∃R,R=uW N E D k M E' D':=⟨_,rfl⟩;rw[<-hR];unfold uW at hR;generalize decide (E'=E)=b1,decide (D'=D)=b2 at *;unfold kT;generalize an E=X,an D=X2,an E'=Y,an D'=Y2 at *;unfold cT at hw;unfold fT
 by_cases h1:yq k=true
 ·rw[if_pos h1]at hR
  rw[h1]at hw;refine ar aj mixed [.val] Tryz.func40 rfl rfl (by kernel_rfl) ?_;intros;rename_i zT _ _ zX _ _ _ _ _ _ _ _ _ _ _ _ _ _ _ _ _ _ _ _ _ _ _ _ _ _ _ _ _ _ _ _ _ _ _ A L F hS hF;have z1:zT M N=decide (M=N):=hS.eq _ _;cbv;refine⟨_,hS.call hw,?_⟩;cbv;refine bT rfl ?_
  by_cases h2:M=N
  ·rw[decide_eq_true h2]at hR z1
   refine bT z1 ?_;refine⟨_,hS.call c1,?_⟩;cbv;exact bn hF (jz (by rw[hR];rfl))
  ·rw[decide_eq_false h2]at hR z1
   refine bF z1 ?_;exact bn hF (jz (by rw[hR];rfl))
 ·rw[if_neg h1]at hR
  have h1:yq k=false:=by simpa using h1
  rw[h1]at hw
  by_cases h2:k=12
  ·rw[if_pos h2]at hR
   refine ar aj mixed [.val] Tryz.func40 rfl rfl (by kernel_rfl) ?_;intros;rename_i zT _ _ zX _ _ _ _ _ _ _ _ _ _ _ _ _ _ _ _ _ _ _ _ _ _ _ _ _ _ _ _ _ _ _ _ _ _ _ A L F hS hF;have z1:zT M N=decide (M=N):=hS.eq _ _;have z2:zT k 12=true:=by rw[hS.eq];exact decide_eq_true h2
   cbv;refine⟨_,hS.call hw,?_⟩;cbv;refine bF rfl ?_;refine bT z2 ?_;exact bn hF (jz (z1.trans hR.symm))
  ·rw[if_neg h2]at hR
   by_cases h3:k=3
   ·rw[if_pos h3]at hR
    refine ar aj mixed [.val] Tryz.func40 rfl rfl (by kernel_rfl) ?_;intros;rename_i zT _ _ zX _ _ _ _ _ _ _ _ _ _ _ _ _ _ _ _ _ _ _ _ _ _ _ _ _ _ _ _ _ _ _ _ _ _ _ A L F hS hF;have z1:zX N M=decide (N<=M):=hS.le _ _;have z2:zT k 12=false:=by rw[hS.eq];exact decide_eq_false h2
    have z3:zT k 3=true:=by rw[hS.eq];exact decide_eq_true h3
    cbv;refine⟨_,hS.call hw,?_⟩;cbv;refine bF rfl ?_;refine bF z2 ?_;refine bT z3 ?_
    by_cases h4:N<=M
    ·rw[decide_eq_true h4]at hR z1
     refine bT z1 ?_;refine⟨_,hS.call c2,?_⟩;cbv;exact bn hF (jz (by rw[hR];rfl))
    ·rw[decide_eq_false h4]at hR z1
     refine bF z1 ?_;exact bn hF (jz (by rw[hR];rfl))
   ·rw[if_neg h3]at hR
    refine ar aj mixed [.val] Tryz.func40 rfl rfl (by kernel_rfl) ?_;intros;rename_i zT _ _ zX _ _ _ _ _ _ _ _ _ _ _ _ _ _ _ _ _ _ _ _ _ _ _ _ _ _ _ _ _ _ _ _ _ _ _ A L F hS hF;have z1:zX N M=decide (N<=M):=hS.le _ _;have z2:zT k 12=false:=by rw[hS.eq];exact decide_eq_false h2
    have z3:zT k 3=false:=by rw[hS.eq];exact decide_eq_false h3
    cbv;refine⟨_,hS.call hw,?_⟩;cbv;refine bF rfl ?_;refine bF z2 ?_;refine bF z3 ?_;exact bn hF (jz (z1.trans hR.symm))
open Go Go.Abs Go.Abs.M Go.Proofs
def jL:jC:=⟨[],0,0,0,[],[],[],[],0,[],[],[],[],0,0,0,0,0,0,0,0,[],[],[],[],[],[],[],[],[],[],[],[],[]⟩
def zF:List Tree:=fT 0 (.aa false []) (.aa false []) 0 (.aa false []) (.aa false []) jL
def fB (N:Int) (E D:Tree) (k:Int) (aG C:Tree) (q:jC):Option aC:=some (.var ((fT N E D k aG C q).map .t))
def N5 (M:Int) (E D:Tree):Option aC:=some (.var [.t (.v (.int .i64 M)),.t E,.t D])
def JM:List Tree:=[.v (.int .i64 0),.aa true [],.aa true [],.v (.int .i64 0),.aa true [],.v (.int .i64 0),.v (.int .i64 0),.v (.int .i64 0),.aa true [],.aa true [],.aa true [],.aa true [],.v (.int .i64 0),.aa true [],.aa true [],.aa true [],.aa true [],.aa true [],.aa true [],.v (.int .i64 0),.v (.int .i64 0),.v (.int .i64 0),.v (.int .i64 0),.v (.int .i64 0),.v (.int .i64 0),.v (.int .i64 0),.v (.int .i64 0),.aa true [],.aa true [],.aa true [],.aa true [],.aa true [],.aa true [],.aa true [],.aa true [],.aa true [],.aa true [],.aa true [],.aa true [],.aa true []]
theorem ID:je (.agg JM) (.agg zF):=by
 have d:aW (.aa true []) (.aa false []):=aW.drop _ _;have r:aW (.v (.int .i64 0)) (.v (.int .i64 0)):=aW.refl _;simp[JM,zF,fT,jL,je,kh,d,r]
theorem Lq (N M k:Int) (E D E' D':List (List T2)) (aG C:Tree) (q:jC)
  (hf:ah Tryz.prog 40 [.val (.agg (fT N (.aa false (an E)) (.aa false (an D)) k aG C q)),.val (.agg (kT M E' D'))] ⟨[.val (tb false)],[none,none]⟩) :
  ah Tryz.prog 14 [.val (.agg (fT N (.aa false (an E)) (.aa false (an D)) k aG C q)),.val (.agg (kT M E' D'))] ⟨[.val (.agg zF),.val (tb false)],[none,none]⟩:=by
 have hz:=ID;unfold JM at hz;unfold kT at *;generalize an E=X,an D=X2,an E'=Y,an D'=Y2 at *;unfold fT at *;refine ar aj mixed [.val,.val] Tryz.func14 rfl rfl (by kernel_rfl) ?_;intros;rename_i zY _ _ _ _ _ _ _ _ _ _ _ _ _ _ _ _ _ _ _ _ _ _ _ _ _ _ _ _ _ _ _ _ _ _ A L F hS hF;have y:zY false=true:=by rw[hS.not];rfl
 cbv;refine⟨_,hS.call hf,?_⟩;cbv;refine bT y ?_;exact Fy hF hz (je.refl _)
theorem Ls (N M k:Int) (E D E' D':List (List T2)) (aG C:Tree) (q:jC)
  (hf:ah Tryz.prog 40 [.val (.agg (fT N (.aa false (an E)) (.aa false (an D)) k aG C q)),.val (.agg (kT M E' D'))] ⟨[.val (tb true)],[none,none]⟩)
  (hw:ah Tryz.prog 25 [.val (.agg (cT k q))] ⟨[.val (tb true)],[none]⟩) :
  ah Tryz.prog 14 [.val (.agg (fT N (.aa false (an E)) (.aa false (an D)) k aG C q)),.val (.agg (kT M E' D'))] ⟨[.val (.agg (fT M (.aa false (an E')) (.aa false (an D')) k aG C q)),.val (tb true)],[none,none]⟩:=by
 unfold kT cT at *;generalize an E=X,an D=X2,an E'=Y,an D'=Y2 at *;unfold fT at *;refine ar aj mixed [.val,.val] Tryz.func14 rfl rfl (by kernel_rfl) ?_;intros;rename_i zY _ _ _ _ _ _ _ _ _ _ _ _ _ _ _ _ _ _ _ _ _ _ _ _ _ _ _ _ _ _ _ _ _ _ A L F hS hF;have y:zY true=false:=by rw[hS.not];rfl
 cbv;refine⟨_,hS.call hf,?_⟩;cbv;refine bF y ?_;refine⟨_,hS.call hw,?_⟩;cbv;refine bT rfl ?_;exact hF _ (ak.refl _)
def vz (N M k:Int) (X X2 Y Y2:Abs.Rows) (aG C:Tree) (q:jC) (av L:Abs.Rows) (m J:Int):St:=ae 91 [.af,.af,.c (.ptr 2 0 0),.c (.ptr 3 0 0),.c (.ptr 4 0 0),vb false,.c (.ptr 7 0 0),.c (.t (.aa false av)),.af,.af,.af,.af,.af,.af,.af,.af,.af,.af,.af,.af,.af,.af,.af,.af,.af,.af,.af,.af,.af,.af,.af,.af,.af,.af,.c (.t (.aa false L)),vi .i64 m,vi .i64 J] [none,none,fB N (.aa false X) (.aa false X2) k aG C q,N5 M (.aa false Y) (.aa false Y2),some (.var (JM.map .t)),none,none,fB M (.aa false Y) (.aa false Y2) k aG C q]
theorem Lt (N M k:Int) (E D E' D':List (List T2)) (aG C:Tree) (q:jC) (av ix:List Int) (n:Nat) (b:Bool) (xX:Abs.Rows) (hk:k≠12)
  (hL:ix.length<=1000) (RR:∀x∈ix,0<=x/\x<n) (eI:av.length=n) (hb:b=true↔∀x∈ix,0<=av.getD x.toNat (-1))
  (hf:ah Tryz.prog 40 [.val (.agg (fT N (.aa false (an E)) (.aa false (an D)) k aG C q)),.val (.agg (kT M E' D'))] ⟨[.val (tb true)],[none,none]⟩)
  (hw:ah Tryz.prog 25 [.val (.agg (cT k q))] ⟨[.val (tb false)],[none]⟩)
  (hp:ah Tryz.prog 41 [.val (tl (an E)),.val (tl (an E'))] ⟨[.val (tl (W .i64 av))],[none,none]⟩)
  (hu:ah Tryz.prog 12 [.val (.agg (fT N (.aa false (an E)) (.aa false (an D)) k aG C q))] ⟨[.val (tl (W .i64 ix))],[none]⟩)
  (hm:b=true->ah Tryz.prog 42 [.val (.c aG),.val (tl (W .i64 av)),.val (ti .i64 (E'.length:Int))] ⟨[.val (tl xX)],[none,none,none]⟩) :
  ah Tryz.prog 14 [.val (.agg (fT N (.aa false (an E)) (.aa false (an D)) k aG C q)),.val (.agg (kT M E' D'))] ⟨[.val (.agg (if b=true then fT M (.aa false (an E')) (.aa false (an D')) k (.aa false xX) C q else zF)),.val (tb b)],[none,none]⟩:=by
 have hz:=ID;obtain⟨Av,Ua⟩:∃Z,Z=W .i64 av:=⟨_,rfl⟩;obtain⟨Lr,QB⟩:∃Z,Z=W .i64 ix:=⟨_,rfl⟩;obtain⟨l,hl⟩:∃l,l=ix.length:=⟨_,rfl⟩;obtain⟨m,UC⟩:∃m:Int,m=(l:Int):=⟨_,rfl⟩;have QD:Lr.length=l:=by rw[QB,jf,hl]
 have lY:(an E').length=E'.length:=nU _;obtain⟨el,RS⟩:∃el:Int,el=(E'.length:Int):=⟨_,rfl⟩;rw[<-Ua]at hp hm;rw[<-QB]at hu;rw[<-RS]at hm;unfold kT cT at *;generalize an E=X,an D=X2,an E'=Y,an D'=Y2 at *;unfold fT at *;refine ar aj mixed [.val,.val] Tryz.func14 rfl rfl (by kernel_rfl) fun zD zE _ _ _ _ _ _ _ _ _ _ _ zU zV zX zY _ _ _ _ zu _ zz _ _ _ _ _ _ _ ab _ _ aL aw _ _ _ _ _ _ _ _ _ _ _ _ _ _ _ A L F hS hF=>?_
 have y:zY true=false:=by rw[hS.not];rfl
 have lN:zz (ab Lr)=m:=by rw[hS.aB,hS.len,QD,UC]
 have yN:zz (ab Y)=el:=by rw[hS.aB,hS.len,lY,RS]
 have zk:zU k 12=true:=by rw[hS.ne];exact decide_eq_true hk
 cbv;refine⟨_,hS.call hf,?_⟩;cbv;refine bF y ?_;refine⟨_,hS.call hw,?_⟩;cbv;refine bF rfl ?_;refine⟨_,hS.call hp,?_⟩;cbv;refine⟨_,hS.call hu,?_⟩;cbv;simp only[lN];refine nA aj mixed hS (n:=l) (fun j (d:Unit)=>vz N M k X X2 Y Y2 aG C q Av Lr m (Int.ofNat j)) (fun j d=>∀x∈ix.take j,0<=av.getD x.toNat (-1)) (a0:=()) (fi ?_ ?_) rfl (Nat.le_add_left 2 6) (by simp) ?_ ?_
 ·simp[dO,vz,ae,vi,vb]
 ·simp[dP,vz,fB,fT,N5,JM,ae]
 ·intro j d hj hd
  have l1:zV (Int.ofNat j) m=true:=by rw[<-lN];exact(hS.gC QD hj (by omega)).1
  have i1:zD .i64 (zE (j:Int) 1)=(j:Int)+1:=(hS.gC QD hj (by omega)).2.1;have j1:zu (Int.ofNat j)=j:=by rw[hS.nat];rfl
  have n0:zX 0 (Int.ofNat j)=true:=by rw[hS.le];exact decide_eq_true (show(0:Int)<=(j:Int) by omega)
  have Lu:j<ix.length:=by omega
  obtain⟨x,hx⟩:∃x:Nat,(x:Int)=ix[j]:=⟨ix[j].toNat,by have:=(RR _ (List.getElem_mem Lu)).1;omega⟩;have hxn:x<n:=Int.ofNat_lt.1 (by rw[hx];exact(RR _ (List.getElem_mem Lu)).2);have eC:ix.take (j+1)=ix.take j ++ [(x:Int)]:=by rw[List.take_add_one,List.getElem?_eq_getElem Lu,hx];rfl
  have g1:aL .i64 Lr j=true:=by rw[hS.gE,QB,kM];exact decide_eq_true Lu
  have g2:aw Lr j=Int.ofNat x:=by rw[hS.dF,QB,mP,List.getD_eq_getElem?_getD,List.getElem?_eq_getElem Lu];exact hx.symm
  obtain⟨a,ha⟩:∃a,a=av.getD x (-1):=⟨_,rfl⟩;have g3:aL .i64 Av x=true:=by rw[hS.gE,Ua,kM];exact decide_eq_true (by omega)
  have g4:aw Av x=a:=by rw[hS.dF,Ua,mP,ha,List.getD_eq_getElem?_getD,List.getD_eq_getElem?_getD,List.getElem?_eq_getElem (show x<av.length by omega)];rfl
  have j3:zu (Int.ofNat x)=x:=by rw[hS.nat];rfl
  have n3:zX 0 (Int.ofNat x)=true:=by rw[hS.le];exact decide_eq_true (show(0:Int)<=(x:Int) by omega)
  by_cases h0:a<0
  ·have z0:zV a 0=true:=by rw[hS.lt];exact decide_eq_true h0
   have Ju:b=false:=by
    cases bK:b with
    | false=>rfl
    | true=>
     have:=hb.1 bK (x:Int) (by rw[hx];exact List.getElem_mem Lu);rw[Int.toNat_natCast,<-ha]at this;omega
   rw[Ju]at hF;clear hx eC ha;cbv;refine bT l1 ?_;simp only[j1,g2,j3,g4];refine nd n0 (nd g1 (nd n3 (nd g3 (bT z0 ?_))));exact Fy hF hz (je.refl _)
  ·have z0:zV a 0=false:=by rw[hS.lt];exact decide_eq_false h0
   have hR:∀x∈ix.take (j+1),0<=av.getD x.toNat (-1):=by
    rw[eC];intro z hz;rcases List.mem_append.1 hz with hz|hz
    ·exact hd z hz
    ·rw[List.mem_singleton.1 hz,Int.toNat_natCast,<-ha];omega
   clear hx eC ha;cbv;refine bT l1 ?_;simp only[j1,g2,j3,g4];refine nd n0 (nd g1 (nd n3 (nd g3 (bF z0 ?_))));refine aQ [(2,2),(3,3),(4,4),(7,7)] () ?_ ?_ ?_ ?_ rfl (Nat.le_add_left 2 6) hR
   ·simp[aZ,vz,ae,vi,vb,AV.ay,AV.aI,Cell.ay,aq,i1]
   ·simp[a8,vz,fB,fT,N5,JM,ae,Abs.look,aq,aC.ay,Cell.ay]
   ·simp[aF,vz,fB,fT,N5,JM,ae,aq]
   ·simp
 ·intro d hd
  rw[List.take_of_length_le (by omega)]at hd;have XB:b=true:=hb.2 hd;have lE:zV (Int.ofNat l) m=false:=by rw[<-lN];exact hS.eU QD
  have cm:=hm XB;rw[XB]at hF;rw[if_pos rfl]at hF;cbv;refine bF lE (bT zk ?_);simp only[yN];refine⟨_,hS.call cm,?_⟩;cbv;exact hF _ (ak.refl _)
open Go Go.Abs Go.Abs.M Go.Proofs
def JN (l:List Int):Prop:=(∀x∈l,-128<=x/\x<128)/\l.length<=281474976710656
theorem Af (l:List Int) (hl:JN l) (k:Int) (k0:0<=k) (k1:k<=1000) :
  ∃v:Int,-128<=v/\v<128/\ah Tryz.prog 66 [.val (tl (W .i8 l)),.val (ti .i64 k)] ⟨[.val (ti .i64 v)],[none,none]⟩:=by
 obtain⟨X,hX⟩:∃X,X=W .i8 l:=⟨_,rfl⟩;have lX:X.length=l.length:=by rw[hX];unfold W;exact List.length_map ..
 by_cases h0:l.length=0
 ·refine⟨0,by decide,by decide,?_⟩
  rw[<-hX];refine ar aj mixed [.val] Tryz.func66 rfl rfl (by kernel_rfl) fun zD _ _ _ _ zJ _ _ _ _ _ _ zT zU _ zX _ _ _ _ _ zu _ zz _ _ _ _ _ _ _ ab _ _ aL aw _ _ _ _ _ _ _ _ _ _ _ _ _ _ _ A L F hS hF=>?_
  have z0:zT (zz (ab X)) 0=true:=by rw[hS.eq,hS.aB,hS.len,lX,h0];rfl
  cbv;refine bT z0 ?_;exact hF _ (ak.refl _)
 ·obtain⟨j,hj⟩:∃j,j=k.toNat%l.length:=⟨_,rfl⟩
  have OX:j<l.length:=by rw[hj];exact Nat.mod_lt _ (by omega)
  obtain⟨v,hv⟩:∃v,v=l.getD j 0:=⟨_,rfl⟩;have RT:v∈l:=by rw[hv,List.getD_eq_getElem?_getD,List.getElem?_eq_getElem OX];exact List.getElem_mem OX
  refine⟨v,(hl.1 v RT).1,(hl.1 v RT).2,?_⟩;rw[<-hX];have acG:k.tmod (l.length:Int)=(j:Int):=by
   rw[Int.tmod_eq_emod_of_nonneg k0,hj,Int.natCast_emod,Int.toNat_of_nonneg k0]
  refine ar aj mixed [.val] Tryz.func66 rfl rfl (by kernel_rfl) fun zD _ _ _ _ zJ _ _ _ _ _ _ zT zU _ zX _ _ _ _ _ zu _ zz _ _ _ _ _ _ _ ab _ _ aL aw _ _ _ _ _ _ _ _ _ _ _ _ _ _ _ A L F hS hF=>?_
  have z0:zT (zz (ab X)) 0=false:=by rw[hS.eq,hS.aB,hS.len,lX];exact decide_eq_false (by omega)
  have z1:zU (zz (ab X)) 0=true:=by rw[hS.ne,hS.aB,hS.len,lX];exact decide_eq_true (by omega)
  have e1:zJ k (zz (ab X))=(j:Int):=by rw[hS.rem,hS.aB,hS.len,lX];exact acG
  have e2:zD .i64 (j:Int)=(j:Int):=by rw[hS.wrap];exact wrap_i64 (by omega) (by have:=hl.2;omega)
  have e3:zu (j:Int)=j:=by rw[hS.nat];rfl
  have n0:zX 0 (j:Int)=true:=by rw[hS.le];exact decide_eq_true (by omega)
  have j2:aw X j=v:=by rw[hS.dF,hX,mP];exact hv.symm
  have j3:aL .i8 X j=true:=by rw[hS.gE,hX,kM];exact decide_eq_true OX
  have e4:zD .i64 v=v:=by rw[hS.wrap];exact wrap_i64 (by have:=(hl.1 v RT).1;omega) (by have:=(hl.1 v RT).2;omega)
  cbv;refine bF z0 ?_;simp only[e1,e2,e3,j2,e4];refine nd z1 (nd n0 (nd j3 ?_));exact hF _ (ak.refl _)
def mn (X:Abs.Rows) (k n:Int) (len:Nat) (O:Abs.Rows) (I:Int):St:=ae 35 [.c (.t (.aa false X)),vi .i64 k,vi .i64 n,.af,.af,.af,.af,.c (.sl 3 0 len false),vi .i64 I] [none,none,none,some (.rows 1 O true false)]
theorem RU (l:List (List T2)) (hl:∀p∈l,SP p) (hk:l.length<=1000) (k:Int) (k0:0<=k) (k1:k<=1000) (n:Nat) (n1:n<=20) :
  ∃r:List (List T2),r.length=n/\(∀p∈r,SP p)/\ah Tryz.prog 67 [.val (tl (an l)),.val (ti .i64 k),.val (ti .i64 (n:Int))] ⟨[.val (tl (an r))],[none,none,none]⟩:=by
 obtain⟨f,hf⟩:∃f:Nat->List T2,f=fun i=>if l.length=0 then [] else l.getD ((k.toNat+i)%l.length) []:=⟨_,rfl⟩
 have sp0:SP []:=⟨by simp,⟨by simp,List.Pairwise.nil⟩,by simp,by show(-1:Int)<=12;omega⟩;have GN:∀i,SP (f i):=fun i=>by
  rw[hf];simp only;split
  ·exact sp0
  ·rename_i h
   rw[List.getD_eq_getElem?_getD,List.getElem?_eq_getElem (Nat.mod_lt _ (by omega))];exact hl _ (List.getElem_mem _)
 refine⟨(List.range n).map f,by simp,fun p hp=>by obtain⟨i,_,rfl⟩:=List.mem_map.1 hp;exact GN i,?_⟩;obtain⟨X,hX⟩:∃X,X=an l:=⟨_,rfl⟩;have lX:X.length=l.length:=by rw[hX,nU]
 obtain⟨Y,hY⟩:∃Y,Y=an ((List.range n).map f):=⟨_,rfl⟩;obtain⟨nI,XF⟩:∃i:Int,i=(n:Int):=⟨_,rfl⟩;rw[<-hX,<-hY,<-XF];refine ar aj mixed [.val] Tryz.func67 rfl rfl (by kernel_rfl) fun zD zE _ _ _ zJ _ _ _ _ _ _ zT zU zV zX _ _ _ _ _ zu _ zz _ _ _ _ _ _ _ ab aD _ _ _ _ _ _ _ _ _ _ _ _ _ _ _ _ _ _ A L F hS hF=>?_
 have lE:zV (Int.ofNat n) nI=false:=by rw[hS.lt,XF];exact decide_eq_false (by show ¬((n:Int)<n);omega)
 cbv;refine fA aj mixed hS (n:=n) (fun i (O:Abs.Rows)=>mn X k nI i O (Int.ofNat i)) (fun i O=>O=an ((List.range i).map f)) (a0:=[]) (fi ?_ ?_) rfl (by show 3<=4;omega) (by simp[an]) ?_ ?_
 ·simp[dO,mn,ae,vi,vb]
 ·simp[dP,mn,ae]
 ·intro i O hi hO
  have c1:zV (Int.ofNat i) nI=true:=by rw[hS.lt,XF];exact decide_eq_true (by show(i:Int)<n;omega)
  have i1:zD .i64 (zE (Int.ofNat i) 1)=(i:Int)+1:=by rw[hS.add,hS.wrap];exact wrap_i64 (by show -9223372036854775808<=(i:Int)+1;omega) (by show(i:Int)+1<9223372036854775808;omega)
  have lO:i=O.length:=by rw[hO,nU];simp
  obtain⟨row,da⟩:∃row:List Tree,row=[.aa false (aV (f i))]:=⟨_,rfl⟩;have BD:O ++ [row]=an ((List.range (i+1)).map f):=by rw[List.range_succ,List.map_append,hO,da];simp[an]
  obtain⟨u0,u1,u2,u3,u4,u5,u6,u7⟩:=hS.ve (row:=row) (w:=1) (by rw[da];rfl) (r:=O) (len:=i) (b:=24) lO (by unfold az;omega)
  by_cases h0:l.length=0
  ·have z0:zT (zz (ab X)) 0=true:=by rw[hS.eq,hS.aB,hS.len,lX,h0];rfl
   have js:row=[.aa false []]:=by rw[da,hf];simp[h0,aV]
   obtain⟨v1,v2⟩:=hS.whole (r:=[]) (len:=0) rfl;refine⟨?_⟩;cbv;refine bT c1 (bT z0 ?_);rw[js]at u0 u1 u2 u3 u4 u6 u7 BD;simp only[v2,u0];refine nd v1 (nd u1 (nd u2 (nd u3 (nd u4 (nd u5 ?_)))));refine aQ [(3,6)] (O ++ [[.aa false []]]) ?_ ?_ ?_ ?_ rfl (by show 3<=4;omega) BD
   ·simp[aZ,mn,ae,vi,AV.ay,AV.aI,Cell.ay,aq,u6]
    exact i1
   ·simp[a8,mn,ae,Abs.look,aq,aC.ay,u7,Cell.ay]
   ·simp[aF,mn,ae,aq]
   ·simp
  ·obtain⟨j,hj⟩:∃j,j=(k.toNat+i)%l.length:=⟨_,rfl⟩
   have OX:j<l.length:=by rw[hj];exact Nat.mod_lt _ (by omega)
   have XH:f i=l[j]:=by rw[hf];simp only[if_neg h0];rw[<-hj,List.getD_eq_getElem?_getD,List.getElem?_eq_getElem OX];rfl
   have z0:zT (zz (ab X)) 0=false:=by rw[hS.eq,hS.aB,hS.len,lX];exact decide_eq_false (by omega)
   have z1:zU (zz (ab X)) 0=true:=by rw[hS.ne,hS.aB,hS.len,lX];exact decide_eq_true (by omega)
   have e0:zD .i64 (zE k (Int.ofNat i))=k+(i:Int):=by rw[hS.add,hS.wrap];exact wrap_i64 (by show -9223372036854775808<=k+(i:Int);omega) (by show k+(i:Int)<9223372036854775808;omega)
   have e1:zJ (k+(i:Int)) (zz (ab X))=(j:Int):=by
    rw[hS.rem,hS.aB,hS.len,lX,Int.tmod_eq_emod_of_nonneg (by omega),hj,Int.natCast_emod,Int.natCast_add,Int.toNat_of_nonneg k0]
   have e2:zD .i64 (j:Int)=(j:Int):=by rw[hS.wrap];exact wrap_i64 (by omega) (by omega)
   have e3:zu (j:Int)=j:=by rw[hS.nat];rfl
   have n0:zX 0 (j:Int)=true:=by rw[hS.le];exact decide_eq_true (by omega)
   have j2:aD X j=some row:=by rw[hS.nth,hX,da,XH];simp[an,OX]
   rw[da]at u0 u1 u2 u3 u4 u6 u7 BD j2;generalize aV (f i)=Z at *;refine⟨?_⟩;cbv;refine bT c1 (bF z0 ?_);simp only[e0,e1,e2,e3,j2];cbv;simp only[u0];refine nd z1 (nd n0 (nd u1 (nd u2 (nd u3 (nd u4 (nd u5 ?_))))));refine aQ [(3,5)] (O ++ [[.aa false Z]]) ?_ ?_ ?_ ?_ rfl (by show 3<=4;omega) BD
   ·simp[aZ,mn,ae,vi,AV.ay,AV.aI,Cell.ay,aq,u6]
    exact i1
   ·simp[a8,mn,ae,Abs.look,aq,aC.ay,u7,Cell.ay]
   ·simp[aF,mn,ae,aq]
   ·simp
 ·intro O hO
  obtain⟨v1,v2⟩:=hS.whole (r:=O) (len:=n) (by rw[hO,nU];simp);rw[<-hY]at hO;rw[hO]at v1 v2;subst hO;refine⟨?_⟩;cbv;refine bF lE ?_;rw[v2];refine nd v1 ?_;exact hF _ (ak.refl _)
def ug (X:Abs.Rows) (r c:Int) (len:Nat) (O:Abs.Rows) (I:Int):St:=ae 25 [.c (.t (.aa false X)),vi .i64 r,vi .i64 c,.af,.af,.af,.af,.c (.sl 3 0 len false),vi .i64 I] [none,none,none,some (.rows 1 O true false)]
def Lv (t:List (List (List T2))) (r c:Nat):Prop:=t.length=r/\∀p∈t,p.length=c/\∀q∈p,SP q
theorem j5 (l:List (List T2)) (hl:∀p∈l,SP p) (hk:l.length<=1000) (r c:Nat) (r1:r<=10) (c1:c<=10) :
  ∃t,Lv t r c/\ah Tryz.prog 71 [.val (tl (an l)),.val (ti .i64 (r:Int)),.val (ti .i64 (c:Int))] ⟨[.val (tl (di t))],[none,none,none]⟩:=by
 have hP:=fun i:Nat=>RU l hl hk (if i<10 then(i:Int)*(c:Int) else 0) (by split;exact Int.mul_nonneg (by omega) (by omega);omega) (by
  split
  ·have:(i:Int)*(c:Int)<=10*10:=Int.mul_le_mul (by omega) (by omega) (by omega) (by omega)
   omega
  ·omega) c (by omega)
 obtain⟨f,hf⟩:=Classical.axiomOfChoice hP;refine⟨(List.range r).map f,⟨by simp,fun p hp=>by obtain⟨i,_,rfl⟩:=List.mem_map.1 hp;exact⟨(hf i).1,(hf i).2.1⟩⟩,?_⟩;have hC:∀i:Nat,i<10->ah Tryz.prog 67 [.val (tl (an l)),.val (ti .i64 ((i:Int)*(c:Int))),.val (ti .i64 (c:Int))] ⟨[.val (tl (an (f i)))],[none,none,none]⟩:=fun i hi=>by
  have:=(hf i).2.2;rw[if_pos hi]at this;exact this
 clear hf hP;obtain⟨Y,hY⟩:∃Y,Y=di ((List.range r).map f):=⟨_,rfl⟩;obtain⟨rI,hrI⟩:∃i:Int,i=(r:Int):=⟨_,rfl⟩;obtain⟨cI,hcI⟩:∃i:Int,i=(c:Int):=⟨_,rfl⟩;have YA:0<=cI/\cI<=10:=by omega
 rw[<-hY,<-hrI,<-hcI];rw[<-hcI]at hC;generalize an l=X at *;refine ar aj mixed [.val] Tryz.func71 rfl rfl (by kernel_rfl) fun zD zE _ zH _ _ _ _ _ _ _ _ _ _ zV _ _ _ _ _ _ _ _ _ _ _ _ _ _ _ _ _ _ _ _ _ _ _ _ _ _ _ _ _ _ _ _ _ _ _ _ A L F hS hF=>?_
 have lE:zV (Int.ofNat r) rI=false:=by rw[hS.lt,hrI];exact decide_eq_false (by show ¬((r:Int)<r);omega)
 cbv;refine fA aj mixed hS (n:=r) (fun i (O:Abs.Rows)=>ug X rI cI i O (Int.ofNat i)) (fun i O=>O=di ((List.range i).map f)) (a0:=[]) (fi ?_ ?_) rfl (by show 3<=4;omega) (by simp[di]) ?_ ?_
 ·simp[dO,ug,ae,vi,vb]
 ·simp[dP,ug,ae]
 ·intro i O hi hO
  have d1:zV (Int.ofNat i) rI=true:=by rw[hS.lt,hrI];exact decide_eq_true (by show(i:Int)<r;omega)
  have i1:zD .i64 (zE (Int.ofNat i) 1)=(i:Int)+1:=by rw[hS.add,hS.wrap];exact wrap_i64 (by show -9223372036854775808<=(i:Int)+1;omega) (by show(i:Int)+1<9223372036854775808;omega)
  have hb:(i:Int)*cI<=10*10:=Int.mul_le_mul (by omega) YA.2 YA.1 (by omega);have Ex:0<=(i:Int)*cI:=Int.mul_nonneg (by omega) YA.1;have e0:zD .i64 (zH (Int.ofNat i) cI)=(i:Int)*cI:=by rw[hS.mul,hS.wrap];exact wrap_i64 (by show -9223372036854775808<=(i:Int)*cI;omega) (by show(i:Int)*cI<9223372036854775808;omega)
  have lO:i=O.length:=by rw[hO,jY];simp
  have cp:=hC i (by omega);have BD:O ++ [[.aa false (an (f i))]]=di ((List.range (i+1)).map f):=by rw[List.range_succ,List.map_append,hO];simp[di]
  obtain⟨u0,u1,u2,u3,u4,u5,u6,u7⟩:=hS.ve (row:=[.aa false (an (f i))]) (w:=1) rfl (r:=O) (len:=i) (b:=24) lO (by unfold az;omega);generalize an (f i)=Z at *;refine⟨?_⟩;cbv;refine bT d1 ?_;simp only[e0];refine⟨_,hS.call cp,?_⟩;cbv;simp only[u0];refine nd u1 (nd u2 (nd u3 (nd u4 (nd u5 ?_))));refine aQ [(3,7)] (O ++ [[.aa false Z]]) ?_ ?_ ?_ ?_ rfl (by show 3<=4;omega) BD
  ·simp[aZ,ug,ae,vi,AV.ay,AV.aI,Cell.ay,aq,u6]
   exact i1
  ·simp[a8,ug,ae,Abs.look,aq,aC.ay,u7,Cell.ay]
  ·simp[aF,ug,ae,aq]
  ·simp
 ·intro O hO
  obtain⟨v1,v2⟩:=hS.whole (r:=O) (len:=r) (by rw[hO,jY];simp);rw[<-hY]at hO;rw[hO]at v1 v2;subst hO;refine⟨?_⟩;cbv;refine bF lE ?_;rw[v2];refine nd v1 ?_;exact hF _ (ak.refl _)
end Go.Proofs.YtekefilngojelaaGreat
end
