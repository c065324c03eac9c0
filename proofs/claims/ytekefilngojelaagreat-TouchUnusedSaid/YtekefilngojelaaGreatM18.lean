/-
  A part of the proof: TvR3t, GabsLit2, TyA3t, TnJ3t, TnK3t, TnL3t, TnM3t, TnH3t, TnI3t, TnO3t, TnP3t, TuA3t, EvD, EvlB3t, CfU, DvM3t, EvlC3t, PolT3t, DmT3t, EvlD3t, EvlE3t, IvlC3t, GabsLaw, GabsFrame, LawCanon3t, IvlD3t, IvlE3t.
-/
import Derived.Below
import Derived.ChangeSame
import Derived.Carry
import Derived.ProofKit
import Derived.WideKeyArgs
import Derived.OpenShut
import Derived.WalkKit
import Derived.Test.YtekefilngojelaaGreatM9
import Derived.Test.YtekefilngojelaaGreatM11
import Derived.Test.YtekefilngojelaaGreatM12
import Derived.Test.YtekefilngojelaaGreatM13
import Derived.Test.YtekefilngojelaaGreatM15
import Derived.Test.YtekefilngojelaaGreatM17
set_option maxHeartbeats 0
set_option maxRecDepth 100000
set_option linter.unusedVariables false
set_option linter.unusedSimpArgs false
set_option linter.unusedSectionVars false
section
namespace Go.Proofs.YtekefilngojelaaGreat
open Go Go.Abs Go.Abs.M Go.Proofs
structure jf where
 N:Int
 X1:Abs.Rows
 X2:Abs.Rows
 X3:Abs.Rows
 X4:Abs.Rows
 X5:Abs.Rows
 X6:Abs.Rows
 r0:Int
 r1:Int
 r2:Int
 r3:Int
 r4:Int
 r5:Int
 r6:Int
 r7:Int
 Y0:Abs.Rows
 Y1:Abs.Rows
 Y2:Abs.Rows
 Y3:Abs.Rows
 Y4:Abs.Rows
 Y5:Abs.Rows
 Y6:Abs.Rows
 Y7:Abs.Rows
 Y8:Abs.Rows
 Z1:Abs.Rows
 Z2:Abs.Rows
 Z3:Abs.Rows
 Z4:Abs.Rows
def jf.row (x:jf):List Tree:=[.v (.int .i64 x.N),.aa false x.X1,.aa false x.X2,.aa false x.X3,.aa false x.X4,.aa false x.X5,.aa false x.X6,.v (.int .i64 x.r0),.v (.int .i64 x.r1),.v (.int .i64 x.r2),.v (.int .i64 x.r3),.v (.int .i64 x.r4),.v (.int .i64 x.r5),.v (.int .i64 x.r6),.v (.int .i64 x.r7),.aa false x.Y0,.aa false x.Y1,.aa false x.Y2,.aa false x.Y3,.aa false x.Y4,.aa false x.Y5,.aa false x.Y6,.aa false x.Y7,.aa false x.Y8,.aa false x.Z1,.aa false x.Z2,.aa false x.Z3,.aa false x.Z4]
end Go.Proofs.YtekefilngojelaaGreat
end
section
namespace Go.Abs
def uc (z:Int->Int->Int) (a b:Int):Int:=match a,b with
 | .ofNat n,.ofNat m=>.ofNat (n%m)
 | a,b=>z a b
def FT (z:Int->Int->Int) (a b:Int):Int:=match a,b with
 | .ofNat n,.ofNat m=>.ofNat (n/m)
 | a,b=>z a b
def FU (z:Int->Int->Nat) (a b:Int):Nat:=match a,b with
 | .ofNat n,.ofNat m=>n-m
 | a,b=>z a b
def FV (z:Int->Int->Nat->Bool) (a b:Int) (c:Nat):Bool:=match a,b with
 | .ofNat n,.ofNat m=>Nat.ble n m&&Nat.ble m c
 | a,b=>z a b c
def wE (z:Nat->Nat->Nat->Bool) (a b c:Nat):Bool:=match Nat.blt ((a+b)*c) 1000000 with
 | true=>true
 | false=>z a b c
def wF (z:Int->Int->Nat->Bool) (a b:Int) (c:Nat):Bool:=match a,b with
 | .ofNat n,.ofNat m=>(match Nat.ble n m&&Nat.blt (m*c) 1000000 with|true=>true|false=>z a b c)
 | a,b=>z a b c
def sU:Rows->Nat->Option (List Tree)
 | [],_=>none
 | x::_,0=>some x
 | _::l,n+1=>sU l n
def FW (a b:Nat) (r:Rows):Bool:=Nat.ble (a+b) r.length
def yT (r:Rows) (a n:Nat):Rows:=(r.drop a).take n
def Ii (r:Rows) (a:Nat) (x:Rows):Rows:=r.drop a++x
def rp (a:Nat):Rows->Bool
 | []=>true
 | x::l=>Nat.beq x.length a&&rp a l
def sV:Bool->Bool->Bool
 | true,b=>b
 | false,true=>false
 | false,false=>true
def xD:Bool->Bool->Bool
 | true,true=>false
 | true,false=>true
 | false,b=>b
def ZD (a b:IntKind):Bool:=match a,b with
 | .i64,.i64=>true
 | .i8,.i8=>true
 | .u8,.u8=>true
 | a,b=>a==b
def FX (k:IntKind) (l:Rows) (i:Nat):Bool:=match sU l i with
 | some [.v (.int k' _)]=>ZD k' k
 | _=>false
def wG (l:Rows) (i:Nat):Int:=match sU l i with
 | some [.v (.int _ x)]=>x
 | _=>0
def yU (k:IntKind) (l:Rows) (i:Nat) (x:Int):Rows:=l.set i [.v (.int k x)]
theorem Qw (a b:IntKind):ZD a b=(a==b):=by unfold ZD;split<;>rfl
theorem uI:∀(r:Rows) (i:Nat),sU r i=r[i]?
 | [],i=>by simp[sU]
 | x::l,0=>by simp[sU]
 | x::l,n+1=>by simp[sU,uI l n]
theorem D2 (a:Nat):∀r:Rows,rp a r=r.all fun x=>x.length==a
 | []=>rfl
 | x::l=>by rw[rp,List.all_cons,D2 a l,show Nat.beq x.length a=(x.length==a) from by rw[Bool.eq_iff_iff];simp]
theorem K6:1000000<=aF:=by unfold aF;omega
section
variable {P:Program} {C:dP} {n0:Nat} {zD:IntKind->Int->Int} {zE:Int->Int->Int} {zG:Int->Int->Int} {zH:Int->Int->Int} {zI:Int->Int->Int} {zJ:Int->Int->Int} {zK:IntKind->Int->Int->Int} {zL:IntKind->Int->Int->Int} {zM:IntKind->Int->Int->Int} {zN:IntKind->Int->Int->Int} {zO:IntKind->Int->Int->Int} {zR:IntKind->Int->Int->Int} {zS:Int->Int->Bool} {zT:Int->Int->Bool} {zU:Int->Int->Bool} {zV:Int->Int->Bool} {zX:Bool->Bool} {zY:Bool->Bool->Bool} {zZ:Bool->Bool->Bool} {zg:Int->Int->Int} {zh:Int->Int->Int} {zj:Int->Nat} {zu:Int->Nat->Bool} {zy:Nat->Int} {zz:Nat->Int->Nat} {aK:Nat->Nat->Bool} {ah:Nat->Nat->Nat} {aI:Int->Int->Nat} {aH:Int->Int->Nat->Bool} {ak:Nat->Nat->Nat->Bool} {aq:Int->Int->Nat->Bool} {ae:Rows->Nat} {aE:Rows->Nat->Option (List Tree)} {aB:Rows->Nat->List Tree->Rows} {aG:IntKind->Rows->Nat->Bool} {ao:Rows->Nat->Int} {az:IntKind->Rows->Nat->Int->Rows} {aJ:Nat->Nat->Rows->Bool} {an:Rows->Nat->Nat->Rows} {aO:Rows->Nat->Rows->Rows} {au:Rows->Nat->Rows->Rows} {aP:Nat->List Tree->Rows} {ai:Nat->Rows->Bool} {aM:List Bool->Bool} {aN:List (Value×Tree)->Value->Bool} {ay:List (Value×Tree)->Value->Bool} {aw:List (Value×Tree)->Value->Tree->List (Value×Tree)} {aL:Rows->Option ByteArray} {ar:List (Value×Tree)->Value->Option (Option Tree)} {zW:IntKind->List Int->Rows} {bc:(α:Type)->(Unit->α)->α} {A:FuncId->Ask->pc->Prop} {L:Code->St->(bC->ST->Prop)->Prop}
theorem Std.lits (h:Std P n0 zD zE zG zH zI zJ zK zL zM zN zO zR zS zT zU zV zX zY zZ zg zh zj zu zy zz aK ah aI aH ak aq ae aE aB aG ao az aJ an aO au aP ai aM aN ay aw aL ar zW bc A L):∃zr zq zd zc zo zm,zJ=uc zr/\zI=FT zq/\aI=FU zd/\aH=FV zc/\ak=wE zo/\aq=wF zm/\zy=Int.ofNat/\aK=Nat.beq/\ah=Nat.add/\ae=List.length/\aE=sU/\aB=List.set/\aJ=FW/\an=yT/\aO=Ii/\aP=List.replicate/\ai=rp/\zY=sV/\zZ=xD/\aG=FX/\ao=wG/\az=yU:=by
 refine⟨zJ,zI,aI,aH,ak,aq,?_,?_,?_,?_,?_,?_,?_,?_,?_,?_,?_,?_,?_,?_,?_,?_,?_,?_,?_,?_,?_,?_⟩
 ·funext a b
  unfold uc;split
  ·rw[h.rem];rfl
  ·rfl
 ·funext a b
  unfold FT;split
  ·rw[h.quo];rfl
  ·rfl
 ·funext a b
  unfold FU;split
  ·rw[h.HF];rfl
  ·rfl
 ·funext a b c
  unfold FV;split
  ·rename_i n m
   rw[h.cut];show decide ((0:Int)<=(n:Int)/\(n:Int)<=(m:Int)/\(m:Int)<=(c:Int))=(Nat.ble n m&&Nat.ble m c)
   rw[Bool.eq_iff_iff];simp
  ·rfl
 ·funext a b c
  unfold wE;split
  ·rename_i e
   rw[h.room];have:=Nat.le_of_ble_eq_true e;exact decide_eq_true (by have:=K6;omega)
  ·rfl
 ·funext a b c
  unfold wF;split
  ·rename_i n m
   split
   ·rename_i e
    rw[h.my];simp only[Bool.and_eq_true]at e;have e1:=Nat.le_of_ble_eq_true e.1;have e2:=Nat.le_of_ble_eq_true e.2;refine decide_eq_true ⟨?_,?_,?_⟩
    ·show(0:Int)<=(n:Int);omega
    ·show(n:Int)<=(m:Int);omega
    ·have:=K6
     show(m:Int)*(c:Int)<=(aF:Int)
     have:((m*c:Nat):Int)<=(aF:Int):=by omega
     simpa using this
   ·rfl
  ·rfl
 ·funext a;rw[h.aW];rfl
 ·funext a b;rw[h.neq,Bool.eq_iff_iff];simp
 ·funext a b;rw[h.fc];rfl
 ·funext a;rw[h.len]
 ·funext a b;rw[h.nth,uI]
 ·funext a b c;rw[h.Dc]
 ·funext a b c;rw[h.fit];unfold FW;rw[Bool.eq_iff_iff];simp
 ·funext a b c;rw[h.part];rfl
 ·funext a b c;rw[h.ext];rfl
 ·funext a b;rw[h.rep]
 ·funext a b;rw[h.wide,D2]
 ·funext a b;rw[h.beq];cases a<;>cases b<;>rfl
 ·funext a b;rw[h.bne];cases a<;>cases b<;>rfl
 ·funext a b c;rw[h.gJ];unfold FX;rw[uI];simp only[Qw];rfl
 ·funext a b;rw[h.dL];unfold wG;rw[uI];rfl
 ·funext a b c d;rw[h.nK];rfl
end
section
variable {P:Program} {C:dP}
theorem je (hC:bt P C) (ek:P.follows .mixedOrders=true) {f:FuncId} {fn:Func} {c:Code} {args:List Arg} {res:lJ} (om:List Mode) (iN:P.funcs[f]?=some fn) (ez:(fn.name == "runtime.NumGoroutine")=false) (dn:fn.body=some c) (hT:iC c=true)
  (h:∀(zD:IntKind->Int->Int) (zE:Int->Int->Int) (zG:Int->Int->Int) (zH:Int->Int->Int) (zI:Int->Int->Int) (zJ:Int->Int->Int) (zK:IntKind->Int->Int->Int) (zL:IntKind->Int->Int->Int) (zM:IntKind->Int->Int->Int) (zN:IntKind->Int->Int->Int) (zO:IntKind->Int->Int->Int) (zR:IntKind->Int->Int->Int) (zS:Int->Int->Bool) (zT:Int->Int->Bool) (zU:Int->Int->Bool) (zV:Int->Int->Bool) (zX:Bool->Bool) (zg:Int->Int->Int) (zh:Int->Int->Int) (zj:Int->Nat) (zu:Int->Nat->Bool) (zz:Nat->Int->Nat) (aI:Int->Int->Nat) (aH:Int->Int->Nat->Bool) (ak:Nat->Nat->Nat->Bool) (aq:Int->Int->Nat->Bool) (au:Rows->Nat->Rows->Rows) (aM:List Bool->Bool) (aN:List (Value×Tree)->Value->Bool) (ay:List (Value×Tree)->Value->Bool) (aw:List (Value×Tree)->Value->Tree->List (Value×Tree)) (aL:Rows->Option ByteArray) (ar:List (Value×Tree)->Value->Option (Option Tree)) (zW:IntKind->List Int->Rows) (bc:(α:Type)->(Unit->α)->α) A L (F:lJ->Prop),Std P args.length (aZ zD) (eZ zE) (jk zG) (nM zH) (FT zI) (uc zJ) zK zL zM zN zO zR (Bd zS) (GK zT) (pk zU) (GJ zV) (qP zX) sV xD zg zh (qM zj) (qN zu) Int.ofNat (qO zz) Nat.beq Nat.add (FU aI) (FV aH) (wE ak) (wF aq) List.length sU List.set FX wG yU FW yT Ii au List.replicate rp aM aN ay aw aL ar zW bc A L->(∀r,aS r res->F r)->fA (ZI.mk (aZ zD) (eZ zE) (jk zG) (nM zH) (FT zI) (uc zJ) zK zL zM zN zO zR (Bd zS) (GK zT) (pk zU) (GJ zV) (qP zX) sV xD zg zh (qM zj) (qN zu) Int.ofNat (qO zz) Nat.beq Nat.add (FU aI) (FV aH) (wE ak) (wF aq) List.length sU List.set FX wG yU FW yT Ii au List.replicate rp aM aN ay aw aL ar) C A L c (ST.kv (jZ (ZI.mk (aZ zD) (eZ zE) (jk zG) (nM zH) (FT zI) (uc zJ) zK zL zM zN zO zR (Bd zS) (GK zT) (pk zU) (GJ zV) (qP zX) sV xD zg zh (qM zj) (qN zu) Int.ofNat (qO zz) Nat.beq Nat.add (FU aI) (FV aH) (wE ak) (wF aq) List.length sU List.set FX wG yU FW yT Ii au List.replicate rp aM aN ay aw aL ar) args fn.ntmps)) fun e s=>match e with
   | .exit _=>False
   | .normal=>xr (ZI.mk (aZ zD) (eZ zE) (jk zG) (nM zH) (FT zI) (uc zJ) zK zL zM zN zO zR (Bd zS) (GK zT) (pk zU) (GJ zV) (qP zX) sV xD zg zh (qM zj) (qN zu) Int.ofNat (qO zz) Nat.beq Nat.add (FU aI) (FV aH) (wE ak) (wF aq) List.length sU List.set FX wG yU FW yT Ii au List.replicate rp aM aN ay aw aL ar) C s args fn.results.toList om F
   | .ret=>xr (ZI.mk (aZ zD) (eZ zE) (jk zG) (nM zH) (FT zI) (uc zJ) zK zL zM zN zO zR (Bd zS) (GK zT) (pk zU) (GJ zV) (qP zX) sV xD zg zh (qM zj) (qN zu) Int.ofNat (qO zz) Nat.beq Nat.add (FU aI) (FV aH) (wE ak) (wF aq) List.length sU List.set FX wG yU FW yT Ii au List.replicate rp aM aN ay aw aL ar) C s args fn.results.toList om F):aA P f args res:=by
 refine bz hC ek om iN ez dn hT fun zD zE zG zH zI zJ zK zL zM zN zO zR zS zT zU zV zX zY zZ zg zh zj zu zy zz aK ah aI aH ak aq ae aE aB aG ao az aJ an aO au aP ai aM aN ay aw aL ar zW bc A L F hS hF=>?_
 obtain⟨zr,zq,zd,zc,zo,zm,rfl,rfl,rfl,rfl,rfl,rfl,rfl,rfl,rfl,rfl,rfl,rfl,rfl,rfl,rfl,rfl,rfl,rfl,rfl,rfl,rfl,rfl⟩:=hS.lits;exact bg (h _ _ _ _ _ _ _ _ _ _ _ _ _ _ _ _ _ _ _ _ _ _ _ _ _ _ _ _ _ _ _ _ _ _ _ _ _ _ hS hF)
end
end Go.Abs
end
section
namespace Go.Proofs.YtekefilngojelaaGreat
open Go Go.Abs Go.Abs.M Go.Proofs
theorem Ij (R:List Tree) (hR:∃a b c,R=[a,b,c]) (N k cn cd cr:Int) (XE XD P O Lc Sg B:Abs.Rows) (x:jf)
  (cK:aA Tryz.prog 31 [.val (.agg R)] ⟨[.val (.agg [.v (.int .i64 N),.aa false XE,.aa false XD])],[none]⟩)
  (cC:aA Tryz.prog 32 [.val (.agg R)] ⟨[.val (.agg [.v (.int .i64 k),.aa false P,.v (.int .i64 cn),.v (.int .i64 cd),.v (.int .i64 cr),.aa false O,.aa false Lc,.aa false Sg,.aa false B])],[none]⟩)
  (cE:aA Tryz.prog 33 [.val (.agg R),.val (.agg [.v (.int .i64 N),.aa false XE,.aa false XD]),.val (.agg [.v (.int .i64 k),.aa false P,.v (.int .i64 cn),.v (.int .i64 cd),.v (.int .i64 cr),.aa false O,.aa false Lc,.aa false Sg,.aa false B])] ⟨[.val (.agg x.row)],[none,none,none]⟩) :
  aA Tryz.prog 9 [.val (.agg R)] ⟨[.val (.agg (.v (.int .i64 N) :: .aa false XE :: .aa false XD :: .v (.int .i64 k) :: .aa false P :: .v (.int .i64 cn) :: .v (.int .i64 cd) :: .v (.int .i64 cr) :: .aa false O :: .aa false Lc :: .aa false Sg :: .aa false B::x.row))],[none]⟩:=by
 obtain⟨a,b,c,rfl⟩:=hR;obtain⟨xN,X1,X2,X3,X4,X5,X6,r0,r1,r2,r3,r4,r5,r6,r7,Y0,Y1,Y2,Y3,Y4,Y5,Y6,Y7,Y8,Z1,Z2,Z3,Z4⟩:=x;simp only[jf.row]at cE ⊢;refine aV aD mixed [.val] Tryz.func9 rfl rfl (by kernel_rfl) fun zD zE zG zH zI zJ zK zL zM zN zO zR zS zT zU zV zX zY zZ zg zh zj zu zy zz aK ah aI aH ak aq ae aE aB aG ao az aJ an aO au aP ai aM aN ay aw aL ar zW bc A L F hS hF=>?_
 cbv;refine⟨_,hS.call (cK),?_⟩;cbv;refine⟨_,hS.call (cC),?_⟩;cbv;refine⟨_,hS.call (cE),?_⟩;cbv;exact hF _ (aS.refl _)
open Go Go.Abs Go.Abs.M Go.Proofs
def GY (l:List (List T2)) (av:List Int) (n:Nat):Nat->List (Option (List T2))
 | 0=>List.replicate n none
 | i+1=>if 0<=av.getD i (-1) then(GY l av n i).set (av.getD i (-1)).toNat (some (l.getD i [])) else GY l av n i
theorem uJ (l:List (List T2)) (av:List Int) (n:Nat):∀i,(GY l av n i).length=n
 | 0=>by simp[GY]
 | i+1=>by unfold GY;split<;>simp[uJ l av n i]
def ZE (l:List (List T2)) (av:List Int) (n:Nat):List (List T2):=(GY l av n l.length).map fun o=>o.getD []
def rq:Option (List T2)->List Tree
 | none=>[.aa true []]
 | some p=>[.aa false (bo p)]
theorem Ni (o:Option (List T2)):∀(j:Nat) (t':Tree),(([.aa false (bo (o.getD []))]:List Tree))[j]?=some t'->∃t,(rq o)[j]?=some t/\ab t t':=by
 intro j t' h;cases j with
 | succ j=>simp at h
 | zero=>
  have h:Tree.aa false (bo (o.getD []))=t':=by simpa using h
  subst h;cases o with
  | none=>exact⟨_,rfl,ab.drop _ _⟩
  | some p=>exact⟨_,rfl,ab.refl _⟩
theorem gk (L:List (Option (List T2))) (cp:Bool):ab (.aa cp (L.map rq)) (.aa false (aQ (L.map fun o=>o.getD []))):=by
 have hp:aQ (L.map fun o=>o.getD [])=L.map fun o=>[.aa false (bo (o.getD []))]:=by simp[aQ]
 rw[hp];have key:∀(i j:Nat) (t':Tree),eJ (L.map fun o=>[Tree.aa false (bo (o.getD []))]) i j=some t'->∃t,eJ (L.map rq) i j=some t/\ab t t':=by
  intro i j t' h;unfold eJ at h ⊢;obtain⟨r,h1,h2⟩:=Option.bind_eq_some_iff.1 h;rw[List.getElem?_map]at h1;obtain⟨o,h3,rfl⟩:=Option.map_eq_some_iff.1 h1;obtain⟨t,h4,h5⟩:=Ni o j t' h2;exact⟨t,by rw[List.getElem?_map,h3];exact h4,h5⟩
 refine .aa cp false _ _ (fun i j=>(eJ (L.map rq) i j).getD (.v undef)) (fun h=>by cases h) (by simp) (fun n h r hr=>?_) (fun i j t' h=>?_) (fun i j t' h=>?_)
 ·obtain⟨o,ho,rfl⟩:=List.mem_map.1 hr
  have:=h (rq o) (List.mem_map.2 ⟨o,ho,rfl⟩);cases o<;>exact this
 ·obtain⟨t,h1,h2⟩:=key i j t' h
  rw[h1];rfl
 ·obtain⟨t,h1,h2⟩:=key i j t' h
  show ab ((eJ (L.map rq) i j).getD _) t'
  rw[h1];exact h2
def BI (X Y:Abs.Rows) (n:Nat) (M:Int) (R:Abs.Rows) (I:Int):St:=aC 39 [.aj,.c (.t (.aa false Y)),.aj,.aj,.aj,.aj,.aj,.c (.sl 3 0 n false),.aj,.aj,.aj,.aj,.c (.t (.aa false X)),vi .i64 M,vi .i64 I] [none,none,none,some (.rows 1 R true false)]
theorem yV (l:List (List T2)) (av:List Int) (n:Nat) (hl:l.length<=1000) (hn:n<=1000) (hA:av.length=l.length) (hb:∀a∈av,a<n) :
  aA Tryz.prog 42 [.val (tl (aQ l)),.val (tl (W .i64 av)),.val (ti .i64 (n:Int))] ⟨[.val (tl (aQ (ZE l av n)))],[none,none,none]⟩:=by
 obtain⟨X,hX⟩:∃X,X=aQ l:=⟨_,rfl⟩;obtain⟨Y,hY⟩:∃X,X=W .i64 av:=⟨_,rfl⟩;obtain⟨m,hm⟩:∃m,m=l.length:=⟨_,rfl⟩;have lX:X.length=m:=by rw[hX,lj,hm]
 have lY:Y.length=m:=by rw[hY,iZ,hA,hm]
 obtain⟨M,hM⟩:∃M:Int,M=(m:Int):=⟨_,rfl⟩;obtain⟨N,hN⟩:∃N:Int,N=(n:Int):=⟨_,rfl⟩;obtain⟨R0,Gq⟩:∃R0,R0=(GY l av n 0).map rq:=⟨_,rfl⟩;rw[<-hX,<-hY,<-hN];refine aV aD mixed [.val] Tryz.func42 rfl rfl (by kernel_rfl) fun zD zE zG zH zI zJ zK zL zM zN zO zR zS zT zU zV zX zY zZ zg zh zj zu zy zz aK ah aI aH ak aq ae aE aB aG ao az aJ an aO au aP ai aM aN ay aw aL ar zW bc A L F hS hF=>?_
 have xN:zy (ae X)=M:=by rw[hS.aW,hS.len,lX,hM]
 have k1:aq N N 24=true:=by rw[hS.my,hN];exact decide_eq_true ⟨by omega,by omega,by unfold aF;omega⟩
 have k2:zj N=n:=by rw[hS.nat,hN];rfl
 have k3:aP n [.aa true []]=R0:=by rw[hS.rep,Gq];simp[GY,rq]
 cbv;simp only[k2,k3,xN];refine nd k1 ?_;refine nN aD mixed hS (n:=m) (fun i (R:Abs.Rows)=>BI X Y n M R (Int.ofNat i)) (fun i R=>R=(GY l av n i).map rq) (a0:=R0) (iY ?_ ?_) rfl (Nat.le_add_left 3 1) Gq ?_ ?_
 ·simp[eC,BI,aC,vi,vb]
 ·simp[eF,BI,aC]
 ·intro i R hi hR
  have UU:=hS.xt lX hi (by omega);have l1:=UU.1;have i1:=UU.2.1;have j1:=UU.2.2.1;have n0:=UU.2.2.2;clear UU;have l1:zU (Int.ofNat i) M=true:=by rw[<-xN];exact l1
  obtain⟨p,hp,gp,hr,_,_⟩:=kO (l:=l) (i:=i) (by omega);have lN:zU (Int.ofNat i) (zy (ae Y))=true:=(hS.xt lY hi (by omega)).1;have VV:i<av.length:=by omega
  obtain⟨a,ha⟩:∃a,a=av.getD i (-1):=⟨_,rfl⟩;have ZF:a∈av:=by rw[ha,List.getD_eq_getElem?_getD,List.getElem?_eq_getElem VV];exact List.getElem_mem VV
  have g1:aG .i64 Y i=true:=by rw[hS.gJ,hY,lS];exact decide_eq_true VV
  have g2:ao Y i=a:=by rw[hS.dL,hY,ph,ha,List.getD_eq_getElem?_getD,List.getD_eq_getElem?_getD,List.getElem?_eq_getElem VV];rfl
  have j2:aE X i=some [.aa false (bo p)]:=by rw[hS.nth,hX];exact hr
  have hlp:l.getD i []=p:=by rw[List.getD_eq_getElem?_getD,gp];rfl
  obtain⟨Z,hZ⟩:∃Z,Z=bo p:=⟨_,rfl⟩;rw[<-hZ]at j2
  by_cases h0:0<=a
  ·have z0:zV 0 a=true:=by rw[hS.le];exact decide_eq_true h0
   obtain⟨b,mc⟩:∃b:Nat,(b:Int)=a:=⟨a.toNat,by omega⟩;have Rl:b<n:=Int.ofNat_lt.1 (by rw[mc];exact hb a ZF);have Og:R.set b [.aa false Z]=(GY l av n (i+1)).map rq:=by
    unfold GY;rw[<-ha,if_pos h0,<-mc,Int.toNat_natCast,List.map_set,hR,hlp,hZ];rfl
   have z1:zu a n=true:=by rw[hS.xo,<-mc];exact decide_eq_true ⟨Int.natCast_nonneg b,Int.ofNat_lt.2 Rl⟩
   have z2:zz 0 a=b:=by rw[hS.idx,<-mc,Int.toNat_natCast,Nat.zero_add]
   obtain⟨o,ho⟩:∃o,R[b]?=some (rq o):=⟨(GY l av n i)[b]'(by rw[uJ];exact Rl),by rw[hR];simp[uJ,Rl]⟩;have z3:aE R b=some (rq o):=by rw[hS.nth];exact ho
   obtain⟨t0,ht0⟩:∃t0,rq o=[t0]:=by cases o<;>exact⟨_,rfl⟩
   rw[ht0]at z3;have z4:aB R b (bG [t0] 0 [.aa false Z])=R.set b [.aa false Z]:=by rw[hS.Dc];rfl
   clear hR ha ZF ho ht0 mc;cbv;refine bT l1 ?_;rw[j1,j2];cbv;refine nd n0 (bT lN ?_);simp only[j1,g2,z2,z3];cbv;refine nd n0 (nd g1 (bT z0 (nd n0 (nd g1 (nd z1 ?_)))));refine bR [] (R.set b [.aa false Z]) ?_ ?_ ?_ ?_ rfl (Nat.le_add_left 3 1) Og
   ·simp[bV,BI,aC,vi,vb,AV.aX,AV.bA,Cell.aX,aT,i1]
   ·simp[bW,BI,aC,Abs.look,aT,aU.aX,Cell.aX,z4]
   ·simp[bf,BI,aC,aT]
   ·simp
  ·have z0:zV 0 a=false:=by rw[hS.le];exact decide_eq_false h0
   have Og:R=(GY l av n (i+1)).map rq:=by
    unfold GY;rw[<-ha,if_neg h0];exact hR
   clear hR ha ZF;cbv;refine bT l1 ?_;rw[j1,j2];cbv;refine nd n0 (bT lN ?_);simp only[j1,g2];refine nd n0 (nd g1 (bF z0 ?_));refine bR [] R ?_ ?_ ?_ ?_ rfl (Nat.le_add_left 3 1) Og
   ·simp[bV,BI,aC,vi,vb,AV.aX,AV.bA,Cell.aX,aT,i1]
   ·simp[bW,BI,aC,Abs.look,aT,aU.aX,Cell.aX]
   ·simp[bf,BI,aC,aT]
   ·simp
 ·intro R hR
  have lE:zU (Int.ofNat m) M=false:=by rw[<-xN];exact hS.qQ lX
  have UU:=hS.whole (r:=R) (len:=n) (by rw[hR,List.length_map,uJ]);have f1:=UU.1;have f2:=UU.2;clear UU;have hle:ab (.aa false R) (.aa false (aQ (ZE l av n))):=by
   rw[hR,hm];exact gk _ _
  cbv;refine bF lE (nd f1 ?_);rw[f2];exact bE hF hle
open Go Go.Abs Go.Abs.M Go.Proofs
theorem T2.int.ok {t:T2} (h:t.int):t.ok 1000 30000:=by
 refine⟨⟨?_,?_⟩,⟨h.a.1,by have:=h.a.2;omega⟩,⟨h.b.1,by have:=h.b.2;omega⟩⟩
 ·unfold nl;rw[By (by have:=h.n.1;omega) (by have:=h.n.2;omega)];exact(by decide:1<=1000)
 ·rw[h.d];unfold nl;rw[By (by omega) (by omega)];decide
theorem KP.ok {p:List T2} (h:KP p):(∀t∈p,t.ok 1000 30000)/\p.length<=1000:=⟨fun t ht=>(h.1 t ht).ok,by have:=h.2;omega⟩
theorem K7 {p:List T2}:∀ {to:List (List T2)} {k:Nat},sT k to p=-1∨∃j:Nat,k<=j/\j<k+to.length/\sT k to p=(j:Int)
 | [],k=>.inl rfl
 | q::qs,k=>by
  unfold sT;split
  ·exact .inr ⟨k,Nat.le_refl _,by simp,rfl⟩
  ·rcases K7 (p:=p) (to:=qs) (k:=k+1) with h|⟨j,h1,h2,h3⟩
   ·exact .inl h
   ·exact .inr ⟨j,by omega,by simp;omega,h3⟩
open Go Go.Abs Go.Abs.M Go.Proofs
theorem Nj {x y:Rat} (h1:Qs x 1000000) (h2:Qs y 1000000):aA Tryz.prog 145 [.val (.agg (qc x).row),.val (.agg (qc y).row)] ⟨[.val (ti .i64 (jl x y))],[none,none]⟩:=
 HZ _ (ff x) (ff y) rfl (h1.mono (by omega)) (h2.mono (by omega))
theorem Ik {x y:Rat}:jl x y=0↔x=y:=by
 have h:=H5 x y;constructor
 ·intro e
  have f1:¬x<y:=fun h'=>by have:=h.1.2 h';omega
  have f2:¬y<x:=fun h'=>by have:=h.2.2 h';omega
  exact Rat.le_antisymm (Rat.not_lt.1 f2) (Rat.not_lt.1 f1)
 ·rintro rfl
  unfold jl;rw[if_neg Rat.lt_irrefl,if_neg Rat.lt_irrefl]
theorem D3 (t u:T2) (ht:Qs t.c 1000) (hu:Qs u.c 1000):aA Tryz.prog 144 [.val (.agg t.row),.val (.agg u.row)] ⟨[.val (tb (decide (t=u)))],[none,none]⟩:=by
 have cs:=Nj (x:=t.c) (y:=u.c) (ht.mono (by omega)) (hu.mono (by omega));obtain⟨s1,v1,r1,p1,e1,w1⟩:=wq t;obtain⟨s2,v2,r2,p2,e2,w2⟩:=wq u;rw[e1,e2]at cs;rw[w1,w2];obtain⟨B,hB⟩:∃B,B=jl t.c u.c:=⟨_,rfl⟩;rw[<-hB]at cs;have ZG:B=0↔t.c=u.c:=by rw[hB];exact Ik
 obtain⟨D,hD⟩:∃B,B=decide (t=u):=⟨_,rfl⟩;rw[<-hD];unfold pR;have hT:t.a=u.a/\t.b=u.b->decide (B=0)=D:=fun h=>by rw[hD,decide_eq_decide,sR,ZG];exact⟨fun e=>⟨e,h⟩,fun e=>e.1⟩
 have hE:¬(t.a=u.a/\t.b=u.b)->false=D:=fun h=>by rw[hD];exact(decide_eq_false fun e=>h (sR.1 e).2).symm
 generalize t.a=a at *;generalize t.b=b at *;generalize u.a=c at *;generalize u.b=d at *;refine aV aD mixed [.val] Tryz.func144 rfl rfl (by kernel_rfl) fun zD zE zG zH zI zJ zK zL zM zN zO zR zS zT zU zV zX zY zZ zg zh zj zu zy zz aK ah aI aH ak aq ae aE aB aG ao az aJ an aO au aP ai aM aN ay aw aL ar zW bc A L F hS hF=>?_
 have z0:zS 0 0=true:=by rw[hS.eq];rfl
 have zB:zS B 0=decide (B=0):=hS.eq _ _;cbv
 by_cases h:a=c/\b=d
 ·have z1:zS a c=true:=by rw[hS.eq];exact decide_eq_true h.1
  have z2:zS b d=true:=by rw[hS.eq];exact decide_eq_true h.2
  refine bT (by rw[z0,z1,z2]) ?_;refine⟨_,hS.call (cs),?_⟩;cbv;exact bX hF (tJ (zB.trans (hT h)))
 ·refine bF ?_ (bX hF (tJ (hE h)))
  by_cases h1:a=c
  ·have z1:zS a c=true:=by rw[hS.eq];exact decide_eq_true h1
   have z2:zS b d=false:=by rw[hS.eq];exact decide_eq_false fun e=>h ⟨h1,e⟩
   rw[z1,z2]
  ·have z1:zS a c=false:=by rw[hS.eq];exact decide_eq_false h1
   rw[z1]
def Il (X Y:Abs.Rows) (N I:Int):St:=aC 32 [.aj,.c (.t (.aa false Y)),.c (.t (.v (.func (.func 144) #[] #[]))),.aj,.aj,.aj,vb false,.aj,.aj,.aj,.aj,.aj,.aj,.aj,.aj,.c (.t (.aa false X)),vi .i64 N,vi .i64 I] [none,none,none]
theorem K8 (l k:List T2) (hl:∀t∈l,t.ok 1000 30000) (hk:∀t∈k,t.ok 1000 30000) (hn:l.length<=1000) (hm:k.length<=1000) :
  aA Tryz.prog 143 [.val (tl (bo l)),.val (tl (bo k)),.val (.c (.v (.func (.func 144) #[] #[])))] ⟨[.val (tb (decide (l=k)))],[none,none,none]⟩:=by
 obtain⟨X,hX⟩:∃X,X=bo l:=⟨_,rfl⟩;obtain⟨Y,hY⟩:∃X,X=bo k:=⟨_,rfl⟩;obtain⟨n,kZ⟩:∃n,n=l.length:=⟨_,rfl⟩;obtain⟨D,hD⟩:∃B,B=decide (l=k):=⟨_,rfl⟩;have lX:X.length=n:=by rw[hX,sO,kZ]
 have lY:Y.length=k.length:=by rw[hY,sO]
 obtain⟨N,hN⟩:∃N:Int,N=(n:Int):=⟨_,rfl⟩;rw[<-hX,<-hY,<-hD];refine aV aD mixed [.val] Tryz.func143 rfl rfl (by kernel_rfl) fun zD zE zG zH zI zJ zK zL zM zN zO zR zS zT zU zV zX zY zZ zg zh zj zu zy zz aK ah aI aH ak aq ae aE aB aG ao az aJ an aO au aP ai aM aN ay aw aL ar zW bc A L F hS hF=>?_
 have xN:zy (ae X)=N:=by rw[hS.aW,hS.len,lX,hN]
 cbv
 by_cases Of:n=k.length
 ·have z:zT (zy (ae X)) (zy (ae Y))=false:=by rw[hS.ne,hS.aW,hS.aW,hS.len,hS.len,lX,lY,Of];simp
  refine bF z ?_;simp only[xN];refine nN aD mixed hS (n:=n) (fun i (d:Unit)=>Il X Y N (Int.ofNat i)) (fun i d=>l.take i=k.take i) (a0:=()) (iY ?_ ?_) rfl (Nat.le_refl 3) rfl ?_ ?_
  ·simp[eC,Il,aC,vi,vb]
  ·simp[eF,Il,aC]
  ·intro i d hi hd
   have UU:=hS.xt lX hi (by omega);have l1:=UU.1;have i1:=UU.2.1;have j1:=UU.2.2.1;have n0:=UU.2.2.2;clear UU;have l1:zU (Int.ofNat i) N=true:=by rw[<-xN];exact l1
   obtain⟨t,s,v,r,p,ht,gt,_,hr,wt,il,_⟩:=j6 (l:=l) (i:=i) (by omega);obtain⟨u,s2,v2,r2,p2,hu,gu,_,eL,wu,Qa,_⟩:=j6 (l:=k) (i:=i) (by omega);have j2:aE X i=some (pR s r v p t.a t.b):=by rw[hS.nth,hX];exact hr
   have j3:aE Y i=some (pR s2 r2 v2 p2 u.a u.b):=by rw[hS.nth,hY];exact eL
   have cs:=D3 t u (hl t ht).c (hk u hu).c;rw[wt,wu]at cs
   by_cases GU:t=u
   ·rw[decide_eq_true GU]at cs
    have hR:l.take (i+1)=k.take (i+1):=by rw[il,Qa,hd,GU]
    have y:zX true=false:=by rw[hS.not];rfl
    generalize t.a=a at *;generalize t.b=b at *;generalize u.a=a2 at *;generalize u.b=b2 at *;unfold pR at cs;cbv;refine bT l1 ?_;rw[j1,j2];cbv;refine nd n0 ?_;rw[j1,j3];cbv;refine nd (n0) ?_;refine⟨_,hS.call (cs),?_⟩;cbv;refine bF (y) ?_;refine bR [] () ?_ ?_ ?_ ?_ rfl (Nat.le_refl 3) hR
    ·simp[bV,Il,aC,vi,vb,AV.aX,AV.bA,Cell.aX,i1]
    ·simp[bW,Il,aC]
    ·simp[bf,Il,aC]
    ·simp
   ·rw[decide_eq_false GU]at cs
    have y:zX false=true:=by rw[hS.not];rfl
    have KM:false=D:=by
     rw[hD];exact(decide_eq_false fun e=>GU (by rw[e,gu]at gt;exact(Option.some.inj gt).symm)).symm
    generalize t.a=a at *;generalize t.b=b at *;generalize u.a=a2 at *;generalize u.b=b2 at *;unfold pR at cs;cbv;refine bT l1 ?_;rw[j1,j2];cbv;refine nd n0 ?_;rw[j1,j3];cbv;refine nd (n0) ?_;refine⟨_,hS.call (cs),?_⟩;cbv;refine bT (y) ?_;exact bX hF (tJ KM)
  ·intro d hd
   have lE:zU (Int.ofNat n) N=false:=by rw[<-xN];exact hS.qQ lX
   have TO:true=D:=by
    rw[hD];refine(decide_eq_true ?_).symm;rw[List.take_of_length_le (by omega),List.take_of_length_le (by omega)]at hd;exact hd
   cbv;refine bF lE ?_;exact bX hF (tJ TO)
 ·have z:zT (zy (ae X)) (zy (ae Y))=true:=by rw[hS.ne,hS.aW,hS.aW,hS.len,hS.len,lX,lY];exact decide_eq_true (by omega)
  have KM:false=D:=by rw[hD];exact(decide_eq_false fun e=>Of (by rw[kZ,e])).symm
  exact bT z (bX hF (tJ KM))
theorem D4 (l k:List T2) (hl:∀t∈l,t.ok 1000 30000) (hk:∀t∈k,t.ok 1000 30000) (hn:l.length<=1000) (hm:k.length<=1000) :
  aA Tryz.prog 115 [.val (tl (bo l)),.val (tl (bo k))] ⟨[.val (tb (decide (l=k)))],[none,none]⟩:=by
 have c:=K8 l k hl hk hn hm;generalize decide (l=k)=D at *;generalize bo l=X at *;generalize bo k=Y at *;refine aV aD mixed [.val] Tryz.func115 rfl rfl (by kernel_rfl) fun zD zE zG zH zI zJ zK zL zM zN zO zR zS zT zU zV zX zY zZ zg zh zj zu zy zz aK ah aI aH ak aq ae aE aB aG ao az aJ an aO au aP ai aM aN ay aw aL ar zW bc A L F hS hF=>?_
 cbv;refine⟨_,hS.call (c),?_⟩;cbv;exact hF _ (aS.refl _)
open Go Go.Abs Go.Abs.M Go.Proofs
def T7 (p:List T2):Prop:=(∀t∈p,t.ok 1000 30000)/\p.length<=1000
def Im (X Y:Abs.Rows) (N I:Int):St:=aC 32 [.aj,.c (.t (.aa false Y)),.c (.t (.v (.func (.func 115) #[] #[]))),.aj,.aj,.aj,vb false,.aj,.aj,.aj,.aj,.aj,.aj,.aj,.aj,.c (.t (.aa false X)),vi .i64 N,vi .i64 I] [none,none,none]
theorem K9 (l k:List (List T2)) (hl:∀p∈l,T7 p) (hk:∀p∈k,T7 p) (hn:l.length<=1000) (hm:k.length<=1000) :
  aA Tryz.prog 114 [.val (tl (aQ l)),.val (tl (aQ k)),.val (.c (.v (.func (.func 115) #[] #[])))] ⟨[.val (tb (decide (l=k)))],[none,none,none]⟩:=by
 obtain⟨X,hX⟩:∃X,X=aQ l:=⟨_,rfl⟩;obtain⟨Y,hY⟩:∃X,X=aQ k:=⟨_,rfl⟩;obtain⟨n,kZ⟩:∃n,n=l.length:=⟨_,rfl⟩;obtain⟨D,hD⟩:∃B,B=decide (l=k):=⟨_,rfl⟩;have lX:X.length=n:=by rw[hX,lj,kZ]
 have lY:Y.length=k.length:=by rw[hY,lj]
 obtain⟨N,hN⟩:∃N:Int,N=(n:Int):=⟨_,rfl⟩;rw[<-hX,<-hY,<-hD];refine aV aD mixed [.val] Tryz.func114 rfl rfl (by kernel_rfl) fun zD zE zG zH zI zJ zK zL zM zN zO zR zS zT zU zV zX zY zZ zg zh zj zu zy zz aK ah aI aH ak aq ae aE aB aG ao az aJ an aO au aP ai aM aN ay aw aL ar zW bc A L F hS hF=>?_
 have xN:zy (ae X)=N:=by rw[hS.aW,hS.len,lX,hN]
 cbv
 by_cases Of:n=k.length
 ·have z:zT (zy (ae X)) (zy (ae Y))=false:=by rw[hS.ne,hS.aW,hS.aW,hS.len,hS.len,lX,lY,Of];simp
  refine bF z ?_;simp only[xN];refine nN aD mixed hS (n:=n) (fun i (d:Unit)=>Im X Y N (Int.ofNat i)) (fun i d=>l.take i=k.take i) (a0:=()) (iY ?_ ?_) rfl (Nat.le_refl 3) rfl ?_ ?_
  ·simp[eC,Im,aC,vi,vb]
  ·simp[eF,Im,aC]
  ·intro i d hi hd
   have UU:=hS.xt lX hi (by omega);have l1:=UU.1;have i1:=UU.2.1;have j1:=UU.2.2.1;have n0:=UU.2.2.2;clear UU;have l1:zU (Int.ofNat i) N=true:=by rw[<-xN];exact l1
   obtain⟨p,hp,gp,hr,il,_⟩:=kO (l:=l) (i:=i) (by omega);obtain⟨u,hu,gu,eL,Qa,_⟩:=kO (l:=k) (i:=i) (by omega);have j2:aE X i=some [.aa false (bo p)]:=by rw[hS.nth,hX];exact hr
   have j3:aE Y i=some [.aa false (bo u)]:=by rw[hS.nth,hY];exact eL
   have cs:=D4 p u (hl p hp).1 (hk u hu).1 (hl p hp).2 (hk u hu).2;obtain⟨Z1,hZ1⟩:∃Z,Z=bo p:=⟨_,rfl⟩;obtain⟨Z2,VW⟩:∃Z,Z=bo u:=⟨_,rfl⟩;rw[<-hZ1]at j2 cs;rw[<-VW]at j3 cs
   by_cases GU:p=u
   ·rw[decide_eq_true GU]at cs
    have hR:l.take (i+1)=k.take (i+1):=by rw[il,Qa,hd,GU]
    have y:zX true=false:=by rw[hS.not];rfl
    cbv;refine bT l1 ?_;rw[j1,j2];cbv;refine nd n0 ?_;rw[j1,j3];cbv;refine nd (n0) ?_;refine⟨_,hS.call (cs),?_⟩;cbv;refine bF (y) ?_;refine bR [] () ?_ ?_ ?_ ?_ rfl (Nat.le_refl 3) hR
    ·simp[bV,Im,aC,vi,vb,AV.aX,AV.bA,Cell.aX,i1]
    ·simp[bW,Im,aC]
    ·simp[bf,Im,aC]
    ·simp
   ·rw[decide_eq_false GU]at cs
    have y:zX false=true:=by rw[hS.not];rfl
    have KM:false=D:=by
     rw[hD];exact(decide_eq_false fun e=>GU (by rw[e,gu]at gp;exact(Option.some.inj gp).symm)).symm
    cbv;refine bT l1 ?_;rw[j1,j2];cbv;refine nd n0 ?_;rw[j1,j3];cbv;refine nd (n0) ?_;refine⟨_,hS.call (cs),?_⟩;cbv;refine bT (y) ?_;exact bX hF (tJ KM)
  ·intro d hd
   have lE:zU (Int.ofNat n) N=false:=by rw[<-xN];exact hS.qQ lX
   have TO:true=D:=by
    rw[hD];refine(decide_eq_true ?_).symm;rw[List.take_of_length_le (by omega),List.take_of_length_le (by omega)]at hd;exact hd
   cbv;refine bF lE ?_;exact bX hF (tJ TO)
 ·have z:zT (zy (ae X)) (zy (ae Y))=true:=by rw[hS.ne,hS.aW,hS.aW,hS.len,hS.len,lX,lY];exact decide_eq_true (by omega)
  have KM:false=D:=by rw[hD];exact(decide_eq_false fun e=>Of (by rw[kZ,e])).symm
  exact bT z (bX hF (tJ KM))
theorem wH (l k:List (List T2)) (hl:∀p∈l,T7 p) (hk:∀p∈k,T7 p) (hn:l.length<=1000) (hm:k.length<=1000) :
  aA Tryz.prog 77 [.val (tl (aQ l)),.val (tl (aQ k))] ⟨[.val (tb (decide (l=k)))],[none,none]⟩:=by
 have c:=K9 l k hl hk hn hm;generalize decide (l=k)=D at *;generalize aQ l=X at *;generalize aQ k=Y at *;refine aV aD mixed [.val] Tryz.func77 rfl rfl (by kernel_rfl) fun zD zE zG zH zI zJ zK zL zM zN zO zR zS zT zU zV zX zY zZ zg zh zj zu zy zz aK ah aI aH ak aq ae aE aB aG ao az aJ an aO au aP ai aM aN ay aw aL ar zW bc A L F hS hF=>?_
 cbv;refine⟨_,hS.call (c),?_⟩;cbv;exact hF _ (aS.refl _)
open Go Go.Abs Go.Abs.M Go.Proofs
def Io (N:Int) (E D bD:Tree) (T:Abs.Rows) (q:ny) (M I J:Int):St:=aC 48 [.aj,vi .i64 I,.aj,.aj,vb false,.aj,.aj,.aj,.aj,.aj,.aj,.aj,.aj,.aj,.aj,.aj,.aj,.aj,.aj,.aj,.aj,.aj,.aj,.aj,.aj,.aj,.aj,.aj,.aj,.c (.t (.aa false T)),vi .i64 M,vi .i64 J] [none,none]
theorem Qx (N:Int) (E D bD:Tree) (C:List (List (List T2))) (n:Nat) (hn:n<=1000) (hC:C.length<=1000) (hr:∀r∈C,r.length=n) (q:ny) (i:Nat) (hi:i<n) :
  aA Tryz.prog 38 [.val (.agg (fT N E D 12 bD (.aa false (df C)) q)),.val (ti .i64 (Int.ofNat i))] ⟨[.val (tb (C.any fun r=>Jc r i))],[none,none]⟩:=by
 obtain⟨T,hT⟩:∃X,X=df C:=⟨_,rfl⟩;have lT:T.length=C.length:=by rw[hT,nA]
 obtain⟨m,hm⟩:∃m,m=C.length:=⟨_,rfl⟩;obtain⟨M,hM⟩:∃M:Int,M=(m:Int):=⟨_,rfl⟩;obtain⟨u,hu⟩:∃u,u=(C.any fun r=>Jc r i):=⟨_,rfl⟩;rw[<-hT,<-hu];refine aV aD mixed [.val] Tryz.func38 rfl rfl (by kernel_rfl) fun zD zE zG zH zI zJ zK zL zM zN zO zR zS zT zU zV zX zY zZ zg zh zj zu zy zz aK ah aI aH ak aq ae aE aB aG ao az aJ an aO au aP ai aM aN ay aw aL ar zW bc A L F hS hF=>?_
 have z1:zT 12 12=false:=by rw[hS.ne];rfl
 have mN:zy (ae T)=M:=by rw[hS.aW,hS.len,lT,hM,hm]
 have j1i:zj (Int.ofNat i)=i:=by rw[hS.nat];rfl
 have n0i:zV 0 (Int.ofNat i)=true:=by rw[hS.le];exact decide_eq_true (show(0:Int)<=(i:Int) by omega)
 cbv;refine bF z1 ?_;simp only[mN];refine nN aD mixed hS (n:=m) (fun j (d:Unit)=>Io N E D bD T q M (Int.ofNat i) (Int.ofNat j)) (fun j d=>((C.take j).any fun r=>Jc r i)=false) (a0:=()) (iY ?_ ?_) rfl (Nat.le_refl 2) rfl ?_ ?_
 ·simp[eC,Io,aC,vi,vb]
 ·simp[eF,Io,aC]
 ·intro j d hj hd
  obtain⟨r,hrm,gr,oJ,il⟩:=K1 (l:=C) (i:=j) (by omega);have hrn:=hr r hrm;obtain⟨p,hp,gp,hrp,_,_⟩:=kO (l:=r) (i:=i) (by omega);obtain⟨X,hX⟩:∃X,X=aQ r:=⟨_,rfl⟩;obtain⟨Z,hZ⟩:∃X,X=bo p:=⟨_,rfl⟩;have lX:X.length=n:=by rw[hX,lj,hrn]
  have lZ:Z.length=p.length:=by rw[hZ,sO]
  rw[<-hX]at oJ;rw[<-hX,<-hZ]at hrp;have huc:Jc r i=decide (0<p.length):=by unfold Jc;rw[List.getD_eq_getElem?_getD,gp];rfl
  have l1:zU (Int.ofNat j) M=true:=by rw[hS.lt,hM];exact decide_eq_true (show(j:Int)<(m:Int) by omega)
  have i1:zD .i64 (zE (j:Int) 1)=(j:Int)+1:=by rw[hS.add,hS.wrap];exact wrap_i64 (by omega) (by omega)
  have j1:zj (Int.ofNat j)=j:=by rw[hS.nat];rfl
  have n0:zV 0 (Int.ofNat j)=true:=by rw[hS.le];exact decide_eq_true (show(0:Int)<=(j:Int) by omega)
  have j2:aE T j=some [.aa false X]:=by rw[hS.nth,hT];rw[hX];exact hX▸oJ
  have l2:zU (Int.ofNat i) (zy (ae X))=true:=by rw[hS.lt,hS.aW,hS.len,lX];exact decide_eq_true (show(i:Int)<(n:Int) by omega)
  have j3:aE X i=some [.aa false Z]:=by rw[hS.nth];exact hrp
  by_cases Ex:0<p.length
  ·have l3:zU 0 (zy (ae Z))=true:=by rw[hS.lt,hS.aW,hS.len,lZ];exact decide_eq_true (by omega)
   have hut:true=u:=by rw[hu];exact(List.any_eq_true.2 ⟨r,hrm,by rw[huc];exact decide_eq_true Ex⟩).symm
   cbv;refine bT l1 ?_;rw[j1,j2];cbv;refine nd n0 (bT l2 ?_);rw[j1i,j3];cbv;refine nd n0i (bT l3 ?_);exact bX hF (tJ hut)
  ·have l3:zU 0 (zy (ae Z))=false:=by rw[hS.lt,hS.aW,hS.len,lZ];exact decide_eq_false (by omega)
   have hR:((C.take (j+1)).any fun r=>Jc r i)=false:=by
    rw[il,List.any_append,hd,Bool.false_or,List.any_cons,List.any_nil,Bool.or_false,huc];exact decide_eq_false Ex
   cbv;refine bT l1 ?_;rw[j1,j2];cbv;refine nd n0 (bT l2 ?_);rw[j1i,j3];cbv;refine nd n0i (bF l3 ?_);refine bR [] () ?_ ?_ ?_ ?_ rfl (Nat.le_refl 2) hR
   ·simp[bV,Io,aC,vi,vb,AV.aX,AV.bA,Cell.aX,aT,i1]
   ·simp[bW,Io,aC]
   ·simp[bf,Io,aC]
   ·simp
 ·intro d hd
  rw[List.take_of_length_le (by omega)]at hd;have lE:zU (Int.ofNat m) M=false:=by rw[hS.lt,hM];exact decide_eq_false (show ¬(m:Int)<(m:Int) by omega)
  cbv;refine bF lE ?_;exact bX hF (tJ (hd.symm.trans hu.symm))
def eI (v:Nat->Bool) (n:Nat):List Int:=((List.range n).filter v).map fun i:Nat=>(i:Int)
theorem BJ {v:Nat->Bool} {i:Nat} (h:v i=true):eI v (i+1)=eI v i ++ [(i:Int)]:=by simp[eI,List.range_succ,List.filter_append,h]
theorem FY {v:Nat->Bool} {i:Nat} (h:v i=false):eI v (i+1)=eI v i:=by simp[eI,List.range_succ,List.filter_append,h]
theorem D5 (v:Nat->Bool) (n:Nat):(eI v n).length<=n:=by unfold eI;rw[List.length_map];exact Nat.le_trans (List.length_filter_le _ _) (by simp)
def xE (N:Int) (X:Abs.Rows) (D:Tree) (k:Int) (bD C:Tree) (q:ny):Option aU:=some (.var [.t (.v (.int .i64 N)),.t (.aa false X),.t D,.t (.v (.int .i64 k)),.t (.aa false q.P),.t (.v (.int .i64 q.cn)),.t (.v (.int .i64 q.cd)),.t (.v (.int .i64 q.cr)),.t (.aa false q.O),.t (.aa false q.Lc),.t (.aa false q.S),.t (.aa false q.B),.t (.v (.int .i64 q.eN)),.t bD,.t (.aa false q.G),.t (.aa false q.eO),.t C,.t (.aa false q.Q),.t (.aa false q.Sx),.t (.v (.int .i64 q.r0)),.t (.v (.int .i64 q.r1)),.t (.v (.int .i64 q.r2)),.t (.v (.int .i64 q.r3)),.t (.v (.int .i64 q.r4)),.t (.v (.int .i64 q.r5)),.t (.v (.int .i64 q.r6)),.t (.v (.int .i64 q.r7)),.t (.aa false q.r8),.t (.aa false q.r9),.t (.aa false q.TT),.t (.aa false q.Zm),.t (.aa false q.Zn),.t (.aa false q.Zo),.t (.aa false q.Zp),.t (.aa false q.Zq),.t (.aa false q.Zr),.t (.aa false q.At),.t (.aa false q.Sq),.t (.aa false q.X),.t (.aa false q.eB)])
def jM (N:Int) (X:Abs.Rows) (D:Tree) (k:Int) (bD C:Tree) (q:ny) (M I:Int):Option (Nat×Abs.Rows)->St
 | none=>aC 26 [.aj,.c (.ptr 1 0 0),.aj,.c (.t (.aa true [])),.aj,.aj,.aj,.aj,vi .i64 M,vi .i64 I] [none,xE N X D k bD C q]
 | some z=>aC 26 [.aj,.c (.ptr 1 0 0),.aj,.c (.sl 2 0 z.1 false),.aj,.aj,.aj,.aj,vi .i64 M,vi .i64 I] [none,xE N X D k bD C q,some (.rows 1 z.2 true false)]
def T8 (v:Nat->Bool) (i:Nat):Option (Nat×Abs.Rows)->Prop
 | none=>eI v i=[]
 | some z=>z.2=W .i64 (eI v i)/\z.1=(eI v i).length
theorem FZ (N:Int) (eqs:List (List T2)) (D:Tree) (k:Int) (bD C:Tree) (q:ny) (w:Bool) (u:Nat->Bool) (hn:eqs.length<=1000)
  (hw:aA Tryz.prog 25 [.val (.agg (cT k q))] ⟨[.val (tb w)],[none]⟩)
  (hu:w=false->∀i,i<eqs.length->aA Tryz.prog 38 [.val (.agg (fT N (.aa false (aQ eqs)) D k bD C q)),.val (ti .i64 (Int.ofNat i))] ⟨[.val (tb (u i))],[none,none]⟩) :
  aA Tryz.prog 12 [.val (.agg (fT N (.aa false (aQ eqs)) D k bD C q))] ⟨[.val (tl (W .i64 (eI (fun i=>w||u i) eqs.length)))],[none]⟩:=by
 obtain⟨X,hX⟩:∃X,X=aQ eqs:=⟨_,rfl⟩;obtain⟨n,kZ⟩:∃n,n=eqs.length:=⟨_,rfl⟩;have lX:X.length=n:=by rw[hX,lj,kZ]
 obtain⟨M,hM⟩:∃M:Int,M=(n:Int):=⟨_,rfl⟩;obtain⟨v,hv⟩:∃v:Nat->Bool,v=fun i=>w||u i:=⟨_,rfl⟩
 have xw:w=true->∀i,v i=true:=fun h i=>by rw[hv,h];rfl
 have VX:w=false->∀i,v i=u i:=fun h i=>by rw[hv,h];rfl
 rw[<-hX,<-kZ,<-hv];rw[<-hX,<-kZ]at hu;unfold cT at hw;unfold fT at *;refine aV aD mixed [.val] Tryz.func12 rfl rfl (by kernel_rfl) fun zD zE zG zH zI zJ zK zL zM zN zO zR zS zT zU zV zX zY zZ zg zh zj zu zy zz aK ah aI aH ak aq ae aE aB aG ao az aJ an aO au aP ai aM aN ay aw aL ar zW bc A L F hS hF=>?_
 have xN:zy (ae X)=M:=by rw[hS.aW,hS.len,lX,hM]
 cbv;simp only[xN];refine nN aD mixed hS (n:=n) (fun i a=>jM N X D k bD C q M (Int.ofNat i) a) (fun i a=>T8 v i a) (a0:=none) (iY ?_ ?_) rfl (Nat.le_add_left 1 1) (show eI v 0=[] from rfl) ?_ ?_
 ·simp[eC,jM,aC,vi,vb]
 ·simp[eF,jM,xE,aC]
 ·intro i a hi ha
  have l1:zU (Int.ofNat i) M=true:=by rw[hS.lt,hM];exact decide_eq_true (show(i:Int)<(n:Int) by omega)
  have i1:zD .i64 (zE (i:Int) 1)=(i:Int)+1:=by rw[hS.add,hS.wrap];exact wrap_i64 (by omega) (by omega)
  have Nc:ai 1 []=true:=by rw[hS.wide];rfl
  have z0:ae []=0:=by rw[hS.len];rfl
  cases a with
  | none=>
   have ha:eI v i=[]:=ha;have b1:T8 v (i+1) (some (1,[[.v (.int .i64 (Int.ofNat i))]]))∨v i=false:=by
    by_cases h:v i=true
    ·exact .inl ⟨by rw[BJ h,ha];rfl,by rw[BJ h,ha];rfl⟩
    ·exact .inr (by simpa using h)
   have b2:v i=false->T8 v (i+1) none:=fun h=>by show eI v (i+1)=[];rw[FY h,ha]
   have UU:=hS.dD (row:=[Tree.v (.int .i64 (Int.ofNat i))]) (w:=1) rfl (r:=[]) (len:=0) (b:=8) rfl (by unfold aF;omega);have u0:=UU.1;have u1:=UU.2.1;have u2:=UU.2.2.1;have u3:=UU.2.2.2.1;have u4:=UU.2.2.2.2.1;have u5:=UU.2.2.2.2.2.1;have u6:=UU.2.2.2.2.2.2.1;have u7:=UU.2.2.2.2.2.2.2;clear UU;have u8:ah (ae []) (ae [[Tree.v (.int .i64 (i:Int))]])=1:=by rw[z0];exact u6
   have u7:aO [] 0 [[Tree.v (.int .i64 (i:Int))]]=[[Tree.v (.int .i64 (i:Int))]]:=u7;rw[<-z0]at u4
   by_cases Qy:w=true
   ·have b3:=b1.resolve_right (by rw[xw Qy i];simp)
    rw[Qy]at hw;cbv;refine bT l1 ?_;refine⟨_,hS.call (hw),?_⟩;cbv;refine bT rfl ?_;rw[u0];refine nd u1 (nd u2 (nd u3 (nd Nc (nd u4 ?_))));refine bR [(2,7)] (some (1,[[.v (.int .i64 (Int.ofNat i))]])) ?_ ?_ ?_ ?_ rfl (Nat.le_add_left 1 2) b3
    ·simp[bV,jM,xE,aC,vi,vb,AV.aX,AV.bA,Cell.aX,aT,i1,u8]
    ·simp[bW,jM,xE,aC,Abs.look,aT,aU.aX,Cell.aX,u7]
    ·simp[bf,jM,xE,aC,aT]
    ·simp
   ·have Nk:w=false:=by simpa using Qy
    have cu:=hu Nk i hi;rw[Nk]at hw
    by_cases Ip:u i=true
    ·have b3:=b1.resolve_right (by rw[VX Nk i,Ip];simp)
     rw[Ip]at cu;cbv;refine bT l1 ?_;refine⟨_,hS.call (hw),?_⟩;cbv;refine bF rfl ?_;refine⟨_,hS.call (cu),?_⟩;cbv;refine bT rfl ?_;rw[u0];refine nd u1 (nd u2 (nd u3 (nd Nc (nd u4 ?_))));refine bR [(2,7)] (some (1,[[.v (.int .i64 (Int.ofNat i))]])) ?_ ?_ ?_ ?_ rfl (Nat.le_add_left 1 2) b3
     ·simp[bV,jM,xE,aC,vi,vb,AV.aX,AV.bA,Cell.aX,aT,i1,u8]
     ·simp[bW,jM,xE,aC,Abs.look,aT,aU.aX,Cell.aX,u7]
     ·simp[bf,jM,xE,aC,aT]
     ·simp
    ·have Ip:u i=false:=by simpa using Ip
     have b3:=b2 (by rw[VX Nk i,Ip]);rw[Ip]at cu;cbv;refine bT l1 ?_;refine⟨_,hS.call (hw),?_⟩;cbv;refine bF rfl ?_;refine⟨_,hS.call (cu),?_⟩;cbv;refine bF rfl ?_;refine bR [] none ?_ ?_ ?_ ?_ rfl (Nat.le_add_left 1 1) b3
     ·simp[bV,jM,xE,aC,vi,vb,AV.aX,AV.bA,Cell.aX,aT,i1,u6]
     ·simp[bW,jM,xE,aC,Abs.look,aT,aU.aX,Cell.aX,u7]
     ·simp[bf,jM,xE,aC,aT]
     ·simp
  | some z=>
   obtain⟨len,R⟩:=z;obtain⟨ha,hlen⟩:=ha;simp only at ha hlen;have Rx:=D5 v i;have b1:T8 v (i+1) (some (len+1,R ++ [[.v (.int .i64 (Int.ofNat i))]]))∨v i=false:=by
    by_cases h:v i=true
    ·exact .inl ⟨by rw[BJ h];show R++_=_;rw[ha];simp[W],by rw[BJ h,List.length_append,<-hlen];rfl⟩
    ·exact .inr (by simpa using h)
   have b2:v i=false->T8 v (i+1) (some (len,R)):=fun h=>⟨by rw[FY h];exact ha,by rw[FY h];exact hlen⟩
   have UU:=hS.dD (row:=[Tree.v (.int .i64 (Int.ofNat i))]) (w:=1) rfl (r:=R) (len:=len) (b:=8) (by rw[hlen,ha,iZ]) (by unfold aF;omega);have u0:=UU.1;have u1:=UU.2.1;have u2:=UU.2.2.1;have u3:=UU.2.2.2.1;have u4:=UU.2.2.2.2.1;have u5:=UU.2.2.2.2.2.1;have u6:=UU.2.2.2.2.2.2.1;have u7:=UU.2.2.2.2.2.2.2;clear UU;have u6:ah len (ae [[Tree.v (.int .i64 (i:Int))]])=len+1:=u6;have u7:aO R 0 [[Tree.v (.int .i64 (i:Int))]]=R ++ [[Tree.v (.int .i64 (i:Int))]]:=u7
   by_cases Qy:w=true
   ·have b3:=b1.resolve_right (by rw[xw Qy i];simp)
    rw[Qy]at hw;cbv;refine bT l1 ?_;refine⟨_,hS.call (hw),?_⟩;cbv;refine bT rfl ?_;rw[u0];refine nd u1 (nd u2 (nd u3 (nd u4 (nd u5 ?_))));refine bR [(2,8)] (some (len+1,R ++ [[.v (.int .i64 (Int.ofNat i))]])) ?_ ?_ ?_ ?_ rfl (Nat.le_add_left 1 2) b3
    ·simp[bV,jM,xE,aC,vi,vb,AV.aX,AV.bA,Cell.aX,aT,i1,u6]
    ·simp[bW,jM,xE,aC,Abs.look,aT,aU.aX,Cell.aX,u7]
    ·simp[bf,jM,xE,aC,aT]
    ·simp
   ·have Nk:w=false:=by simpa using Qy
    have cu:=hu Nk i hi;rw[Nk]at hw
    by_cases Ip:u i=true
    ·have b3:=b1.resolve_right (by rw[VX Nk i,Ip];simp)
     rw[Ip]at cu;cbv;refine bT l1 ?_;refine⟨_,hS.call (hw),?_⟩;cbv;refine bF rfl ?_;refine⟨_,hS.call (cu),?_⟩;cbv;refine bT rfl ?_;rw[u0];refine nd u1 (nd u2 (nd u3 (nd u4 (nd u5 ?_))));refine bR [(2,8)] (some (len+1,R ++ [[.v (.int .i64 (Int.ofNat i))]])) ?_ ?_ ?_ ?_ rfl (Nat.le_add_left 1 2) b3
     ·simp[bV,jM,xE,aC,vi,vb,AV.aX,AV.bA,Cell.aX,aT,i1,u6]
     ·simp[bW,jM,xE,aC,Abs.look,aT,aU.aX,Cell.aX,u7]
     ·simp[bf,jM,xE,aC,aT]
     ·simp
    ·have Ip:u i=false:=by simpa using Ip
     have b3:=b2 (by rw[VX Nk i,Ip]);rw[Ip]at cu;cbv;refine bT l1 ?_;refine⟨_,hS.call (hw),?_⟩;cbv;refine bF rfl ?_;refine⟨_,hS.call (cu),?_⟩;cbv;refine bF rfl ?_;refine bR [] (some (len,R)) ?_ ?_ ?_ ?_ rfl (Nat.le_add_left 1 2) b3
     ·simp[bV,jM,xE,aC,vi,vb,AV.aX,AV.bA,Cell.aX,aT,i1,u6]
     ·simp[bW,jM,xE,aC,Abs.look,aT,aU.aX,Cell.aX,u7]
     ·simp[bf,jM,xE,aC,aT]
     ·simp
 ·intro a ha
  have lE:zU (Int.ofNat n) M=false:=by rw[hS.lt,hM];exact decide_eq_false (show ¬(n:Int)<(n:Int) by omega)
  cases a with
  | none=>
   have ha:eI v n=[]:=ha;rw[ha]at hF;cbv;refine bF lE ?_;exact bE hF (ab.drop _ _)
  | some z=>
   obtain⟨len,R⟩:=z;obtain⟨ha,hlen⟩:=ha;simp only at ha hlen;have UU:=hS.whole (r:=R) (len:=len) (by rw[hlen,ha,iZ]);have f1:=UU.1;have f2:=UU.2;clear UU;rw[<-ha]at hF;cbv;refine bF lE (nd f1 ?_);rw[f2];exact hF _ (aS.refl _)
open Go Go.Abs Go.Abs.M Go.Proofs
open Go Go.Abs Go.Abs.M Go.Proofs
def kT (N:Int) (E D:List (List T2)):List Tree:=[.v (.int .i64 N),.aa false (aQ E),.aa false (aQ D)]
def wJ (N:Int) (E D:List (List T2)) (k M:Int) (E' D':List (List T2)):Bool:=
 if EA k=true then decide (M=N)&&decide (E'=E) else if k=12 then decide (M=N) else if k=3 then decide (N<=M)&&decide (D'=D) else decide (N<=M)
structure LP (l:List (List T2)):Prop where
 k:∀p∈l,KP p
 n:l.length<=1000
theorem LP.ok {l:List (List T2)} (h:LP l):∀p∈l,T7 p:=fun p hp=>⟨(h.k p hp).ok.1,(h.k p hp).ok.2⟩
theorem Iq (N M k:Int) (E D E' D':List (List T2)) (hE:LP E) (hD:LP D) (um:LP E') (Mb:LP D') (hk:1<=k/\k<=13) (bD C:Tree) (q:ny) :
  aA Tryz.prog 40 [.val (.agg (fT N (.aa false (aQ E)) (.aa false (aQ D)) k bD C q)),.val (.agg (kT M E' D'))] ⟨[.val (tb (wJ N E D k M E' D'))],[none,none]⟩:=by
 have hw:=kP k hk q;have c1:=wH E' E um.ok hE.ok um.n hE.n;have c2:=wH D' D Mb.ok hD.ok Mb.n hD.n;obtain⟨R,hR⟩:∃R,R=wJ N E D k M E' D':=⟨_,rfl⟩;rw[<-hR];unfold wJ at hR;generalize decide (E'=E)=b1 at *;generalize decide (D'=D)=b2 at *;unfold kT;generalize aQ E=X at *;generalize aQ D=X2 at *;generalize aQ E'=Y at *;generalize aQ D'=Y2 at *;unfold cT at hw
 unfold fT
 by_cases h1:EA k=true
 ·rw[if_pos h1]at hR
  rw[h1]at hw;refine aV aD mixed [.val] Tryz.func40 rfl rfl (by kernel_rfl) fun zD zE zG zH zI zJ zK zL zM zN zO zR zS zT zU zV zX zY zZ zg zh zj zu zy zz aK ah aI aH ak aq ae aE aB aG ao az aJ an aO au aP ai aM aN ay aw aL ar zW bc A L F hS hF=>?_
  have z1:zS M N=decide (M=N):=hS.eq _ _;cbv;refine⟨_,hS.call (hw),?_⟩;cbv;refine bT (rfl) ?_
  by_cases h2:M=N
  ·rw[decide_eq_true h2]at hR z1
   refine bT z1 ?_;refine⟨_,hS.call (c1),?_⟩;cbv;exact bX hF (tJ (by rw[hR];rfl))
  ·rw[decide_eq_false h2]at hR z1
   refine bF z1 ?_;exact bX hF (tJ (by rw[hR];rfl))
 ·rw[if_neg h1]at hR
  have h1:EA k=false:=by simpa using h1
  rw[h1]at hw
  by_cases h2:k=12
  ·rw[if_pos h2]at hR
   refine aV aD mixed [.val] Tryz.func40 rfl rfl (by kernel_rfl) fun zD zE zG zH zI zJ zK zL zM zN zO zR zS zT zU zV zX zY zZ zg zh zj zu zy zz aK ah aI aH ak aq ae aE aB aG ao az aJ an aO au aP ai aM aN ay aw aL ar zW bc A L F hS hF=>?_
   have z1:zS M N=decide (M=N):=hS.eq _ _;have z2:zS k 12=true:=by rw[hS.eq];exact decide_eq_true h2
   cbv;refine⟨_,hS.call (hw),?_⟩;cbv;refine bF (rfl) ?_;refine bT (z2) ?_;exact bX hF (tJ (z1.trans hR.symm))
  ·rw[if_neg h2]at hR
   by_cases h3:k=3
   ·rw[if_pos h3]at hR
    refine aV aD mixed [.val] Tryz.func40 rfl rfl (by kernel_rfl) fun zD zE zG zH zI zJ zK zL zM zN zO zR zS zT zU zV zX zY zZ zg zh zj zu zy zz aK ah aI aH ak aq ae aE aB aG ao az aJ an aO au aP ai aM aN ay aw aL ar zW bc A L F hS hF=>?_
    have z1:zV N M=decide (N<=M):=hS.le _ _;have z2:zS k 12=false:=by rw[hS.eq];exact decide_eq_false h2
    have z3:zS k 3=true:=by rw[hS.eq];exact decide_eq_true h3
    cbv;refine⟨_,hS.call (hw),?_⟩;cbv;refine bF (rfl) ?_;refine bF (z2) ?_;refine bT (z3) ?_
    by_cases h4:N<=M
    ·rw[decide_eq_true h4]at hR z1
     refine bT z1 ?_;refine⟨_,hS.call (c2),?_⟩;cbv;exact bX hF (tJ (by rw[hR];rfl))
    ·rw[decide_eq_false h4]at hR z1
     refine bF z1 ?_;exact bX hF (tJ (by rw[hR];rfl))
   ·rw[if_neg h3]at hR
    refine aV aD mixed [.val] Tryz.func40 rfl rfl (by kernel_rfl) fun zD zE zG zH zI zJ zK zL zM zN zO zR zS zT zU zV zX zY zZ zg zh zj zu zy zz aK ah aI aH ak aq ae aE aB aG ao az aJ an aO au aP ai aM aN ay aw aL ar zW bc A L F hS hF=>?_
    have z1:zV N M=decide (N<=M):=hS.le _ _;have z2:zS k 12=false:=by rw[hS.eq];exact decide_eq_false h2
    have z3:zS k 3=false:=by rw[hS.eq];exact decide_eq_false h3
    cbv;refine⟨_,hS.call (hw),?_⟩;cbv;refine bF (rfl) ?_;refine bF (z2) ?_;refine bF (z3) ?_;exact bX hF (tJ (z1.trans hR.symm))
open Go Go.Abs Go.Abs.M Go.Proofs
def nQ:ny:=⟨[],0,0,0,[],[],[],[],0,[],[],[],[],0,0,0,0,0,0,0,0,[],[],[],[],[],[],[],[],[],[],[],[],[]⟩
def zF:List Tree:=fT 0 (.aa false []) (.aa false []) 0 (.aa false []) (.aa false []) nQ
def fB (N:Int) (E D:Tree) (k:Int) (bD C:Tree) (q:ny):Option aU:=some (.var ((fT N E D k bD C q).map .t))
def Lb (M:Int) (E D:Tree):Option aU:=some (.var [.t (.v (.int .i64 M)),.t E,.t D])
def GZ:List Tree:=[.v (.int .i64 0),.aa true [],.aa true [],.v (.int .i64 0),.aa true [],.v (.int .i64 0),.v (.int .i64 0),.v (.int .i64 0),.aa true [],.aa true [],.aa true [],.aa true [],.v (.int .i64 0),.aa true [],.aa true [],.aa true [],.aa true [],.aa true [],.aa true [],.v (.int .i64 0),.v (.int .i64 0),.v (.int .i64 0),.v (.int .i64 0),.v (.int .i64 0),.v (.int .i64 0),.v (.int .i64 0),.v (.int .i64 0),.aa true [],.aa true [],.aa true [],.aa true [],.aa true [],.aa true [],.aa true [],.aa true [],.aa true [],.aa true [],.aa true [],.aa true [],.aa true []]
theorem F0:iI (.agg GZ) (.agg zF):=by
 have d:ab (.aa true []) (.aa false []):=ab.drop _ _;have r:ab (.v (.int .i64 0)) (.v (.int .i64 0)):=ab.refl _;simp[GZ,zF,fT,nQ,iI,jY,d,r]
theorem Ir (N M k:Int) (E D E' D':List (List T2)) (bD C:Tree) (q:ny)
  (hf:aA Tryz.prog 40 [.val (.agg (fT N (.aa false (aQ E)) (.aa false (aQ D)) k bD C q)),.val (.agg (kT M E' D'))] ⟨[.val (tb false)],[none,none]⟩) :
  aA Tryz.prog 14 [.val (.agg (fT N (.aa false (aQ E)) (.aa false (aQ D)) k bD C q)),.val (.agg (kT M E' D'))] ⟨[.val (.agg zF),.val (tb false)],[none,none]⟩:=by
 have hz:=F0;unfold GZ at hz;unfold kT at *;generalize aQ E=X at *;generalize aQ D=X2 at *;generalize aQ E'=Y at *;generalize aQ D'=Y2 at *;unfold fT at *;refine aV aD mixed [.val,.val] Tryz.func14 rfl rfl (by kernel_rfl) fun zD zE zG zH zI zJ zK zL zM zN zO zR zS zT zU zV zX zY zZ zg zh zj zu zy zz aK ah aI aH ak aq ae aE aB aG ao az aJ an aO au aP ai aM aN ay aw aL ar zW bc A L F hS hF=>?_
 have y:zX false=true:=by rw[hS.not];rfl
 cbv;refine⟨_,hS.call (hf),?_⟩;cbv;refine bT (y) ?_;exact Dl hF hz (iI.refl _)
theorem Is (N M k:Int) (E D E' D':List (List T2)) (bD C:Tree) (q:ny)
  (hf:aA Tryz.prog 40 [.val (.agg (fT N (.aa false (aQ E)) (.aa false (aQ D)) k bD C q)),.val (.agg (kT M E' D'))] ⟨[.val (tb true)],[none,none]⟩)
  (hw:aA Tryz.prog 25 [.val (.agg (cT k q))] ⟨[.val (tb true)],[none]⟩) :
  aA Tryz.prog 14 [.val (.agg (fT N (.aa false (aQ E)) (.aa false (aQ D)) k bD C q)),.val (.agg (kT M E' D'))] ⟨[.val (.agg (fT M (.aa false (aQ E')) (.aa false (aQ D')) k bD C q)),.val (tb true)],[none,none]⟩:=by
 unfold kT cT at *;generalize aQ E=X at *;generalize aQ D=X2 at *;generalize aQ E'=Y at *;generalize aQ D'=Y2 at *;unfold fT at *;refine aV aD mixed [.val,.val] Tryz.func14 rfl rfl (by kernel_rfl) fun zD zE zG zH zI zJ zK zL zM zN zO zR zS zT zU zV zX zY zZ zg zh zj zu zy zz aK ah aI aH ak aq ae aE aB aG ao az aJ an aO au aP ai aM aN ay aw aL ar zW bc A L F hS hF=>?_
 have y:zX true=false:=by rw[hS.not];rfl
 cbv;refine⟨_,hS.call (hf),?_⟩;cbv;refine bF (y) ?_;refine⟨_,hS.call (hw),?_⟩;cbv;refine bT (rfl) ?_;exact hF _ (aS.refl _)
def ud (N M k:Int) (X X2 Y Y2:Abs.Rows) (bD C:Tree) (q:ny) (av L:Abs.Rows) (m J:Int):St:=aC 91 [.aj,.aj,.c (.ptr 2 0 0),.c (.ptr 3 0 0),.c (.ptr 4 0 0),vb false,.c (.ptr 7 0 0),.c (.t (.aa false av)),.aj,.aj,.aj,.aj,.aj,.aj,.aj,.aj,.aj,.aj,.aj,.aj,.aj,.aj,.aj,.aj,.aj,.aj,.aj,.aj,.aj,.aj,.aj,.aj,.aj,.aj,.c (.t (.aa false L)),vi .i64 m,vi .i64 J] [none,none,fB N (.aa false X) (.aa false X2) k bD C q,Lb M (.aa false Y) (.aa false Y2),some (.var (GZ.map .t)),none,none,fB M (.aa false Y) (.aa false Y2) k bD C q]
theorem It (N M k:Int) (E D E' D':List (List T2)) (bD C:Tree) (q:ny) (av ix:List Int) (n:Nat) (b:Bool) (ir:Abs.Rows) (hk:k≠12)
  (hL:ix.length<=1000) (Ok:∀x∈ix,0<=x/\x<n) (dW:av.length=n) (hb:b=true↔∀x∈ix,0<=av.getD x.toNat (-1))
  (hf:aA Tryz.prog 40 [.val (.agg (fT N (.aa false (aQ E)) (.aa false (aQ D)) k bD C q)),.val (.agg (kT M E' D'))] ⟨[.val (tb true)],[none,none]⟩)
  (hw:aA Tryz.prog 25 [.val (.agg (cT k q))] ⟨[.val (tb false)],[none]⟩)
  (hp:aA Tryz.prog 41 [.val (tl (aQ E)),.val (tl (aQ E'))] ⟨[.val (tl (W .i64 av))],[none,none]⟩)
  (hu:aA Tryz.prog 12 [.val (.agg (fT N (.aa false (aQ E)) (.aa false (aQ D)) k bD C q))] ⟨[.val (tl (W .i64 ix))],[none]⟩)
  (hm:b=true->aA Tryz.prog 42 [.val (.c bD),.val (tl (W .i64 av)),.val (ti .i64 (E'.length:Int))] ⟨[.val (tl ir)],[none,none,none]⟩) :
  aA Tryz.prog 14 [.val (.agg (fT N (.aa false (aQ E)) (.aa false (aQ D)) k bD C q)),.val (.agg (kT M E' D'))] ⟨[.val (.agg (if b=true then fT M (.aa false (aQ E')) (.aa false (aQ D')) k (.aa false ir) C q else zF)),.val (tb b)],[none,none]⟩:=by
 have hz:=F0;obtain⟨Av,Qz⟩:∃Z,Z=W .i64 av:=⟨_,rfl⟩;obtain⟨Lr,Nl⟩:∃Z,Z=W .i64 ix:=⟨_,rfl⟩;obtain⟨l,hl⟩:∃l,l=ix.length:=⟨_,rfl⟩;obtain⟨m,Q0⟩:∃m:Int,m=(l:Int):=⟨_,rfl⟩;have Nn:Lr.length=l:=by rw[Nl,iZ,hl]
 have lY:(aQ E').length=E'.length:=lj _;obtain⟨el,Ol⟩:∃el:Int,el=(E'.length:Int):=⟨_,rfl⟩;rw[<-Qz]at hp hm;rw[<-Nl]at hu;rw[<-Ol]at hm;unfold kT cT at *;generalize aQ E=X at *;generalize aQ D=X2 at *;generalize aQ E'=Y at *;generalize aQ D'=Y2 at *;unfold fT at *;refine aV aD mixed [.val,.val] Tryz.func14 rfl rfl (by kernel_rfl) fun zD zE zG zH zI zJ zK zL zM zN zO zR zS zT zU zV zX zY zZ zg zh zj zu zy zz aK ah aI aH ak aq ae aE aB aG ao az aJ an aO au aP ai aM aN ay aw aL ar zW bc A L F hS hF=>?_
 have y:zX true=false:=by rw[hS.not];rfl
 have lN:zy (ae Lr)=m:=by rw[hS.aW,hS.len,Nn,Q0]
 have yN:zy (ae Y)=el:=by rw[hS.aW,hS.len,lY,Ol]
 have zk:zT k 12=true:=by rw[hS.ne];exact decide_eq_true hk
 cbv;refine⟨_,hS.call (hf),?_⟩;cbv;refine bF (y) ?_;refine⟨_,hS.call (hw),?_⟩;cbv;refine bF (rfl) ?_;refine⟨_,hS.call (hp),?_⟩;cbv;refine⟨_,hS.call (hu),?_⟩;cbv;simp only[lN];refine nN aD mixed hS (n:=l) (fun j (d:Unit)=>ud N M k X X2 Y Y2 bD C q Av Lr m (Int.ofNat j)) (fun j d=>∀x∈ix.take j,0<=av.getD x.toNat (-1)) (a0:=()) (iY ?_ ?_) rfl (Nat.le_add_left 2 6) (by simp) ?_ ?_
 ·simp[eC,ud,aC,vi,vb]
 ·simp[eF,ud,fB,fT,Lb,GZ,aC]
 ·intro j d hj hd
  have l1:zU (Int.ofNat j) m=true:=by rw[<-lN];exact(hS.xt Nn hj (by omega)).1
  have i1:zD .i64 (zE (j:Int) 1)=(j:Int)+1:=(hS.xt Nn hj (by omega)).2.1;have j1:zj (Int.ofNat j)=j:=by rw[hS.nat];rfl
  have n0:zV 0 (Int.ofNat j)=true:=by rw[hS.le];exact decide_eq_true (show(0:Int)<=(j:Int) by omega)
  have Iu:j<ix.length:=by omega
  obtain⟨x,hx⟩:∃x:Nat,(x:Int)=ix[j]:=⟨ix[j].toNat,by have:=(Ok _ (List.getElem_mem Iu)).1;omega⟩;have hxn:x<n:=Int.ofNat_lt.1 (by rw[hx];exact(Ok _ (List.getElem_mem Iu)).2);have il:ix.take (j+1)=ix.take j ++ [(x:Int)]:=by rw[List.take_add_one,List.getElem?_eq_getElem Iu,hx];rfl
  have g1:aG .i64 Lr j=true:=by rw[hS.gJ,Nl,lS];exact decide_eq_true Iu
  have g2:ao Lr j=Int.ofNat x:=by rw[hS.dL,Nl,ph,List.getD_eq_getElem?_getD,List.getElem?_eq_getElem Iu];exact hx.symm
  obtain⟨a,ha⟩:∃a,a=av.getD x (-1):=⟨_,rfl⟩;have g3:aG .i64 Av x=true:=by rw[hS.gJ,Qz,lS];exact decide_eq_true (by omega)
  have g4:ao Av x=a:=by rw[hS.dL,Qz,ph,ha,List.getD_eq_getElem?_getD,List.getD_eq_getElem?_getD,List.getElem?_eq_getElem (show x<av.length by omega)];rfl
  have j3:zj (Int.ofNat x)=x:=by rw[hS.nat];rfl
  have n3:zV 0 (Int.ofNat x)=true:=by rw[hS.le];exact decide_eq_true (show(0:Int)<=(x:Int) by omega)
  by_cases h0:a<0
  ·have z0:zU a 0=true:=by rw[hS.lt];exact decide_eq_true h0
   have ZH:b=false:=by
    cases bK:b with
    | false=>rfl
    | true=>
     have:=hb.1 bK (x:Int) (by rw[hx];exact List.getElem_mem Iu);rw[Int.toNat_natCast,<-ha]at this;omega
   rw[ZH]at hF;clear hx il ha;cbv;refine bT l1 ?_;simp only[j1,g2,j3,g4];refine nd n0 (nd g1 (nd n3 (nd g3 (bT z0 ?_))));exact Dl hF hz (iI.refl _)
  ·have z0:zU a 0=false:=by rw[hS.lt];exact decide_eq_false h0
   have hR:∀x∈ix.take (j+1),0<=av.getD x.toNat (-1):=by
    rw[il];intro z hz;rcases List.mem_append.1 hz with hz|hz
    ·exact hd z hz
    ·rw[List.mem_singleton.1 hz,Int.toNat_natCast,<-ha];omega
   clear hx il ha;cbv;refine bT l1 ?_;simp only[j1,g2,j3,g4];refine nd n0 (nd g1 (nd n3 (nd g3 (bF z0 ?_))));refine bR [(2,2),(3,3),(4,4),(7,7)] () ?_ ?_ ?_ ?_ rfl (Nat.le_add_left 2 6) hR
   ·simp[bV,ud,aC,vi,vb,AV.aX,AV.bA,Cell.aX,aT,i1]
   ·simp[bW,ud,fB,fT,Lb,GZ,aC,Abs.look,aT,aU.aX,Cell.aX]
   ·simp[bf,ud,fB,fT,Lb,GZ,aC,aT]
   ·simp
 ·intro d hd
  rw[List.take_of_length_le (by omega)]at hd;have T9:b=true:=hb.2 hd;have lE:zU (Int.ofNat l) m=false:=by rw[<-lN];exact hS.qQ Nn
  have cm:=hm T9;rw[T9]at hF;rw[if_pos rfl]at hF;cbv;refine bF lE (bT zk ?_);simp only[yN];refine⟨_,hS.call (cm),?_⟩;cbv;exact hF _ (aS.refl _)
open Go Go.Abs Go.Abs.M Go.Proofs
def nS (l:List Int):Prop:=(∀x∈l,-128<=x/\x<128)/\l.length<=281474976710656
theorem jg (l:List Int) (hl:nS l) (k:Int) (k0:0<=k) (k1:k<=1000) :
  ∃v:Int,-128<=v/\v<128/\aA Tryz.prog 66 [.val (tl (W .i8 l)),.val (ti .i64 k)] ⟨[.val (ti .i64 v)],[none,none]⟩:=by
 obtain⟨X,hX⟩:∃X,X=W .i8 l:=⟨_,rfl⟩;have lX:X.length=l.length:=by rw[hX];unfold W;exact List.length_map ..
 by_cases h0:l.length=0
 ·refine⟨0,by decide,by decide,?_⟩
  rw[<-hX];refine aV aD mixed [.val] Tryz.func66 rfl rfl (by kernel_rfl) fun zD zE zG zH zI zJ zK zL zM zN zO zR zS zT zU zV zX zY zZ zg zh zj zu zy zz aK ah aI aH ak aq ae aE aB aG ao az aJ an aO au aP ai aM aN ay aw aL ar zW bc A L F hS hF=>?_
  have z0:zS (zy (ae X)) 0=true:=by rw[hS.eq,hS.aW,hS.len,lX,h0];rfl
  cbv;refine bT z0 ?_;exact hF _ (aS.refl _)
 ·obtain⟨j,hj⟩:∃j,j=k.toNat%l.length:=⟨_,rfl⟩
  have Ma:j<l.length:=by rw[hj];exact Nat.mod_lt _ (by omega)
  obtain⟨v,hv⟩:∃v,v=l.getD j 0:=⟨_,rfl⟩;have Om:v∈l:=by rw[hv,List.getD_eq_getElem?_getD,List.getElem?_eq_getElem Ma];exact List.getElem_mem Ma
  refine⟨v,(hl.1 v Om).1,(hl.1 v Om).2,?_⟩;rw[<-hX];have ZJ:k.tmod (l.length:Int)=(j:Int):=by
   rw[Int.tmod_eq_emod_of_nonneg k0,hj,Int.natCast_emod,Int.toNat_of_nonneg k0]
  refine aV aD mixed [.val] Tryz.func66 rfl rfl (by kernel_rfl) fun zD zE zG zH zI zJ zK zL zM zN zO zR zS zT zU zV zX zY zZ zg zh zj zu zy zz aK ah aI aH ak aq ae aE aB aG ao az aJ an aO au aP ai aM aN ay aw aL ar zW bc A L F hS hF=>?_
  have z0:zS (zy (ae X)) 0=false:=by rw[hS.eq,hS.aW,hS.len,lX];exact decide_eq_false (by omega)
  have z1:zT (zy (ae X)) 0=true:=by rw[hS.ne,hS.aW,hS.len,lX];exact decide_eq_true (by omega)
  have e1:zJ k (zy (ae X))=(j:Int):=by rw[hS.rem,hS.aW,hS.len,lX];exact ZJ
  have e2:zD .i64 (j:Int)=(j:Int):=by rw[hS.wrap];exact wrap_i64 (by omega) (by have:=hl.2;omega)
  have e3:zj (j:Int)=j:=by rw[hS.nat];rfl
  have n0:zV 0 (j:Int)=true:=by rw[hS.le];exact decide_eq_true (by omega)
  have j2:ao X j=v:=by rw[hS.dL,hX,ph];exact hv.symm
  have j3:aG .i8 X j=true:=by rw[hS.gJ,hX,lS];exact decide_eq_true Ma
  have e4:zD .i64 v=v:=by rw[hS.wrap];exact wrap_i64 (by have:=(hl.1 v Om).1;omega) (by have:=(hl.1 v Om).2;omega)
  cbv;refine bF z0 ?_;simp only[e1,e2,e3,j2,e4];refine nd z1 (nd n0 (nd j3 ?_));exact hF _ (aS.refl _)
def kU (X:Abs.Rows) (k n:Int) (len:Nat) (O:Abs.Rows) (I:Int):St:=aC 35 [.c (.t (.aa false X)),vi .i64 k,vi .i64 n,.aj,.aj,.aj,.aj,.c (.sl 3 0 len false),vi .i64 I] [none,none,none,some (.rows 1 O true false)]
theorem sW (l:List (List T2)) (hl:∀p∈l,SP p) (hk:l.length<=1000) (k:Int) (k0:0<=k) (k1:k<=1000) (n:Nat) (n1:n<=20) :
  ∃r:List (List T2),r.length=n/\(∀p∈r,SP p)/\aA Tryz.prog 67 [.val (tl (aQ l)),.val (ti .i64 k),.val (ti .i64 (n:Int))] ⟨[.val (tl (aQ r))],[none,none,none]⟩:=by
 obtain⟨f,hf⟩:∃f:Nat->List T2,f=fun i=>if l.length=0 then [] else l.getD ((k.toNat+i)%l.length) []:=⟨_,rfl⟩
 have sp0:SP []:=⟨by simp,⟨by simp,List.Pairwise.nil⟩,by simp,by show(-1:Int)<=12;omega⟩;have Eh:∀i,SP (f i):=fun i=>by
  rw[hf];simp only;split
  ·exact sp0
  ·rename_i h
   rw[List.getD_eq_getElem?_getD,List.getElem?_eq_getElem (Nat.mod_lt _ (by omega))];exact hl _ (List.getElem_mem _)
 refine⟨(List.range n).map f,by simp,fun p hp=>by obtain⟨i,_,rfl⟩:=List.mem_map.1 hp;exact Eh i,?_⟩;obtain⟨X,hX⟩:∃X,X=aQ l:=⟨_,rfl⟩;have lX:X.length=l.length:=by rw[hX,lj]
 obtain⟨Y,hY⟩:∃Y,Y=aQ ((List.range n).map f):=⟨_,rfl⟩;obtain⟨nI,Ua⟩:∃i:Int,i=(n:Int):=⟨_,rfl⟩;rw[<-hX,<-hY,<-Ua];refine aV aD mixed [.val] Tryz.func67 rfl rfl (by kernel_rfl) fun zD zE zG zH zI zJ zK zL zM zN zO zR zS zT zU zV zX zY zZ zg zh zj zu zy zz aK ah aI aH ak aq ae aE aB aG ao az aJ an aO au aP ai aM aN ay aw aL ar zW bc A L F hS hF=>?_
 have lE:zU (Int.ofNat n) nI=false:=by rw[hS.lt,Ua];exact decide_eq_false (by show ¬((n:Int)<n);omega)
 cbv;refine Be aD mixed hS (n:=n) (fun i (O:Abs.Rows)=>kU X k nI i O (Int.ofNat i)) (fun i O=>O=aQ ((List.range i).map f)) (a0:=[]) (iY ?_ ?_) rfl (by show 3<=4;omega) (by simp[aQ]) ?_ ?_
 ·simp[eC,kU,aC,vi,vb]
 ·simp[eF,kU,aC]
 ·intro i O hi hO
  have c1:zU (Int.ofNat i) nI=true:=by rw[hS.lt,Ua];exact decide_eq_true (by show(i:Int)<n;omega)
  have i1:zD .i64 (zE (Int.ofNat i) 1)=(i:Int)+1:=by rw[hS.add,hS.wrap];exact wrap_i64 (by show -9223372036854775808<=(i:Int)+1;omega) (by show(i:Int)+1<9223372036854775808;omega)
  have lO:i=O.length:=by rw[hO,lj];simp
  obtain⟨row,dv⟩:∃row:List Tree,row=[.aa false (bo (f i))]:=⟨_,rfl⟩;have yQ:O ++ [row]=aQ ((List.range (i+1)).map f):=by rw[List.range_succ,List.map_append,hO,dv];simp[aQ]
  obtain⟨u0,u1,u2,u3,u4,u5,u6,u7⟩:=hS.dD (row:=row) (w:=1) (by rw[dv];rfl) (r:=O) (len:=i) (b:=24) lO (by unfold aF;omega)
  by_cases h0:l.length=0
  ·have z0:zS (zy (ae X)) 0=true:=by rw[hS.eq,hS.aW,hS.len,lX,h0];rfl
   have eL:row=[.aa false []]:=by rw[dv,hf];simp[h0,bo]
   obtain⟨v1,v2⟩:=hS.whole (r:=[]) (len:=0) rfl;refine⟨?_⟩;cbv;refine bT c1 (bT z0 ?_);rw[eL]at u0 u1 u2 u3 u4 u6 u7 yQ;simp only[v2,u0];refine nd v1 (nd u1 (nd u2 (nd u3 (nd u4 (nd u5 ?_)))));refine bR [(3,6)] (O ++ [[.aa false []]]) ?_ ?_ ?_ ?_ rfl (by show 3<=4;omega) yQ
   ·simp[bV,kU,aC,vi,AV.aX,AV.bA,Cell.aX,aT,u6]
    exact i1
   ·simp[bW,kU,aC,Abs.look,aT,aU.aX,u7,Cell.aX]
   ·simp[bf,kU,aC,aT]
   ·simp
  ·obtain⟨j,hj⟩:∃j,j=(k.toNat+i)%l.length:=⟨_,rfl⟩
   have Ma:j<l.length:=by rw[hj];exact Nat.mod_lt _ (by omega)
   have Ub:f i=l[j]:=by rw[hf];simp only[if_neg h0];rw[<-hj,List.getD_eq_getElem?_getD,List.getElem?_eq_getElem Ma];rfl
   have z0:zS (zy (ae X)) 0=false:=by rw[hS.eq,hS.aW,hS.len,lX];exact decide_eq_false (by omega)
   have z1:zT (zy (ae X)) 0=true:=by rw[hS.ne,hS.aW,hS.len,lX];exact decide_eq_true (by omega)
   have e0:zD .i64 (zE k (Int.ofNat i))=k+(i:Int):=by rw[hS.add,hS.wrap];exact wrap_i64 (by show -9223372036854775808<=k+(i:Int);omega) (by show k+(i:Int)<9223372036854775808;omega)
   have e1:zJ (k+(i:Int)) (zy (ae X))=(j:Int):=by
    rw[hS.rem,hS.aW,hS.len,lX,Int.tmod_eq_emod_of_nonneg (by omega),hj,Int.natCast_emod,Int.natCast_add,Int.toNat_of_nonneg k0]
   have e2:zD .i64 (j:Int)=(j:Int):=by rw[hS.wrap];exact wrap_i64 (by omega) (by omega)
   have e3:zj (j:Int)=j:=by rw[hS.nat];rfl
   have n0:zV 0 (j:Int)=true:=by rw[hS.le];exact decide_eq_true (by omega)
   have j2:aE X j=some row:=by rw[hS.nth,hX,dv,Ub];simp[aQ,Ma]
   rw[dv]at u0 u1 u2 u3 u4 u6 u7 yQ j2;generalize bo (f i)=Z at *;refine⟨?_⟩;cbv;refine bT c1 (bF z0 ?_);simp only[e0,e1,e2,e3,j2];cbv;simp only[u0];refine nd z1 (nd n0 (nd u1 (nd u2 (nd u3 (nd u4 (nd u5 ?_))))));refine bR [(3,5)] (O ++ [[.aa false Z]]) ?_ ?_ ?_ ?_ rfl (by show 3<=4;omega) yQ
   ·simp[bV,kU,aC,vi,AV.aX,AV.bA,Cell.aX,aT,u6]
    exact i1
   ·simp[bW,kU,aC,Abs.look,aT,aU.aX,u7,Cell.aX]
   ·simp[bf,kU,aC,aT]
   ·simp
 ·intro O hO
  obtain⟨v1,v2⟩:=hS.whole (r:=O) (len:=n) (by rw[hO,lj];simp);rw[<-hY]at hO;rw[hO]at v1 v2;subst hO;refine⟨?_⟩;cbv;refine bF lE ?_;rw[v2];refine nd v1 ?_;exact hF _ (aS.refl _)
def sX (X:Abs.Rows) (r c:Int) (len:Nat) (O:Abs.Rows) (I:Int):St:=aC 25 [.c (.t (.aa false X)),vi .i64 r,vi .i64 c,.aj,.aj,.aj,.aj,.c (.sl 3 0 len false),vi .i64 I] [none,none,none,some (.rows 1 O true false)]
def rO (t:List (List (List T2))) (r c:Nat):Prop:=t.length=r/\∀p∈t,p.length=c/\∀q∈p,SP q
theorem jz (l:List (List T2)) (hl:∀p∈l,SP p) (hk:l.length<=1000) (r c:Nat) (r1:r<=10) (c1:c<=10) :
  ∃t,rO t r c/\aA Tryz.prog 71 [.val (tl (aQ l)),.val (ti .i64 (r:Int)),.val (ti .i64 (c:Int))] ⟨[.val (tl (df t))],[none,none,none]⟩:=by
 have hP:=fun i:Nat=>sW l hl hk (if i<10 then(i:Int)*(c:Int) else 0) (by split;exact Int.mul_nonneg (by omega) (by omega);omega) (by
  split
  ·have:(i:Int)*(c:Int)<=10*10:=Int.mul_le_mul (by omega) (by omega) (by omega) (by omega)
   omega
  ·omega) c (by omega)
 obtain⟨f,hf⟩:=Classical.axiomOfChoice hP;refine⟨(List.range r).map f,⟨by simp,fun p hp=>by obtain⟨i,_,rfl⟩:=List.mem_map.1 hp;exact⟨(hf i).1,(hf i).2.1⟩⟩,?_⟩;have hC:∀i:Nat,i<10->aA Tryz.prog 67 [.val (tl (aQ l)),.val (ti .i64 ((i:Int)*(c:Int))),.val (ti .i64 (c:Int))] ⟨[.val (tl (aQ (f i)))],[none,none,none]⟩:=fun i hi=>by
  have:=(hf i).2.2;rw[if_pos hi]at this;exact this
 clear hf hP;obtain⟨Y,hY⟩:∃Y,Y=df ((List.range r).map f):=⟨_,rfl⟩;obtain⟨rI,ZK⟩:∃i:Int,i=(r:Int):=⟨_,rfl⟩;obtain⟨cI,hcI⟩:∃i:Int,i=(c:Int):=⟨_,rfl⟩;have Vb:0<=cI/\cI<=10:=by omega
 rw[<-hY,<-ZK,<-hcI];rw[<-hcI]at hC;generalize aQ l=X at *;refine aV aD mixed [.val] Tryz.func71 rfl rfl (by kernel_rfl) fun zD zE zG zH zI zJ zK zL zM zN zO zR zS zT zU zV zX zY zZ zg zh zj zu zy zz aK ah aI aH ak aq ae aE aB aG ao az aJ an aO au aP ai aM aN ay aw aL ar zW bc A L F hS hF=>?_
 have lE:zU (Int.ofNat r) rI=false:=by rw[hS.lt,ZK];exact decide_eq_false (by show ¬((r:Int)<r);omega)
 cbv;refine Be aD mixed hS (n:=r) (fun i (O:Abs.Rows)=>sX X rI cI i O (Int.ofNat i)) (fun i O=>O=df ((List.range i).map f)) (a0:=[]) (iY ?_ ?_) rfl (by show 3<=4;omega) (by simp[df]) ?_ ?_
 ·simp[eC,sX,aC,vi,vb]
 ·simp[eF,sX,aC]
 ·intro i O hi hO
  have d1:zU (Int.ofNat i) rI=true:=by rw[hS.lt,ZK];exact decide_eq_true (by show(i:Int)<r;omega)
  have i1:zD .i64 (zE (Int.ofNat i) 1)=(i:Int)+1:=by rw[hS.add,hS.wrap];exact wrap_i64 (by show -9223372036854775808<=(i:Int)+1;omega) (by show(i:Int)+1<9223372036854775808;omega)
  have hb:(i:Int)*cI<=10*10:=Int.mul_le_mul (by omega) Vb.2 Vb.1 (by omega);have Cq:0<=(i:Int)*cI:=Int.mul_nonneg (by omega) Vb.1;have e0:zD .i64 (zH (Int.ofNat i) cI)=(i:Int)*cI:=by rw[hS.mul,hS.wrap];exact wrap_i64 (by show -9223372036854775808<=(i:Int)*cI;omega) (by show(i:Int)*cI<9223372036854775808;omega)
  have lO:i=O.length:=by rw[hO,nA];simp
  have cp:=hC i (by omega);have yQ:O ++ [[.aa false (aQ (f i))]]=df ((List.range (i+1)).map f):=by rw[List.range_succ,List.map_append,hO];simp[df]
  obtain⟨u0,u1,u2,u3,u4,u5,u6,u7⟩:=hS.dD (row:=[.aa false (aQ (f i))]) (w:=1) rfl (r:=O) (len:=i) (b:=24) lO (by unfold aF;omega);generalize aQ (f i)=Z at *;refine⟨?_⟩;cbv;refine bT d1 ?_;simp only[e0];refine⟨_,hS.call (cp),?_⟩;cbv;simp only[u0];refine nd u1 (nd u2 (nd u3 (nd u4 (nd u5 ?_))));refine bR [(3,7)] (O ++ [[.aa false Z]]) ?_ ?_ ?_ ?_ rfl (by show 3<=4;omega) yQ
  ·simp[bV,sX,aC,vi,AV.aX,AV.bA,Cell.aX,aT,u6]
   exact i1
  ·simp[bW,sX,aC,Abs.look,aT,aU.aX,u7,Cell.aX]
  ·simp[bf,sX,aC,aT]
  ·simp
 ·intro O hO
  obtain⟨v1,v2⟩:=hS.whole (r:=O) (len:=r) (by rw[hO,nA];simp);rw[<-hY]at hO;rw[hO]at v1 v2;subst hO;refine⟨?_⟩;cbv;refine bF lE ?_;rw[v2];refine nd v1 ?_;exact hF _ (aS.refl _)
end Go.Proofs.YtekefilngojelaaGreat
end
section
namespace Go.Abs
def wK:List Rat->List Rat->List Rat
 | [],Q=>Q
 | c::P,[]=>c::P
 | c::P,d::Q=>(c+d)::wK P Q
def Np (c:Rat) (P:List Rat):List Rat:=P.map (c*·)
def Ld:List Rat->List Rat->List Rat
 | [],_=>[]
 | c::P,B=>wK (Np c B) (0::Ld P B)
theorem uK:∀(P Q:List Rat) (x:Rat),ev (wK P Q) x=ev P x+ev Q x
 | [],Q,x=>by simp[wK,ev,Rat.zero_add]
 | c::P,[],x=>by simp[wK,ev,Rat.add_zero]
 | c::P,d::Q,x=>by simp only[wK,ev];rw[uK P Q x];grind
theorem BK (c:Rat):∀(P:List Rat) (x:Rat),ev (Np c P) x=c*ev P x
 | [],x=>by simp[Np,ev,Rat.mul_zero]
 | d::P,x=>by have:=BK c P x;simp only[Np,List.map_cons,ev]at this ⊢;rw[this];grind
theorem G0:∀(P B:List Rat) (x:Rat),ev (Ld P B) x=ev P x*ev B x
 | [],B,x=>by simp[Ld,ev,Rat.zero_mul]
 | c::P,B,x=>by
  simp only[Ld];rw[uK,BK];simp only[ev];rw[G0 P B x];grind
end Go.Abs
end
section
namespace Go.Proofs.YtekefilngojelaaGreat
open Go Go.Abs Go.Abs.M Go.Proofs
end Go.Proofs.YtekefilngojelaaGreat
end
section
namespace Go.Abs
theorem Uc {q:Rat} {n d:Int} (hd:0<d) (h:q*(d:Rat)=(n:Rat)):q.num.natAbs<=n.natAbs/\(q.den:Int)<=d:=by
 have Rq:(d:Rat)≠0:=fun h0=>by rw[Rat.intCast_eq_zero_iff]at h0;omega
 have hq:Rat.divInt n d=q:=by
  rw[Rat.divInt_eq_div,<-h,Rat.div_def,Rat.mul_assoc,Rat.mul_inv_cancel _ Rq,Rat.mul_one]
 obtain⟨num,den,nz,red⟩:=q;obtain⟨m,xh,h1,h2⟩:=Rat.divInt_num_den (by omega) hq;have hm:0<m:=by
  rcases Int.lt_trichotomy m 0 with h3|h3|h3
  ·have:(den:Int)*m<=0:=Int.mul_nonpos_of_nonneg_of_nonpos (by omega) (by omega)
   omega
  ·exact absurd h3 xh
  ·exact h3
 refine⟨?_,?_⟩
 ·show num.natAbs<=n.natAbs
  rw[h1,Int.natAbs_mul];exact Nat.le_mul_of_pos_right _ (by omega)
 ·show(den:Int)<=d
  rw[h2];have:(den:Int)*1<=den*m:=Int.mul_le_mul_of_nonneg_left (by omega) (by omega);omega
structure CD (M d:Int) (f:Nat->Rat):Prop where
 pos:0<d
 num:∀j,∃n:Int,-M<=n/\n<=M/\f j*(d:Rat)=(n:Rat)
def CF (s:Nat) (f:Nat->Rat):Prop:=∃d:Int,d<=2^s/\CD (2^s) d f
theorem rr {s t:Nat} (h:s<=t):(2:Int)^s<=2^t:=by
 have:=Nat.pow_le_pow_right (n:=2) (by omega) h
 exact_mod_cast this
theorem two_pow_pos (s:Nat):(0:Int)<2^s:=by
 have:=Nat.two_pow_pos s
 exact_mod_cast this
theorem CD.mono {M N d:Int} {f:Nat->Rat} (h:CD M d f) (hM:M<=N):CD N d f:=
 ⟨h.pos,fun j=>by obtain⟨n,h1,h2,h3⟩:=h.num j;exact⟨n,by omega,by omega,h3⟩⟩
theorem CF.mono {s t:Nat} {f:Nat->Rat} (h:CF s f) (dC:s<=t):CF t f:=by
 obtain⟨d,h1,h2⟩:=h;have:=rr dC;exact⟨d,by omega,h2.mono this⟩
theorem CF.congr {s:Nat} {f g:Nat->Rat} (h:CF s f) (e:∀j,f j=g j):CF s g:=by
 have:f=g:=funext e;exact this▸h
theorem CF.comp {s:Nat} {f:Nat->Rat} (h:CF s f) (k:Nat->Nat):CF s (fun j=>f (k j)):=by
 obtain⟨d,h1,h2⟩:=h;exact⟨d,h1,h2.pos,fun j=>h2.num (k j)⟩
theorem CF.pick {s:Nat} {f:Nat->Rat} (h:CF s f) (p:Nat->Bool):CF s (fun j=>if p j=true then f j else 0):=by
 obtain⟨d,h1,h2⟩:=h;have:=two_pow_pos s;refine⟨d,h1,h2.pos,fun j=>?_⟩
 by_cases hp:p j=true
 ·rw[if_pos hp];exact h2.num j
 ·rw[if_neg hp];exact⟨0,by omega,by omega,by rw[Rat.zero_mul];rfl⟩
theorem CF.zero (s:Nat):CF s (fun _=>0):=by
 have:=two_pow_pos s;exact⟨1,by omega,by omega,fun j=>⟨0,by omega,by omega,by rw[Rat.zero_mul];rfl⟩⟩
theorem L6 {a b M N:Int} (h1:-M<=a) (h2:a<=M) (h3:-N<=b) (h4:b<=N):-(M*N)<=a*b/\a*b<=M*N:=by
 have e1:0<=(M-a)*(N-b):=Int.mul_nonneg (by omega) (by omega);have e2:0<=(M+a)*(N+b):=Int.mul_nonneg (by omega) (by omega);have e3:0<=(M-a)*(N+b):=Int.mul_nonneg (by omega) (by omega);have e4:0<=(M+a)*(N-b):=Int.mul_nonneg (by omega) (by omega);constructor<;>grind
theorem CF.add {s t:Nat} {f g:Nat->Rat} (hf:CF s f) (hg:CF t g):CF (s+t+1) (fun j=>f j+g j):=by
 obtain⟨d,h1,h2⟩:=hf;obtain⟨e,h3,h4⟩:=hg;have p1:=two_pow_pos s;have p2:=two_pow_pos t;have hd:=h2.pos;have he:=h4.pos;have e1:(2:Int)^(s+t+1)=2*(2^s*2^t):=by rw[Int.pow_succ,Int.pow_add];omega
 rw[CF,e1];have b0:=L6 (a:=d) (b:=e) (M:=2^s) (N:=2^t) (by omega) (by omega) (by omega) (by omega);have bp:0<d*e:=Int.mul_pos hd he;refine⟨d*e,by omega,bp,fun j=>?_⟩;obtain⟨n,n1,n2,n3⟩:=h2.num j;obtain⟨m,m1,m2,m3⟩:=h4.num j;have b1:=L6 (a:=n) (b:=e) (M:=2^s) (N:=2^t) (by omega) (by omega) (by omega) (by omega);have b2:=L6 (a:=d) (b:=m) (M:=2^s) (N:=2^t) (by omega) (by omega) (by omega) (by omega)
 refine⟨n*e+d*m,by omega,by omega,?_⟩;rw[Rat.intCast_add,Rat.intCast_mul,Rat.intCast_mul,Rat.intCast_mul,<-n3,<-m3];grind
theorem CF.neg {s:Nat} {f:Nat->Rat} (hf:CF s f):CF s (fun j=>-f j):=by
 obtain⟨d,h1,h2⟩:=hf;refine⟨d,h1,h2.pos,fun j=>?_⟩;obtain⟨n,n1,n2,n3⟩:=h2.num j;refine⟨-n,by omega,by omega,?_⟩;rw[Rat.intCast_neg,<-n3];grind
theorem CF.whole {n:Int} {s:Nat} (h1:-2^s<=n) (h2:n<=2^s):CF s (fun _=>(n:Rat)):=by
 have:=two_pow_pos s;exact⟨1,by omega,by omega,fun j=>⟨n,h1,h2,by show(n:Rat)*1=n;rw[Rat.mul_one]⟩⟩
theorem CF.wt {s t:Nat} {f:Nat->Rat} (hf:CF s f) (c:Nat->Int) (hc:∀j,f j=0∨(-2^t<=c j/\c j<=2^t)):CF (s+t) (fun j=>(c j:Rat)*f j):=by
 obtain⟨d,h1,h2⟩:=hf;have p1:=two_pow_pos s;have p2:=two_pow_pos t;have hd:=h2.pos;have b0:=L6 (a:=d) (b:=1) (M:=2^s) (N:=2^t) (by omega) (by omega) (by omega) (by omega);rw[CF,Int.pow_add];refine⟨d,by omega,hd,fun j=>?_⟩;obtain⟨n,n1,n2,n3⟩:=h2.num j;rcases hc j with h|⟨h3,h4⟩
 ·refine⟨0,by omega,by omega,?_⟩
  show(c j:Rat)*f j*_=_
  rw[h,Rat.mul_zero,Rat.zero_mul];rfl
 ·have b1:=L6 (a:=n) (b:=c j) (M:=2^s) (N:=2^t) (by omega) (by omega) h3 h4
  refine⟨n*c j,b1.1,b1.2,?_⟩;rw[Rat.intCast_mul,<-n3];grind
theorem CF.nd {s:Nat} {f:Nat->Rat} (hf:CF s f) (j:Nat):((f j).num.natAbs:Int)<=2^s/\((f j).den:Int)<=2^s:=by
 obtain⟨d,h1,h2⟩:=hf;obtain⟨n,n1,n2,n3⟩:=h2.num j;obtain⟨q1,q2⟩:=Uc h2.pos n3;exact⟨by omega,by omega⟩
def Lf (s:Nat) (f g:Nat->Rat):Prop:=∃d:Int,d<=2^s/\CD (2^s) d f/\CD (2^s) d g
theorem Lf.mono {s t:Nat} {f g:Nat->Rat} (h:Lf s f g) (dC:s<=t):Lf t f g:=by
 obtain⟨d,h1,h2,h3⟩:=h;have:=rr dC;exact⟨d,by omega,h2.mono this,h3.mono this⟩
theorem Lf.left {s:Nat} {f g:Nat->Rat} (h:Lf s f g):CF s f:=by obtain⟨d,h1,h2,h3⟩:=h;exact⟨d,h1,h2⟩
theorem Lf.right {s:Nat} {f g:Nat->Rat} (h:Lf s f g):CF s g:=by obtain⟨d,h1,h2,h3⟩:=h;exact⟨d,h1,h3⟩
theorem Lf.round {s t:Nat} {f g b:Nat->Rat} {v:Rat} {n:Nat} (h:Lf s f g) (hb:CF t b) (hv:b n*v=1) (top i:Nat) :
  Lf (s+t+1) (fun j=>f j+if i<=j then -(f top*v)*b (j-i) else 0) (fun j=>if j=i then f top*v else g j):=by
 obtain⟨d,h1,h2,h3⟩:=h;obtain⟨e,h4,h5⟩:=hb;obtain⟨m,m1,m2,m3⟩:=h5.num n;have hd:=h2.pos;have he:=h5.pos;have p1:=two_pow_pos s;have p2:=two_pow_pos t;have Ry:(e:Rat)≠0:=fun h=>by rw[Rat.intCast_eq_zero_iff]at h;omega
 have xh:m≠0:=fun h=>by
  rw[h]at m3;rcases Rat.mul_eq_zero.1 (show b n*(e:Rat)=0 from m3) with h'|h'
  ·rw[h',Rat.zero_mul]at hv;exact absurd hv (by decide)
  ·exact Ry h'
 have e1:(2:Int)^(s+t+1)=2*(2^s*2^t):=by rw[Int.pow_succ,Int.pow_add];omega
 have e2:(0:Int)<=2^s*2^t:=Int.mul_nonneg (by omega) (by omega);have hs:∃(w:Int) (y:Nat->Int),0<w/\w<=2^t/\(∀j,-2^t<=y j/\y j<=2^t/\v*b j*(w:Rat)=(y j:Rat))/\∃z:Int,-2^t<=z/\z<=2^t/\v*(w:Rat)=(z:Rat):=by
  have Om:v*(m:Rat)=(e:Rat):=by rw[<-m3];grind
  have hj:∀j,∃x:Int,-2^t<=x/\x<=2^t/\v*b j*(m:Rat)=(x:Rat):=fun j=>by
   obtain⟨x,x1,x2,x3⟩:=h5.num j;refine⟨x,x1,x2,?_⟩;rw[<-x3,<-Om];grind
  rcases Int.lt_or_le m 0 with hm|hm
  ·refine⟨-m,fun j=>-(hj j).choose,by omega,by omega,fun j=>?_,-e,by omega,by omega,?_⟩
   ·obtain⟨x1,x2,x3⟩:=(hj j).choose_spec
    show -2^t <= -(hj j).choose /\ -(hj j).choose<=2^t/\v*b j*((-m:Int):Rat)=((-(hj j).choose:Int):Rat)
    refine⟨by omega,by omega,?_⟩;rw[Rat.intCast_neg,Rat.intCast_neg,<-x3];grind
   ·rw[Rat.intCast_neg,Rat.intCast_neg,<-Om];grind
  ·exact⟨m,fun j=>(hj j).choose,by omega,by omega,fun j=>(hj j).choose_spec,e,by omega,by omega,Om⟩
 obtain⟨w,y,w1,w2,hy,z,z1,z2,z3⟩:=hs;obtain⟨x,x1,x2,x3⟩:=h2.num top;have bp:0<d*w:=Int.mul_pos hd w1;have b0:=L6 (a:=d) (b:=w) (M:=2^s) (N:=2^t) (by omega) (by omega) (by omega) (by omega);rw[Lf,e1];refine⟨d*w,by omega,⟨bp,fun j=>?_⟩,⟨bp,fun j=>?_⟩⟩
 ·obtain⟨a,a1,a2,a3⟩:=h2.num j
  have b1:=L6 (a:=a) (b:=w) a1 a2 (N:=2^t) (by omega) (by omega)
  by_cases CN:i<=j
  ·obtain⟨y1,y2,y3⟩:=hy (j-i)
   have b2:=L6 x1 x2 y1 y2;refine⟨a*w-x*y (j-i),by omega,by omega,?_⟩;rw[if_pos CN,Rat.intCast_sub,Rat.intCast_mul,Rat.intCast_mul,Rat.intCast_mul,<-a3,<-x3,<-y3];grind
  ·refine⟨a*w,by omega,by omega,?_⟩
   rw[if_neg CN,Rat.intCast_mul,Rat.intCast_mul,<-a3];grind
 ·by_cases CN:j=i
  ·have b2:=L6 x1 x2 z1 z2
   refine⟨x*z,by omega,by omega,?_⟩;rw[if_pos CN,Rat.intCast_mul,Rat.intCast_mul,<-x3,<-z3];grind
  ·obtain⟨a,a1,a2,a3⟩:=h3.num j
   have b1:=L6 (a:=a) (b:=w) a1 a2 (N:=2^t) (by omega) (by omega);refine⟨a*w,by omega,by omega,?_⟩;rw[if_neg CN,Rat.intCast_mul,Rat.intCast_mul,<-a3];grind
end Go.Abs
end
section
namespace Go.Proofs.YtekefilngojelaaGreat
open Go Go.Abs Go.Abs.M Go.Proofs
theorem F1 (s:Nat):(2:Int)^s<4294967296^(s/32+1):=by
 obtain⟨t,ht⟩:∃t,t=32*(s/32+1):=⟨_,rfl⟩;have h1:(2:Nat)^s<2^t:=Nat.pow_lt_pow_right (by omega) (by omega);have h2:(2:Int)^s<2^t:=by exact_mod_cast h1
 rw[ht,Int.pow_mul,show((2:Int)^32)=4294967296 from by decide]at h2;exact h2
theorem Ud {s:Nat} {f:Nat->Rat} (h:CF s f) (j:Nat):Qs (f j) (s/32+1):=by
 obtain⟨h1,h2⟩:=h.nd j;have:=F1 s;exact⟨tK (by omega),tK (by omega)⟩
theorem QA {s:Nat} {P:List Rat} (h:CF s (fun j=>P.getD j 0)):∀q∈P,Qs q (s/32+1):=fun q hq=>by
 obtain⟨j,hj⟩:=List.getElem?_of_mem hq;have:=Ud h j;rw[List.getD_eq_getElem?_getD,hj]at this;exact this
structure PB (f:Rat->Rat) (n s:Nat) (P:List Rat):Prop where
 tr:bN P=P
 ev:∀x,Abs.ev P x=f x
 len:P.length<=n
 cf:CF s (fun j=>P.getD j 0)
theorem PB.pl {f:Rat->Rat} {n s:Nat} {P:List Rat} (h:PB f n s P):PL f n (s/32+1) P:=⟨h.tr,h.ev,h.len,QA h.cf⟩
theorem PB.mono {f:Rat->Rat} {n s m t:Nat} {P:List Rat} (h:PB f n s P) (h1:n<=m) (h2:s<=t):PB f m t P:=⟨h.tr,h.ev,Nat.le_trans h.len h1,h.cf.mono h2⟩
theorem PB.congr {f g:Rat->Rat} {n s:Nat} {P:List Rat} (h:PB f n s P) (e:∀x,f x=g x):PB g n s P:=⟨h.tr,fun x=>by rw[h.ev,e],h.len,h.cf⟩
theorem PB.nil (s:Nat):PB (fun _=>0) 0 s []:=⟨rfl,fun _=>rfl,Nat.le_refl _,(CF.zero s).congr fun j=>by simp⟩
theorem PB.inj {f g:Rat->Rat} {n k m l:Nat} {P Q:List Rat} (h1:PB f n k P) (h2:PB g m l Q) (h:∀x,f x=g x):P=Q:=h1.pl.inj h2.pl h
open Go Go.Abs Go.Abs.M Go.Proofs
open Go Go.Abs Go.Abs.M Go.Proofs
theorem Lg:∀P:List Rat,∃k,∀q∈P,Qs q k
 | []=>⟨0,fun q hq=>by cases hq⟩
 | p::P=>by
  obtain⟨k,hk⟩:=Lg P;refine⟨k+nl p.num.natAbs+nl p.den,fun q hq=>?_⟩;rcases List.mem_cons.1 hq with h|h
  ·subst h;exact⟨by omega,by omega⟩
  ·exact(hk q h).mono (by omega)
theorem PL.any {P:List Rat} (h:bN P=P):∃k,PL (Abs.ev P) P.length k P:=by
 obtain⟨k,hk⟩:=Lg P;exact⟨k,h,fun _=>rfl,Nat.le_refl _,hk⟩
theorem F2 {P Q:List Rat} (hP:bN P=P) (hQ:bN Q=Q) (h:∀x,Abs.ev P x=Abs.ev Q x):P=Q:=by
 obtain⟨k,h1⟩:=PL.any hP;obtain⟨l,h2⟩:=PL.any hQ;exact h1.inj h2 h
theorem Lh {P:List Rat} (hP:bN P=P) (h:∀x,Abs.ev P x=0):P=[]:=F2 hP (Q:=[]) rfl h
theorem Li {P B R:List Rat} (hP:bN P=P) (hB:bN B=B) (hR:bN R=R) (he:∀x,Abs.ev R x=Abs.ev P x*Abs.ev B x) (h1:P≠[]) (h2:B≠[]):R.length+1=P.length+B.length:=by
 obtain⟨k,p1⟩:=PL.any hP;obtain⟨l,p2⟩:=PL.any hB;obtain⟨m,p3⟩:=PL.any hR;have:=PL.M5 p1 p2 p3 he h1 h2;have l1:P.length≠0:=fun h=>h1 (List.length_eq_zero_iff.1 h)
 have l2:B.length≠0:=fun h=>h2 (List.length_eq_zero_iff.1 h)
 omega
theorem Lj {B Q R Q' R':List Rat} (hQ:bN Q=Q) (hR:bN R=R) (hQ':bN Q'=Q') (gD:bN R'=R') (hB:bN B=B) (h1:R.length<B.length) (h2:R'.length<B.length)
  (h:∀x,Abs.ev Q x*Abs.ev B x+Abs.ev R x=Abs.ev Q' x*Abs.ev B x+Abs.ev R' x):Q=Q'/\R=R':=by
 have ZG:B≠[]:=fun h0=>by rw[h0]at h1;simp at h1
 have e1:∀x,Abs.ev (bN (wK Q (Np (-1) Q'))) x*Abs.ev B x=Abs.ev (bN (kM R' (-1) R 0)) x:=fun x=>by
  rw[nw,nw,uK,BK,DL];have:=h x;grind
 have hz:bN (wK Q (Np (-1) Q'))=[]:=by
  rcases Classical.em (bN (wK Q (Np (-1) Q'))=[]) with h0|h0
  ·exact h0
  ·have:=Li (kN _) hB (kN _) (fun x=>(e1 x).symm) h0 ZG
   have l1:(bN (wK Q (Np (-1) Q'))).length≠0:=fun h=>h0 (List.length_eq_zero_iff.1 h)
   have l2:=yB (kM R' (-1) R 0);rw[FD]at l2;omega
 have e2:∀x,Abs.ev Q x=Abs.ev Q' x:=fun x=>by
  have:Abs.ev (bN (wK Q (Np (-1) Q'))) x=0:=by rw[hz];rfl
  rw[nw,uK,BK]at this;grind
 refine⟨F2 hQ hQ' e2,F2 hR gD fun x=>?_⟩;have:=h x;rw[e2 x]at this;grind
def Dv (D A:List Rat):Prop:=∃H:List Rat,∀x,Abs.ev A x=Abs.ev H x*Abs.ev D x
theorem Dv.refl (A:List Rat):Dv A A:=⟨[1],fun x=>by simp only[Abs.ev];grind⟩
theorem Dv.trans {A B C:List Rat} (h1:Dv A B) (h2:Dv B C):Dv A C:=by
 obtain⟨H,h1⟩:=h1;obtain⟨K,h2⟩:=h2;exact⟨Ld K H,fun x=>by rw[h2,h1,G0];grind⟩
theorem Dv.zero {D A:List Rat} (h:∀x,Abs.ev A x=0):Dv D A:=⟨[],fun x=>by rw[h];simp only[Abs.ev];grind⟩
theorem Dv.congr {D A D' A':List Rat} (h:Dv D A) (h1:∀x,Abs.ev D x=Abs.ev D' x) (h2:∀x,Abs.ev A x=Abs.ev A' x):Dv D' A':=by
 obtain⟨H,h⟩:=h;exact⟨H,fun x=>by rw[<-h2,h,h1]⟩
theorem Dv.len {D A:List Rat} (hD:bN D=D) (hA:bN A=A) (h:Dv D A) (h0:A≠[]):D≠[]/\D.length<=A.length:=by
 obtain⟨H,h⟩:=h;have hD0:D≠[]:=fun h1=>h0 (Lh hA fun x=>by rw[h,h1];simp only[Abs.ev];grind)
 have hH0:bN H≠[]:=fun h1=>h0 (Lh hA fun x=>by rw[h,<-nw H,h1];simp only[Abs.ev];grind)
 have:=Li (kN H) hD hA (fun x=>by rw[h,nw]) hH0 hD0;have l1:(bN H).length≠0:=fun h=>hH0 (List.length_eq_zero_iff.1 h)
 exact⟨hD0,by omega⟩
theorem Dv.rest {P B Q R:List Rat} (hQ:bN Q=Q) (hR:bN R=R) (hB:bN B=B) (h1:R.length<B.length) (h:∀x,Abs.ev P x=Abs.ev Q x*Abs.ev B x+Abs.ev R x) (hd:Dv B P):R=[]:=by
 obtain⟨H,hH⟩:=hd;exact(Lj hQ hR (kN H) (R':=[]) rfl hB h1 (by simp;omega) (fun x=>by rw[<-h,hH,nw];simp only[Abs.ev];grind)).2
open Go Go.Abs Go.Abs.M Go.Proofs
open Go Go.Abs Go.Abs.M Go.Proofs
open Go Go.Abs Go.Abs.M Go.Proofs
open Go Go.Abs Go.Abs.M Go.Proofs
def Ue (x y:Rat):Rat:=if x<=y then x else y
def Uf (x y:Rat):Rat:=if y<=x then x else y
end Go.Proofs.YtekefilngojelaaGreat
end
section
namespace Go.Abs
open Go.RowKit Go.WideShapes Go.ChangeShapes
theorem eK.below {w w':World} (h:eK (fun _ _=>False) w w'):Below w.heap.size w w':=by
 refine⟨h.os,h.tape,h.output,h.size,fun k hk=>?_⟩;have hg:w.heap[k]?=some w.heap[k]:=Array.getElem?_eq_getElem hk;have:=h.obj k _ hg;rw[hg];cases hx:w.heap[k]with
 | cells c el fr=>
  rw[hx]at this;obtain⟨c1,e1,s1,f1⟩:=this;rw[e1,show c1=c from Array.ext_getElem? fun i=>f1 i (fun h=>h)]
 | map es cl=>
  rw[hx]at this;obtain⟨es1,cl1,e1,f1⟩:=this;obtain⟨rfl,rfl⟩:=f1 fun i h=>h
  exact e1
 | _=>rw[hx]at this;exact this
def fR (w:World):Place:=fun c _=>c<w.heap.size
theorem Iv {P:Program} {f:FuncId} {args:List TV} {outs:List (Option aU)} (hc:aA P f (args.map .val) ⟨[.val (tb true)],outs⟩) (w:World) (bn:List Value) (hlen:bn.length=args.length)
  (iR:∀(i:Nat) (x:TV),args[i]?=some x->∃v,bn[i]?=some v/\aY CK (fR w) w x.av v) :
  Calls P f bn.toArray w fun e w'=>e=.returned (.bool true)/\Below w.heap.size w w':=by
 have iF:∀(i:Nat) (a:Arg),(args.map Arg.val)[i]?=some a->∃x,args[i]?=some x/\a=.val x:=by
  intro i a hi;rw[List.getElem?_map]at hi;obtain⟨x,h1,h2⟩:=Option.map_eq_some_iff.1 hi;exact⟨x,h1,h2.symm⟩
 have QB:∀(i:Nat) (a:Arg) (b:aU),(args.map Arg.val)[i]?=some a->a.aR=some b->False:=by
  intro i a b hi hb;obtain⟨x,_,rfl⟩:=iF i a hi;cases hb
 have Az:ng (args.map .val) (fR w) w bn (fun _=>⟨0,0,0,0⟩):=by
  refine⟨by simpa using hlen,fun i a hi=>?_,fun c o h=>h,fun i a b h1 h2=>(QB i a b h1 h2).elim,fun i j x y b b' _ h1 _ h3 _=>(QB i x b h1 h3).elim,fun i f a8 v hi _=>?_⟩
  ·obtain⟨x,h1,rfl⟩:=iF i a hi
   exact iR i x h1
  ·obtain⟨x,_,h2⟩:=iF i _ hi
   cases h2
 have Rc:(bn.take (jS (args.map Arg.val)))=bn:=by
  rw[Ax (fun x hx ts he=>by
   obtain⟨i,hi⟩:=List.getElem?_of_mem hx;obtain⟨y,_,h2⟩:=iF i x hi;rw[h2]at he;cases he),List.take_of_length_le (by rw[Az.len];exact Nat.le_refl _)]
 have Hu:=hc.2 (fR w) w bn _ Az;rw[Rc]at Hu;refine Hu.mono ?_
 rintro e w' ⟨v,rfl,hq⟩
 obtain⟨S',Rr,vs,q1,q2,q3,q4,q5,q6,_⟩:=hq.p;obtain⟨u,e1,e2⟩:=q6 0 (.val (tb true)) rfl;have hu:u=.bool true:=by
  cases e2 with|c e2=>cases e2 with|t e2=>cases e2 with|v _ _=>rfl
 have IZ:vs=[u]:=by
  match vs,q1,e1 with
  | [x],_,e1=>simp at e1;rw[e1]
 refine⟨?_,eK.below ?_⟩
 ·rw[q2,IZ,hu];rfl
 ·have:mg (args.map Arg.val) (fun _=>⟨0,0,0,0⟩)=fun _ _=>False:=by
   funext c o;refine propext ⟨fun⟨i,a,b,h1,h2,_⟩=>(QB i a b h1 h2).elim,fun h=>h.elim⟩
  rw[this]at q3;exact q3
section
variable {H:Type} {enc:TypeId×Value->H} {P:Program}
theorem xF {f:Func} {s:ChangeSpec} {apart fresh handsOn again:Bool} {W W':World} {args:Array Value} {v:Value} {ds gs:List (DataW H)} {before pa pv:List MemPlace}
  (hW:DataW.Whole enc P f.params.toList s.vars apart W args.toList ds gs before)
  (AJ:∀(b:Nat) (sp:Nat->Bool) (hd:Bool),DataW.TrodAll enc P W' b sp hd f.resultTypes.toList (v.resultList f.resultTypes.size) (s.fn H (ds++gs)).results [])
  (dx:∀sp:Nat->Bool,(∀p∈before,sp p.block=true)->DataW.TrodAll enc P W' 0 sp true f.params.toList args.toList (s.fn H (ds++gs)).args pa)
  (D6:∀sp:Nat->Bool,(∀p∈before,sp p.block=true)->DataW.TrodVars enc P W' sp s.vars (s.fn H (ds++gs)).vars pv)
  (VY:before=pa++pv) (hb:Below W.heap.size W W')
  (im:∀(j:Nat) (t:TypeId) (r:Value),f.resultTypes[j]?=some t->(v.resultList f.resultTypes.size)[j]?=some r->Value.okWide P W' .any 0 t r) :
  s.post enc P f apart fresh handsOn again W args v W':=by
 have bH:∀p∈before,p.block<W.heap.size:=fun p hp=>hW.lt p hp
 have hold:∀p∈before,(fun b=>decide (b<W.heap.size)) p.block=true:=fun p hp=>by simpa using bH p hp
 refine⟨ds,gs,before,[],pa,pv,hW,AJ _ _ _,dx _ hold,D6 _ hold,World.keptBut_mono (fun p hp=>⟨hp,?_⟩) (hb.frame (· ∈ before)),fun _=>?_⟩
 ·rw[VY,List.mem_append]at hp
  exact Or.inr hp
 ·obtain⟨_,_,_,_,_,hz,hn⟩:=hW
  refine⟨im,_,_,([]++pa)++pv,⟨[]++pa,pv,trodAll_append (dx _ (fun _ _=>rfl)) (AJ _ _ _),D6 _ (fun _ _=>rfl),rfl,?_,?_⟩,?_⟩
  ·intro b off hp
   have iv:MemPlace.cell b off∈before:=by rw[VY];simpa using hp
   rw[hb.frozen (bH _ iv)];exact hz b off iv
  ·intro ha
   have:=hn ha;rw[VY]at this;simpa using this
  ·intro p hp _
   rw[VY];simpa using hp
end
theorem Ug {n:Int} (h:(Lit.int .u8 n).wf=true):0<=n/\n<256:=by
 have h1:(decide (IntKind.min .u8<=n)&&decide (n<=IntKind.max .u8))=true:=h;rw[Bool.and_eq_true,decide_eq_true_eq,decide_eq_true_eq,show IntKind.min .u8=0 from by decide,show IntKind.max .u8=255 from by decide]at h1;omega
theorem G1 {n:Int} (h:(Lit.int .i8 n).wf=true):-128<=n/\n<128:=by
 have h1:(decide (IntKind.min .i8<=n)&&decide (n<=IntKind.max .i8))=true:=h;rw[Bool.and_eq_true,decide_eq_true_eq,decide_eq_true_eq,show IntKind.min .i8=-128 from by decide,show IntKind.max .i8=127 from by decide]at h1;omega
open Go.RowKit Go.WideShapes Go.ChangeShapes Go.ChangeAt
inductive Shape where
 | int (k:IntKind)
 | bool
 | slice (s:Shape)
 | struct (l:List Shape)
 | arr (n:Nat) (s:Shape)
mutual
def Shape.size:Shape->Nat
 | .int _=>1
 | .bool=>1
 | .slice _=>1
 | .struct l=>wL l
 | .arr n s=>n*s.size
def wL:List Shape->Nat
 | []=>0
 | s::l=>s.size+wL l
end
mutual
def Shape.fits (P:Program) (t:TypeId):Shape->Bool
 | .int k=>match P.underlying t with
  | some (.int k')=>decide (k'=k)
  | _=>false
 | .bool=>match P.underlying t with
  | some .bool=>true
  | _=>false
 | .slice s=>match P.underlying t with
  | some (.slice e)=>P.cellsOf e==s.size&&decide (0<s.size)&&s.fits P e
  | _=>false
 | .struct l=>match P.underlying t with
  | some (.struct fs)=>P.cellsOf t==wL l&&yW P 0 fs.toList l
  | _=>false
 | .arr n s=>match P.underlying t with
  | some (.array m e)=>m==n&&P.cellsOf t==n*s.size&&P.cellsOf e==s.size&&s.fits P e
  | _=>false
def yW (P:Program) (off:Nat):List Field->List Shape->Bool
 | [],[]=>true
 | f::fs,s::l=>f.offset==off&&P.cellsOf f.type==s.size&&s.fits P f.type&&yW P (off+s.size) fs l
 | _,_=>false
end
def VZ (p:List Tree->Prop):Nat->List Tree->Prop
 | 0,ts=>ts=[]
 | n+1,ts=>∃a b,ts=a++b/\p a/\VZ p n b
mutual
def Shape.ok:Shape->List Tree->Prop
 | .int k,ts=>∃n,ts=[.v (.int k n)]/\(Lit.int k n).wf=true
 | .bool,ts=>∃b,ts=[.v (.bool b)]
 | .slice s,ts=>∃cp rows,ts=[.aa cp rows]/\rows.length<2^63/\∀r∈rows,s.ok r
 | .struct l,ts=>V0 l ts
 | .arr n s,ts=>VZ s.ok n ts
def V0:List Shape->List Tree->Prop
 | [],ts=>ts=[]
 | s::l,ts=>∃a b,ts=a++b/\s.ok a/\V0 l b
end
theorem G2 {p:List Tree->Prop} {m:Nat} (hp:∀ts,p ts->ts.length=m):∀(n:Nat) (ts:List Tree),VZ p n ts->ts.length=n*m
 | 0,ts,h=>by rw[show ts=[] from h];simp
 | n+1,ts,⟨a,b,h1,h2,h3⟩=>by rw[h1,List.length_append,hp a h2,G2 hp n b h3,Nat.succ_mul];omega
mutual
theorem Shape.BM:∀(s:Shape) (ts:List Tree),s.ok ts->ts.length=s.size
 | .int k,ts,h=>by obtain⟨n,rfl,_⟩:=h;rfl
 | .bool,ts,h=>by obtain⟨n,rfl⟩:=h;rfl
 | .slice s,ts,h=>by obtain⟨_,_,rfl,_⟩:=h;rfl
 | .struct l,ts,h=>G3 l ts h
 | .arr n s,ts,h=>G2 (fun ts h=>s.BM ts h) n ts h
theorem G3:∀(l:List Shape) (ts:List Tree),V0 l ts->ts.length=wL l
 | [],ts,h=>by rw[show ts=[] from h];rfl
 | s::l,ts,h=>by
  obtain⟨a,b,h1,h2,h3⟩:=h;rw[h1,List.length_append,s.BM a h2,G3 l b h3];rfl
end
section
variable {H:Type} {enc:TypeId×Value->H} {P:Program} {w:World} {sp:Nat->Bool} {hd:Bool}
def ic (w:World) (ts:List Tree) (cs:List Value):Prop:=ts.length=cs.length/\∀(i:Nat) (t:Tree) (v:Value),ts[i]?=some t->cs[i]?=some v->dF (fR w) w t v
theorem ic.append {a b:List Tree} {c d:List Value} (h1:ic w a c) (h2:ic w b d):ic w (a++b) (c++d):=by
 refine⟨by rw[List.length_append,List.length_append,h1.1,h2.1],fun i t v ht hv=>?_⟩;rcases Nat.lt_or_ge i a.length with h|h
 ·rw[List.getElem?_append_left h]at ht
  rw[List.getElem?_append_left (by rw[<-h1.1];exact h)]at hv;exact h1.2 i t v ht hv
 ·rw[List.getElem?_append_right h]at ht
  rw[List.getElem?_append_right (by rw[<-h1.1];exact h),<-h1.1]at hv;exact h2.2 _ t v ht hv
theorem ic.one {t:Tree} {v:Value} (h:dF (fR w) w t v):ic w [t] [v]:=by
 refine⟨rfl,fun i t' v' ht hv=>?_⟩;cases i with
 | zero=>simp at ht hv;subst ht hv;exact h
 | succ i=>simp at ht
def Read (enc:TypeId×Value->H) (P:Program) (w:World) (sp:Nat->Bool) (hd:Bool) (s:Shape):Prop:=
 ∀(t:TypeId),s.fits P t=true->∀(n:Nat) (cs:List Value) (x:DataW H×List MemPlace),DataW.trod enc P w 0 sp hd n t cs=some x->∃ts,s.ok ts/\ic w ts cs
theorem yX {cs:List Value} (i m:Nat):cs.drop i=(cs.drop i).take m++cs.drop (i+m):=by
 rw[<-List.drop_drop,List.take_append_drop]
theorem On:∀(l:List Shape),(∀s∈l,Read enc P w sp hd s)->∀(fs:List Field) (off:Nat),yW P off fs l=true->∀(n:Nat) (cs:List Value),cs.length=off+wL l ->
  (∀f∈fs,∃x,DataW.trod enc P w 0 sp hd n f.type ((cs.drop f.offset).take (P.cellsOf f.type))=some x)->∃ts,V0 l ts/\ic w ts (cs.drop off)
 | [],hl,[],off,hf,n,cs,hn,hx=>by
  refine⟨[],rfl,?_⟩;rw[List.drop_of_length_le (by rw[hn];simp[wL])];exact⟨rfl,fun i t v h=>by simp at h⟩
 | [],hl,f::fs,off,hf,n,cs,hn,hx=>by simp[yW]at hf
 | s::l,hl,[],off,hf,n,cs,hn,hx=>by simp[yW]at hf
 | s::l,hl,f::fs,off,hf,n,cs,hn,hx=>by
  simp only[yW,Bool.and_eq_true,beq_iff_eq]at hf;obtain⟨⟨⟨h1,h2⟩,h3⟩,h4⟩:=hf;obtain⟨x,EM⟩:=hx f (List.mem_cons_self ..);rw[h1,h2]at EM;obtain⟨a,ha,ZL⟩:=hl s (List.mem_cons_self ..) f.type h3 n _ x EM;obtain⟨b,hb,V1⟩:=On l (fun s' rM=>hl s' (List.mem_cons_of_mem _ rM)) fs (off+s.size) h4 n cs (by rw[hn,wL];omega) (fun f' Md=>hx f' (List.mem_cons_of_mem _ Md));refine⟨a++b,⟨a,b,rfl,ha,hb⟩,?_⟩
  rw[yX off s.size];exact ZL.append V1
theorem Oo {s:Shape} (hs:Read enc P w sp hd s) {e:TypeId} (he:s.fits P e=true):∀(m i:Nat) (n:Nat) (cs:List Value),cs.length=(i+m)*s.size ->
  (∀j,j<m->∃x,DataW.trod enc P w 0 sp hd n e ((cs.drop ((i+j)*s.size)).take s.size)=some x)->∃ts,VZ s.ok m ts/\ic w ts (cs.drop (i*s.size))
 | 0,i,n,cs,hn,hx=>by
  refine⟨[],rfl,?_⟩;rw[List.drop_of_length_le (by rw[hn];simp)];exact⟨rfl,fun i t v h=>by simp at h⟩
 | m+1,i,n,cs,hn,hx=>by
  obtain⟨x,EM⟩:=hx 0 (by omega);rw[Nat.add_zero]at EM;obtain⟨a,ha,ZL⟩:=hs e he n _ x EM;obtain⟨b,hb,V1⟩:=Oo hs he m (i+1) n cs (by rw[hn];congr 1;omega) (fun j hj=>by
   have:=hx (j+1) (by omega);rwa[show i+(j+1)=i+1+j by omega]at this)
  refine⟨a++b,⟨a,b,rfl,ha,hb⟩,?_⟩;rw[yX (i*s.size) s.size];rw[Nat.succ_mul]at V1;exact ZL.append V1
theorem D7 (b o n:Nat):(⟨b,o,none⟩:Addr).add n=⟨b,o+n,none⟩:=by
 unfold Addr.add;split
 ·rename_i h;subst h;rfl
 ·rfl
theorem QD {k:IntKind} {n:Int}:one (.int k n):=by intro l;exact⟨by simp,by simp⟩
theorem Shape.read : ∀ (s : Shape), Read enc P w sp hd s
  | .int k => fun t hf n cs x hx => by
    have hu : P.underlying t = some (.int k) := by
      unfold Shape.fits at hf
      split at hf
      · rename_i k' h; rw [h, of_decide_eq_true hf]
      · cases hf
    obtain ⟨m, rfl, _, hw⟩ := DataW.trod_int hu hx
    exact ⟨_, ⟨m, rfl, hw⟩, .one (.v _ QD)⟩
  | .bool => fun t hf n cs x hx => by
    have hu : P.underlying t = some .bool := by
      unfold Shape.fits at hf
      split at hf
      · rename_i h; exact h
      · cases hf
    obtain ⟨b, rfl, _⟩ := DataW.trod_bool hu hx
    exact ⟨_, ⟨b, rfl⟩, .one (.v _ (by intro l; exact ⟨by simp, by simp⟩))⟩
  | .struct l => fun t hf n cs x hx => by
    unfold Shape.fits at hf
    split at hf
    · rename_i fs hu
      simp only [Bool.and_eq_true, beq_iff_eq] at hf
      obtain ⟨xs, n', rfl, _, hl, TE, Eh⟩ := DataW.trod_struct hu hx
      obtain ⟨ts, h1, h2⟩ := On l (fun s hs => Shape.read s) fs.toList 0 hf.2 n' cs (by rw [hl, hf.1]; omega) (fun f hfm => by
        obtain ⟨i, hi, Ub⟩ := List.mem_iff_getElem.1 hfm
        have oI : i < fs.size := by simpa using hi
        have hg : fs[i]? = some f := by rw [Array.getElem?_eq_getElem oI]; simpa using Ub
        have := Eh i f hg
        have SS : i < xs.length := by rw [TE]; exact oI
        rw [List.getElem?_eq_getElem SS] at this
        exact ⟨_, this⟩)
      exact ⟨ts, h1, by simpa using h2⟩
    · cases hf
  | .arr m s => fun t hf n cs x hx => by
    unfold Shape.fits at hf
    split at hf
    · rename_i m' e hu
      simp only [Bool.and_eq_true, beq_iff_eq] at hf
      obtain ⟨⟨⟨rfl, h1⟩, h2⟩, h3⟩ := hf
      cases n with
      | zero => simp [DataW.trod] at hx
      | succ n =>
        unfold DataW.trod at hx
        rw [hu] at hx
        simp only at hx
        split at hx
        · rename_i hl
          obtain ⟨xs, tn, _⟩ := Option.map_eq_some_iff.1 hx
          obtain ⟨ts, h4, h5⟩ := Oo (Shape.read s) h3 m' 0 n cs (by rw [hl, h1, Nat.zero_add]) (fun j hj => by
            have := mapM_some_get tn j j (by simp [hj])
            have hlen := mapM_some_length tn
            rw [List.length_range] at hlen
            rw [List.getElem?_eq_getElem (by omega)] at this
            rw [h2] at this
            rw [Nat.zero_add]
            exact ⟨_, this⟩)
          exact ⟨ts, h4, by simpa using h5⟩
        · cases hx
    · cases hf
  | .slice s => fun t hf n cs x hx => by
    unfold Shape.fits at hf
    split at hf
    · rename_i e hu
      simp only [Bool.and_eq_true, beq_iff_eq, decide_eq_true_eq] at hf
      obtain ⟨⟨h1, h2⟩, h3⟩ := hf
      rcases DataW.trod_slice hu hx with ⟨rfl, _⟩ | ⟨a, len, cap, elems, rest, n', rfl, rfl, _, _, hlc, EU, Ol, Uh, _, _⟩
      · refine ⟨[.aa false []], ⟨false, [], rfl, by simp, by simp⟩, .one (.aa false [] none 0 0 0 0 (fun _ _ => default) (by simp) (by omega) (by simp) (by simp) (by simp) (by simp) (by simp) (fun i j t ht => by simp [eJ] at ht) (fun i j t ht => by simp [eJ] at ht))⟩
      · have hm : maxLen = 2 ^ 63 - 1 := rfl
        have dv : ∀ i, i < len -> ∃ ts V2, s.ok ts /\ ic w ts V2 /\ w.cells? 0 (a.add (i * s.size)) s.size = some V2 := fun i hi => by
          have hr := Uh i hi
          rw [List.getElem?_eq_getElem (by omega), h1] at hr
          obtain ⟨V2, hc, OQ⟩ := Option.bind_eq_some_iff.1 hr
          obtain ⟨ts, h4, h5⟩ := Shape.read s e h3 _ _ _ OQ
          exact ⟨ts, V2, h4, h5, hc⟩
        let f : Nat -> List Tree := fun i => if h : i < len then (dv i h).choose else []
        let g : Nat -> List Value := fun i => if h : i < len then (dv i h).choose_spec.choose else []
        have V3 : ∀ i, i < len -> s.ok (f i) /\ ic w (f i) (g i) /\ w.cells? 0 (a.add (i * s.size)) s.size = some (g i) := fun i hi => by
          have Ub : f i = (dv i hi).choose := dif_pos hi
          have I1 : g i = (dv i hi).choose_spec.choose := dif_pos hi
          rw [Ub, I1]
          exact (dv i hi).choose_spec.choose_spec
        have Oq : 0 < len -> a = ⟨a.block, a.off, none⟩ /\ a.block < w.heap.size := fun h0 => by
          obtain ⟨im, iR, hc⟩ := V3 0 h0
          obtain ⟨_, hl, ZM⟩ := World.cells?_some hc
          have := ZM 0 h2
          rw [List.getElem?_eq_getElem (by omega)] at this
          have ha : (a.add (0 * s.size)).add 0 = a := by simp [Addr.add]
          rw [ha] at this
          refine ⟨?_, ?_⟩
          · unfold World.cell? at this
            split at this
            · split at this
              · cases this
              · rename_i hs
                obtain ⟨b, o, V4⟩ := a
                cases V4 with
                | none => rfl
                | some _ => simp at hs
            · cases this
          · have := World.cells?_block hc h2
            simpa [Addr.add] using this
        have Ui : ∀ i, (((List.range len).map f)[i]?) = if i < len then some (f i) else none := fun i => by
          rw [List.getElem?_map]
          by_cases h : i < len
          · rw [if_pos h, List.getElem?_range h]; rfl
          · rw [if_neg h, List.getElem?_eq_none (by simpa using h)]; rfl
        have Re : ∀ i j t, eJ ((List.range len).map f) i j = some t -> i < len /\ (f i)[j]? = some t := fun i j t ht => by
          unfold eJ at ht
          rw [Ui] at ht
          by_cases h : i < len
          · rw [if_pos h] at ht; exact ⟨h, ht⟩
          · rw [if_neg h] at ht; cases ht
        have uO : ∀ i j t, eJ ((List.range len).map f) i j = some t -> ∃ v, (g i)[j]? = some v /\ w.cell? ⟨a.block, a.off + i * s.size + j, none⟩ = some v /\ dF (fR w) w t v /\ a.block < w.heap.size := fun i j t ht => by
          obtain ⟨hi, hj⟩ := Re i j t ht
          obtain ⟨im, iR, hc⟩ := V3 i hi
          obtain ⟨_, hl, ZM⟩ := World.cells?_some hc
          have Ma : j < s.size := by
            have := (List.getElem?_eq_some_iff.1 hj).1
            rw [s.BM _ im] at this; exact this
          have hv := ZM j Ma
          obtain ⟨ji, yf⟩ := Oq (by omega)
          refine ⟨(g i)[j]'(by omega), List.getElem?_eq_getElem (by omega), ?_, iR.2 j t _ hj (List.getElem?_eq_getElem (by omega)), yf⟩
          rw [List.getElem?_eq_getElem (by omega)] at hv
          rw [<- hv]
          rw [ji, D7, D7]
        refine ⟨[.aa false ((List.range len).map f)], ⟨false, _, rfl, by rw [List.length_map, List.length_range]; omega, fun r hr => ?_⟩, ?_⟩
        · obtain ⟨i, hi, rfl⟩ := List.mem_map.1 hr
          exact (V3 i (List.mem_range.1 hi)).1
        · refine .one ?_
          have hl : ((List.range len).map f).length = len := by rw [List.length_map, List.length_range]
          have := dF.aa (S := fR w) (w := w) false ((List.range len).map f) (some a) a.block a.off s.size cap (fun i j => ((g i)[j]?).getD default) (by rw [hl]; exact hlc) (by omega) (by rw [hl]; omega) (by simp)
            (fun cY => by rw [(Oq (Nat.pos_of_ne_zero fun h => by subst h; simp at cY)).1]) (by simp)
            (fun r hr => by obtain ⟨i, hi, rfl⟩ := List.mem_map.1 hr; exact s.BM _ (V3 i (List.mem_range.1 hi)).1)
            (fun i j t ht => by obtain ⟨v, h4, h5, h6, h7⟩ := uO i j t ht; exact ⟨h7, by rw [h5, h4]; rfl⟩)
            (fun i j t ht => by obtain ⟨v, h4, h5, h6, h7⟩ := uO i j t ht; rw [h4]; exact h6)
          rw [hl] at this
          exact this
    · cases hf
termination_by s=>SizeOf.sizeOf s
def Shape.tv (s:Shape) (ts:List Tree):TV:=
 match s,ts with
 | .struct _,ts=>.agg ts
 | .arr _ _,ts=>.agg ts
 | _,[t]=>.c t
 | _,ts=>.agg ts
def wM (P:Program) (t:TypeId):Bool:=match P.underlying t with
 | some (.struct _)|some (.array _ _)=>true
 | _=>false
theorem Shape.rep {s:Shape} {t:TypeId} (hf:s.fits P t=true) {v:Value} (im:Value.okWide P w .any 0 t v) {ts:List Tree} (hs:s.ok ts) (h:ic w ts v.cells.toList):aY CK (fR w) w (s.tv ts).av v:=by
 have agg:∀(cs:Array Value),v=.agg cs->aY CK (fR w) w (TV.agg ts).av v:=fun cs hv=>by
  subst hv;have:Array.mk cs.toList=cs:=rfl;rw[show TV.av (.agg ts)=AV.agg (ts.map .t) from rfl,<-this];refine .agg cs.toList (by rw[List.length_map];exact h.1.symm) fun i c hc=>?_
  rw[List.getElem?_map]at hc;obtain⟨t',ht,rfl⟩:=Option.map_eq_some_iff.1 hc;have hi:=(List.getElem?_eq_some_iff.1 ht).1;have OR:i<cs.toList.length:=by have:=h.1;simp only[Value.cells]at this;omega
  exact⟨_,List.getElem?_eq_getElem OR,.t (h.2 i t' _ ht (List.getElem?_eq_getElem OR))⟩
 have QE:wM P t=false->ts.length=1->aY CK (fR w) w (match ts with|[t]=>TV.c t|ts=>.agg ts).av v:=fun LR hl=>by
  match ts,hl,h with
  | [t'],_,h=>
   have hc:v.cells=#[v]:=by
    cases v with
    | agg cs=>
     unfold Value.okWide at im;unfold wM at LR;split at im
     ·rename_i h1;rw[h1]at LR;cases LR
     ·rename_i h1;rw[h1]at LR;cases LR
     ·unfold Cell.okWide at im
      split at im<;>first|(rename_i h1 h2;cases h2;done)|skip
      all_goals first|(unfold Cell.ok at im;split at im<;>first|(rename_i h1 h2;cases h2;done)|exact im.elim)|skip
    | _=>rfl
   have:=h.2 0 t' v rfl (by rw[hc];rfl);exact .c (.t this)
 cases s with
 | int k=>
  have hu:P.underlying t=some (.int k):=by
   unfold Shape.fits at hf;split at hf
   ·rename_i k' h;rw[h,of_decide_eq_true hf]
   ·cases hf
  obtain⟨m,rfl,_⟩:=hs;exact QE (by unfold wM;rw[hu]) rfl
 | bool=>
  have hu:P.underlying t=some .bool:=by
   unfold Shape.fits at hf;split at hf
   ·rename_i h;exact h
   ·cases hf
  obtain⟨m,rfl⟩:=hs;exact QE (by unfold wM;rw[hu]) rfl
 | slice s=>
  unfold Shape.fits at hf;split at hf
  ·rename_i e hu
   obtain⟨_,_,rfl,_⟩:=hs;exact QE (by unfold wM;rw[hu]) rfl
  ·cases hf
 | struct l=>
  unfold Shape.fits at hf;split at hf
  ·rename_i fs hu
   unfold Value.okWide at im;rw[hu]at im;obtain⟨cs,hv,_⟩:=im;exact agg cs hv
  ·cases hf
 | arr n s=>
  unfold Shape.fits at hf;split at hf
  ·rename_i m e hu
   unfold Value.okWide at im;rw[hu]at im;obtain⟨cs,hv,_⟩:=im;exact agg cs hv
  ·cases hf
def G4:List Shape->List (List Tree)->Prop
 | [],l=>l=[]
 | s::ss,l=>∃ts r,l=ts::r/\s.ok ts/\G4 ss r
def Nq:List Shape->List (List Tree)->List TV
 | s::ss,ts::r=>s.tv ts::Nq ss r
 | _,_=>[]
def gU (P:Program):List TypeId->List Shape->Bool
 | [],[]=>true
 | t::ts,s::ss=>s.fits P t&&decide (t<P.types.size)&&P.readableRec t&&gU P ts ss
 | _,_=>false
theorem yY (hl:laidOutB P=true) {W W':World} {V4:Nat->Bool} (hb:Below W.heap.size W W'):∀ {Lk:List TypeId} {Iw:List Shape} {vs:List Value} {ds:List (DataW H)} {ps:List MemPlace},DataW.TrodAll enc P W 0 (fun _=>true) true Lk vs ds ps->gU P Lk Iw=true ->
  (∀p∈ps,p.block<W.heap.size)->(∀p∈ps,V4 p.block=true)->DataW.TrodAll enc P W' 0 V4 true Lk vs ds ps
 | [],[],[],[],ps,h,hf,h1,h2=>h
 | t::ts,s::ss,v::vs,d::ds,ps,h,hf,h1,h2=>by
  obtain⟨p,q,k1,k2,rfl⟩:=h;simp only[gU,Bool.and_eq_true,decide_eq_true_eq]at hf;obtain⟨⟨⟨f1,f2⟩,f3⟩,f4⟩:=hf;exact⟨p,q,Go.WideElems.Trod_stays hl f3 f2 k1 (fun x hx=>hb.same (h1 x (List.mem_append_left _ hx))) (fun x hx=>h2 x (List.mem_append_left _ hx)),
   yY hl hb k2 f4 (fun x hx=>h1 x (List.mem_append_right _ hx)) (fun x hx=>h2 x (List.mem_append_right _ hx)),rfl⟩
 | [],_::_,_,_,_,_,hf,_,_=>by simp[gU]at hf
 | _::_,[],_,_,_,_,hf,_,_=>by simp[gU]at hf
 | [],[],_::_,_,_,h,_,_,_=>by simp[DataW.TrodAll]at h
 | [],[],[],_::_,_,h,_,_,_=>by simp[DataW.TrodAll]at h
 | _::_,_::_,[],_,_,h,_,_,_=>by simp[DataW.TrodAll]at h
 | _::_,_::_,_::_,[],_,h,_,_,_=>by simp[DataW.TrodAll]at h
end
end Go.Abs
end
section
namespace Go.Proofs.YtekefilngojelaaGreat
open Go Go.Abs Go.Abs.M Go.Proofs
open Go Go.Abs Go.Abs.M Go.Proofs
def RE (D:Int):Rat:=((1+D%8:Int):Rat)
def Uj (A B D:Int):Rat:=Ue ((A:Rat)*(RE D)⁻¹) ((B:Rat)*(RE D)⁻¹)
def Uk (A B D:Int):Rat:=Uf ((A:Rat)*(RE D)⁻¹) ((B:Rat)*(RE D)⁻¹)
structure RI where
 a:Int
 b:Int
 d:Int
structure RI.ok (x:RI):Prop where
 a1:-128<=x.a
 a2:x.a<128
 b1:-128<=x.b
 b2:x.b<128
 d1:0<=x.d
 d2:x.d<256
def RI.row (x:RI):List Tree:=[.v (.int .i8 x.a),.v (.int .i8 x.b),.v (.int .u8 x.d)]
def RI.lo (x:RI):Rat:=Uj x.a x.b x.d
def RI.hi (x:RI):Rat:=Uk x.a x.b x.d
theorem RI.le (x:RI):x.lo<=x.hi:=by
 unfold RI.lo RI.hi Uj Uk Ue Uf;generalize (x.a:Rat)*(RE x.d)⁻¹=p;generalize (x.b:Rat)*(RE x.d)⁻¹=q;grind
open Go Go.Abs Go.Abs.M Go.Proofs
theorem D8 (q:Rat):q<0↔q.num<0:=by
 rw[<-Rat.not_le,<-Rat.num_nonneg];omega
theorem Ll (q:Rat):0<q↔0<q.num:=by
 have h:=D8 (-q);rw[show(-q).num=-q.num from rfl]at h;have:-q<0↔0<q:=by grind
 rw[<-this,h];omega
theorem yZ (a:Int):(bO a 0<0↔a<0)/\(0<bO a 0↔0<a):=by
 unfold bO;split
 ·omega
 ·split<;>omega
theorem Ix (q:Rat):∃c:Int,(c<0↔q<0)/\(0<c↔0<q)/\aA Tryz.prog 62 [.val (.agg (qc q).row)] ⟨[.val (ti .i64 c)],[none]⟩:=
 ⟨bO q.num 0,by rw[D8];exact(yZ _).1,by rw[Ll];exact(yZ _).2,mO _ (ff q).n rfl⟩
end Go.Proofs.YtekefilngojelaaGreat
end
