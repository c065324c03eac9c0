/-
  A part of the proof: TuI3t, TuJ3t, TvQ3t, GabsThk2.
-/
import Derived.Test.YtekefilngojelaaGreatM9
import Derived.Test.YtekefilngojelaaGreatM15
import Derived.Test.YtekefilngojelaaGreatM25
import Derived.Test.YtekefilngojelaaGreatM27
set_option maxHeartbeats 0
set_option maxRecDepth 100000
set_option linter.unusedVariables false
set_option linter.unusedSimpArgs false
set_option linter.unusedSectionVars false
section
namespace Go.Proofs.YtekefilngojelaaGreat
open Go Go.Abs Go.Abs.M Go.Proofs
def Nv:List Tree:=[.v (.int .i64 0),.aa true [],.aa true [],.aa true [],.aa true [],.aa true [],.aa true [],.v (.int .i64 0),.v (.int .i64 0),.v (.int .i64 0),.v (.int .i64 0),.v (.int .i64 0),.v (.int .i64 0),.v (.int .i64 0),.v (.int .i64 0),.aa true [],.aa true [],.aa true [],.aa true [],.aa true [],.aa true [],.aa true [],.aa true [],.aa true [],.aa true [],.aa true [],.aa true [],.aa true []]
def Nw (G O C Q Sx:Tree):List Tree:=[.v (.int .i64 0),.aa true [],G,O,C,Q,Sx,.v (.int .i64 0),.v (.int .i64 0),.v (.int .i64 0),.v (.int .i64 0),.v (.int .i64 0),.v (.int .i64 0),.v (.int .i64 0),.v (.int .i64 0),.aa true [],.aa true [],.aa true [],.aa true [],.aa true [],.aa true [],.aa true [],.aa true [],.aa true [],.aa true [],.aa true [],.aa true [],.aa true []]
theorem QN (l:List (List T2)) (hl:∀p∈l,SP p) (hk:l.length<=1000) (g m:Nat) (hg:g<=3) (hm:m<=6) (all:Bool) :
  ∃(G:List (List T2)) (O:List R8) (C Q Sx:List (List (List T2))),G.length=g/\(∀p∈G,SP p)/\BG O/\rO C g m/\rO Q m g/\rO Sx (g*(g-1)/2) g /\
   aA Tryz.prog 72 [.val (.agg Nv),.val (tl (aQ l)),.val (ti .i64 (g:Int)),.val (ti .i64 (m:Int)),.val (tb all)] ⟨[.val (.agg (Nw (.aa false (aQ G)) (.aa false (iq O)) (.aa false (df C)) (if all=true then .aa false (df Q) else .aa true []) (if all=true then .aa false (df Sx) else .aa true [])))],[none,none,none,none,none]⟩:=by
 obtain⟨G,g1,g2,cG⟩:=sW l hl hk 0 (by omega) (by omega) g (by omega);obtain⟨O,hO,cO⟩:=wP (g:Int) (by omega) (by omega);obtain⟨C,hC,cC⟩:=jz l hl hk g m (by omega) (by omega);obtain⟨Q,hQ,cQ⟩:=jz l hl hk m g (by omega) (by omega);obtain⟨Sx,hSx,cS⟩:=jz l hl hk (g*(g-1)/2) g (by
  rcases(show g=0∨g=1∨g=2∨g=3 by omega) with rfl|rfl|rfl|rfl<;>decide) (by omega)
 refine⟨G,O,C,Q,Sx,g1,g2,hO,hC,hQ,hSx,?_⟩;obtain⟨gI,V6⟩:∃i:Int,i=(g:Int):=⟨_,rfl⟩;obtain⟨mI,iD⟩:∃i:Int,i=(m:Int):=⟨_,rfl⟩;obtain⟨sI,UD⟩:∃i:Int,i=((g*(g-1)/2:Nat):Int):=⟨_,rfl⟩;rw[<-V6]at cG cO cC cQ cS ⊢;rw[<-iD]at cC cQ ⊢;rw[<-UD]at cS;generalize aQ l=X at *;generalize aQ G=XG at *;generalize iq O=XO at *;generalize df C=XC at *;generalize df Q=XQ at *;generalize df Sx=XS at *
 unfold Nv Nw;cases all with
 | false=>
  rw[if_neg (by decide),if_neg (by decide)];refine aV aD mixed [.val] Tryz.func72 rfl rfl (by kernel_rfl) fun zD zE zG zH zI zJ zK zL zM zN zO zR zS zT zU zV zX zY zZ zg zh zj zu zy zz aK ah aI aH ak aq ae aE aB aG ao az aJ an aO au aP ai aM aN ay aw aL ar zW bc A L F hS hF=>?_
  have wg:zD .u8 gI=gI:=by rw[hS.wrap,V6];exact wrap_u8 (by omega) (by omega)
  refine bg ?_;cbv;refine⟨_,hS.call (cG),?_⟩;cbv;simp only[wg];refine⟨_,hS.call (cO),?_⟩;cbv;refine⟨_,hS.call (cC),?_⟩;cbv;repeat (first|(refine tT rfl ?_;cbv)|(refine tF rfl ?_;cbv)|(refine nd rfl ?_;cbv))
  exact hF _ (aS.refl _)
 | true=>
  rw[if_pos rfl,if_pos rfl];refine aV aD mixed [.val] Tryz.func72 rfl rfl (by kernel_rfl) fun zD zE zG zH zI zJ zK zL zM zN zO zR zS zT zU zV zX zY zZ zg zh zj zu zy zz aK ah aI aH ak aq ae aE aB aG ao az aJ an aO au aP ai aM aN ay aw aL ar zW bc A L F hS hF=>?_
  have wg:zD .u8 gI=gI:=by rw[hS.wrap,V6];exact wrap_u8 (by omega) (by omega)
  have es:zD .i64 (zI (zD .i64 (zH gI (zD .i64 (zG gI 1)))) 2)=sI:=by
   have w1:zD .i64 (zG gI 1)=gI-1:=by rw[hS.sub,hS.wrap];exact wrap_i64 (by omega) (by omega)
   rw[w1,hS.mul,hS.quo,V6,UD];rcases(show g=0∨g=1∨g=2∨g=3 by omega) with rfl|rfl|rfl|rfl<;>rw[hS.wrap,hS.wrap]<;>decide
  refine bg ?_;cbv;refine⟨_,hS.call (cG),?_⟩;cbv;simp only[wg];refine⟨_,hS.call (cO),?_⟩;cbv;refine⟨_,hS.call (cC),?_⟩;cbv;repeat (first|(refine tT rfl ?_;cbv)|(refine tF rfl ?_;cbv)|(refine nd rfl ?_;cbv))
  refine⟨_,hS.call (cQ),?_⟩;cbv;simp only[es];refine⟨_,hS.call (cS),?_⟩;cbv;repeat (first|(refine tT rfl ?_;cbv)|(refine tF rfl ?_;cbv)|(refine nd rfl ?_;cbv))
  exact hF _ (aS.refl _)
open Go Go.Abs Go.Abs.M Go.Proofs
def Ac (X:Abs.Rows) (d:Int) (len:Nat) (O:Abs.Rows) (I:Int):St:=aC 30 [.c (.t (.aa false X)),vi .i64 d,.aj,.aj,.aj,.c (.sl 2 0 len false),vi .i64 I] [none,none,some (.rows 4 O true false)]
theorem KD (l:List Rat) (x:Rat):ur (l ++ [x])=ur l ++ [(qc x).row]:=by simp[ur,we]
theorem iL (v:List Int) (hv:nS v) (d:Nat) (hd:d<=10) :
  ∃U,OU U/\aA Tryz.prog 73 [.val (tl (W .i8 v)),.val (ti .i64 (d:Int))] ⟨[.val (tl (ur U))],[none,none]⟩:=by
 obtain⟨n,hn⟩:∃n,n=min v.length (d+1):=⟨_,rfl⟩;obtain⟨f,hf⟩:∃f:Nat->Rat,f=fun i=>((v.getD i 0:Int):Rat):=⟨_,rfl⟩
 have GN:∀i,i<v.length->-128<=v.getD i 0/\v.getD i 0<128:=fun i hi=>by
  rw[List.getD_eq_getElem?_getD,List.getElem?_eq_getElem hi];exact hv.1 _ (List.getElem_mem hi)
 obtain⟨L,hL⟩:∃L,L=(List.range n).map f:=⟨_,rfl⟩;have lL:L.length=n:=by rw[hL];simp
 have ct:=Fz L (by omega);refine⟨bN L,⟨fun x hx=>?_,?_,KE L⟩,?_⟩
 ·have hx:=H0 hx
  rw[hL]at hx;obtain⟨i,hi,rfl⟩:=List.mem_map.1 hx;rw[hf];have:=GN i (by have:=List.mem_range.1 hi;omega);exact Qs.whole (by omega) (by omega)
 ·have:=yB L;omega
 obtain⟨X,hX⟩:∃X,X=W .i8 v:=⟨_,rfl⟩;have lX:X.length=v.length:=by rw[hX];unfold W;exact List.length_map ..
 obtain⟨Y,hY⟩:∃Y,Y=ur L:=⟨_,rfl⟩;obtain⟨dI,Z5⟩:∃i:Int,i=(d:Int):=⟨_,rfl⟩;rw[<-hY]at ct;rw[<-hX,<-Z5];generalize ur (bN L)=R at *;refine aV aD mixed [.val] Tryz.func73 rfl rfl (by kernel_rfl) fun zD zE zG zH zI zJ zK zL zM zN zO zR zS zT zU zV zX zY zZ zg zh zj zu zy zz aK ah aI aH ak aq ae aE aB aG ao az aJ an aO au aP ai aM aN ay aw aL ar zW bc A L F hS hF=>?_
 cbv;refine Be aD mixed hS (n:=n) (fun i (O:Abs.Rows)=>Ac X dI i O (Int.ofNat i)) (fun i O=>O=ur ((List.range i).map f)) (a0:=[]) (iY ?_ ?_) rfl (by show 2<=3;omega) (by simp[ur,we]) ?_ ?_
 ·simp[eC,Ac,aC,vi,vb]
 ·simp[eF,Ac,aC]
 ·intro i O hi hO
  have Vi:=hv.2;obtain⟨c1,i1,j1,n0⟩:=hS.xt lX (show i<v.length by omega) (by omega);have c2:zV (Int.ofNat i) dI=true:=by rw[hS.le,Z5];exact decide_eq_true (show(i:Int)<=d by omega)
  obtain⟨x,hx⟩:∃x:Int,x=v.getD i 0:=⟨_,rfl⟩;have SC:=GN i (by omega);rw[<-hx]at SC;have cw:=Oe x (by omega) (by omega);have j2:ao X i=x:=by rw[hS.dL,hX,ph];exact hx.symm
  have j3:aG .i8 X i=true:=by rw[hS.gJ,hX,lS];exact decide_eq_true (by omega)
  have e4:zD .i64 x=x:=by rw[hS.wrap];exact wrap_i64 (by omega) (by omega)
  have lO:i=O.length:=by rw[hO,Fy];simp
  have Q1:f i=(x:Rat):=by rw[hf,hx]
  obtain⟨s,t,r,q,w,_⟩:=bq (x:Rat);have yQ:O ++ [[.v (.bool s),.aa false r,.v (.bool t),.aa false q]]=ur ((List.range (i+1)).map f):=by rw[List.range_succ,List.map_append,List.map_cons,List.map_nil,KD,hO,Q1,w]
  rw[w]at cw;obtain⟨u0,u1,u2,u3,u4,u5,u6,u7⟩:=hS.dD (row:=[.v (.bool s),.aa false r,.v (.bool t),.aa false q]) (w:=4) rfl (r:=O) (len:=i) (b:=64) lO (by unfold aF;omega);clear w;refine⟨?_⟩;refine bg ?_;cbv;refine tT c1 ?_;cbv;refine tT c2 ?_;cbv;simp only[j1,j2,e4];refine nd n0 (nd j3 ?_);refine⟨_,hS.call (cw),?_⟩;cbv;simp only[u0];refine nd u1 (nd u2 (nd u3 (nd u4 (nd u5 ?_))))
  refine bR [(2,6)] (O ++ [[.v (.bool s),.aa false r,.v (.bool t),.aa false q]]) ?_ ?_ ?_ ?_ rfl (by show 2<=3;omega) yQ
  ·simp[bV,Ac,aC,vi,AV.aX,AV.bA,Cell.aX,aT,u6]
   exact i1
  ·simp[bW,Ac,aC,Abs.look,aT,aU.aX,u7,Cell.aX]
  ·simp[bf,Ac,aC,aT]
  ·simp
 ·intro O hO
  rw[<-hL,<-hY]at hO;obtain⟨v1,v2⟩:=hS.whole (r:=O) (len:=n) (by rw[hO,hY,Fy,lL]);rw[hO]at v1 v2;subst hO
  by_cases h6:v.length<=d+1
  ·have lE:zU (Int.ofNat n) (zy (ae X))=false:=hS.qQ (by omega)
   refine⟨?_⟩;refine bg ?_;cbv;refine tF lE ?_;cbv;simp only[v2];refine nd v1 ?_;refine⟨_,hS.call (ct),?_⟩;cbv;exact hF _ (aS.refl _)
  ·have c1:zU (Int.ofNat n) (zy (ae X))=true:=by rw[hS.lt,hS.aW,hS.len,lX];exact decide_eq_true (show((n:Nat):Int)<(v.length:Int) by omega)
   have c2:zV (Int.ofNat n) dI=false:=by rw[hS.le,Z5];exact decide_eq_false (show ¬((n:Int)<=d) by omega)
   refine⟨?_⟩;refine bg ?_;cbv;refine tT c1 ?_;cbv;refine tF c2 ?_;cbv;simp only[v2];refine nd v1 ?_;refine⟨_,hS.call (ct),?_⟩;cbv;exact hF _ (aS.refl _)
open Go Go.Abs Go.Abs.M Go.Proofs
structure Q8.fit (x:Q8):Prop where
 a0:Qs x.a0 100
 a1:x.a1=0
 a2:x.a2=0
 a3:x.a3=0
 a4:x.a4=0
 a5:x.a5=0
 a6:x.a6=0
 a7:x.a7=0
end Go.Proofs.YtekefilngojelaaGreat
end
section
namespace Go.Abs
section
def rG (Z:ZI) (C:dP) (A:FuncId->Ask->pc->Prop) (L:Code->St->(bC->ST->Prop)->Prop) (c:Code) (Q:bC->ST->Prop):Nat->ST->Prop
 | 0,_=>False
 | n+1,st=>fA Z C A L c st fun e s=>match e with
  | .normal=>rG Z C A L c Q n (ST.kv s.fe)
  | .exit id=>Q (.exit id) s
  | .ret=>Q .ret s
theorem wZ (Z:ZI) (C:dP) (A:FuncId->Ask->pc->Prop) (L:Code->St->(bC->ST->Prop)->Prop) (c:Code) (Q:bC->ST->Prop):∀(n:Nat) (st:ST),rG Z C A L c Q n st=nr Z C A L c Q n st
 | 0,_=>rfl
 | n+1,st=>by
  unfold rG nr;rw[yS];congr 1;funext e s;cases e with
  | normal=>exact wZ Z C A L c Q n _
  | exit id=>rfl
  | ret=>rfl
theorem UE {Z:ZI} {C:dP} {A:FuncId->Ask->pc->Prop} {L:Code->St->(bC->ST->Prop)->Prop} {c:Code} {Q:bC->ST->Prop} {n:Nat} {st:ST} (h:rG Z C A L c Q n st):nr Z C A L c Q n st:=by
 rw[<-wZ];exact h
end
section
variable {P:Program} {C:dP} {n0:Nat} {zD:IntKind->Int->Int} {zE:Int->Int->Int} {zG:Int->Int->Int} {zH:Int->Int->Int} {zI:Int->Int->Int} {zJ:Int->Int->Int} {zK:IntKind->Int->Int->Int} {zL:IntKind->Int->Int->Int} {zM:IntKind->Int->Int->Int} {zN:IntKind->Int->Int->Int} {zO:IntKind->Int->Int->Int} {zR:IntKind->Int->Int->Int} {zS:Int->Int->Bool} {zT:Int->Int->Bool} {zU:Int->Int->Bool} {zV:Int->Int->Bool} {zX:Bool->Bool} {zY:Bool->Bool->Bool} {zZ:Bool->Bool->Bool} {zg:Int->Int->Int} {zh:Int->Int->Int} {zj:Int->Nat} {zu:Int->Nat->Bool} {zy:Nat->Int} {zz:Nat->Int->Nat} {aK:Nat->Nat->Bool} {ah:Nat->Nat->Nat} {aI:Int->Int->Nat} {aH:Int->Int->Nat->Bool} {ak:Nat->Nat->Nat->Bool} {aq:Int->Int->Nat->Bool} {ae:Rows->Nat} {aE:Rows->Nat->Option (List Tree)} {aB:Rows->Nat->List Tree->Rows} {aG:IntKind->Rows->Nat->Bool} {ao:Rows->Nat->Int} {az:IntKind->Rows->Nat->Int->Rows} {aJ:Nat->Nat->Rows->Bool} {an:Rows->Nat->Nat->Rows} {aO:Rows->Nat->Rows->Rows} {au:Rows->Nat->Rows->Rows} {aP:Nat->List Tree->Rows} {ai:Nat->Rows->Bool} {aM:List Bool->Bool} {aN:List (Value×Tree)->Value->Bool} {ay:List (Value×Tree)->Value->Bool} {aw:List (Value×Tree)->Value->Tree->List (Value×Tree)} {aL:Rows->Option ByteArray} {ar:List (Value×Tree)->Value->Option (Option Tree)} {zW:IntKind->List Int->Rows} {bc:(α:Type)->(Unit->α)->α} {A:FuncId->Ask->pc->Prop} {L:Code->St->(bC->ST->Prop)->Prop}
theorem cX (hC:bt P C) (ek:P.follows .mixedOrders=true) (hS:Std P n0 zD zE zG zH zI zJ zK zL zM zN zO zR zS zT zU zV zX zY zZ zg zh zj zu zy zz aK ah aI aH ak aq ae aE aB aG ao az aJ an aO au aP ai aM aN ay aw aL ar zW bc A L) {c:Code} {st:St} {Q:bC->ST->Prop} (n:Nat)
  (h:rG (ZI.mk zD zE zG zH zI zJ zK zL zM zN zO zR zS zT zU zV zX zY zZ zg zh zj zu zy zz aK ah aI aH ak aq ae aE aB aG ao az aJ an aO au aP ai aM aN ay aw aL ar) C A L c Q n (ST.kv st)):L c st Q:=ba hC ek hS n (UE h)
end
end Go.Abs
end
