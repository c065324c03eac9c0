/- A part of the proof. -/
import Derived.Test.YtekefilngojelaaGreatM19
import Derived.Test.YtekefilngojelaaGreatM26
set_option maxHeartbeats 0
set_option maxRecDepth 100000
set_option linter.unusedVariables false
set_option linter.unusedSimpArgs false
section
namespace Go.Proofs.YtekefilngojelaaGreat
open Go Go.Abs Go.Abs.M Go.Proofs
def Yi:List Tree:=[.v (.int .i64 0),.aa true [],.aa true [],.aa true [],.aa true [],.aa true [],.aa true [],.v (.int .i64 0),.v (.int .i64 0),.v (.int .i64 0),.v (.int .i64 0),.v (.int .i64 0),.v (.int .i64 0),.v (.int .i64 0),.v (.int .i64 0),.aa true [],.aa true [],.aa true [],.aa true [],.aa true [],.aa true [],.aa true [],.aa true [],.aa true [],.aa true [],.aa true [],.aa true [],.aa true []]
def Yj (G O C Q Sx:Tree):List Tree:=[.v (.int .i64 0),.aa true [],G,O,C,Q,Sx,.v (.int .i64 0),.v (.int .i64 0),.v (.int .i64 0),.v (.int .i64 0),.v (.int .i64 0),.v (.int .i64 0),.v (.int .i64 0),.v (.int .i64 0),.aa true [],.aa true [],.aa true [],.aa true [],.aa true [],.aa true [],.aa true [],.aa true [],.aa true [],.aa true [],.aa true [],.aa true [],.aa true []]
theorem mr (l:List (List T2)) (hl:∀p∈l,SP p) (hk:l.length<=1000) (g m:Nat) (hg:g<=3) (hm:m<=6) (all:Bool) :
  ∃(G:List (List T2)) (O:List R8) (C Q Sx:List (List (List T2))),G.length=g/\(∀p∈G,SP p)/\JL O/\Lv C g m/\Lv Q m g/\Lv Sx (g*(g-1)/2) g /\
   ah Tryz.prog 72 [.val (.agg Yi),.val (tl (an l)),.val (ti .i64 (g:Int)),.val (ti .i64 (m:Int)),.val (tb all)] ⟨[.val (.agg (Yj (.aa false (an G)) (.aa false (gD O)) (.aa false (di C)) (if all=true then .aa false (di Q) else .aa true []) (if all=true then .aa false (di Sx) else .aa true [])))],[none,none,none,none,none]⟩:=by
 obtain⟨G,g1,g2,cG⟩:=RU l hl hk 0 (by omega) (by omega) g (by omega);obtain⟨O,hO,cO⟩:=yd (g:Int) (by omega) (by omega);obtain⟨C,hC,cC⟩:=j5 l hl hk g m (by omega) (by omega);obtain⟨Q,hQ,cQ⟩:=j5 l hl hk m g (by omega) (by omega);obtain⟨Sx,Vb,cS⟩:=j5 l hl hk (g*(g-1)/2) g (by
  rcases(show g=0∨g=1∨g=2∨g=3 by omega) with rfl|rfl|rfl|rfl<;>decide) (by omega)
 refine⟨G,O,C,Q,Sx,g1,g2,hO,hC,hQ,Vb,?_⟩;obtain⟨gI,Qx⟩:∃i:Int,i=(g:Int):=⟨_,rfl⟩;obtain⟨mI,Ab⟩:∃i:Int,i=(m:Int):=⟨_,rfl⟩;obtain⟨sI,L4⟩:∃i:Int,i=((g*(g-1)/2:Nat):Int):=⟨_,rfl⟩;rw[<-Qx]at cG cO cC cQ cS ⊢;rw[<-Ab]at cC cQ ⊢;rw[<-L4]at cS;generalize an l=X,an G=XG,gD O=XO,di C=XC,di Q=XQ,di Sx=XS at *;unfold Yi Yj;cases all with
 | false=>
  rw[if_neg (by decide),if_neg (by decide)];refine ar aj mixed [.val] Tryz.func72 rfl rfl (by kernel_rfl) fun zD _ zG zH zI _ _ _ _ _ _ _ _ _ _ _ _ _ _ _ _ _ _ _ _ _ _ _ _ _ _ _ _ _ _ _ _ _ _ _ _ _ _ _ _ _ _ _ _ _ _ A L F hS hF=>?_
  have wg:zD .u8 gI=gI:=by rw[hS.wrap,Qx];exact wrap_u8 (by omega) (by omega)
  refine dL ?_;cbv;refine⟨_,hS.call cG,?_⟩;cbv;simp only[wg];refine⟨_,hS.call cO,?_⟩;cbv;refine⟨_,hS.call cC,?_⟩;cbv;repeat (first|(refine tT rfl ?_;cbv)|(refine tF rfl ?_;cbv)|(refine nd rfl ?_;cbv))
  exact hF _ (ak.refl _)
 | true=>
  rw[if_pos rfl,if_pos rfl];refine ar aj mixed [.val] Tryz.func72 rfl rfl (by kernel_rfl) fun zD _ zG zH zI _ _ _ _ _ _ _ _ _ _ _ _ _ _ _ _ _ _ _ _ _ _ _ _ _ _ _ _ _ _ _ _ _ _ _ _ _ _ _ _ _ _ _ _ _ _ A L F hS hF=>?_
  have wg:zD .u8 gI=gI:=by rw[hS.wrap,Qx];exact wrap_u8 (by omega) (by omega)
  have es:zD .i64 (zI (zD .i64 (zH gI (zD .i64 (zG gI 1)))) 2)=sI:=by
   have w1:zD .i64 (zG gI 1)=gI-1:=by rw[hS.sub,hS.wrap];exact wrap_i64 (by omega) (by omega)
   rw[w1,hS.mul,hS.quo,Qx,L4];rcases(show g=0∨g=1∨g=2∨g=3 by omega) with rfl|rfl|rfl|rfl<;>rw[hS.wrap,hS.wrap]<;>decide
  refine dL ?_;cbv;refine⟨_,hS.call cG,?_⟩;cbv;simp only[wg];refine⟨_,hS.call cO,?_⟩;cbv;refine⟨_,hS.call cC,?_⟩;cbv;repeat (first|(refine tT rfl ?_;cbv)|(refine tF rfl ?_;cbv)|(refine nd rfl ?_;cbv))
  refine⟨_,hS.call cQ,?_⟩;cbv;simp only[es];refine⟨_,hS.call cS,?_⟩;cbv;repeat (first|(refine tT rfl ?_;cbv)|(refine tF rfl ?_;cbv)|(refine nd rfl ?_;cbv))
  exact hF _ (ak.refl _)
open Go Go.Abs Go.Abs.M Go.Proofs
def Cj (X:Abs.Rows) (d:Int) (len:Nat) (O:Abs.Rows) (I:Int):St:=ae 30 [.c (.t (.aa false X)),vi .i64 d,.af,.af,.af,.c (.sl 2 0 len false),vi .i64 I] [none,none,some (.rows 4 O true false)]
theorem Nk (l:List Rat) (x:Rat):ur (l ++ [x])=ur l ++ [(qc x).row]:=by simp[ur,jV]
theorem sG (v:List Int) (hv:JN v) (d:Nat) (hd:d<=10) :
  ∃U,OU U/\ah Tryz.prog 73 [.val (tl (W .i8 v)),.val (ti .i64 (d:Int))] ⟨[.val (tl (ur U))],[none,none]⟩:=by
 obtain⟨n,hn⟩:∃n,n=min v.length (d+1):=⟨_,rfl⟩;obtain⟨f,hf⟩:∃f:Nat->Rat,f=fun i=>((v.getD i 0:Int):Rat):=⟨_,rfl⟩
 have Jp:∀i,i<v.length->-128<=v.getD i 0/\v.getD i 0<128:=fun i hi=>by
  rw[List.getD_eq_getElem?_getD,List.getElem?_eq_getElem hi];exact hv.1 _ (List.getElem_mem hi)
 obtain⟨L,hL⟩:∃L,L=(List.range n).map f:=⟨_,rfl⟩;have lL:L.length=n:=by rw[hL];simp
 have ct:=HU L (by omega);refine⟨bP L,⟨fun x hx=>?_,?_,Nl L⟩,?_⟩
 ·have hx:=KW hx
  rw[hL]at hx;obtain⟨i,hi,rfl⟩:=List.mem_map.1 hx;rw[hf];have:=Jp i (by have:=List.mem_range.1 hi;omega);exact Qs.whole (by omega) (by omega)
 ·have:=Bg L;omega
 obtain⟨X,hX⟩:∃X,X=W .i8 v:=⟨_,rfl⟩;have lX:X.length=v.length:=by rw[hX];unfold W;exact List.length_map ..
 obtain⟨Y,hY⟩:∃Y,Y=ur L:=⟨_,rfl⟩;obtain⟨dI,hdI⟩:∃i:Int,i=(d:Int):=⟨_,rfl⟩;rw[<-hY]at ct;rw[<-hX,<-hdI];generalize ur (bP L)=R at *;refine ar aj mixed [.val] Tryz.func73 rfl rfl (by kernel_rfl) fun zD _ _ _ _ _ _ _ _ _ _ _ _ _ zV zX _ _ _ _ _ _ _ zz _ _ _ _ _ _ _ ab _ _ aL aw _ _ _ _ _ _ _ _ _ _ _ _ _ _ _ A L F hS hF=>?_
 cbv;refine fA aj mixed hS (n:=n) (fun i (O:Abs.Rows)=>Cj X dI i O (Int.ofNat i)) (fun i O=>O=ur ((List.range i).map f)) (a0:=[]) (fi ?_ ?_) rfl (by show 2<=3;omega) (by simp[ur,jV]) ?_ ?_
 ·simp[dO,Cj,ae,vi,vb]
 ·simp[dP,Cj,ae]
 ·intro i O hi hO
  have YH:=hv.2;obtain⟨c1,i1,j1,n0⟩:=hS.gC lX (show i<v.length by omega) (by omega);have c2:zX (Int.ofNat i) dI=true:=by rw[hS.le,hdI];exact decide_eq_true (show(i:Int)<=d by omega)
  obtain⟨x,hx⟩:∃x:Int,x=v.getD i 0:=⟨_,rfl⟩;have VH:=Jp i (by omega);rw[<-hx]at VH;have cw:=P3 x (by omega) (by omega);have j2:aw X i=x:=by rw[hS.dF,hX,mP];exact hx.symm
  have j3:aL .i8 X i=true:=by rw[hS.gE,hX,kM];exact decide_eq_true (by omega)
  have e4:zD .i64 x=x:=by rw[hS.wrap];exact wrap_i64 (by omega) (by omega)
  have lO:i=O.length:=by rw[hO,tR];simp
  have UD:f i=(x:Rat):=by rw[hf,hx]
  obtain⟨s,t,r,q,w,_⟩:=bD (x:Rat);have BD:O ++ [[.v (.bool s),.aa false r,.v (.bool t),.aa false q]]=ur ((List.range (i+1)).map f):=by rw[List.range_succ,List.map_append,List.map_cons,List.map_nil,Nk,hO,UD,w]
  rw[w]at cw;obtain⟨u0,u1,u2,u3,u4,u5,u6,u7⟩:=hS.ve (row:=[.v (.bool s),.aa false r,.v (.bool t),.aa false q]) (w:=4) rfl (r:=O) (len:=i) (b:=64) lO (by unfold az;omega);clear w;refine⟨?_⟩;refine dL ?_;cbv;refine tT c1 ?_;cbv;refine tT c2 ?_;cbv;simp only[j1,j2,e4];refine nd n0 (nd j3 ?_);refine⟨_,hS.call cw,?_⟩;cbv;simp only[u0];refine nd u1 (nd u2 (nd u3 (nd u4 (nd u5 ?_))))
  refine aQ [(2,6)] (O ++ [[.v (.bool s),.aa false r,.v (.bool t),.aa false q]]) ?_ ?_ ?_ ?_ rfl (by show 2<=3;omega) BD
  ·simp[aZ,Cj,ae,vi,AV.ay,AV.aI,Cell.ay,aq,u6]
   exact i1
  ·simp[a8,Cj,ae,Abs.look,aq,aC.ay,u7,Cell.ay]
  ·simp[aF,Cj,ae,aq]
  ·simp
 ·intro O hO
  rw[<-hL,<-hY]at hO;obtain⟨v1,v2⟩:=hS.whole (r:=O) (len:=n) (by rw[hO,hY,tR,lL]);rw[hO]at v1 v2;subst hO
  by_cases h6:v.length<=d+1
  ·have lE:zV (Int.ofNat n) (zz (ab X))=false:=hS.eU (by omega)
   refine⟨?_⟩;refine dL ?_;cbv;refine tF lE ?_;cbv;simp only[v2];refine nd v1 ?_;refine⟨_,hS.call ct,?_⟩;cbv;exact hF _ (ak.refl _)
  ·have c1:zV (Int.ofNat n) (zz (ab X))=true:=by rw[hS.lt,hS.aB,hS.len,lX];exact decide_eq_true (show((n:Nat):Int)<(v.length:Int) by omega)
   have c2:zX (Int.ofNat n) dI=false:=by rw[hS.le,hdI];exact decide_eq_false (show ¬((n:Int)<=d) by omega)
   refine⟨?_⟩;refine dL ?_;cbv;refine tT c1 ?_;cbv;refine tF c2 ?_;cbv;simp only[v2];refine nd v1 ?_;refine⟨_,hS.call ct,?_⟩;cbv;exact hF _ (ak.refl _)
end Go.Proofs.YtekefilngojelaaGreat
end
