/- A part. -/
import Derived.Test.YtekefilngojelaaGreatM16
import Derived.Test.YtekefilngojelaaGreatM23
set_option maxHeartbeats 0
set_option maxRecDepth 100000
set_option linter.unusedVariables false
set_option linter.unusedSimpArgs false
section
namespace Go.Proofs.YtekefilngojelaaGreat
open Go Go.Abs Go.Abs.M Go.Proofs
def Xn:List Tree:=[.v (.int .i64 0),.aa true [],.aa true [],.aa true [],.aa true [],.aa true [],.aa true [],.v (.int .i64 0),.v (.int .i64 0),.v (.int .i64 0),.v (.int .i64 0),.v (.int .i64 0),.v (.int .i64 0),.v (.int .i64 0),.v (.int .i64 0),.aa true [],.aa true [],.aa true [],.aa true [],.aa true [],.aa true [],.aa true [],.aa true [],.aa true [],.aa true [],.aa true [],.aa true [],.aa true []]
def Xo (G O C Q Sx:Tree):List Tree:=[.v (.int .i64 0),.aa true [],G,O,C,Q,Sx,.v (.int .i64 0),.v (.int .i64 0),.v (.int .i64 0),.v (.int .i64 0),.v (.int .i64 0),.v (.int .i64 0),.v (.int .i64 0),.v (.int .i64 0),.aa true [],.aa true [],.aa true [],.aa true [],.aa true [],.aa true [],.aa true [],.aa true [],.aa true [],.aa true [],.aa true [],.aa true [],.aa true []]
theorem mJ (l:aS) (hl:∀p∈l,SP p) (hk:l.length<=1000) (g m:Nat) (hg:g<=3) (hm:m<=6) (all:Bool) :
  ∃(G:aS) (O:List R8) (C Q Sx:fi),G.length=g/\(∀p∈G,SP p)/\Jl O/\K8 C g m/\K8 Q m g/\K8 Sx (g*(g-1)/2) g /\
   aH 72 [.val (.agg Xn),.val (tl (aj l)),.val (ti .i64 (g:Int)),.val (ti .i64 (m:Int)),.val (tb all)] ⟨[.val (.agg (Xo (.aa false (aj G)) (.aa false (iE O)) (.aa false (dL C)) (if all=true then .aa false (dL Q) else .aa true []) (if all=true then .aa false (dL Sx) else .aa true [])))],[none,none,none,none,none]⟩:=by
 obtain⟨G,g1,g2,cG⟩:=Rt l hl hk 0 (by omega) (by omega) g (by omega);obtain⟨O,hO,cO⟩:=x8 (g:Int) (by omega) (by omega);obtain⟨C,hC,cC⟩:=ke l hl hk g m (by omega) (by omega);obtain⟨Q,hQ,cQ⟩:=ke l hl hk m g (by omega) (by omega);obtain⟨Sx,hSx,cS⟩:=ke l hl hk (g*(g-1)/2) g (by
  rcases(show g=0∨g=1∨g=2∨g=3 by omega) with rfl|rfl|rfl|rfl<;>decide) (by omega)
 refine⟨G,O,C,Q,Sx,g1,g2,hO,hC,hQ,hSx,?_⟩;obtain⟨gI,Qe⟩:=aq (g:Int);obtain⟨mI,yY⟩:=aq (m:Int);obtain⟨sI,LH⟩:=aq (((g*(g-1)/2:Nat):Int):Int);rw[<-Qe]at cG cO cC cQ cS ⊢;rw[<-yY]at cC cQ ⊢;rw[<-LH]at cS;generalize aj l=X,aj G=XG,iE O=XO,dL C=XC,dL Q=XQ,dL Sx=XS at *;unfold Xn Xo;cases all with
 | false=>
  rw[if_neg (by decide),if_neg (by decide)];refine an ai mixed [.val] Tryz.func72 rfl rfl (by kernel_rfl) fun zD _ zG zH zI _ _ _ _ _ _ _ _ _ _ _ _ _ _ _ _ _ _ _ _ _ _ _ _ _ _ _ _ _ _ _ _ _ _ _ _ _ _ _ _ _ _ _ _ _ _ A L F hS hF=>?_
  have wg:zD .u8 gI=gI:=by rw[hS.wrap,Qe];exact wrap_u8 (by omega) (by omega)
  refine dJ ?_;cbv;refine hS.cl cG ?_;cbv;simp only[wg];refine hS.cl cO ?_;cbv;refine hS.cl cC ?_;cbv;repeat (first|(apply tT rfl;cbv)|(apply tF rfl;cbv)|(apply nd rfl;cbv))
  exact aC hF
 | true=>
  rw[if_pos rfl,if_pos rfl];refine an ai mixed [.val] Tryz.func72 rfl rfl (by kernel_rfl) fun zD _ zG zH zI _ _ _ _ _ _ _ _ _ _ _ _ _ _ _ _ _ _ _ _ _ _ _ _ _ _ _ _ _ _ _ _ _ _ _ _ _ _ _ _ _ _ _ _ _ _ A L F hS hF=>?_
  have wg:zD .u8 gI=gI:=by rw[hS.wrap,Qe];exact wrap_u8 (by omega) (by omega)
  have es:zD .i64 (zI (zD .i64 (zH gI (zD .i64 (zG gI 1)))) 2)=sI:=by
   have w1:zD .i64 (zG gI 1)=gI-1:=by rw[hS.sub,hS.wrap];exact wrap_i64 (by omega) (by omega)
   rw[w1,hS.mul,hS.quo,Qe,LH];rcases(show g=0∨g=1∨g=2∨g=3 by omega) with rfl|rfl|rfl|rfl<;>rw[hS.wrap,hS.wrap]<;>decide
  refine dJ ?_;cbv;refine hS.cl cG ?_;cbv;simp only[wg];refine hS.cl cO ?_;cbv;refine hS.cl cC ?_;cbv;repeat (first|(apply tT rfl;cbv)|(apply tF rfl;cbv)|(apply nd rfl;cbv))
  refine hS.cl cQ ?_;cbv;simp only[es];refine hS.cl cS ?_;cbv;repeat (first|(apply tT rfl;cbv)|(apply tF rfl;cbv)|(apply nd rfl;cbv))
  exact aC hF
def Cd (X:Abs.Rows) (d:Int) (len:Nat) (O:Abs.Rows) (I:Int):St:=ae 30 [.c (.t (.aa false X)),vi .i64 d,.af,.af,.af,.c (.sl 2 0 len false),vi .i64 I] [none,none,some (.rows 4 O true false)]
theorem MZ (l:List Rat) (x:Rat):ur (l ++ [x])=ur l ++ [(qc x).row]:=by simp[ur,j6]
theorem sR (v:List Int) (hv:Jn v) (d:Nat) (hd:d<=10) :
  ∃U,OU U/\aH 73 [.val (tl (W .i8 v)),.val (ti .i64 (d:Int))] ⟨[.val (tl (ur U))],[none,none]⟩:=by
 obtain⟨n,hn⟩:=aq (min v.length (d+1));obtain⟨f,hf⟩:=aq (fun i=>((v.getD i 0:Int):Rat):Nat->Rat);have I3:∀i,i<v.length->-128<=v.getD i 0/\v.getD i 0<128:=fun i hi=>by
  rw[List.getD_eq_getElem?_getD,List.getElem?_eq_getElem hi];exact hv.1 _ (List.getElem_mem hi)
 obtain⟨L,hL⟩:=aq ((List.range n).map f);have lL:L.length=n:=by rw[hL];simp
 have ct:=HK L (by omega);refine⟨bW L,⟨fun x hx=>?_,?_,M0 L⟩,?_⟩
 ·have hx:=Kv hx
  rw[hL]at hx;obtain⟨i,hi,rfl⟩:=List.mem_map.1 hx;rw[hf];have:=I3 i (by have:=List.mem_range.1 hi;omega);exact Qs.whole (by omega) (by omega)
 ·have:=Be L;omega
 obtain⟨X,hX⟩:=aq (W .i8 v);have lX:X.length=v.length:=by rw[hX];unfold W;exact List.length_map ..
 obtain⟨Y,hY⟩:=aq (ur L);obtain⟨dI,hdI⟩:=aq (d:Int);rw[<-hY]at ct;rw[<-hX,<-hdI];generalize ur (bW L)=R at *;refine an ai mixed [.val] Tryz.func73 rfl rfl (by kernel_rfl) fun zD _ _ _ _ _ _ _ _ _ _ _ _ _ zV zX _ _ _ _ _ _ _ zz _ _ _ _ _ _ _ ab _ _ aL ar _ _ _ _ _ _ _ _ _ _ _ _ _ _ _ A L F hS hF=>?_
 cbv;refine fX ai mixed hS (n:=n) (fun i (O:Abs.Rows)=>Cd X dI i O (Int.ofNat i)) (fun i O=>O=ur ((List.range i).map f)) (a0:=[]) (fy ?_ ?_) rfl (by show 2<=3;omega) (by simp[ur,j6]) ?_ ?_
 ·simp[dS,Cd,ae,vi,vb]
 ·simp[dU,Cd,ae]
 ·intro i O hi hO
  have X7:=hv.2;obtain⟨c1,i1,j1,n0⟩:=hS.ic lX (show i<v.length by omega) (by omega);have c2:zX (Int.ofNat i) dI=true:=by rw[hS.le,hdI];exact decide_eq_true (show(i:Int)<=d by omega)
  obtain⟨x,hx⟩:=aq (v.getD i 0:Int);have Vn:=I3 i (by omega);rw[<-hx]at Vn;have cw:=PG x (by omega) (by omega);have j2:ar X i=x:=by rw[hS.dK,hX,m8];exact hx.symm
  have j3:aL .i8 X i=true:=by rw[hS.gM,hX,kY];exact decide_eq_true (by omega)
  have e4:zD .i64 x=x:=by rw[hS.wrap];exact wrap_i64 (by omega) (by omega)
  have lO:i=O.length:=by rw[hO,xr];simp
  have Ui:f i=(x:Rat):=by rw[hf,hx]
  obtain⟨s,t,r,q,w,_⟩:=bX (x:Rat);have BA:O ++ [[.v (.bool s),.aa false r,.v (.bool t),.aa false q]]=ur ((List.range (i+1)).map f):=by rw[List.range_succ,List.map_append,List.map_cons,List.map_nil,MZ,hO,Ui,w]
  rw[w]at cw;obtain⟨u0,u1,u2,u3,u4,u5,u6,u7⟩:=hS.vg (row:=[.v (.bool s),.aa false r,.v (.bool t),.aa false q]) (w:=4) rfl (r:=O) (len:=i) (b:=64) lO (by unfold au;omega);clear w;refine⟨?_⟩;refine dJ ?_;cbv;apply tT c1;cbv;apply tT c2;cbv;simp only[j1,j2,e4];refine nd n0 (nd j3 ?_);refine hS.cl cw ?_;cbv;simp only[u0];refine nd u1 (nd u2 (nd u3 (nd u4 (nd u5 ?_))));refine aU [(2,6)] (O ++ [[.v (.bool s),.aa false r,.v (.bool t),.aa false q]]) ?_ ?_ ?_ ?_ rfl (by show 2<=3;omega) BA
  ·simp[bd,Cd,ae,vi,AV.aw,AV.aJ,Cell.aw,ak,u6]
   exact i1
  ·simp[bf,Cd,ae,Abs.look,ak,aA.aw,u7,Cell.aw]
  ·simp[aF,Cd,ae,ak]
  ·simp
 ·intro O hO
  rw[<-hL,<-hY]at hO;obtain⟨v1,v2⟩:=hS.whole (r:=O) (len:=n) (by rw[hO,hY,xr,lL]);rw[hO]at v1 v2;subst hO
  by_cases h6:v.length<=d+1
  ·have lE:zV (Int.ofNat n) (zz (ab X))=false:=hS.fh (by omega)
   refine⟨?_⟩;refine dJ ?_;cbv;apply tF lE;cbv;simp only[v2];apply nd v1;refine hS.cl ct ?_;cbv;exact aC hF
  ·have c1:zV (Int.ofNat n) (zz (ab X))=true:=by rw[hS.lt,hS.az,hS.len,lX];exact decide_eq_true (show((n:Nat):Int)<(v.length:Int) by omega)
   have c2:zX (Int.ofNat n) dI=false:=by rw[hS.le,hdI];exact decide_eq_false (show ¬((n:Int)<=d) by omega)
   refine⟨?_⟩;refine dJ ?_;cbv;apply tT c1;cbv;apply tF c2;cbv;simp only[v2];apply nd v1;refine hS.cl ct ?_;cbv;exact aC hF
end Go.Proofs.YtekefilngojelaaGreat
end
