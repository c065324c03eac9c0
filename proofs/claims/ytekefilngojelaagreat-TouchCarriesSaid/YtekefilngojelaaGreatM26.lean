/- A part. -/
import Derived.Test.YtekefilngojelaaGreatM15
import Derived.Test.YtekefilngojelaaGreatM18
import Derived.Test.YtekefilngojelaaGreatM23
import Derived.Test.YtekefilngojelaaGreatM25
set_option maxHeartbeats 0
set_option maxRecDepth 100000
set_option linter.unusedVariables false
set_option linter.unusedSimpArgs false
section
namespace Go.Proofs.YtekefilngojelaaGreat
open Go Go.Abs Go.Abs.M Go.Proofs
def Cf:BO:=⟨0,[],[],[],[],[],[],0,0,0,0,0,0,0,0,[],[],[],[],[],[],[],[],[],[],[],[],[]⟩
def Ip (K:Int) (l:List (List R5)) (v:List Int) (N:Int) (XE XD:Abs.Rows) (T:List Tree) (x:BO):Prop:=aH 33 [.val (.agg (mH K l v)),.val (.agg [.v (.int .i64 N),.aa false XE,.aa false XD]),.val (.agg T)] ⟨[.val (.agg x.row)],[none,none,none]⟩
theorem NS (K:Int) (l:List (List R5)) (hl:LI l) (v:List Int) (hv:Jn v) (N:Int) (E:aS) (hE:E.length<=2) (XD:Abs.Rows) (Lc:aS) (WO:Lc.length<=3) :
  ∃(sF:aS) (n:Int) (D:fi) (G1:aS) (O1:List R8) (C1:fi) (G:aS) (O:List R8) (C Q Sx:fi),sF.length=E.length/\(∀p∈sF,SP p)/\(1<=n/\n<=4)/\K8 D (1+Lc.length*(Lc.length+1)/2) E.length/\BsO E.length C1 G1 O1/\Ru E.length C G O Q Sx /\
   ∀(P:Abs.Rows) (cn cd cr:Int) (XO Ek Sg B:Abs.Rows),Ip K l v N (aj E) XD (oe 1 P cn cd cr XO Ek Sg B) {Cf with X1:=aj sF}/\Ip K l v N (aj E) XD (oe 3 P cn cd cr XO Ek Sg B) {Cf with N:=n,X1:=aj sF}/\Ip K l v N (aj E) XD (oe 11 P cn cd cr XO (aj Lc) Sg B) {Cf with X4:=dL D}/\Ip K l v N (aj E) XD (oe 12 P cn cd cr XO Ek Sg B) {Cf with X2:=aj G1,X3:=iE O1,X4:=dL C1}/\Ip K l v N (aj E) XD (oe 2 P cn cd cr XO Ek Sg B) {Cf with X2:=aj G,X3:=iE O,X4:=dL C,X5:=dL Q,X6:=dL Sx}/\Ip K l v N (aj E) XD (oe 4 P cn cd cr XO Ek Sg B) {Cf with X2:=aj G,X3:=iE O,X4:=dL C,X5:=dL Q,X6:=dL Sx}/\Ip K l v N (aj E) XD (oe 5 P cn cd cr XO Ek Sg B) {Cf with X2:=aj G,X3:=iE O,X4:=dL C,X5:=dL Q,X6:=dL Sx}/\Ip K l v N (aj E) XD (oe 6 P cn cd cr XO Ek Sg B) {Cf with X2:=aj G,X3:=iE O,X4:=dL C,X5:=dL Q,X6:=dL Sx}:=by
 obtain⟨r,IF,kH,cl⟩:=gD l hl;have sp:∀p∈r,SP p:=fun p hp=>(kH p hp).sp (by omega)
 obtain⟨a,a1,a2,ca⟩:=Ac v hv 4 (by omega) (by omega);obtain⟨g,hg⟩:=aq (IntKind.wrap .i64 ((BitVec.ofInt 64 a &&& BitVec.ofInt 64 (3:Nat)).toNat):Int);have Nd:0<=g/\g<=3:=by rw[hg];exact jv a 3 (by omega)
 obtain⟨m,hm⟩:=aq (E.length);have lE:(aj E).length=m:=by rw[lB,hm]
 obtain⟨mI,yY⟩:=aq (m:Int);obtain⟨sF,c1,c2,cc⟩:=Rt r sp (by omega) 1 (by omega) (by omega) m (by omega);rw[<-yY]at cc;obtain⟨n,hn⟩:=aq (1+g);obtain⟨s,hs⟩:=aq (1+Lc.length*(Lc.length+1)/2);have UR:Lc.length=0∨Lc.length=1∨Lc.length=2∨Lc.length=3:=by omega
 have hs7:s<=7:=by rw[hs];rcases UR with h|h|h|h<;>rw[h]<;>decide
 obtain⟨D,d1,cD⟩:=ke r sp (by omega) s m (by omega) (by omega);obtain⟨sI,LH⟩:=aq (s:Int);rw[<-yY,<-LH]at cD;rw[hs,hm]at d1;have lLc:(aj Lc).length=Lc.length:=lB Lc;obtain⟨G1,O1,C1,_,_,e1,e2,e3,e4,_,_,Lg⟩:=mJ r sp (by omega) g.toNat m (by omega) (by omega) false;rw[Int.toNat_of_nonneg Nd.1,<-yY,if_neg (by decide),if_neg (by decide)]at Lg;unfold Xn Xo at Lg;rw[<-e1,hm]at e4
 obtain⟨G,O,C,Q,Sx,b1,b2,b3,b4,b5,b6,cb⟩:=mJ r sp (by omega) g.toNat m (by omega) (by omega) true;rw[Int.toNat_of_nonneg Nd.1,<-yY,if_pos rfl,if_pos rfl]at cb;unfold Xn Xo at cb;rw[<-b1,hm]at b4 b5;rw[<-b1]at b6;refine⟨sF,n,D,G1,O1,C1,G,O,C,Q,Sx,by omega,c2,by omega,d1,⟨by omega,e2,e3,e4⟩,⟨⟨by omega,b2,b3,b4⟩,b5,b6⟩,fun P cn cd cr XO Ek Sg B=>⟨?_,?_,?_,?_,?_,?_,?_,?_⟩⟩
 all_goals
  unfold Ip mH oe;simp only[BO.row,Cf];clear d1 c2 e2 e3 e4 b2 b3 b4 b5 b6 sp kH hl hv;generalize aj E=XE,aj r=X,Ca l=XL,W .i8 v=XV,aj sF=XC,aj Lc=XLl,dL D=XDd,aj G1=XG1,iE O1=XO1,dL C1=XC1,aj G=XG,iE O=XO2,dL C=XCc,dL Q=XQ,dL Sx=XS at *
  as_aux_lemma=>
   refine fb ai mixed [.val] Tryz.func33 rfl rfl (by kernel_rfl) fun zD zE _ zH zI _ _ _ zN _ _ _ _ _ _ _ _ _ _ _ _ _ _ _ _ _ _ _ _ _ _ _ _ _ A L F hS hF=>?_
   have em:Int.ofNat XE.length=mI:=by rw[lE,yY];rfl
   have eg:zN .i64 a 3=g:=by rw[hS.kQ,hg];rfl
   have en:aE zD .i64 (eE zE 1 g)=n:=by rw[hS.add,hS.wrap,hn];exact wrap_i64 (by omega) (by omega)
   have es:aE zD .i64 (eE zE 1 (aE zD .i64 (xM zI (aE zD .i64 (nM zH (Int.ofNat XLl.length) (aE zD .i64 (eE zE (Int.ofNat XLl.length) 1)))) 2)))=sI:=by
    rw[lLc,LH,hs];simp only[hS.add,hS.mul,hS.quo,hS.wrap];rcases UR with h|h|h|h<;>rw[h]<;>decide
   cbv at en em es;cbv;repeat' (first|apply bT rfl|apply bF rfl|apply nd rfl|(apply tT rfl;cbv)|(apply tF rfl;cbv)|(refine fm ai mixed hS (1) ?_;cbv)|(simp only[eg];cbv)|(simp only[em];cbv)|(simp only[en];cbv)|(simp only[es];cbv)|(refine hS.cl cl ?_;cbv)|(refine hS.cl ca ?_;cbv)|(refine hS.cl cc ?_;cbv)|(refine hS.cl cD ?_;cbv)|(refine hS.cl cb ?_;cbv)|(refine hS.cl Lg ?_;cbv)|(refine ib hF ?_;repeat' (first|exact trivial|exact aY.refl _|exact aY.drop _ _|refine⟨?_,?_⟩))|(refine⟨fun _=>?_,fun _=>?_⟩<;>cbv))
end Go.Proofs.YtekefilngojelaaGreat
end
