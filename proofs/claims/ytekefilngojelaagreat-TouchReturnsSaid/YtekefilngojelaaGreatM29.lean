/- A part of the proof. -/
import Derived.Test.YtekefilngojelaaGreatM18
import Derived.Test.YtekefilngojelaaGreatM21
import Derived.Test.YtekefilngojelaaGreatM26
import Derived.Test.YtekefilngojelaaGreatM28
set_option maxHeartbeats 0
set_option maxRecDepth 100000
set_option linter.unusedVariables false
set_option linter.unusedSimpArgs false
section
namespace Go.Proofs.YtekefilngojelaaGreat
open Go Go.Abs Go.Abs.M Go.Proofs
def Ck:BW:=⟨0,[],[],[],[],[],[],0,0,0,0,0,0,0,0,[],[],[],[],[],[],[],[],[],[],[],[],[]⟩
def IK (K:Int) (l:List (List R5)) (v:List Int) (N:Int) (XE XD:Abs.Rows) (T:List Tree) (x:BW):Prop:=ah Tryz.prog 33 [.val (.agg (mq K l v)),.val (.agg [.v (.int .i64 N),.aa false XE,.aa false XD]),.val (.agg T)] ⟨[.val (.agg x.row)],[none,none,none]⟩
theorem Oi (K:Int) (l:List (List R5)) (hl:L5 l) (v:List Int) (hv:JN v) (N:Int) (E:List (List T2)) (hE:E.length<=2) (XD:Abs.Rows) (Lc:List (List T2)) (Xj:Lc.length<=3) :
  ∃(kZ:List (List T2)) (n:Int) (D:List (List (List T2))) (G1:List (List T2)) (O1:List R8) (C1:List (List (List T2))) (G:List (List T2)) (O:List R8) (C Q Sx:List (List (List T2))),kZ.length=E.length/\(∀p∈kZ,SP p)/\(1<=n/\n<=4)/\Lv D (1+Lc.length*(Lc.length+1)/2) E.length/\BsO E.length C1 G1 O1/\RV E.length C G O Q Sx /\
   ∀(P:Abs.Rows) (cn cd cr:Int) (XO Et Sg B:Abs.Rows),IK K l v N (an E) XD (nX 1 P cn cd cr XO Et Sg B) {Ck with X1:=an kZ}/\IK K l v N (an E) XD (nX 3 P cn cd cr XO Et Sg B) {Ck with N:=n,X1:=an kZ}/\IK K l v N (an E) XD (nX 11 P cn cd cr XO (an Lc) Sg B) {Ck with X4:=di D}/\IK K l v N (an E) XD (nX 12 P cn cd cr XO Et Sg B) {Ck with X2:=an G1,X3:=gD O1,X4:=di C1}/\IK K l v N (an E) XD (nX 2 P cn cd cr XO Et Sg B) {Ck with X2:=an G,X3:=gD O,X4:=di C,X5:=di Q,X6:=di Sx}/\IK K l v N (an E) XD (nX 4 P cn cd cr XO Et Sg B) {Ck with X2:=an G,X3:=gD O,X4:=di C,X5:=di Q,X6:=di Sx}/\IK K l v N (an E) XD (nX 5 P cn cd cr XO Et Sg B) {Ck with X2:=an G,X3:=gD O,X4:=di C,X5:=di Q,X6:=di Sx}/\IK K l v N (an E) XD (nX 6 P cn cd cr XO Et Sg B) {Ck with X2:=an G,X3:=gD O,X4:=di C,X5:=di Q,X6:=di Sx}:=by
 obtain⟨r,I1,js,cl⟩:=gg l hl;have sp:∀p∈r,SP p:=fun p hp=>(js p hp).sp (by omega)
 obtain⟨a,a1,a2,ca⟩:=Af v hv 4 (by omega) (by omega);obtain⟨g,hg⟩:∃g:Int,g=IntKind.wrap .i64 ((BitVec.ofInt 64 a &&& BitVec.ofInt 64 (3:Nat)).toNat):=⟨_,rfl⟩;have Ny:0<=g/\g<=3:=by rw[hg];exact jk a 3 (by omega)
 obtain⟨m,hm⟩:∃m,m=E.length:=⟨_,rfl⟩;have lE:(an E).length=m:=by rw[nU,hm]
 obtain⟨mI,Ab⟩:∃i:Int,i=(m:Int):=⟨_,rfl⟩;obtain⟨kZ,c1,c2,cc⟩:=RU r sp (by omega) 1 (by omega) (by omega) m (by omega);rw[<-Ab]at cc;obtain⟨n,hn⟩:∃n,n=1+g:=⟨_,rfl⟩;obtain⟨s,hs⟩:∃s,s=1+Lc.length*(Lc.length+1)/2:=⟨_,rfl⟩;have Vm:Lc.length=0∨Lc.length=1∨Lc.length=2∨Lc.length=3:=by omega
 have hs7:s<=7:=by rw[hs];rcases Vm with h|h|h|h<;>rw[h]<;>decide
 obtain⟨D,d1,cD⟩:=j5 r sp (by omega) s m (by omega) (by omega);obtain⟨sI,L4⟩:∃i:Int,i=(s:Int):=⟨_,rfl⟩;rw[<-Ab,<-L4]at cD;rw[hs,hm]at d1;have lLc:(an Lc).length=Lc.length:=nU Lc;obtain⟨G1,O1,C1,_,_,e1,e2,e3,e4,_,_,LA⟩:=mr r sp (by omega) g.toNat m (by omega) (by omega) false;rw[Int.toNat_of_nonneg Ny.1,<-Ab,if_neg (by decide),if_neg (by decide)]at LA;unfold Yi Yj at LA
 rw[<-e1,hm]at e4;obtain⟨G,O,C,Q,Sx,b1,b2,b3,b4,b5,b6,cb⟩:=mr r sp (by omega) g.toNat m (by omega) (by omega) true;rw[Int.toNat_of_nonneg Ny.1,<-Ab,if_pos rfl,if_pos rfl]at cb;unfold Yi Yj at cb;rw[<-b1,hm]at b4 b5;rw[<-b1]at b6;refine⟨kZ,n,D,G1,O1,C1,G,O,C,Q,Sx,by omega,c2,by omega,d1,⟨by omega,e2,e3,e4⟩,⟨⟨by omega,b2,b3,b4⟩,b5,b6⟩,fun P cn cd cr XO Et Sg B=>⟨?_,?_,?_,?_,?_,?_,?_,?_⟩⟩
 all_goals
  unfold IK mq nX;simp only[BW.row,Ck];clear d1 c2 e2 e3 e4 b2 b3 b4 b5 b6 sp js hl hv;generalize an E=XE,an r=X,Cg l=XL,W .i8 v=XV,an kZ=XC,an Lc=XLl,di D=XDd,an G1=XG1,gD O1=XO1,di C1=XC1,an G=XG,gD O=XO2,di C=XCc,di Q=XQ,di Sx=XS at *
  as_aux_lemma=>
   refine ep aj mixed [.val] Tryz.func33 rfl rfl (by kernel_rfl) fun zD zE _ zH zI _ _ _ zN _ _ _ _ _ _ _ _ _ _ _ _ _ _ _ _ _ _ _ _ _ _ _ _ _ A L F hS hF=>?_
   have em:Int.ofNat XE.length=mI:=by rw[lE,Ab];rfl
   have eg:zN .i64 a 3=g:=by rw[hS.kI,hg];rfl
   have en:aA zD .i64 (dU zE 1 g)=n:=by rw[hS.add,hS.wrap,hn];exact wrap_i64 (by omega) (by omega)
   have es:aA zD .i64 (dU zE 1 (aA zD .i64 (xR zI (aA zD .i64 (ny zH (Int.ofNat XLl.length) (aA zD .i64 (dU zE (Int.ofNat XLl.length) 1)))) 2)))=sI:=by
    rw[lLc,L4,hs];simp only[hS.add,hS.mul,hS.quo,hS.wrap];rcases Vm with h|h|h|h<;>rw[h]<;>decide
   cbv at en em es;cbv;repeat' (first|apply bT rfl|apply bF rfl|apply nd rfl|(refine tT rfl ?_;cbv)|(refine tF rfl ?_;cbv)|(refine fm aj mixed hS (1) ?_;cbv)|(simp only[eg];cbv)|(simp only[em];cbv)|(simp only[en];cbv)|(simp only[es];cbv)|(refine⟨_,hS.call cl,?_⟩;cbv)|(refine⟨_,hS.call ca,?_⟩;cbv)|(refine⟨_,hS.call cc,?_⟩;cbv)|(refine⟨_,hS.call cD,?_⟩;cbv)|(refine⟨_,hS.call cb,?_⟩;cbv)|(refine⟨_,hS.call LA,?_⟩;cbv)|(refine gX hF ?_;repeat' (first|exact trivial|exact aW.refl _|exact aW.drop _ _|refine⟨?_,?_⟩))|(refine⟨fun _=>?_,fun _=>?_⟩<;>cbv))
end Go.Proofs.YtekefilngojelaaGreat
end
