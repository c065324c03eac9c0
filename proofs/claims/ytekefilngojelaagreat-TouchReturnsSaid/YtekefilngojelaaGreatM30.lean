/- A part of the proof. -/
import Derived.Test.YtekefilngojelaaGreatM27
import Derived.Test.YtekefilngojelaaGreatM29
set_option maxHeartbeats 0
set_option maxRecDepth 100000
set_option linter.unusedVariables false
set_option linter.unusedSimpArgs false
section
namespace Go.Proofs.YtekefilngojelaaGreat
open Go Go.Abs Go.Abs.M Go.Proofs
theorem yf {x:Int} (h1:-128<=x) (h2:x<128):IntKind.wrap .i8 x=x:=by
 unfold IntKind.wrap;simp[IntKind.bits,IntKind.signed];omega
theorem nY (r:List (List T2)) (sp:∀p∈r,SP p) (hr:r.length<=1000) (k:Int) (k0:0<=k) (k1:k<=1000) :
  ∃P,SP P/\ah Tryz.prog 67 [.val (tl (an r)),.val (ti .i64 k),.val (ti .i64 1)] ⟨[.val (tl [[.aa false (aV P)]])],[none,none,none]⟩:=by
 obtain⟨r1,h1,h2,cp⟩:=RU r sp hr k k0 k1 1 (by omega)
 match r1,h1 with
 | [P],_=>exact⟨P,h2 P List.mem_cons_self,cp⟩
theorem LB (K:Int) (l:List (List R5)) (hl:L5 l) (v:List Int) (hv:JN v) (N:Int) (E:List (List T2)) (hE:E.length<=2) (XD:Abs.Rows) :
  ∃(kZ:List (List T2)) (Sq:List (Rat×List T2)),kZ.length=E.length/\(∀p∈kZ,SP p)/\(∀x∈Sq,Qs x.1 100/\SP x.2)/\Sq.length<=3 /\
   ∀(P:Abs.Rows) (cn cd cr:Int) (XO Et Sg B:Abs.Rows),IK K l v N (an E) XD (nX 9 P cn cd cr XO Et Sg B) {Ck with X1:=an kZ,Z2:=Gp Sq}/\IK K l v N (an E) XD (nX 10 P cn cd cr XO Et Sg B) {Ck with X1:=an kZ,Z2:=Gp Sq}:=by
 obtain⟨r,I1,js,cl⟩:=gg l hl;have sp:∀p∈r,SP p:=fun p hp=>(js p hp).sp (by omega)
 obtain⟨a,a1,a2,ca⟩:=Af v hv 4 (by omega) (by omega);obtain⟨g,hg⟩:∃g:Int,g=IntKind.wrap .i64 ((BitVec.ofInt 64 a &&& BitVec.ofInt 64 (3:Nat)).toNat):=⟨_,rfl⟩;have Ny:0<=g/\g<=3:=by rw[hg];exact jk a 3 (by omega)
 obtain⟨m,hm⟩:∃m,m=E.length:=⟨_,rfl⟩;have lE:(an E).length=m:=by rw[nU,hm]
 obtain⟨mI,Ab⟩:∃i:Int,i=(m:Int):=⟨_,rfl⟩;obtain⟨kZ,c1,c2,cc⟩:=RU r sp (by omega) 1 (by omega) (by omega) m (by omega);rw[<-Ab]at cc;obtain⟨b0,b01,b02,QM⟩:=Af v hv 0 (by omega) (by omega);obtain⟨P0,sP0,cp0⟩:=nY r sp (by omega) 0 (by omega) (by omega);obtain⟨b1,Ie,Qk,LA⟩:=Af v hv 1 (by omega) (by omega);obtain⟨P1,sP1,cp1⟩:=nY r sp (by omega) 1 (by omega) (by omega);obtain⟨b2,T0,T1,QN⟩:=Af v hv 2 (by omega) (by omega)
 obtain⟨P2,sP2,cp2⟩:=nY r sp (by omega) 2 (by omega) (by omega);have qm:=fun b (h1:-128<=b) (h2:b<128)=>((D0 b 5 (by omega) (by decide) (by decide)).mono (by omega):Qs (ui b 5) 100)
 refine⟨kZ,[(ui b0 5,P0),(ui b1 5,P1),(ui b2 5,P2)].take g.toNat,by omega,c2,fun x hx=>?_,Nat.le_trans (List.length_take_le ..) (by omega),fun P cn cd cr XO Et Sg B=>?_⟩
 ·have:=List.mem_of_mem_take hx
  simp only[List.mem_cons,List.not_mem_nil,or_false]at this;rcases this with rfl|rfl|rfl
  all_goals first|exact⟨qm _ b01 b02,sP0⟩|exact⟨qm _ Ie Qk,sP1⟩|exact⟨qm _ T0 T1,sP2⟩
 have cm0:=kW b0 5 ⟨b01,b02⟩ (by omega);have WK:=kW b1 5 ⟨Ie,Qk⟩ (by omega);have WL:=kW b2 5 ⟨T0,T1⟩ (by omega);obtain⟨s0,t0,r0,q0,w0,_⟩:=bD (ui b0 5);obtain⟨s1,t1,r1,q1,w1,_⟩:=bD (ui b1 5);obtain⟨s2,t2,r2,q2,w2,_⟩:=bD (ui b2 5);rw[w0]at cm0;rw[w1]at WK;rw[w2]at WL;obtain rfl|rfl|rfl|rfl:g=0∨g=1∨g=2∨g=3:=by omega
 all_goals refine⟨?_,?_⟩
 all_goals
  unfold IK mq nX;simp only[BW.row,Ck,Gp,show Int.toNat 0=0 from rfl,show Int.toNat 1=1 from rfl,show Int.toNat 2=2 from rfl,show Int.toNat 3=3 from rfl,List.take_succ_cons,List.take_zero,List.map_cons,List.map_nil,w0,w1,w2,List.cons_append,List.nil_append];clear c2 sp js hl hv w0 w1 w2 sP0 sP1 sP2 qm;generalize an E=XE,an r=X,Cg l=XL,W .i8 v=XV,an kZ=XC,aV P0=W0,aV P1=W1,aV P2=W2 at *
  as_aux_lemma=>
   refine ep aj mixed [.val] Tryz.func33 rfl rfl (by kernel_rfl) fun zD _ _ _ _ _ _ _ _ _ _ _ _ _ _ _ _ _ _ _ _ _ _ _ _ _ _ _ _ _ _ _ _ _ A L F hS hF=>?_
   have em:Int.ofNat XE.length=mI:=by rw[lE,Ab];rfl
   have eg:=(hS.kI .i64 a 3).trans hg.symm;have e0:aA zD .i8 b0=b0:=by rw[hS.wrap];exact yf b01 b02
   have e1:aA zD .i8 b1=b1:=by rw[hS.wrap];exact yf Ie Qk
   have e2:aA zD .i8 b2=b2:=by rw[hS.wrap];exact yf T0 T1
   cbv at em e0 e1 e2;cbv;repeat (first|apply bT rfl|apply bF rfl|apply nd rfl|(refine tT rfl ?_;cbv)|(refine tF rfl ?_;cbv)|(refine fm aj mixed hS (9) ?_;cbv)|(simp only[eg];cbv)|(simp only[em];cbv)|(simp only[e0];cbv)|(simp only[e1];cbv)|(simp only[e2];cbv)|(refine⟨_,hS.call cl,?_⟩;cbv)|(refine⟨_,hS.call ca,?_⟩;cbv)|(refine⟨_,hS.call cc,?_⟩;cbv)|(refine⟨_,hS.call QM,?_⟩;cbv)|(refine⟨_,hS.call cm0,?_⟩;cbv)|(refine⟨_,hS.call cp0,?_⟩;cbv)|(refine⟨_,hS.call LA,?_⟩;cbv)|(refine⟨_,hS.call WK,?_⟩;cbv)|(refine⟨_,hS.call cp1,?_⟩;cbv)|(refine⟨_,hS.call QN,?_⟩;cbv)|(refine⟨_,hS.call WL,?_⟩;cbv)|(refine⟨_,hS.call cp2,?_⟩;cbv))
   refine gX hF ?_;repeat' (first|exact trivial|exact aW.refl _|exact aW.drop _ _|refine⟨?_,?_⟩)
end Go.Proofs.YtekefilngojelaaGreat
end
