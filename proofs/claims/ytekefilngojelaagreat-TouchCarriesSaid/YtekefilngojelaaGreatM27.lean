/- A part. -/
import Derived.Test.YtekefilngojelaaGreatM24
import Derived.Test.YtekefilngojelaaGreatM26
set_option maxHeartbeats 0
set_option maxRecDepth 100000
set_option linter.unusedVariables false
set_option linter.unusedSimpArgs false
section
namespace Go.Proofs.YtekefilngojelaaGreat
open Go Go.Abs Go.Abs.M Go.Proofs
theorem ya {x:Int} (h1:-128<=x) (h2:x<128):IntKind.wrap .i8 x=x:=by
 unfold IntKind.wrap;simp[IntKind.bits,IntKind.signed];omega
theorem og (r:aS) (sp:∀p∈r,SP p) (hr:r.length<=1000) (k:Int) (k0:0<=k) (k1:k<=1000) :
  ∃P,SP P/\aH 67 [.val (tl (aj r)),.val (ti .i64 k),.val (ti .i64 1)] ⟨[.val (tl [[.aa false (aP P)]])],[none,none,none]⟩:=by
 obtain⟨r1,h1,h2,cp⟩:=Rt r sp hr k k0 k1 1 (by omega)
 match r1,h1 with
 | [P],_=>exact⟨P,h2 P List.mem_cons_self,cp⟩
theorem Lh (K:Int) (l:List (List R5)) (hl:LI l) (v:List Int) (hv:Jn v) (N:Int) (E:aS) (hE:E.length<=2) (XD:Abs.Rows) :
  ∃(sF:aS) (Sq:List (Rat×List T2)),sF.length=E.length/\(∀p∈sF,SP p)/\(∀x∈Sq,Qs x.1 100/\SP x.2)/\Sq.length<=3 /\
   ∀(P:Abs.Rows) (cn cd cr:Int) (XO Ek Sg B:Abs.Rows),Ip K l v N (aj E) XD (oe 9 P cn cd cr XO Ek Sg B) {Cf with X1:=aj sF,Z2:=KQ Sq}/\Ip K l v N (aj E) XD (oe 10 P cn cd cr XO Ek Sg B) {Cf with X1:=aj sF,Z2:=KQ Sq}:=by
 obtain⟨r,IF,kH,cl⟩:=gD l hl;have sp:∀p∈r,SP p:=fun p hp=>(kH p hp).sp (by omega)
 obtain⟨a,a1,a2,ca⟩:=Ac v hv 4 (by omega) (by omega);obtain⟨g,hg⟩:=aq (IntKind.wrap .i64 ((BitVec.ofInt 64 a &&& BitVec.ofInt 64 (3:Nat)).toNat):Int);have Nd:0<=g/\g<=3:=by rw[hg];exact jv a 3 (by omega)
 obtain⟨m,hm⟩:=aq (E.length);have lE:(aj E).length=m:=by rw[lB,hm]
 obtain⟨mI,yY⟩:=aq (m:Int);obtain⟨sF,c1,c2,cc⟩:=Rt r sp (by omega) 1 (by omega) (by omega) m (by omega);rw[<-yY]at cc;obtain⟨b0,Zj,Zk,Qu⟩:=Ac v hv 0 (by omega) (by omega);obtain⟨P0,sP0,cp0⟩:=og r sp (by omega) 0 (by omega) (by omega);obtain⟨b1,LF,UI,Lg⟩:=Ac v hv 1 (by omega) (by omega);obtain⟨P1,sP1,cp1⟩:=og r sp (by omega) 1 (by omega) (by omega);obtain⟨b2,Zl,Zm,Qv⟩:=Ac v hv 2 (by omega) (by omega)
 obtain⟨P2,sP2,cp2⟩:=og r sp (by omega) 2 (by omega) (by omega);have qm:=fun b (h1:-128<=b) (h2:b<128)=>((DY b 5 (by omega) (by decide) (by decide)).mono (by omega):Qs (uv b 5) 100)
 refine⟨sF,[(uv b0 5,P0),(uv b1 5,P1),(uv b2 5,P2)].take g.toNat,by omega,c2,fun x hx=>?_,Nat.le_trans (List.length_take_le ..) (by omega),fun P cn cd cr XO Ek Sg B=>?_⟩
 ·have:=List.mem_of_mem_take hx
  simp only[List.mem_cons,List.not_mem_nil,or_false]at this;rcases this with rfl|rfl|rfl
  all_goals first|exact⟨qm _ Zj Zk,sP0⟩|exact⟨qm _ LF UI,sP1⟩|exact⟨qm _ Zl Zm,sP2⟩
 have cm0:=lx b0 5 ⟨Zj,Zk⟩ (by omega);have Wg:=lx b1 5 ⟨LF,UI⟩ (by omega);have Wh:=lx b2 5 ⟨Zl,Zm⟩ (by omega);obtain⟨s0,t0,r0,q0,w0,_⟩:=bX (uv b0 5);obtain⟨s1,t1,r1,q1,w1,_⟩:=bX (uv b1 5);obtain⟨s2,t2,r2,q2,w2,_⟩:=bX (uv b2 5);rw[w0]at cm0;rw[w1]at Wg;rw[w2]at Wh;obtain rfl|rfl|rfl|rfl:g=0∨g=1∨g=2∨g=3:=by omega
 all_goals refine⟨?_,?_⟩
 all_goals
  unfold Ip mH oe;simp only[BO.row,Cf,KQ,show Int.toNat 0=0 from rfl,show Int.toNat 1=1 from rfl,show Int.toNat 2=2 from rfl,show Int.toNat 3=3 from rfl,List.take_succ_cons,List.take_zero,List.map_cons,List.map_nil,w0,w1,w2,List.cons_append,List.nil_append];clear c2 sp kH hl hv w0 w1 w2 sP0 sP1 sP2 qm;generalize aj E=XE,aj r=X,Ca l=XL,W .i8 v=XV,aj sF=XC,aP P0=W0,aP P1=W1,aP P2=W2 at *
  as_aux_lemma=>
   refine fb ai mixed [.val] Tryz.func33 rfl rfl (by kernel_rfl) fun zD _ _ _ _ _ _ _ _ _ _ _ _ _ _ _ _ _ _ _ _ _ _ _ _ _ _ _ _ _ _ _ _ _ A L F hS hF=>?_
   have em:Int.ofNat XE.length=mI:=by rw[lE,yY];rfl
   have eg:=(hS.kQ .i64 a 3).trans hg.symm;have e0:aE zD .i8 b0=b0:=by rw[hS.wrap];exact ya Zj Zk
   have e1:aE zD .i8 b1=b1:=by rw[hS.wrap];exact ya LF UI
   have e2:aE zD .i8 b2=b2:=by rw[hS.wrap];exact ya Zl Zm
   cbv at em e0 e1 e2;cbv;repeat (first|apply bT rfl|apply bF rfl|apply nd rfl|(apply tT rfl;cbv)|(apply tF rfl;cbv)|(refine fm ai mixed hS (9) ?_;cbv)|(simp only[eg];cbv)|(simp only[em];cbv)|(simp only[e0];cbv)|(simp only[e1];cbv)|(simp only[e2];cbv)|(refine hS.cl cl ?_;cbv)|(refine hS.cl ca ?_;cbv)|(refine hS.cl cc ?_;cbv)|(refine hS.cl Qu ?_;cbv)|(refine hS.cl cm0 ?_;cbv)|(refine hS.cl cp0 ?_;cbv)|(refine hS.cl Lg ?_;cbv)|(refine hS.cl Wg ?_;cbv)|(refine hS.cl cp1 ?_;cbv)|(refine hS.cl Qv ?_;cbv)|(refine hS.cl Wh ?_;cbv)|(refine hS.cl cp2 ?_;cbv))
   refine ib hF ?_;repeat' (first|exact trivial|exact aY.refl _|exact aY.drop _ _|refine⟨?_,?_⟩)
end Go.Proofs.YtekefilngojelaaGreat
end
