/- A part. -/
import Derived.Test.YtekefilngojelaaGreatM27
import Derived.Test.YtekefilngojelaaGreatM28
import Derived.Test.YtekefilngojelaaGreatM29
set_option maxHeartbeats 0
set_option maxRecDepth 100000
set_option linter.unusedVariables false
set_option linter.unusedSimpArgs false
section
namespace Go.Proofs.YtekefilngojelaaGreat
open Go Go.Abs Go.Abs.M Go.Proofs
theorem LC (K:Int) (l:List (List R5)) (hl:L5 l) (v:List Int) (hv:JN v) (N:Int) (E:List (List T2)) (hE:E.length<=2) (XD:Abs.Rows) :
  ∃G O C Q Sx U U1 At,∃d:Int,RV E.length C G O Q Sx/\RsO U U1 At d /\
   ∀(P:Abs.Rows) (cn cd cr:Int) (XO Et Sg B:Abs.Rows),IK K l v N (an E) XD (nX 7 P cn cd cr XO Et Sg B) {Ck with X2:=an G,X3:=gD O,X4:=di C,X5:=di Q,X6:=di Sx,r0:=1,r1:=d,Y0:=ur U,Y2:=ur U1,Z1:=Gn At}/\IK K l v N (an E) XD (nX 8 P cn cd cr XO Et Sg B) {Ck with X2:=an G,X3:=gD O,X4:=di C,X5:=di Q,X6:=di Sx,r0:=1,r1:=d,Y0:=ur U,Y2:=ur U1,Z1:=Gn At}:=by
 obtain⟨r,I1,js,cl⟩:=gg l hl;have sp:∀p∈r,SP p:=fun p hp=>(js p hp).sp (by omega)
 obtain⟨a,a1,a2,ca⟩:=Af v hv 4 (by omega) (by omega);obtain⟨g,hg⟩:∃g:Int,g=IntKind.wrap .i64 ((BitVec.ofInt 64 a &&& BitVec.ofInt 64 (3:Nat)).toNat):=⟨_,rfl⟩;have Ny:0<=g/\g<=3:=by rw[hg];exact jk a 3 (by omega)
 obtain⟨m,hm⟩:∃m,m=E.length:=⟨_,rfl⟩;have lE:(an E).length=m:=by rw[nU,hm]
 obtain⟨mI,Ab⟩:∃i:Int,i=(m:Int):=⟨_,rfl⟩;obtain⟨G,O,C,Q,Sx,b1,b2,b3,b4,b5,b6,cb⟩:=mr r sp (by omega) g.toNat m (by omega) (by omega) true;rw[Int.toNat_of_nonneg Ny.1,<-Ab,if_pos rfl,if_pos rfl]at cb;unfold Yi Yj at cb;rw[<-b1,hm]at b4 b5;rw[<-b1]at b6;obtain⟨d,d1,d2,cdd⟩:=Af v hv 5 (by omega) (by omega);obtain⟨U,hU,cU⟩:=sG v hv 3 (by omega);obtain⟨U1,OQ,Uc⟩:=sG v hv 2 (by omega)
 obtain⟨zs,zt,zr,zq,zw,_⟩:=bD 0;obtain⟨x0,f0,OT⟩:=QK v hv 0 (by omega) (by omega);obtain⟨ZU,ZV,ZW,ZX,ZY,ZZ,Z0,Z5,Z6,Z7,Z8,Z9,r2a,q2a,r3a,q3a,y0,u0,v0⟩:=fU f0 zw;obtain⟨x1,f1,QO⟩:=QK v hv 1 (by omega) (by omega);obtain⟨s0b,t0b,s1b,t1b,s2b,t2b,s3b,t3b,r0b,q0b,r1b,q1b,r2b,q2b,r3b,q3b,y1,u1,v1⟩:=fU f1 zw;obtain⟨x2,f2,R7⟩:=QK v hv 2 (by omega) (by omega);obtain⟨s0c,t0c,s1c,t1c,s2c,t2c,s3c,t3c,r0c,q0c,r1c,q1c,r2c,q2c,r3c,q3c,y2,u2,v2⟩:=fU f2 zw
 refine⟨G,O,C,Q,Sx,U,U1,[(x0.u0,x0.v0),(x1.u0,x1.v0),(x2.u0,x2.v0)].take g.toNat,d,⟨⟨by omega,b2,b3,b4⟩,b5,b6⟩,⟨by unfold Eo;omega,hU,OQ,fun q hq=>?_,Nat.le_trans (List.length_take_le ..) (by omega)⟩,fun P cn cd cr XO Et Sg B=>?_⟩
 ·have:=List.mem_of_mem_take hq
  simp only[List.mem_cons,List.not_mem_nil,or_false]at this;rcases this with rfl|rfl|rfl
  all_goals first|exact⟨f0.ok.1,f0.ok.2.1,f0.Vg⟩|exact⟨f1.ok.1,f1.ok.2.1,f1.Vg⟩|exact⟨f2.ok.1,f2.ok.2.1,f2.Vg⟩
 rw[y0]at OT;rw[y1]at QO;rw[y2]at R7;obtain rfl|rfl|rfl|rfl:g=0∨g=1∨g=2∨g=3:=by omega
 all_goals refine⟨?_,?_⟩
 all_goals
  unfold IK mq nX;simp only[BW.row,Ck,Gn,show Int.toNat 0=0 from rfl,show Int.toNat 1=1 from rfl,show Int.toNat 2=2 from rfl,show Int.toNat 3=3 from rfl,List.take_succ_cons,List.take_zero,List.map_cons,List.map_nil,u0,v0,u1,v1,u2,v2,List.cons_append,List.nil_append];clear b2 b3 b4 b5 b6 sp js hl hv zw y0 y1 y2 u0 v0 u1 v1 u2 v2 f0 f1 f2 hU OQ;generalize an E=XE,an r=X,Cg l=XL,W .i8 v=XV,an G=XG,gD O=XO2,di C=XCc,di Q=XQ,di Sx=XS,ur U=XU,ur U1=XU1 at *
  as_aux_lemma=>
   refine ep aj mixed [.val] Tryz.func33 rfl rfl (by kernel_rfl) ?_;intros;rename_i A L F hS hF;have em:Int.ofNat XE.length=mI:=by rw[lE,Ab];rfl
   have eg:=(hS.kI .i64 a 3).trans hg.symm;cbv at em;cbv;repeat (first|apply bT rfl|apply bF rfl|apply nd rfl|(refine tT rfl ?_;cbv)|(refine tF rfl ?_;cbv)|(refine fm aj mixed hS (9) ?_;cbv)|(simp only[eg];cbv)|(simp only[em];cbv)|(refine⟨_,hS.call cl,?_⟩;cbv)|(refine⟨_,hS.call ca,?_⟩;cbv)|(refine⟨_,hS.call cb,?_⟩;cbv)|(refine⟨_,hS.call cdd,?_⟩;cbv)|(refine⟨_,hS.call cU,?_⟩;cbv)|(refine⟨_,hS.call Uc,?_⟩;cbv)|(refine⟨_,hS.call OT,?_⟩;cbv)|(refine⟨_,hS.call QO,?_⟩;cbv)|(refine⟨_,hS.call R7,?_⟩;cbv))
   refine gX hF ?_;repeat' (first|exact trivial|exact aW.refl _|exact aW.drop _ _|refine⟨?_,?_⟩)
end Go.Proofs.YtekefilngojelaaGreat
end
