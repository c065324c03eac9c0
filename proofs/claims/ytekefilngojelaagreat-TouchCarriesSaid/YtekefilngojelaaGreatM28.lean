/- A part. -/
import Derived.Test.YtekefilngojelaaGreatM24
import Derived.Test.YtekefilngojelaaGreatM25
import Derived.Test.YtekefilngojelaaGreatM26
set_option maxHeartbeats 0
set_option maxRecDepth 100000
set_option linter.unusedVariables false
set_option linter.unusedSimpArgs false
section
namespace Go.Proofs.YtekefilngojelaaGreat
open Go Go.Abs Go.Abs.M Go.Proofs
theorem Li (K:Int) (l:List (List R5)) (hl:LI l) (v:List Int) (hv:Jn v) (N:Int) (E:aS) (hE:E.length<=2) (XD:Abs.Rows) :
  ∃G O C Q Sx U U1 At,∃d:Int,Ru E.length C G O Q Sx/\RsO U U1 At d /\
   ∀(P:Abs.Rows) (cn cd cr:Int) (XO Ek Sg B:Abs.Rows),Ip K l v N (aj E) XD (oe 7 P cn cd cr XO Ek Sg B) {Cf with X2:=aj G,X3:=iE O,X4:=dL C,X5:=dL Q,X6:=dL Sx,r0:=1,r1:=d,Y0:=ur U,Y2:=ur U1,Z1:=KO At}/\Ip K l v N (aj E) XD (oe 8 P cn cd cr XO Ek Sg B) {Cf with X2:=aj G,X3:=iE O,X4:=dL C,X5:=dL Q,X6:=dL Sx,r0:=1,r1:=d,Y0:=ur U,Y2:=ur U1,Z1:=KO At}:=by
 obtain⟨r,IF,kH,cl⟩:=gD l hl;have sp:∀p∈r,SP p:=fun p hp=>(kH p hp).sp (by omega)
 obtain⟨a,a1,a2,ca⟩:=Ac v hv 4 (by omega) (by omega);obtain⟨g,hg⟩:=aq (IntKind.wrap .i64 ((BitVec.ofInt 64 a &&& BitVec.ofInt 64 (3:Nat)).toNat):Int);have Nd:0<=g/\g<=3:=by rw[hg];exact jv a 3 (by omega)
 obtain⟨m,hm⟩:=aq (E.length);have lE:(aj E).length=m:=by rw[lB,hm]
 obtain⟨mI,yY⟩:=aq (m:Int);obtain⟨G,O,C,Q,Sx,b1,b2,b3,b4,b5,b6,cb⟩:=mJ r sp (by omega) g.toNat m (by omega) (by omega) true;rw[Int.toNat_of_nonneg Nd.1,<-yY,if_pos rfl,if_pos rfl]at cb;unfold Xn Xo at cb;rw[<-b1,hm]at b4 b5;rw[<-b1]at b6;obtain⟨d,d1,d2,cdd⟩:=Ac v hv 5 (by omega) (by omega);obtain⟨U,hU,cU⟩:=sR v hv 3 (by omega);obtain⟨U1,W5,TH⟩:=sR v hv 2 (by omega)
 obtain⟨zs,zt,zr,zq,zw,_⟩:=bX 0;obtain⟨x0,f0,OA⟩:=Qr v hv 0 (by omega) (by omega);obtain⟨YR,YS,YT,YU,YV,YW,YX,YY,YZ,Za,Zd,Ze,Zf,Zg,Zh,Zi,y0,u0,v0⟩:=gj f0 zw;obtain⟨x1,f1,Qw⟩:=Qr v hv 1 (by omega) (by omega);obtain⟨s0b,t0b,s1b,t1b,s2b,t2b,s3b,t3b,r0b,q0b,r1b,q1b,r2b,q2b,r3b,q3b,y1,u1,v1⟩:=gj f1 zw;obtain⟨x2,f2,RA⟩:=Qr v hv 2 (by omega) (by omega);obtain⟨s0c,t0c,s1c,t1c,s2c,t2c,s3c,t3c,r0c,q0c,r1c,q1c,r2c,q2c,r3c,q3c,y2,u2,v2⟩:=gj f2 zw
 refine⟨G,O,C,Q,Sx,U,U1,[(x0.u0,x0.v0),(x1.u0,x1.v0),(x2.u0,x2.v0)].take g.toNat,d,⟨⟨by omega,b2,b3,b4⟩,b5,b6⟩,⟨by unfold DO;omega,hU,W5,fun q hq=>?_,Nat.le_trans (List.length_take_le ..) (by omega)⟩,fun P cn cd cr XO Ek Sg B=>?_⟩
 ·have:=List.mem_of_mem_take hq
  simp only[List.mem_cons,List.not_mem_nil,or_false]at this;rcases this with rfl|rfl|rfl
  all_goals first|exact⟨f0.ok.1,f0.ok.2.1,f0.UM⟩|exact⟨f1.ok.1,f1.ok.2.1,f1.UM⟩|exact⟨f2.ok.1,f2.ok.2.1,f2.UM⟩
 rw[y0]at OA;rw[y1]at Qw;rw[y2]at RA;obtain rfl|rfl|rfl|rfl:g=0∨g=1∨g=2∨g=3:=by omega
 all_goals refine⟨?_,?_⟩
 all_goals
  unfold Ip mH oe;simp only[BO.row,Cf,KO,show Int.toNat 0=0 from rfl,show Int.toNat 1=1 from rfl,show Int.toNat 2=2 from rfl,show Int.toNat 3=3 from rfl,List.take_succ_cons,List.take_zero,List.map_cons,List.map_nil,u0,v0,u1,v1,u2,v2,List.cons_append,List.nil_append];clear b2 b3 b4 b5 b6 sp kH hl hv zw y0 y1 y2 u0 v0 u1 v1 u2 v2 f0 f1 f2 hU W5;generalize aj E=XE,aj r=X,Ca l=XL,W .i8 v=XV,aj G=XG,iE O=XO2,dL C=XCc,dL Q=XQ,dL Sx=XS,ur U=XU,ur U1=XU1 at *
  as_aux_lemma=>
   refine fb ai mixed [.val] Tryz.func33 rfl rfl (by kernel_rfl) ?_;intros;rename_i A L F hS hF;have em:Int.ofNat XE.length=mI:=by rw[lE,yY];rfl
   have eg:=(hS.kQ .i64 a 3).trans hg.symm;cbv at em;cbv;repeat (first|apply bT rfl|apply bF rfl|apply nd rfl|(apply tT rfl;cbv)|(apply tF rfl;cbv)|(refine fm ai mixed hS (9) ?_;cbv)|(simp only[eg];cbv)|(simp only[em];cbv)|(refine hS.cl cl ?_;cbv)|(refine hS.cl ca ?_;cbv)|(refine hS.cl cb ?_;cbv)|(refine hS.cl cdd ?_;cbv)|(refine hS.cl cU ?_;cbv)|(refine hS.cl TH ?_;cbv)|(refine hS.cl OA ?_;cbv)|(refine hS.cl Qw ?_;cbv)|(refine hS.cl RA ?_;cbv))
   refine ib hF ?_;repeat' (first|exact trivial|exact aY.refl _|exact aY.drop _ _|refine⟨?_,?_⟩)
end Go.Proofs.YtekefilngojelaaGreat
end
