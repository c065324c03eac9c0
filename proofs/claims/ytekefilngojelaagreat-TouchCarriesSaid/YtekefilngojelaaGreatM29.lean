/- A part. -/
import Derived.Test.YtekefilngojelaaGreatM15
import Derived.Test.YtekefilngojelaaGreatM22
import Derived.Test.YtekefilngojelaaGreatM24
import Derived.Test.YtekefilngojelaaGreatM26
set_option maxHeartbeats 0
set_option maxRecDepth 100000
set_option linter.unusedVariables false
set_option linter.unusedSimpArgs false
section
namespace Go.Proofs.YtekefilngojelaaGreat
open Go Go.Abs Go.Abs.M Go.Proofs
theorem Iq (K:Int) (l:List (List R5)) (hl:LI l) (v:List Int) (hv:Jn v) (N:Int) (E:aS) (hE:E.length<=2) (XD P:Abs.Rows) (cn cd cr:Int) (XO Ek Sg B:Abs.Rows) :
  ∃(Xs:List Q8) (Bs:List Bx),(∀q∈Xs,q.fit)/\Xs.length<=3/\(∀q∈Bs,q.fit)/\Bs.length<=3/\aH 33 [.val (.agg (mH K l v)),.val (.agg [.v (.int .i64 N),.aa false (aj E),.aa false XD]),.val (.agg (oe 13 P cn cd cr XO Ek Sg B))] ⟨[.val (.agg (BO.row {Cf with Z3:=Jk Xs,Z4:=uk Bs}))],[none,none,none]⟩:=by
 obtain⟨r,IF,kH,cl⟩:=gD l hl;obtain⟨a,a1,a2,ca⟩:=Ac v hv 4 (by omega) (by omega);obtain⟨g,hg⟩:=aq (IntKind.wrap .i64 ((BitVec.ofInt 64 a &&& BitVec.ofInt 64 (3:Nat)).toNat):Int);have Nd:0<=g/\g<=3:=by rw[hg];exact jv a 3 (by omega)
 have cz:=PG 0 (by decide) (by decide);rw[show(((0:Int)):Rat)=0 from rfl]at cz;obtain⟨zs,zt,zr,zq,zw,_⟩:=bX 0;rw[zw]at cz;obtain⟨b0,Zj,Zk,Qu⟩:=Ac v hv 0 (by omega) (by omega);have T0:=PG b0 (by omega) (by omega);have qw0:Qs (b0:Rat) 100:=Qs.whole (by omega) (by omega);obtain⟨x0,f0,OA⟩:=Qr v hv 1 (by omega) (by omega);obtain⟨b1,LF,UI,Lg⟩:=Ac v hv 1 (by omega) (by omega);have Im:=PG b1 (by omega) (by omega)
 have qw1:Qs (b1:Rat) 100:=Qs.whole (by omega) (by omega);obtain⟨x1,f1,Qw⟩:=Qr v hv 2 (by omega) (by omega);obtain⟨b2,Zl,Zm,Qv⟩:=Ac v hv 2 (by omega) (by omega);have Xp:=PG b2 (by omega) (by omega);have qw2:Qs (b2:Rat) 100:=Qs.whole (by omega) (by omega);obtain⟨x2,f2,RA⟩:=Qr v hv 3 (by omega) (by omega);obtain rfl|rfl|rfl|rfl:g=0∨g=1∨g=2∨g=3:=by omega
 ·refine⟨[],[],by simp,by simp,by simp,by simp,?_⟩
  rw[show uk []=[] from rfl,show Jk []=[] from rfl];unfold mH oe;simp only[BO.row,Cf];generalize aj E=XE,aj r=X,Ca l=XL,W .i8 v=XV at *;clear zw
  as_aux_lemma=>
   refine fb ai mixed [.val] Tryz.func33 rfl rfl (by kernel_rfl) fun _ _ _ _ _ _ _ _ zN _ _ _ _ _ _ _ _ _ _ _ _ _ _ _ _ _ _ _ _ _ _ _ _ _ A L F hS hF=>?_
   have eg:zN .i64 a 3=0:=by rw[hS.kQ];exact hg.symm
   cbv;refine hS.cl cl ?_;cbv;repeat (first|apply bT rfl|apply bF rfl|apply nd rfl|(apply tT rfl;cbv)|(apply tF rfl;cbv))
   refine hS.cl ca ?_;cbv;simp only[eg];cbv;repeat (first|apply bT rfl|apply bF rfl|apply nd rfl|(apply tT rfl;cbv)|(apply tF rfl;cbv)|(refine fm ai mixed hS (9) ?_;cbv)|(refine hS.cl cz ?_;cbv)|(refine hS.cl Qu ?_;cbv)|(refine hS.cl T0 ?_;cbv)|(refine hS.cl OA ?_;cbv)|(refine hS.cl Lg ?_;cbv)|(refine hS.cl Im ?_;cbv)|(refine hS.cl Qw ?_;cbv)|(refine hS.cl Qv ?_;cbv)|(refine hS.cl Xp ?_;cbv)|(refine hS.cl RA ?_;cbv))
   exact ib hF ⟨aY.refl _,aY.drop _ _,aY.drop _ _,aY.drop _ _,aY.drop _ _,aY.drop _ _,aY.drop _ _,aY.refl _,aY.refl _,aY.refl _,aY.refl _,aY.refl _,aY.refl _,aY.refl _,aY.refl _,aY.drop _ _,aY.drop _ _,aY.drop _ _,aY.drop _ _,aY.drop _ _,aY.drop _ _,aY.drop _ _,aY.drop _ _,aY.drop _ _,aY.drop _ _,aY.drop _ _,aY.drop _ _,aY.drop _ _,trivial⟩
 ·refine⟨[⟨(b0:Rat),0,0,0,0,0,0,0⟩],[x0],by intro x hx;simp only[List.mem_cons,List.not_mem_nil,or_false]at hx;rcases hx with rfl;all_goals first|exact⟨qw0,rfl,rfl,rfl,rfl,rfl,rfl,rfl⟩,by simp,by intro x hx;simp only[List.mem_cons,List.not_mem_nil,or_false]at hx;rcases hx with rfl<;>assumption,by simp,?_⟩
  obtain⟨s0,t0,r0,q0,w0,_⟩:=bX (b0:Rat);obtain⟨YR,YS,YT,YU,YV,YW,YX,YY,YZ,Za,Zd,Ze,Zf,Zg,Zh,Zi,y0,_⟩:=gj f0 zw;rw[show uk [x0]=[BD x0] from rfl,show Jk [⟨(b0:Rat),0,0,0,0,0,0,0⟩]=[(qc (b0:Rat)).row++(qc 0).row++(qc 0).row++(qc 0).row++(qc 0).row++(qc 0).row++(qc 0).row++(qc 0).row] from rfl];rw[y0]at OA ⊢;rw[w0]at T0 ⊢;rw[zw];simp only[List.cons_append,List.nil_append]
  unfold mH oe;simp only[BO.row,Cf];generalize aj E=XE,aj r=X,Ca l=XL,W .i8 v=XV at *;clear zw
  as_aux_lemma=>
   refine fb ai mixed [.val] Tryz.func33 rfl rfl (by kernel_rfl) fun _ _ _ _ _ _ _ _ zN _ _ _ _ _ _ _ _ _ _ _ _ _ _ _ _ _ _ _ _ _ _ _ _ _ A L F hS hF=>?_
   have eg:zN .i64 a 3=1:=by rw[hS.kQ];exact hg.symm
   cbv;refine hS.cl cl ?_;cbv;repeat (first|apply bT rfl|apply bF rfl|apply nd rfl|(apply tT rfl;cbv)|(apply tF rfl;cbv))
   refine hS.cl ca ?_;cbv;simp only[eg];cbv;repeat (first|apply bT rfl|apply bF rfl|apply nd rfl|(apply tT rfl;cbv)|(apply tF rfl;cbv)|(refine fm ai mixed hS (9) ?_;cbv)|(refine hS.cl cz ?_;cbv)|(refine hS.cl Qu ?_;cbv)|(refine hS.cl T0 ?_;cbv)|(refine hS.cl OA ?_;cbv)|(refine hS.cl Lg ?_;cbv)|(refine hS.cl Im ?_;cbv)|(refine hS.cl Qw ?_;cbv)|(refine hS.cl Qv ?_;cbv)|(refine hS.cl Xp ?_;cbv)|(refine hS.cl RA ?_;cbv))
   exact ib hF ⟨aY.refl _,aY.drop _ _,aY.drop _ _,aY.drop _ _,aY.drop _ _,aY.drop _ _,aY.drop _ _,aY.refl _,aY.refl _,aY.refl _,aY.refl _,aY.refl _,aY.refl _,aY.refl _,aY.refl _,aY.drop _ _,aY.drop _ _,aY.drop _ _,aY.drop _ _,aY.drop _ _,aY.drop _ _,aY.drop _ _,aY.drop _ _,aY.drop _ _,aY.drop _ _,aY.drop _ _,aY.drop _ _,aY.drop _ _,trivial⟩
 ·refine⟨[⟨(b0:Rat),0,0,0,0,0,0,0⟩,⟨(b1:Rat),0,0,0,0,0,0,0⟩],[x0,x1],by intro x hx;simp only[List.mem_cons,List.not_mem_nil,or_false]at hx;rcases hx with rfl|rfl;all_goals first|exact⟨qw0,rfl,rfl,rfl,rfl,rfl,rfl,rfl⟩|exact⟨qw1,rfl,rfl,rfl,rfl,rfl,rfl,rfl⟩,by simp,by intro x hx;simp only[List.mem_cons,List.not_mem_nil,or_false]at hx;rcases hx with rfl|rfl<;>assumption,by simp,?_⟩
  obtain⟨s0,t0,r0,q0,w0,_⟩:=bX (b0:Rat);obtain⟨YR,YS,YT,YU,YV,YW,YX,YY,YZ,Za,Zd,Ze,Zf,Zg,Zh,Zi,y0,_⟩:=gj f0 zw;obtain⟨s1,t1,r1,q1,w1,_⟩:=bX (b1:Rat);obtain⟨s0b,t0b,s1b,t1b,s2b,t2b,s3b,t3b,r0b,q0b,r1b,q1b,r2b,q2b,r3b,q3b,y1,_⟩:=gj f1 zw;rw[show uk [x0,x1]=[BD x0,BD x1] from rfl,show Jk [⟨(b0:Rat),0,0,0,0,0,0,0⟩,⟨(b1:Rat),0,0,0,0,0,0,0⟩]=[(qc (b0:Rat)).row++(qc 0).row++(qc 0).row++(qc 0).row++(qc 0).row++(qc 0).row++(qc 0).row++(qc 0).row,(qc (b1:Rat)).row++(qc 0).row++(qc 0).row++(qc 0).row++(qc 0).row++(qc 0).row++(qc 0).row++(qc 0).row] from rfl]
  rw[y0]at OA ⊢;rw[w0]at T0 ⊢;rw[y1]at Qw ⊢;rw[w1]at Im ⊢;rw[zw];simp only[List.cons_append,List.nil_append];unfold mH oe;simp only[BO.row,Cf];generalize aj E=XE,aj r=X,Ca l=XL,W .i8 v=XV at *;clear zw
  as_aux_lemma=>
   refine fb ai mixed [.val] Tryz.func33 rfl rfl (by kernel_rfl) fun _ _ _ _ _ _ _ _ zN _ _ _ _ _ _ _ _ _ _ _ _ _ _ _ _ _ _ _ _ _ _ _ _ _ A L F hS hF=>?_
   have eg:zN .i64 a 3=2:=by rw[hS.kQ];exact hg.symm
   cbv;refine hS.cl cl ?_;cbv;repeat (first|apply bT rfl|apply bF rfl|apply nd rfl|(apply tT rfl;cbv)|(apply tF rfl;cbv))
   refine hS.cl ca ?_;cbv;simp only[eg];cbv;repeat (first|apply bT rfl|apply bF rfl|apply nd rfl|(apply tT rfl;cbv)|(apply tF rfl;cbv)|(refine fm ai mixed hS (9) ?_;cbv)|(refine hS.cl cz ?_;cbv)|(refine hS.cl Qu ?_;cbv)|(refine hS.cl T0 ?_;cbv)|(refine hS.cl OA ?_;cbv)|(refine hS.cl Lg ?_;cbv)|(refine hS.cl Im ?_;cbv)|(refine hS.cl Qw ?_;cbv)|(refine hS.cl Qv ?_;cbv)|(refine hS.cl Xp ?_;cbv)|(refine hS.cl RA ?_;cbv))
   exact ib hF ⟨aY.refl _,aY.drop _ _,aY.drop _ _,aY.drop _ _,aY.drop _ _,aY.drop _ _,aY.drop _ _,aY.refl _,aY.refl _,aY.refl _,aY.refl _,aY.refl _,aY.refl _,aY.refl _,aY.refl _,aY.drop _ _,aY.drop _ _,aY.drop _ _,aY.drop _ _,aY.drop _ _,aY.drop _ _,aY.drop _ _,aY.drop _ _,aY.drop _ _,aY.drop _ _,aY.drop _ _,aY.drop _ _,aY.drop _ _,trivial⟩
 ·refine⟨[⟨(b0:Rat),0,0,0,0,0,0,0⟩,⟨(b1:Rat),0,0,0,0,0,0,0⟩,⟨(b2:Rat),0,0,0,0,0,0,0⟩],[x0,x1,x2],by intro x hx;simp only[List.mem_cons,List.not_mem_nil,or_false]at hx;rcases hx with rfl|rfl|rfl;all_goals first|exact⟨qw0,rfl,rfl,rfl,rfl,rfl,rfl,rfl⟩|exact⟨qw1,rfl,rfl,rfl,rfl,rfl,rfl,rfl⟩|exact⟨qw2,rfl,rfl,rfl,rfl,rfl,rfl,rfl⟩,by simp,by intro x hx;simp only[List.mem_cons,List.not_mem_nil,or_false]at hx;rcases hx with rfl|rfl|rfl<;>assumption,by simp,?_⟩
  obtain⟨s0,t0,r0,q0,w0,_⟩:=bX (b0:Rat);obtain⟨YR,YS,YT,YU,YV,YW,YX,YY,YZ,Za,Zd,Ze,Zf,Zg,Zh,Zi,y0,_⟩:=gj f0 zw;obtain⟨s1,t1,r1,q1,w1,_⟩:=bX (b1:Rat);obtain⟨s0b,t0b,s1b,t1b,s2b,t2b,s3b,t3b,r0b,q0b,r1b,q1b,r2b,q2b,r3b,q3b,y1,_⟩:=gj f1 zw;obtain⟨s2,t2,r2,q2,w2,_⟩:=bX (b2:Rat);obtain⟨s0c,t0c,s1c,t1c,s2c,t2c,s3c,t3c,r0c,q0c,r1c,q1c,r2c,q2c,r3c,q3c,y2,_⟩:=gj f2 zw
  rw[show uk [x0,x1,x2]=[BD x0,BD x1,BD x2] from rfl,show Jk [⟨(b0:Rat),0,0,0,0,0,0,0⟩,⟨(b1:Rat),0,0,0,0,0,0,0⟩,⟨(b2:Rat),0,0,0,0,0,0,0⟩]=[(qc (b0:Rat)).row++(qc 0).row++(qc 0).row++(qc 0).row++(qc 0).row++(qc 0).row++(qc 0).row++(qc 0).row,(qc (b1:Rat)).row++(qc 0).row++(qc 0).row++(qc 0).row++(qc 0).row++(qc 0).row++(qc 0).row++(qc 0).row,(qc (b2:Rat)).row++(qc 0).row++(qc 0).row++(qc 0).row++(qc 0).row++(qc 0).row++(qc 0).row++(qc 0).row] from rfl]
  rw[y0]at OA ⊢;rw[w0]at T0 ⊢;rw[y1]at Qw ⊢;rw[w1]at Im ⊢;rw[y2]at RA ⊢;rw[w2]at Xp ⊢;rw[zw];simp only[List.cons_append,List.nil_append];unfold mH oe;simp only[BO.row,Cf];generalize aj E=XE,aj r=X,Ca l=XL,W .i8 v=XV at *;clear zw
  as_aux_lemma=>
   refine fb ai mixed [.val] Tryz.func33 rfl rfl (by kernel_rfl) fun _ _ _ _ _ _ _ _ zN _ _ _ _ _ _ _ _ _ _ _ _ _ _ _ _ _ _ _ _ _ _ _ _ _ A L F hS hF=>?_
   have eg:zN .i64 a 3=3:=by rw[hS.kQ];exact hg.symm
   cbv;refine hS.cl cl ?_;cbv;repeat (first|apply bT rfl|apply bF rfl|apply nd rfl|(apply tT rfl;cbv)|(apply tF rfl;cbv))
   refine hS.cl ca ?_;cbv;simp only[eg];cbv;repeat (first|apply bT rfl|apply bF rfl|apply nd rfl|(apply tT rfl;cbv)|(apply tF rfl;cbv)|(refine fm ai mixed hS (9) ?_;cbv)|(refine hS.cl cz ?_;cbv)|(refine hS.cl Qu ?_;cbv)|(refine hS.cl T0 ?_;cbv)|(refine hS.cl OA ?_;cbv)|(refine hS.cl Lg ?_;cbv)|(refine hS.cl Im ?_;cbv)|(refine hS.cl Qw ?_;cbv)|(refine hS.cl Qv ?_;cbv)|(refine hS.cl Xp ?_;cbv)|(refine hS.cl RA ?_;cbv))
   exact ib hF ⟨aY.refl _,aY.drop _ _,aY.drop _ _,aY.drop _ _,aY.drop _ _,aY.drop _ _,aY.drop _ _,aY.refl _,aY.refl _,aY.refl _,aY.refl _,aY.refl _,aY.refl _,aY.refl _,aY.refl _,aY.drop _ _,aY.drop _ _,aY.drop _ _,aY.drop _ _,aY.drop _ _,aY.drop _ _,aY.drop _ _,aY.drop _ _,aY.drop _ _,aY.drop _ _,aY.drop _ _,aY.drop _ _,aY.drop _ _,trivial⟩
end Go.Proofs.YtekefilngojelaaGreat
end
