/- A part of the proof. -/
import Derived.Test.YtekefilngojelaaGreatM18
import Derived.Test.YtekefilngojelaaGreatM25
import Derived.Test.YtekefilngojelaaGreatM27
import Derived.Test.YtekefilngojelaaGreatM29
set_option maxHeartbeats 0
set_option maxRecDepth 100000
set_option linter.unusedVariables false
set_option linter.unusedSimpArgs false
section
namespace Go.Proofs.YtekefilngojelaaGreat
open Go Go.Abs Go.Abs.M Go.Proofs
theorem IL (K:Int) (l:List (List R5)) (hl:L5 l) (v:List Int) (hv:JN v) (N:Int) (E:List (List T2)) (hE:E.length<=2) (XD P:Abs.Rows) (cn cd cr:Int) (XO Et Sg B:Abs.Rows) :
  ∃(Xs:List Q8) (Bs:List Bx),(∀q∈Xs,q.fit)/\Xs.length<=3/\(∀q∈Bs,q.fit)/\Bs.length<=3/\ah Tryz.prog 33 [.val (.agg (mq K l v)),.val (.agg [.v (.int .i64 N),.aa false (an E),.aa false XD]),.val (.agg (nX 13 P cn cd cr XO Et Sg B))] ⟨[.val (.agg (BW.row {Ck with Z3:=Er Xs,Z4:=oT Bs}))],[none,none,none]⟩:=by
 obtain⟨r,I1,js,cl⟩:=gg l hl;obtain⟨a,a1,a2,ca⟩:=Af v hv 4 (by omega) (by omega);obtain⟨g,hg⟩:∃g:Int,g=IntKind.wrap .i64 ((BitVec.ofInt 64 a &&& BitVec.ofInt 64 (3:Nat)).toNat):=⟨_,rfl⟩;have Ny:0<=g/\g<=3:=by rw[hg];exact jk a 3 (by omega)
 have cz:=P3 0 (by decide) (by decide);rw[show(((0:Int)):Rat)=0 from rfl]at cz;obtain⟨zs,zt,zr,zq,zw,_⟩:=bD 0;rw[zw]at cz;obtain⟨b0,b01,b02,QM⟩:=Af v hv 0 (by omega) (by omega);have Up:=P3 b0 (by omega) (by omega);have qw0:Qs (b0:Rat) 100:=Qs.whole (by omega) (by omega);obtain⟨x0,f0,OT⟩:=QK v hv 1 (by omega) (by omega);obtain⟨b1,Ie,Qk,LA⟩:=Af v hv 1 (by omega) (by omega);have II:=P3 b1 (by omega) (by omega)
 have qw1:Qs (b1:Rat) 100:=Qs.whole (by omega) (by omega);obtain⟨x1,f1,QO⟩:=QK v hv 2 (by omega) (by omega);obtain⟨b2,T0,T1,QN⟩:=Af v hv 2 (by omega) (by omega);have Yk:=P3 b2 (by omega) (by omega);have qw2:Qs (b2:Rat) 100:=Qs.whole (by omega) (by omega);obtain⟨x2,f2,R7⟩:=QK v hv 3 (by omega) (by omega);obtain rfl|rfl|rfl|rfl:g=0∨g=1∨g=2∨g=3:=by omega
 ·refine⟨[],[],by simp,by simp,by simp,by simp,?_⟩
  rw[show oT []=[] from rfl,show Er []=[] from rfl];unfold mq nX;simp only[BW.row,Ck];generalize an E=XE,an r=X,Cg l=XL,W .i8 v=XV at *;clear zw
  as_aux_lemma=>
   refine ep aj mixed [.val] Tryz.func33 rfl rfl (by kernel_rfl) fun _ _ _ _ _ _ _ _ zN _ _ _ _ _ _ _ _ _ _ _ _ _ _ _ _ _ _ _ _ _ _ _ _ _ A L F hS hF=>?_
   have eg:zN .i64 a 3=0:=by rw[hS.kI];exact hg.symm
   cbv;refine⟨_,hS.call cl,?_⟩;cbv;repeat (first|apply bT rfl|apply bF rfl|apply nd rfl|(refine tT rfl ?_;cbv)|(refine tF rfl ?_;cbv))
   refine⟨_,hS.call ca,?_⟩;cbv;simp only[eg];cbv;repeat (first|apply bT rfl|apply bF rfl|apply nd rfl|(refine tT rfl ?_;cbv)|(refine tF rfl ?_;cbv)|(refine fm aj mixed hS (9) ?_;cbv)|(refine⟨_,hS.call cz,?_⟩;cbv)|(refine⟨_,hS.call QM,?_⟩;cbv)|(refine⟨_,hS.call Up,?_⟩;cbv)|(refine⟨_,hS.call OT,?_⟩;cbv)|(refine⟨_,hS.call LA,?_⟩;cbv)|(refine⟨_,hS.call II,?_⟩;cbv)|(refine⟨_,hS.call QO,?_⟩;cbv)|(refine⟨_,hS.call QN,?_⟩;cbv)|(refine⟨_,hS.call Yk,?_⟩;cbv)|(refine⟨_,hS.call R7,?_⟩;cbv))
   exact gX hF ⟨aW.refl _,aW.drop _ _,aW.drop _ _,aW.drop _ _,aW.drop _ _,aW.drop _ _,aW.drop _ _,aW.refl _,aW.refl _,aW.refl _,aW.refl _,aW.refl _,aW.refl _,aW.refl _,aW.refl _,aW.drop _ _,aW.drop _ _,aW.drop _ _,aW.drop _ _,aW.drop _ _,aW.drop _ _,aW.drop _ _,aW.drop _ _,aW.drop _ _,aW.drop _ _,aW.drop _ _,aW.drop _ _,aW.drop _ _,trivial⟩
 ·refine⟨[⟨(b0:Rat),0,0,0,0,0,0,0⟩],[x0],by intro x hx;simp only[List.mem_cons,List.not_mem_nil,or_false]at hx;rcases hx with rfl;all_goals first|exact⟨qw0,rfl,rfl,rfl,rfl,rfl,rfl,rfl⟩,by simp,by intro x hx;simp only[List.mem_cons,List.not_mem_nil,or_false]at hx;rcases hx with rfl<;>assumption,by simp,?_⟩
  obtain⟨s0,t0,r0,q0,w0,_⟩:=bD (b0:Rat);obtain⟨ZU,ZV,ZW,ZX,ZY,ZZ,Z0,Z5,Z6,Z7,Z8,Z9,r2a,q2a,r3a,q3a,y0,_⟩:=fU f0 zw;rw[show oT [x0]=[BH x0] from rfl,show Er [⟨(b0:Rat),0,0,0,0,0,0,0⟩]=[(qc (b0:Rat)).row++(qc 0).row++(qc 0).row++(qc 0).row++(qc 0).row++(qc 0).row++(qc 0).row++(qc 0).row] from rfl];rw[y0]at OT ⊢;rw[w0]at Up ⊢;rw[zw];simp only[List.cons_append,List.nil_append]
  unfold mq nX;simp only[BW.row,Ck];generalize an E=XE,an r=X,Cg l=XL,W .i8 v=XV at *;clear zw
  as_aux_lemma=>
   refine ep aj mixed [.val] Tryz.func33 rfl rfl (by kernel_rfl) fun _ _ _ _ _ _ _ _ zN _ _ _ _ _ _ _ _ _ _ _ _ _ _ _ _ _ _ _ _ _ _ _ _ _ A L F hS hF=>?_
   have eg:zN .i64 a 3=1:=by rw[hS.kI];exact hg.symm
   cbv;refine⟨_,hS.call cl,?_⟩;cbv;repeat (first|apply bT rfl|apply bF rfl|apply nd rfl|(refine tT rfl ?_;cbv)|(refine tF rfl ?_;cbv))
   refine⟨_,hS.call ca,?_⟩;cbv;simp only[eg];cbv;repeat (first|apply bT rfl|apply bF rfl|apply nd rfl|(refine tT rfl ?_;cbv)|(refine tF rfl ?_;cbv)|(refine fm aj mixed hS (9) ?_;cbv)|(refine⟨_,hS.call cz,?_⟩;cbv)|(refine⟨_,hS.call QM,?_⟩;cbv)|(refine⟨_,hS.call Up,?_⟩;cbv)|(refine⟨_,hS.call OT,?_⟩;cbv)|(refine⟨_,hS.call LA,?_⟩;cbv)|(refine⟨_,hS.call II,?_⟩;cbv)|(refine⟨_,hS.call QO,?_⟩;cbv)|(refine⟨_,hS.call QN,?_⟩;cbv)|(refine⟨_,hS.call Yk,?_⟩;cbv)|(refine⟨_,hS.call R7,?_⟩;cbv))
   exact gX hF ⟨aW.refl _,aW.drop _ _,aW.drop _ _,aW.drop _ _,aW.drop _ _,aW.drop _ _,aW.drop _ _,aW.refl _,aW.refl _,aW.refl _,aW.refl _,aW.refl _,aW.refl _,aW.refl _,aW.refl _,aW.drop _ _,aW.drop _ _,aW.drop _ _,aW.drop _ _,aW.drop _ _,aW.drop _ _,aW.drop _ _,aW.drop _ _,aW.drop _ _,aW.drop _ _,aW.drop _ _,aW.drop _ _,aW.drop _ _,trivial⟩
 ·refine⟨[⟨(b0:Rat),0,0,0,0,0,0,0⟩,⟨(b1:Rat),0,0,0,0,0,0,0⟩],[x0,x1],by intro x hx;simp only[List.mem_cons,List.not_mem_nil,or_false]at hx;rcases hx with rfl|rfl;all_goals first|exact⟨qw0,rfl,rfl,rfl,rfl,rfl,rfl,rfl⟩|exact⟨qw1,rfl,rfl,rfl,rfl,rfl,rfl,rfl⟩,by simp,by intro x hx;simp only[List.mem_cons,List.not_mem_nil,or_false]at hx;rcases hx with rfl|rfl<;>assumption,by simp,?_⟩
  obtain⟨s0,t0,r0,q0,w0,_⟩:=bD (b0:Rat);obtain⟨ZU,ZV,ZW,ZX,ZY,ZZ,Z0,Z5,Z6,Z7,Z8,Z9,r2a,q2a,r3a,q3a,y0,_⟩:=fU f0 zw;obtain⟨s1,t1,r1,q1,w1,_⟩:=bD (b1:Rat);obtain⟨s0b,t0b,s1b,t1b,s2b,t2b,s3b,t3b,r0b,q0b,r1b,q1b,r2b,q2b,r3b,q3b,y1,_⟩:=fU f1 zw;rw[show oT [x0,x1]=[BH x0,BH x1] from rfl,show Er [⟨(b0:Rat),0,0,0,0,0,0,0⟩,⟨(b1:Rat),0,0,0,0,0,0,0⟩]=[(qc (b0:Rat)).row++(qc 0).row++(qc 0).row++(qc 0).row++(qc 0).row++(qc 0).row++(qc 0).row++(qc 0).row,(qc (b1:Rat)).row++(qc 0).row++(qc 0).row++(qc 0).row++(qc 0).row++(qc 0).row++(qc 0).row++(qc 0).row] from rfl]
  rw[y0]at OT ⊢;rw[w0]at Up ⊢;rw[y1]at QO ⊢;rw[w1]at II ⊢;rw[zw];simp only[List.cons_append,List.nil_append];unfold mq nX;simp only[BW.row,Ck];generalize an E=XE,an r=X,Cg l=XL,W .i8 v=XV at *;clear zw
  as_aux_lemma=>
   refine ep aj mixed [.val] Tryz.func33 rfl rfl (by kernel_rfl) fun _ _ _ _ _ _ _ _ zN _ _ _ _ _ _ _ _ _ _ _ _ _ _ _ _ _ _ _ _ _ _ _ _ _ A L F hS hF=>?_
   have eg:zN .i64 a 3=2:=by rw[hS.kI];exact hg.symm
   cbv;refine⟨_,hS.call cl,?_⟩;cbv;repeat (first|apply bT rfl|apply bF rfl|apply nd rfl|(refine tT rfl ?_;cbv)|(refine tF rfl ?_;cbv))
   refine⟨_,hS.call ca,?_⟩;cbv;simp only[eg];cbv;repeat (first|apply bT rfl|apply bF rfl|apply nd rfl|(refine tT rfl ?_;cbv)|(refine tF rfl ?_;cbv)|(refine fm aj mixed hS (9) ?_;cbv)|(refine⟨_,hS.call cz,?_⟩;cbv)|(refine⟨_,hS.call QM,?_⟩;cbv)|(refine⟨_,hS.call Up,?_⟩;cbv)|(refine⟨_,hS.call OT,?_⟩;cbv)|(refine⟨_,hS.call LA,?_⟩;cbv)|(refine⟨_,hS.call II,?_⟩;cbv)|(refine⟨_,hS.call QO,?_⟩;cbv)|(refine⟨_,hS.call QN,?_⟩;cbv)|(refine⟨_,hS.call Yk,?_⟩;cbv)|(refine⟨_,hS.call R7,?_⟩;cbv))
   exact gX hF ⟨aW.refl _,aW.drop _ _,aW.drop _ _,aW.drop _ _,aW.drop _ _,aW.drop _ _,aW.drop _ _,aW.refl _,aW.refl _,aW.refl _,aW.refl _,aW.refl _,aW.refl _,aW.refl _,aW.refl _,aW.drop _ _,aW.drop _ _,aW.drop _ _,aW.drop _ _,aW.drop _ _,aW.drop _ _,aW.drop _ _,aW.drop _ _,aW.drop _ _,aW.drop _ _,aW.drop _ _,aW.drop _ _,aW.drop _ _,trivial⟩
 ·refine⟨[⟨(b0:Rat),0,0,0,0,0,0,0⟩,⟨(b1:Rat),0,0,0,0,0,0,0⟩,⟨(b2:Rat),0,0,0,0,0,0,0⟩],[x0,x1,x2],by intro x hx;simp only[List.mem_cons,List.not_mem_nil,or_false]at hx;rcases hx with rfl|rfl|rfl;all_goals first|exact⟨qw0,rfl,rfl,rfl,rfl,rfl,rfl,rfl⟩|exact⟨qw1,rfl,rfl,rfl,rfl,rfl,rfl,rfl⟩|exact⟨qw2,rfl,rfl,rfl,rfl,rfl,rfl,rfl⟩,by simp,by intro x hx;simp only[List.mem_cons,List.not_mem_nil,or_false]at hx;rcases hx with rfl|rfl|rfl<;>assumption,by simp,?_⟩
  obtain⟨s0,t0,r0,q0,w0,_⟩:=bD (b0:Rat);obtain⟨ZU,ZV,ZW,ZX,ZY,ZZ,Z0,Z5,Z6,Z7,Z8,Z9,r2a,q2a,r3a,q3a,y0,_⟩:=fU f0 zw;obtain⟨s1,t1,r1,q1,w1,_⟩:=bD (b1:Rat);obtain⟨s0b,t0b,s1b,t1b,s2b,t2b,s3b,t3b,r0b,q0b,r1b,q1b,r2b,q2b,r3b,q3b,y1,_⟩:=fU f1 zw;obtain⟨s2,t2,r2,q2,w2,_⟩:=bD (b2:Rat);obtain⟨s0c,t0c,s1c,t1c,s2c,t2c,s3c,t3c,r0c,q0c,r1c,q1c,r2c,q2c,r3c,q3c,y2,_⟩:=fU f2 zw
  rw[show oT [x0,x1,x2]=[BH x0,BH x1,BH x2] from rfl,show Er [⟨(b0:Rat),0,0,0,0,0,0,0⟩,⟨(b1:Rat),0,0,0,0,0,0,0⟩,⟨(b2:Rat),0,0,0,0,0,0,0⟩]=[(qc (b0:Rat)).row++(qc 0).row++(qc 0).row++(qc 0).row++(qc 0).row++(qc 0).row++(qc 0).row++(qc 0).row,(qc (b1:Rat)).row++(qc 0).row++(qc 0).row++(qc 0).row++(qc 0).row++(qc 0).row++(qc 0).row++(qc 0).row,(qc (b2:Rat)).row++(qc 0).row++(qc 0).row++(qc 0).row++(qc 0).row++(qc 0).row++(qc 0).row++(qc 0).row] from rfl]
  rw[y0]at OT ⊢;rw[w0]at Up ⊢;rw[y1]at QO ⊢;rw[w1]at II ⊢;rw[y2]at R7 ⊢;rw[w2]at Yk ⊢;rw[zw];simp only[List.cons_append,List.nil_append];unfold mq nX;simp only[BW.row,Ck];generalize an E=XE,an r=X,Cg l=XL,W .i8 v=XV at *;clear zw
  as_aux_lemma=>
   refine ep aj mixed [.val] Tryz.func33 rfl rfl (by kernel_rfl) fun _ _ _ _ _ _ _ _ zN _ _ _ _ _ _ _ _ _ _ _ _ _ _ _ _ _ _ _ _ _ _ _ _ _ A L F hS hF=>?_
   have eg:zN .i64 a 3=3:=by rw[hS.kI];exact hg.symm
   cbv;refine⟨_,hS.call cl,?_⟩;cbv;repeat (first|apply bT rfl|apply bF rfl|apply nd rfl|(refine tT rfl ?_;cbv)|(refine tF rfl ?_;cbv))
   refine⟨_,hS.call ca,?_⟩;cbv;simp only[eg];cbv;repeat (first|apply bT rfl|apply bF rfl|apply nd rfl|(refine tT rfl ?_;cbv)|(refine tF rfl ?_;cbv)|(refine fm aj mixed hS (9) ?_;cbv)|(refine⟨_,hS.call cz,?_⟩;cbv)|(refine⟨_,hS.call QM,?_⟩;cbv)|(refine⟨_,hS.call Up,?_⟩;cbv)|(refine⟨_,hS.call OT,?_⟩;cbv)|(refine⟨_,hS.call LA,?_⟩;cbv)|(refine⟨_,hS.call II,?_⟩;cbv)|(refine⟨_,hS.call QO,?_⟩;cbv)|(refine⟨_,hS.call QN,?_⟩;cbv)|(refine⟨_,hS.call Yk,?_⟩;cbv)|(refine⟨_,hS.call R7,?_⟩;cbv))
   exact gX hF ⟨aW.refl _,aW.drop _ _,aW.drop _ _,aW.drop _ _,aW.drop _ _,aW.drop _ _,aW.drop _ _,aW.refl _,aW.refl _,aW.refl _,aW.refl _,aW.refl _,aW.refl _,aW.refl _,aW.refl _,aW.drop _ _,aW.drop _ _,aW.drop _ _,aW.drop _ _,aW.drop _ _,aW.drop _ _,aW.drop _ _,aW.drop _ _,aW.drop _ _,aW.drop _ _,aW.drop _ _,aW.drop _ _,aW.drop _ _,trivial⟩
end Go.Proofs.YtekefilngojelaaGreat
end
