/-
  A part of the proof: TuN3t.
-/
import Derived.Test.YtekefilngojelaaGreatM18
import Derived.Test.YtekefilngojelaaGreatM26
import Derived.Test.YtekefilngojelaaGreatM28
import Derived.Test.YtekefilngojelaaGreatM29
set_option maxHeartbeats 0
set_option maxRecDepth 100000
set_option linter.unusedVariables false
set_option linter.unusedSimpArgs false
set_option linter.unusedSectionVars false
section
namespace Go.Proofs.YtekefilngojelaaGreat
open Go Go.Abs Go.Abs.M Go.Proofs
theorem Gg (K:Int) (l:List (List R5)) (hl:pP l) (v:List Int) (hv:nS v) (N:Int) (E:List (List T2)) (hE:E.length<=2) (XD P:Abs.Rows) (cn cd cr:Int) (XO tW Sg B:Abs.Rows) :
  ∃(Xs:List Q8) (Bs:List Bx),(∀q∈Xs,q.fit)/\Xs.length<=3/\(∀q∈Bs,q.fit)/\Bs.length<=3/\aA Tryz.prog 33 [.val (.agg (bQ K l v)),.val (.agg [.v (.int .i64 N),.aa false (aQ E),.aa false XD]),.val (.agg (kb 13 P cn cd cr XO tW Sg B))] ⟨[.val (.agg (jf.row {ka with Z3:=RA Xs,Z4:=yR Bs}))],[none,none,none]⟩:=by
 obtain⟨r,na,eL,cl⟩:=sZ l hl;obtain⟨a,a1,a2,ca⟩:=jg v hv 4 (by omega) (by omega);obtain⟨g,hg⟩:∃g:Int,g=IntKind.wrap .i64 ((BitVec.ofInt 64 a &&& BitVec.ofInt 64 (3:Nat)).toNat):=⟨_,rfl⟩;have ub:0<=g/\g<=3:=by rw[hg];exact nT a 3 (by omega)
 have cz:=Oe 0 (by decide) (by decide);rw[show(((0:Int)):Rat)=0 from rfl]at cz;obtain⟨zs,zt,zr,zq,zw,_⟩:=bq 0;rw[zw]at cz;obtain⟨b0,L7,L8,tV⟩:=jg v hv 0 (by omega) (by omega);have QU:=Oe b0 (by omega) (by omega);have qw0:Qs (b0:Rat) 100:=Qs.whole (by omega) (by omega);obtain⟨x0,f0,nU⟩:=F7 v hv 1 (by omega) (by omega);obtain⟨b1,OE,OF,Ab⟩:=jg v hv 1 (by omega) (by omega);have F6:=Oe b1 (by omega) (by omega)
 have qw1:Qs (b1:Rat) 100:=Qs.whole (by omega) (by omega);obtain⟨x1,f1,uL⟩:=F7 v hv 2 (by omega) (by omega);obtain⟨b2,RH,RJ,G8⟩:=jg v hv 2 (by omega) (by omega);have UL:=Oe b2 (by omega) (by omega);have qw2:Qs (b2:Rat) 100:=Qs.whole (by omega) (by omega);obtain⟨x2,f2,Gf⟩:=F7 v hv 3 (by omega) (by omega);obtain rfl|rfl|rfl|rfl:g=0∨g=1∨g=2∨g=3:=by omega
 ·refine⟨[],[],by simp,by simp,by simp,by simp,?_⟩
  rw[show yR []=[] from rfl,show RA []=[] from rfl];unfold bQ kb;simp only[jf.row,ka];generalize aQ E=XE at *;generalize aQ r=X at *;generalize gl l=XL at *;generalize W .i8 v=XV at *;clear zw
  as_aux_lemma=>
   refine je aD mixed [.val] Tryz.func33 rfl rfl (by kernel_rfl) fun zD zE zG zH zI zJ zK zL zM zN zO zR zS zT zU zV zX zg zh zj zu zz aI aH ak aq au aM aN ay aw aL ar zW bc A L F hS hF=>?_
   have eg:zM .i64 a 3=0:=by rw[hS.bP];exact hg.symm
   cbv;refine⟨_,hS.call (cl),?_⟩;cbv;repeat (first|refine bT rfl ?_|refine bF rfl ?_|refine nd rfl ?_|(refine tT rfl ?_;cbv)|(refine tF rfl ?_;cbv))
   refine⟨_,hS.call (ca),?_⟩;cbv;simp only[eg];cbv;repeat (first|refine bT rfl ?_|refine bF rfl ?_|refine nd rfl ?_|(refine tT rfl ?_;cbv)|(refine tF rfl ?_;cbv)|(refine cX aD mixed hS (9) ?_;cbv)|(refine⟨_,hS.call cz,?_⟩;cbv)|(refine⟨_,hS.call tV,?_⟩;cbv)|(refine⟨_,hS.call QU,?_⟩;cbv)|(refine⟨_,hS.call nU,?_⟩;cbv)|(refine⟨_,hS.call Ab,?_⟩;cbv)|(refine⟨_,hS.call F6,?_⟩;cbv)|(refine⟨_,hS.call uL,?_⟩;cbv)|(refine⟨_,hS.call G8,?_⟩;cbv)|(refine⟨_,hS.call UL,?_⟩;cbv)|(refine⟨_,hS.call Gf,?_⟩;cbv))
   exact bE hF ⟨ab.refl _,ab.drop _ _,ab.drop _ _,ab.drop _ _,ab.drop _ _,ab.drop _ _,ab.drop _ _,ab.refl _,ab.refl _,ab.refl _,ab.refl _,ab.refl _,ab.refl _,ab.refl _,ab.refl _,ab.drop _ _,ab.drop _ _,ab.drop _ _,ab.drop _ _,ab.drop _ _,ab.drop _ _,ab.drop _ _,ab.drop _ _,ab.drop _ _,ab.drop _ _,ab.drop _ _,ab.drop _ _,ab.drop _ _,trivial⟩
 ·refine⟨[⟨(b0:Rat),0,0,0,0,0,0,0⟩],[x0],by intro x hx;simp only[List.mem_cons,List.not_mem_nil,or_false]at hx;rcases hx with rfl;all_goals first|exact⟨qw0,rfl,rfl,rfl,rfl,rfl,rfl,rfl⟩,by simp,by intro x hx;simp only[List.mem_cons,List.not_mem_nil,or_false]at hx;rcases hx with rfl<;>assumption,by simp,?_⟩
  obtain⟨s0,t0,r0,q0,w0,_⟩:=bq (b0:Rat);obtain⟨fJ,fK,fL,fM,lk,lp,lq,lx,fN,fO,fP,fQ,ly,lz,lA,lB,y0⟩:=Cn f0 zw;rw[show yR [x0]=[mS x0] from rfl,show RA [⟨(b0:Rat),0,0,0,0,0,0,0⟩]=[(qc (b0:Rat)).row++(qc 0).row++(qc 0).row++(qc 0).row++(qc 0).row++(qc 0).row++(qc 0).row++(qc 0).row] from rfl];rw[y0]at nU ⊢;rw[w0]at QU ⊢;rw[zw];simp only[List.cons_append,List.nil_append];unfold bQ kb
  simp only[jf.row,ka];generalize aQ E=XE at *;generalize aQ r=X at *;generalize gl l=XL at *;generalize W .i8 v=XV at *;clear zw
  as_aux_lemma=>
   refine je aD mixed [.val] Tryz.func33 rfl rfl (by kernel_rfl) fun zD zE zG zH zI zJ zK zL zM zN zO zR zS zT zU zV zX zg zh zj zu zz aI aH ak aq au aM aN ay aw aL ar zW bc A L F hS hF=>?_
   have eg:zM .i64 a 3=1:=by rw[hS.bP];exact hg.symm
   cbv;refine⟨_,hS.call (cl),?_⟩;cbv;repeat (first|refine bT rfl ?_|refine bF rfl ?_|refine nd rfl ?_|(refine tT rfl ?_;cbv)|(refine tF rfl ?_;cbv))
   refine⟨_,hS.call (ca),?_⟩;cbv;simp only[eg];cbv;repeat (first|refine bT rfl ?_|refine bF rfl ?_|refine nd rfl ?_|(refine tT rfl ?_;cbv)|(refine tF rfl ?_;cbv)|(refine cX aD mixed hS (9) ?_;cbv)|(refine⟨_,hS.call cz,?_⟩;cbv)|(refine⟨_,hS.call tV,?_⟩;cbv)|(refine⟨_,hS.call QU,?_⟩;cbv)|(refine⟨_,hS.call nU,?_⟩;cbv)|(refine⟨_,hS.call Ab,?_⟩;cbv)|(refine⟨_,hS.call F6,?_⟩;cbv)|(refine⟨_,hS.call uL,?_⟩;cbv)|(refine⟨_,hS.call G8,?_⟩;cbv)|(refine⟨_,hS.call UL,?_⟩;cbv)|(refine⟨_,hS.call Gf,?_⟩;cbv))
   exact bE hF ⟨ab.refl _,ab.drop _ _,ab.drop _ _,ab.drop _ _,ab.drop _ _,ab.drop _ _,ab.drop _ _,ab.refl _,ab.refl _,ab.refl _,ab.refl _,ab.refl _,ab.refl _,ab.refl _,ab.refl _,ab.drop _ _,ab.drop _ _,ab.drop _ _,ab.drop _ _,ab.drop _ _,ab.drop _ _,ab.drop _ _,ab.drop _ _,ab.drop _ _,ab.drop _ _,ab.drop _ _,ab.drop _ _,ab.drop _ _,trivial⟩
 ·refine⟨[⟨(b0:Rat),0,0,0,0,0,0,0⟩,⟨(b1:Rat),0,0,0,0,0,0,0⟩],[x0,x1],by intro x hx;simp only[List.mem_cons,List.not_mem_nil,or_false]at hx;rcases hx with rfl|rfl;all_goals first|exact⟨qw0,rfl,rfl,rfl,rfl,rfl,rfl,rfl⟩|exact⟨qw1,rfl,rfl,rfl,rfl,rfl,rfl,rfl⟩,by simp,by intro x hx;simp only[List.mem_cons,List.not_mem_nil,or_false]at hx;rcases hx with rfl|rfl<;>assumption,by simp,?_⟩
  obtain⟨s0,t0,r0,q0,w0,_⟩:=bq (b0:Rat);obtain⟨fJ,fK,fL,fM,lk,lp,lq,lx,fN,fO,fP,fQ,ly,lz,lA,lB,y0⟩:=Cn f0 zw;obtain⟨s1,t1,r1,q1,w1,_⟩:=bq (b1:Rat);obtain⟨rv,ry,rA,rB,BQ,BR,BS,BV,rC,rD,rE,rF,BW,BX,BY,BZ,y1⟩:=Cn f1 zw;rw[show yR [x0,x1]=[mS x0,mS x1] from rfl,show RA [⟨(b0:Rat),0,0,0,0,0,0,0⟩,⟨(b1:Rat),0,0,0,0,0,0,0⟩]=[(qc (b0:Rat)).row++(qc 0).row++(qc 0).row++(qc 0).row++(qc 0).row++(qc 0).row++(qc 0).row++(qc 0).row,(qc (b1:Rat)).row++(qc 0).row++(qc 0).row++(qc 0).row++(qc 0).row++(qc 0).row++(qc 0).row++(qc 0).row] from rfl]
  rw[y0]at nU ⊢;rw[w0]at QU ⊢;rw[y1]at uL ⊢;rw[w1]at F6 ⊢;rw[zw];simp only[List.cons_append,List.nil_append];unfold bQ kb;simp only[jf.row,ka];generalize aQ E=XE at *;generalize aQ r=X at *;generalize gl l=XL at *;generalize W .i8 v=XV at *;clear zw
  as_aux_lemma=>
   refine je aD mixed [.val] Tryz.func33 rfl rfl (by kernel_rfl) fun zD zE zG zH zI zJ zK zL zM zN zO zR zS zT zU zV zX zg zh zj zu zz aI aH ak aq au aM aN ay aw aL ar zW bc A L F hS hF=>?_
   have eg:zM .i64 a 3=2:=by rw[hS.bP];exact hg.symm
   cbv;refine⟨_,hS.call (cl),?_⟩;cbv;repeat (first|refine bT rfl ?_|refine bF rfl ?_|refine nd rfl ?_|(refine tT rfl ?_;cbv)|(refine tF rfl ?_;cbv))
   refine⟨_,hS.call (ca),?_⟩;cbv;simp only[eg];cbv;repeat (first|refine bT rfl ?_|refine bF rfl ?_|refine nd rfl ?_|(refine tT rfl ?_;cbv)|(refine tF rfl ?_;cbv)|(refine cX aD mixed hS (9) ?_;cbv)|(refine⟨_,hS.call cz,?_⟩;cbv)|(refine⟨_,hS.call tV,?_⟩;cbv)|(refine⟨_,hS.call QU,?_⟩;cbv)|(refine⟨_,hS.call nU,?_⟩;cbv)|(refine⟨_,hS.call Ab,?_⟩;cbv)|(refine⟨_,hS.call F6,?_⟩;cbv)|(refine⟨_,hS.call uL,?_⟩;cbv)|(refine⟨_,hS.call G8,?_⟩;cbv)|(refine⟨_,hS.call UL,?_⟩;cbv)|(refine⟨_,hS.call Gf,?_⟩;cbv))
   exact bE hF ⟨ab.refl _,ab.drop _ _,ab.drop _ _,ab.drop _ _,ab.drop _ _,ab.drop _ _,ab.drop _ _,ab.refl _,ab.refl _,ab.refl _,ab.refl _,ab.refl _,ab.refl _,ab.refl _,ab.refl _,ab.drop _ _,ab.drop _ _,ab.drop _ _,ab.drop _ _,ab.drop _ _,ab.drop _ _,ab.drop _ _,ab.drop _ _,ab.drop _ _,ab.drop _ _,ab.drop _ _,ab.drop _ _,ab.drop _ _,trivial⟩
 ·refine⟨[⟨(b0:Rat),0,0,0,0,0,0,0⟩,⟨(b1:Rat),0,0,0,0,0,0,0⟩,⟨(b2:Rat),0,0,0,0,0,0,0⟩],[x0,x1,x2],by intro x hx;simp only[List.mem_cons,List.not_mem_nil,or_false]at hx;rcases hx with rfl|rfl|rfl;all_goals first|exact⟨qw0,rfl,rfl,rfl,rfl,rfl,rfl,rfl⟩|exact⟨qw1,rfl,rfl,rfl,rfl,rfl,rfl,rfl⟩|exact⟨qw2,rfl,rfl,rfl,rfl,rfl,rfl,rfl⟩,by simp,by intro x hx;simp only[List.mem_cons,List.not_mem_nil,or_false]at hx;rcases hx with rfl|rfl|rfl<;>assumption,by simp,?_⟩
  obtain⟨s0,t0,r0,q0,w0,_⟩:=bq (b0:Rat);obtain⟨fJ,fK,fL,fM,lk,lp,lq,lx,fN,fO,fP,fQ,ly,lz,lA,lB,y0⟩:=Cn f0 zw;obtain⟨s1,t1,r1,q1,w1,_⟩:=bq (b1:Rat);obtain⟨rv,ry,rA,rB,BQ,BR,BS,BV,rC,rD,rE,rF,BW,BX,BY,BZ,y1⟩:=Cn f1 zw;obtain⟨s2,t2,r2,q2,w2,_⟩:=bq (b2:Rat);obtain⟨Jg,Jh,Ji,Jj,Ov,Ow,Ox,Oy,Jk,Jl,Jm,Jn,OA,OB,OC,OD,y2⟩:=Cn f2 zw;rw[show yR [x0,x1,x2]=[mS x0,mS x1,mS x2] from rfl,show RA [⟨(b0:Rat),0,0,0,0,0,0,0⟩,⟨(b1:Rat),0,0,0,0,0,0,0⟩,⟨(b2:Rat),0,0,0,0,0,0,0⟩]=[(qc (b0:Rat)).row++(qc 0).row++(qc 0).row++(qc 0).row++(qc 0).row++(qc 0).row++(qc 0).row++(qc 0).row,(qc (b1:Rat)).row++(qc 0).row++(qc 0).row++(qc 0).row++(qc 0).row++(qc 0).row++(qc 0).row++(qc 0).row,(qc (b2:Rat)).row++(qc 0).row++(qc 0).row++(qc 0).row++(qc 0).row++(qc 0).row++(qc 0).row++(qc 0).row] from rfl]
  rw[y0]at nU ⊢;rw[w0]at QU ⊢;rw[y1]at uL ⊢;rw[w1]at F6 ⊢;rw[y2]at Gf ⊢;rw[w2]at UL ⊢;rw[zw];simp only[List.cons_append,List.nil_append];unfold bQ kb;simp only[jf.row,ka];generalize aQ E=XE at *;generalize aQ r=X at *;generalize gl l=XL at *;generalize W .i8 v=XV at *;clear zw
  as_aux_lemma=>
   refine je aD mixed [.val] Tryz.func33 rfl rfl (by kernel_rfl) fun zD zE zG zH zI zJ zK zL zM zN zO zR zS zT zU zV zX zg zh zj zu zz aI aH ak aq au aM aN ay aw aL ar zW bc A L F hS hF=>?_
   have eg:zM .i64 a 3=3:=by rw[hS.bP];exact hg.symm
   cbv;refine⟨_,hS.call (cl),?_⟩;cbv;repeat (first|refine bT rfl ?_|refine bF rfl ?_|refine nd rfl ?_|(refine tT rfl ?_;cbv)|(refine tF rfl ?_;cbv))
   refine⟨_,hS.call (ca),?_⟩;cbv;simp only[eg];cbv;repeat (first|refine bT rfl ?_|refine bF rfl ?_|refine nd rfl ?_|(refine tT rfl ?_;cbv)|(refine tF rfl ?_;cbv)|(refine cX aD mixed hS (9) ?_;cbv)|(refine⟨_,hS.call cz,?_⟩;cbv)|(refine⟨_,hS.call tV,?_⟩;cbv)|(refine⟨_,hS.call QU,?_⟩;cbv)|(refine⟨_,hS.call nU,?_⟩;cbv)|(refine⟨_,hS.call Ab,?_⟩;cbv)|(refine⟨_,hS.call F6,?_⟩;cbv)|(refine⟨_,hS.call uL,?_⟩;cbv)|(refine⟨_,hS.call G8,?_⟩;cbv)|(refine⟨_,hS.call UL,?_⟩;cbv)|(refine⟨_,hS.call Gf,?_⟩;cbv))
   exact bE hF ⟨ab.refl _,ab.drop _ _,ab.drop _ _,ab.drop _ _,ab.drop _ _,ab.drop _ _,ab.drop _ _,ab.refl _,ab.refl _,ab.refl _,ab.refl _,ab.refl _,ab.refl _,ab.refl _,ab.refl _,ab.drop _ _,ab.drop _ _,ab.drop _ _,ab.drop _ _,ab.drop _ _,ab.drop _ _,ab.drop _ _,ab.drop _ _,ab.drop _ _,ab.drop _ _,ab.drop _ _,ab.drop _ _,ab.drop _ _,trivial⟩
end Go.Proofs.YtekefilngojelaaGreat
end
