/-
  A part of the proof: TuK3t.
-/
import Derived.Test.YtekefilngojelaaGreatM18
import Derived.Test.YtekefilngojelaaGreatM28
set_option maxHeartbeats 0
set_option maxRecDepth 100000
set_option linter.unusedVariables false
set_option linter.unusedSimpArgs false
set_option linter.unusedSectionVars false
section
namespace Go.Proofs.YtekefilngojelaaGreat
open Go Go.Abs Go.Abs.M Go.Proofs
def ka:jf:=⟨0,[],[],[],[],[],[],0,0,0,0,0,0,0,0,[],[],[],[],[],[],[],[],[],[],[],[],[]⟩
def kb (k:Int) (P:Abs.Rows) (cn cd cr:Int) (O Lc Sg B:Abs.Rows):List Tree:=[.v (.int .i64 k),.aa false P,.v (.int .i64 cn),.v (.int .i64 cd),.v (.int .i64 cr),.aa false O,.aa false Lc,.aa false Sg,.aa false B]
theorem IJ (K:Int) (l:List (List R5)) (hl:pP l) (v:List Int) (hv:nS v) (N:Int) (E:List (List T2)) (hE:E.length<=2) (XD P:Abs.Rows) (cn cd cr:Int) (XO tW Sg B:Abs.Rows) :
  ∃gC,gC.length=E.length/\(∀p∈gC,SP p)/\aA Tryz.prog 33 [.val (.agg (bQ K l v)),.val (.agg [.v (.int .i64 N),.aa false (aQ E),.aa false XD]),.val (.agg (kb 1 P cn cd cr XO tW Sg B))] ⟨[.val (.agg (jf.row {ka with X1:=aQ gC}))],[none,none,none]⟩:=by
 obtain⟨r,na,eL,cl⟩:=sZ l hl;have sp:∀p∈r,SP p:=fun p hp=>(eL p hp).sp (by omega)
 obtain⟨a,a1,a2,ca⟩:=jg v hv 4 (by omega) (by omega);obtain⟨g,hg⟩:∃g:Int,g=IntKind.wrap .i64 ((BitVec.ofInt 64 a &&& BitVec.ofInt 64 (3:Nat)).toNat):=⟨_,rfl⟩;have ub:0<=g/\g<=3:=by rw[hg];exact nT a 3 (by omega)
 obtain⟨m,hm⟩:∃m,m=E.length:=⟨_,rfl⟩;have lE:(aQ E).length=m:=by rw[lj,hm]
 obtain⟨mI,iD⟩:∃i:Int,i=(m:Int):=⟨_,rfl⟩;obtain⟨gC,c1,c2,cc⟩:=sW r sp (by omega) 1 (by omega) (by omega) m (by omega);rw[<-iD]at cc;refine⟨gC,by omega,c2,?_⟩;unfold bQ kb;simp only[jf.row,ka];generalize aQ E=XE at *;generalize aQ r=X at *;generalize gl l=XL at *;generalize W .i8 v=XV at *;generalize aQ gC=XC at *;refine bz aD mixed [.val] Tryz.func33 rfl rfl (by kernel_rfl) fun zD zE zG zH zI zJ zK zL zM zN zO zR zS zT zU zV zX zY zZ zg zh zj zu zy zz aK ah aI aH ak aq ae aE aB aG ao az aJ an aO au aP ai aM aN ay aw aL ar zW bc A L F hS hF=>?_
 have em:zy (ae XE)=mI:=by rw[hS.aW,hS.len,lE,iD]
 have eg:zM .i64 a 3=g:=by rw[hS.bP,hg];rfl
 refine bg ?_;cbv;refine⟨_,hS.call (cl),?_⟩;cbv;repeat (first|(refine tT rfl ?_;cbv)|(refine tF rfl ?_;cbv)|(refine nd rfl ?_;cbv))
 refine⟨_,hS.call (ca),?_⟩;cbv;simp only[eg,em];cbv;repeat (first|(refine tT rfl ?_;cbv)|(refine tF rfl ?_;cbv)|(refine nd rfl ?_;cbv))
 refine⟨_,hS.call (cc),?_⟩;cbv;repeat (first|(refine tT rfl ?_;cbv)|(refine tF rfl ?_;cbv)|(refine nd rfl ?_;cbv))
 refine ba aD mixed hS (1) ?_;cbv;refine⟨fun _=>?_,fun _=>?_⟩
 ·repeat (first|refine bT rfl ?_|refine bF rfl ?_|refine nd rfl ?_)
  repeat (first|(refine tT rfl ?_;cbv)|(refine tF rfl ?_;cbv)|(refine nd rfl ?_;cbv))
  exact bE hF ⟨ab.refl _,ab.refl _,ab.drop _ _,ab.drop _ _,ab.drop _ _,ab.drop _ _,ab.drop _ _,ab.refl _,ab.refl _,ab.refl _,ab.refl _,ab.refl _,ab.refl _,ab.refl _,ab.refl _,ab.drop _ _,ab.drop _ _,ab.drop _ _,ab.drop _ _,ab.drop _ _,ab.drop _ _,ab.drop _ _,ab.drop _ _,ab.drop _ _,ab.drop _ _,ab.drop _ _,ab.drop _ _,ab.drop _ _,trivial⟩
 ·repeat (first|refine bT rfl ?_|refine bF rfl ?_|refine nd rfl ?_)
  repeat (first|(refine tT rfl ?_;cbv)|(refine tF rfl ?_;cbv)|(refine nd rfl ?_;cbv))
  exact bE hF ⟨ab.refl _,ab.refl _,ab.drop _ _,ab.drop _ _,ab.drop _ _,ab.drop _ _,ab.drop _ _,ab.refl _,ab.refl _,ab.refl _,ab.refl _,ab.refl _,ab.refl _,ab.refl _,ab.refl _,ab.drop _ _,ab.drop _ _,ab.drop _ _,ab.drop _ _,ab.drop _ _,ab.drop _ _,ab.drop _ _,ab.drop _ _,ab.drop _ _,ab.drop _ _,ab.drop _ _,ab.drop _ _,ab.drop _ _,trivial⟩
theorem IK (K:Int) (l:List (List R5)) (hl:pP l) (v:List Int) (hv:nS v) (N:Int) (E:List (List T2)) (hE:E.length<=2) (XD P:Abs.Rows) (cn cd cr:Int) (XO tW Sg B:Abs.Rows) :
  ∃gC,∃n:Int,gC.length=E.length/\(∀p∈gC,SP p)/\(1<=n/\n<=4)/\aA Tryz.prog 33 [.val (.agg (bQ K l v)),.val (.agg [.v (.int .i64 N),.aa false (aQ E),.aa false XD]),.val (.agg (kb 3 P cn cd cr XO tW Sg B))] ⟨[.val (.agg (jf.row {ka with N:=n,X1:=aQ gC}))],[none,none,none]⟩:=by
 obtain⟨r,na,eL,cl⟩:=sZ l hl;have sp:∀p∈r,SP p:=fun p hp=>(eL p hp).sp (by omega)
 obtain⟨a,a1,a2,ca⟩:=jg v hv 4 (by omega) (by omega);obtain⟨g,hg⟩:∃g:Int,g=IntKind.wrap .i64 ((BitVec.ofInt 64 a &&& BitVec.ofInt 64 (3:Nat)).toNat):=⟨_,rfl⟩;have ub:0<=g/\g<=3:=by rw[hg];exact nT a 3 (by omega)
 obtain⟨m,hm⟩:∃m,m=E.length:=⟨_,rfl⟩;have lE:(aQ E).length=m:=by rw[lj,hm]
 obtain⟨mI,iD⟩:∃i:Int,i=(m:Int):=⟨_,rfl⟩;obtain⟨gC,c1,c2,cc⟩:=sW r sp (by omega) 1 (by omega) (by omega) m (by omega);rw[<-iD]at cc;obtain⟨n,hn⟩:∃n,n=1+g:=⟨_,rfl⟩;refine⟨gC,n,by omega,c2,by omega,?_⟩;unfold bQ kb;simp only[jf.row,ka];generalize aQ E=XE at *;generalize aQ r=X at *;generalize gl l=XL at *;generalize W .i8 v=XV at *;generalize aQ gC=XC at *;refine bz aD mixed [.val] Tryz.func33 rfl rfl (by kernel_rfl) fun zD zE zG zH zI zJ zK zL zM zN zO zR zS zT zU zV zX zY zZ zg zh zj zu zy zz aK ah aI aH ak aq ae aE aB aG ao az aJ an aO au aP ai aM aN ay aw aL ar zW bc A L F hS hF=>?_
 have em:zy (ae XE)=mI:=by rw[hS.aW,hS.len,lE,iD]
 have eg:zM .i64 a 3=g:=by rw[hS.bP,hg];rfl
 refine bg ?_;cbv;refine⟨_,hS.call (cl),?_⟩;cbv;repeat (first|(refine tT rfl ?_;cbv)|(refine tF rfl ?_;cbv)|(refine nd rfl ?_;cbv))
 refine⟨_,hS.call (ca),?_⟩;cbv;simp only[eg,em];cbv;repeat (first|(refine tT rfl ?_;cbv)|(refine tF rfl ?_;cbv)|(refine nd rfl ?_;cbv))
 refine⟨_,hS.call (cc),?_⟩;cbv;repeat (first|(refine tT rfl ?_;cbv)|(refine tF rfl ?_;cbv)|(refine nd rfl ?_;cbv))
 have en:aZ zD .i64 (eZ zE 1 g)=n:=by rw[hS.add,hS.wrap,hn];exact wrap_i64 (by omega) (by omega)
 rw[<-en]at hF;refine ba aD mixed hS (1) ?_;cbv;refine⟨fun _=>?_,fun _=>?_⟩
 ·repeat (first|refine bT rfl ?_|refine bF rfl ?_|refine nd rfl ?_)
  repeat (first|(refine tT rfl ?_;cbv)|(refine tF rfl ?_;cbv)|(refine nd rfl ?_;cbv))
  exact bE hF ⟨ab.refl _,ab.refl _,ab.drop _ _,ab.drop _ _,ab.drop _ _,ab.drop _ _,ab.drop _ _,ab.refl _,ab.refl _,ab.refl _,ab.refl _,ab.refl _,ab.refl _,ab.refl _,ab.refl _,ab.drop _ _,ab.drop _ _,ab.drop _ _,ab.drop _ _,ab.drop _ _,ab.drop _ _,ab.drop _ _,ab.drop _ _,ab.drop _ _,ab.drop _ _,ab.drop _ _,ab.drop _ _,ab.drop _ _,trivial⟩
 ·repeat (first|refine bT rfl ?_|refine bF rfl ?_|refine nd rfl ?_)
  repeat (first|(refine tT rfl ?_;cbv)|(refine tF rfl ?_;cbv)|(refine nd rfl ?_;cbv))
  exact bE hF ⟨ab.refl _,ab.refl _,ab.drop _ _,ab.drop _ _,ab.drop _ _,ab.drop _ _,ab.drop _ _,ab.refl _,ab.refl _,ab.refl _,ab.refl _,ab.refl _,ab.refl _,ab.refl _,ab.refl _,ab.drop _ _,ab.drop _ _,ab.drop _ _,ab.drop _ _,ab.drop _ _,ab.drop _ _,ab.drop _ _,ab.drop _ _,ab.drop _ _,ab.drop _ _,ab.drop _ _,ab.drop _ _,ab.drop _ _,trivial⟩
theorem Gc (K:Int) (l:List (List R5)) (hl:pP l) (v:List Int) (hv:nS v) (N:Int) (E:List (List T2)) (hE:E.length<=2) (XD P:Abs.Rows) (cn cd cr:Int) (XO  Sg B:Abs.Rows) (Lc:List (List T2)) (hLc:Lc.length<=3) :
  ∃C,rO C (1+Lc.length*(Lc.length+1)/2) E.length/\aA Tryz.prog 33 [.val (.agg (bQ K l v)),.val (.agg [.v (.int .i64 N),.aa false (aQ E),.aa false XD]),.val (.agg (kb 11 P cn cd cr XO (aQ Lc) Sg B))] ⟨[.val (.agg (jf.row {ka with X4:=df C}))],[none,none,none]⟩:=by
 obtain⟨r,na,eL,cl⟩:=sZ l hl;have sp:∀p∈r,SP p:=fun p hp=>(eL p hp).sp (by omega)
 obtain⟨a,a1,a2,ca⟩:=jg v hv 4 (by omega) (by omega);obtain⟨g,hg⟩:∃g:Int,g=IntKind.wrap .i64 ((BitVec.ofInt 64 a &&& BitVec.ofInt 64 (3:Nat)).toNat):=⟨_,rfl⟩;have ub:0<=g/\g<=3:=by rw[hg];exact nT a 3 (by omega)
 obtain⟨m,hm⟩:∃m,m=E.length:=⟨_,rfl⟩;have lE:(aQ E).length=m:=by rw[lj,hm]
 obtain⟨mI,iD⟩:∃i:Int,i=(m:Int):=⟨_,rfl⟩;obtain⟨s,hs⟩:∃s,s=1+Lc.length*(Lc.length+1)/2:=⟨_,rfl⟩;have hs7:s<=7:=by
  rw[hs];rcases(show Lc.length=0∨Lc.length=1∨Lc.length=2∨Lc.length=3 by omega) with h|h|h|h<;>rw[h]<;>decide
 obtain⟨C,c1,cc⟩:=jz r sp (by omega) s m (by omega) (by omega);obtain⟨sI,UD⟩:∃i:Int,i=(s:Int):=⟨_,rfl⟩;rw[<-iD,<-UD]at cc;rw[hs,hm]at c1;refine⟨C,c1,?_⟩;have lLc:(aQ Lc).length=Lc.length:=lj Lc;unfold bQ kb;simp only[jf.row,ka];generalize aQ E=XE at *;generalize aQ r=X at *;generalize gl l=XL at *;generalize W .i8 v=XV at *;generalize aQ Lc=tW at *;generalize df C=XC at *
 refine bz aD mixed [.val] Tryz.func33 rfl rfl (by kernel_rfl) fun zD zE zG zH zI zJ zK zL zM zN zO zR zS zT zU zV zX zY zZ zg zh zj zu zy zz aK ah aI aH ak aq ae aE aB aG ao az aJ an aO au aP ai aM aN ay aw aL ar zW bc A L F hS hF=>?_
 have em:zy (ae XE)=mI:=by rw[hS.aW,hS.len,lE,iD]
 have eg:zM .i64 a 3=g:=by rw[hS.bP,hg];rfl
 refine bg ?_;cbv;refine⟨_,hS.call (cl),?_⟩;cbv;repeat (first|(refine tT rfl ?_;cbv)|(refine tF rfl ?_;cbv)|(refine nd rfl ?_;cbv))
 refine⟨_,hS.call (ca),?_⟩;cbv;simp only[eg,em];cbv;repeat (first|(refine tT rfl ?_;cbv)|(refine tF rfl ?_;cbv)|(refine nd rfl ?_;cbv))
 have es:aZ zD .i64 (eZ zE 1 (aZ zD .i64 (zI (aZ zD .i64 (nM zH (zy (ae tW)) (aZ zD .i64 (eZ zE (zy (ae tW)) 1)))) 2)))=sI:=by
  rw[hS.aW,hS.len,lLc,UD,hs];simp only[hS.add,hS.mul,hS.quo,hS.wrap];rcases(show Lc.length=0∨Lc.length=1∨Lc.length=2∨Lc.length=3 by omega) with h|h|h|h<;>rw[h]<;>decide
 rw[<-es]at cc;refine⟨_,hS.call (cc),?_⟩;cbv;repeat (first|(refine tT rfl ?_;cbv)|(refine tF rfl ?_;cbv)|(refine nd rfl ?_;cbv))
 exact bE hF ⟨ab.refl _,ab.drop _ _,ab.drop _ _,ab.drop _ _,ab.refl _,ab.drop _ _,ab.drop _ _,ab.refl _,ab.refl _,ab.refl _,ab.refl _,ab.refl _,ab.refl _,ab.refl _,ab.refl _,ab.drop _ _,ab.drop _ _,ab.drop _ _,ab.drop _ _,ab.drop _ _,ab.drop _ _,ab.drop _ _,ab.drop _ _,ab.drop _ _,ab.drop _ _,ab.drop _ _,ab.drop _ _,ab.drop _ _,trivial⟩
theorem Gd (K:Int) (l:List (List R5)) (hl:pP l) (v:List Int) (hv:nS v) (N:Int) (E:List (List T2)) (hE:E.length<=2) (XD P:Abs.Rows) (cn cd cr:Int) (XO tW Sg B:Abs.Rows) :
  ∃G O C,G.length<=3/\(∀p∈G,SP p)/\BG O/\rO C G.length E.length/\aA Tryz.prog 33 [.val (.agg (bQ K l v)),.val (.agg [.v (.int .i64 N),.aa false (aQ E),.aa false XD]),.val (.agg (kb 12 P cn cd cr XO tW Sg B))] ⟨[.val (.agg (jf.row {ka with X2:=aQ G,X3:=iq O,X4:=df C}))],[none,none,none]⟩:=by
 obtain⟨r,na,eL,cl⟩:=sZ l hl;have sp:∀p∈r,SP p:=fun p hp=>(eL p hp).sp (by omega)
 obtain⟨a,a1,a2,ca⟩:=jg v hv 4 (by omega) (by omega);obtain⟨g,hg⟩:∃g:Int,g=IntKind.wrap .i64 ((BitVec.ofInt 64 a &&& BitVec.ofInt 64 (3:Nat)).toNat):=⟨_,rfl⟩;have ub:0<=g/\g<=3:=by rw[hg];exact nT a 3 (by omega)
 obtain⟨m,hm⟩:∃m,m=E.length:=⟨_,rfl⟩;have lE:(aQ E).length=m:=by rw[lj,hm]
 obtain⟨mI,iD⟩:∃i:Int,i=(m:Int):=⟨_,rfl⟩;obtain⟨G,O,C,Q,Sx,b1,b2,b3,b4,b5,b6,cb⟩:=QN r sp (by omega) g.toNat m (by omega) (by omega) false;rw[Int.toNat_of_nonneg ub.1,<-iD]at cb;rw[<-b1,hm]at b4;rw[<-b1,hm]at b5;rw[<-b1]at b6;refine⟨G,O,C,by omega,b2,b3,b4,?_⟩;rw[if_neg (by decide),if_neg (by decide)]at cb;unfold Nv Nw at cb;unfold bQ kb;simp only[jf.row,ka];generalize aQ E=XE at *
 generalize aQ r=X at *;generalize gl l=XL at *;generalize W .i8 v=XV at *;generalize aQ G=XG at *;generalize iq O=Jo at *;generalize df C=XC at *;refine bz aD mixed [.val] Tryz.func33 rfl rfl (by kernel_rfl) fun zD zE zG zH zI zJ zK zL zM zN zO zR zS zT zU zV zX zY zZ zg zh zj zu zy zz aK ah aI aH ak aq ae aE aB aG ao az aJ an aO au aP ai aM aN ay aw aL ar zW bc A L F hS hF=>?_
 have em:zy (ae XE)=mI:=by rw[hS.aW,hS.len,lE,iD]
 have eg:zM .i64 a 3=g:=by rw[hS.bP,hg];rfl
 refine bg ?_;cbv;refine⟨_,hS.call (cl),?_⟩;cbv;repeat (first|(refine tT rfl ?_;cbv)|(refine tF rfl ?_;cbv)|(refine nd rfl ?_;cbv))
 refine⟨_,hS.call (ca),?_⟩;cbv;simp only[eg,em];cbv;repeat (first|(refine tT rfl ?_;cbv)|(refine tF rfl ?_;cbv)|(refine nd rfl ?_;cbv))
 refine⟨_,hS.call (cb),?_⟩;cbv;repeat (first|(refine tT rfl ?_;cbv)|(refine tF rfl ?_;cbv)|(refine nd rfl ?_;cbv))
 exact bE hF ⟨ab.refl _,ab.drop _ _,ab.refl _,ab.refl _,ab.refl _,ab.drop _ _,ab.drop _ _,ab.refl _,ab.refl _,ab.refl _,ab.refl _,ab.refl _,ab.refl _,ab.refl _,ab.refl _,ab.drop _ _,ab.drop _ _,ab.drop _ _,ab.drop _ _,ab.drop _ _,ab.drop _ _,ab.drop _ _,ab.drop _ _,ab.drop _ _,ab.drop _ _,ab.drop _ _,ab.drop _ _,ab.drop _ _,trivial⟩
theorem IL (K:Int) (l:List (List R5)) (hl:pP l) (v:List Int) (hv:nS v) (N:Int) (E:List (List T2)) (hE:E.length<=2) (XD P:Abs.Rows) (cn cd cr:Int) (XO tW Sg B:Abs.Rows) :
  ∃G O C Q Sx,G.length<=3/\(∀p∈G,SP p)/\BG O/\rO C G.length E.length/\rO Q E.length G.length/\rO Sx (G.length*(G.length-1)/2) G.length/\aA Tryz.prog 33 [.val (.agg (bQ K l v)),.val (.agg [.v (.int .i64 N),.aa false (aQ E),.aa false XD]),.val (.agg (kb 2 P cn cd cr XO tW Sg B))] ⟨[.val (.agg (jf.row {ka with X2:=aQ G,X3:=iq O,X4:=df C,X5:=df Q,X6:=df Sx}))],[none,none,none]⟩:=by
 obtain⟨r,na,eL,cl⟩:=sZ l hl;have sp:∀p∈r,SP p:=fun p hp=>(eL p hp).sp (by omega)
 obtain⟨a,a1,a2,ca⟩:=jg v hv 4 (by omega) (by omega);obtain⟨g,hg⟩:∃g:Int,g=IntKind.wrap .i64 ((BitVec.ofInt 64 a &&& BitVec.ofInt 64 (3:Nat)).toNat):=⟨_,rfl⟩;have ub:0<=g/\g<=3:=by rw[hg];exact nT a 3 (by omega)
 obtain⟨m,hm⟩:∃m,m=E.length:=⟨_,rfl⟩;have lE:(aQ E).length=m:=by rw[lj,hm]
 obtain⟨mI,iD⟩:∃i:Int,i=(m:Int):=⟨_,rfl⟩;obtain⟨G,O,C,Q,Sx,b1,b2,b3,b4,b5,b6,cb⟩:=QN r sp (by omega) g.toNat m (by omega) (by omega) true;rw[Int.toNat_of_nonneg ub.1,<-iD]at cb;rw[<-b1,hm]at b4;rw[<-b1,hm]at b5;rw[<-b1]at b6;refine⟨G,O,C,Q,Sx,by omega,b2,b3,b4,b5,b6,?_⟩;rw[if_pos rfl,if_pos rfl]at cb;unfold Nv Nw at cb;unfold bQ kb;simp only[jf.row,ka];generalize aQ E=XE at *
 generalize aQ r=X at *;generalize gl l=XL at *;generalize W .i8 v=XV at *;generalize aQ G=XG at *;generalize iq O=Jo at *;generalize df C=XC at *;generalize df Q=XQ at *;generalize df Sx=XS at *;refine bz aD mixed [.val] Tryz.func33 rfl rfl (by kernel_rfl) fun zD zE zG zH zI zJ zK zL zM zN zO zR zS zT zU zV zX zY zZ zg zh zj zu zy zz aK ah aI aH ak aq ae aE aB aG ao az aJ an aO au aP ai aM aN ay aw aL ar zW bc A L F hS hF=>?_
 have em:zy (ae XE)=mI:=by rw[hS.aW,hS.len,lE,iD]
 have eg:zM .i64 a 3=g:=by rw[hS.bP,hg];rfl
 refine bg ?_;cbv;refine⟨_,hS.call (cl),?_⟩;cbv;repeat (first|(refine tT rfl ?_;cbv)|(refine tF rfl ?_;cbv)|(refine nd rfl ?_;cbv))
 refine⟨_,hS.call (ca),?_⟩;cbv;simp only[eg,em];cbv;repeat (first|(refine tT rfl ?_;cbv)|(refine tF rfl ?_;cbv)|(refine nd rfl ?_;cbv))
 refine⟨_,hS.call (cb),?_⟩;cbv;repeat (first|(refine tT rfl ?_;cbv)|(refine tF rfl ?_;cbv)|(refine nd rfl ?_;cbv))
 exact bE hF ⟨ab.refl _,ab.drop _ _,ab.refl _,ab.refl _,ab.refl _,ab.refl _,ab.refl _,ab.refl _,ab.refl _,ab.refl _,ab.refl _,ab.refl _,ab.refl _,ab.refl _,ab.refl _,ab.drop _ _,ab.drop _ _,ab.drop _ _,ab.drop _ _,ab.drop _ _,ab.drop _ _,ab.drop _ _,ab.drop _ _,ab.drop _ _,ab.drop _ _,ab.drop _ _,ab.drop _ _,ab.drop _ _,trivial⟩
theorem IM (K:Int) (l:List (List R5)) (hl:pP l) (v:List Int) (hv:nS v) (N:Int) (E:List (List T2)) (hE:E.length<=2) (XD P:Abs.Rows) (cn cd cr:Int) (XO tW Sg B:Abs.Rows) :
  ∃G O C Q Sx,G.length<=3/\(∀p∈G,SP p)/\BG O/\rO C G.length E.length/\rO Q E.length G.length/\rO Sx (G.length*(G.length-1)/2) G.length/\aA Tryz.prog 33 [.val (.agg (bQ K l v)),.val (.agg [.v (.int .i64 N),.aa false (aQ E),.aa false XD]),.val (.agg (kb 4 P cn cd cr XO tW Sg B))] ⟨[.val (.agg (jf.row {ka with X2:=aQ G,X3:=iq O,X4:=df C,X5:=df Q,X6:=df Sx}))],[none,none,none]⟩:=by
 obtain⟨r,na,eL,cl⟩:=sZ l hl;have sp:∀p∈r,SP p:=fun p hp=>(eL p hp).sp (by omega)
 obtain⟨a,a1,a2,ca⟩:=jg v hv 4 (by omega) (by omega);obtain⟨g,hg⟩:∃g:Int,g=IntKind.wrap .i64 ((BitVec.ofInt 64 a &&& BitVec.ofInt 64 (3:Nat)).toNat):=⟨_,rfl⟩;have ub:0<=g/\g<=3:=by rw[hg];exact nT a 3 (by omega)
 obtain⟨m,hm⟩:∃m,m=E.length:=⟨_,rfl⟩;have lE:(aQ E).length=m:=by rw[lj,hm]
 obtain⟨mI,iD⟩:∃i:Int,i=(m:Int):=⟨_,rfl⟩;obtain⟨G,O,C,Q,Sx,b1,b2,b3,b4,b5,b6,cb⟩:=QN r sp (by omega) g.toNat m (by omega) (by omega) true;rw[Int.toNat_of_nonneg ub.1,<-iD]at cb;rw[<-b1,hm]at b4;rw[<-b1,hm]at b5;rw[<-b1]at b6;refine⟨G,O,C,Q,Sx,by omega,b2,b3,b4,b5,b6,?_⟩;rw[if_pos rfl,if_pos rfl]at cb;unfold Nv Nw at cb;unfold bQ kb;simp only[jf.row,ka];generalize aQ E=XE at *
 generalize aQ r=X at *;generalize gl l=XL at *;generalize W .i8 v=XV at *;generalize aQ G=XG at *;generalize iq O=Jo at *;generalize df C=XC at *;generalize df Q=XQ at *;generalize df Sx=XS at *;refine bz aD mixed [.val] Tryz.func33 rfl rfl (by kernel_rfl) fun zD zE zG zH zI zJ zK zL zM zN zO zR zS zT zU zV zX zY zZ zg zh zj zu zy zz aK ah aI aH ak aq ae aE aB aG ao az aJ an aO au aP ai aM aN ay aw aL ar zW bc A L F hS hF=>?_
 have em:zy (ae XE)=mI:=by rw[hS.aW,hS.len,lE,iD]
 have eg:zM .i64 a 3=g:=by rw[hS.bP,hg];rfl
 refine bg ?_;cbv;refine⟨_,hS.call (cl),?_⟩;cbv;repeat (first|(refine tT rfl ?_;cbv)|(refine tF rfl ?_;cbv)|(refine nd rfl ?_;cbv))
 refine⟨_,hS.call (ca),?_⟩;cbv;simp only[eg,em];cbv;repeat (first|(refine tT rfl ?_;cbv)|(refine tF rfl ?_;cbv)|(refine nd rfl ?_;cbv))
 refine⟨_,hS.call (cb),?_⟩;cbv;repeat (first|(refine tT rfl ?_;cbv)|(refine tF rfl ?_;cbv)|(refine nd rfl ?_;cbv))
 exact bE hF ⟨ab.refl _,ab.drop _ _,ab.refl _,ab.refl _,ab.refl _,ab.refl _,ab.refl _,ab.refl _,ab.refl _,ab.refl _,ab.refl _,ab.refl _,ab.refl _,ab.refl _,ab.refl _,ab.drop _ _,ab.drop _ _,ab.drop _ _,ab.drop _ _,ab.drop _ _,ab.drop _ _,ab.drop _ _,ab.drop _ _,ab.drop _ _,ab.drop _ _,ab.drop _ _,ab.drop _ _,ab.drop _ _,trivial⟩
theorem IN (K:Int) (l:List (List R5)) (hl:pP l) (v:List Int) (hv:nS v) (N:Int) (E:List (List T2)) (hE:E.length<=2) (XD P:Abs.Rows) (cn cd cr:Int) (XO tW Sg B:Abs.Rows) :
  ∃G O C Q Sx,G.length<=3/\(∀p∈G,SP p)/\BG O/\rO C G.length E.length/\rO Q E.length G.length/\rO Sx (G.length*(G.length-1)/2) G.length/\aA Tryz.prog 33 [.val (.agg (bQ K l v)),.val (.agg [.v (.int .i64 N),.aa false (aQ E),.aa false XD]),.val (.agg (kb 5 P cn cd cr XO tW Sg B))] ⟨[.val (.agg (jf.row {ka with X2:=aQ G,X3:=iq O,X4:=df C,X5:=df Q,X6:=df Sx}))],[none,none,none]⟩:=by
 obtain⟨r,na,eL,cl⟩:=sZ l hl;have sp:∀p∈r,SP p:=fun p hp=>(eL p hp).sp (by omega)
 obtain⟨a,a1,a2,ca⟩:=jg v hv 4 (by omega) (by omega);obtain⟨g,hg⟩:∃g:Int,g=IntKind.wrap .i64 ((BitVec.ofInt 64 a &&& BitVec.ofInt 64 (3:Nat)).toNat):=⟨_,rfl⟩;have ub:0<=g/\g<=3:=by rw[hg];exact nT a 3 (by omega)
 obtain⟨m,hm⟩:∃m,m=E.length:=⟨_,rfl⟩;have lE:(aQ E).length=m:=by rw[lj,hm]
 obtain⟨mI,iD⟩:∃i:Int,i=(m:Int):=⟨_,rfl⟩;obtain⟨G,O,C,Q,Sx,b1,b2,b3,b4,b5,b6,cb⟩:=QN r sp (by omega) g.toNat m (by omega) (by omega) true;rw[Int.toNat_of_nonneg ub.1,<-iD]at cb;rw[<-b1,hm]at b4;rw[<-b1,hm]at b5;rw[<-b1]at b6;refine⟨G,O,C,Q,Sx,by omega,b2,b3,b4,b5,b6,?_⟩;rw[if_pos rfl,if_pos rfl]at cb;unfold Nv Nw at cb;unfold bQ kb;simp only[jf.row,ka];generalize aQ E=XE at *
 generalize aQ r=X at *;generalize gl l=XL at *;generalize W .i8 v=XV at *;generalize aQ G=XG at *;generalize iq O=Jo at *;generalize df C=XC at *;generalize df Q=XQ at *;generalize df Sx=XS at *;refine bz aD mixed [.val] Tryz.func33 rfl rfl (by kernel_rfl) fun zD zE zG zH zI zJ zK zL zM zN zO zR zS zT zU zV zX zY zZ zg zh zj zu zy zz aK ah aI aH ak aq ae aE aB aG ao az aJ an aO au aP ai aM aN ay aw aL ar zW bc A L F hS hF=>?_
 have em:zy (ae XE)=mI:=by rw[hS.aW,hS.len,lE,iD]
 have eg:zM .i64 a 3=g:=by rw[hS.bP,hg];rfl
 refine bg ?_;cbv;refine⟨_,hS.call (cl),?_⟩;cbv;repeat (first|(refine tT rfl ?_;cbv)|(refine tF rfl ?_;cbv)|(refine nd rfl ?_;cbv))
 refine⟨_,hS.call (ca),?_⟩;cbv;simp only[eg,em];cbv;repeat (first|(refine tT rfl ?_;cbv)|(refine tF rfl ?_;cbv)|(refine nd rfl ?_;cbv))
 refine⟨_,hS.call (cb),?_⟩;cbv;repeat (first|(refine tT rfl ?_;cbv)|(refine tF rfl ?_;cbv)|(refine nd rfl ?_;cbv))
 exact bE hF ⟨ab.refl _,ab.drop _ _,ab.refl _,ab.refl _,ab.refl _,ab.refl _,ab.refl _,ab.refl _,ab.refl _,ab.refl _,ab.refl _,ab.refl _,ab.refl _,ab.refl _,ab.refl _,ab.drop _ _,ab.drop _ _,ab.drop _ _,ab.drop _ _,ab.drop _ _,ab.drop _ _,ab.drop _ _,ab.drop _ _,ab.drop _ _,ab.drop _ _,ab.drop _ _,ab.drop _ _,ab.drop _ _,trivial⟩
theorem IP (K:Int) (l:List (List R5)) (hl:pP l) (v:List Int) (hv:nS v) (N:Int) (E:List (List T2)) (hE:E.length<=2) (XD P:Abs.Rows) (cn cd cr:Int) (XO tW Sg B:Abs.Rows) :
  ∃G O C Q Sx,G.length<=3/\(∀p∈G,SP p)/\BG O/\rO C G.length E.length/\rO Q E.length G.length/\rO Sx (G.length*(G.length-1)/2) G.length/\aA Tryz.prog 33 [.val (.agg (bQ K l v)),.val (.agg [.v (.int .i64 N),.aa false (aQ E),.aa false XD]),.val (.agg (kb 6 P cn cd cr XO tW Sg B))] ⟨[.val (.agg (jf.row {ka with X2:=aQ G,X3:=iq O,X4:=df C,X5:=df Q,X6:=df Sx}))],[none,none,none]⟩:=by
 obtain⟨r,na,eL,cl⟩:=sZ l hl;have sp:∀p∈r,SP p:=fun p hp=>(eL p hp).sp (by omega)
 obtain⟨a,a1,a2,ca⟩:=jg v hv 4 (by omega) (by omega);obtain⟨g,hg⟩:∃g:Int,g=IntKind.wrap .i64 ((BitVec.ofInt 64 a &&& BitVec.ofInt 64 (3:Nat)).toNat):=⟨_,rfl⟩;have ub:0<=g/\g<=3:=by rw[hg];exact nT a 3 (by omega)
 obtain⟨m,hm⟩:∃m,m=E.length:=⟨_,rfl⟩;have lE:(aQ E).length=m:=by rw[lj,hm]
 obtain⟨mI,iD⟩:∃i:Int,i=(m:Int):=⟨_,rfl⟩;obtain⟨G,O,C,Q,Sx,b1,b2,b3,b4,b5,b6,cb⟩:=QN r sp (by omega) g.toNat m (by omega) (by omega) true;rw[Int.toNat_of_nonneg ub.1,<-iD]at cb;rw[<-b1,hm]at b4;rw[<-b1,hm]at b5;rw[<-b1]at b6;refine⟨G,O,C,Q,Sx,by omega,b2,b3,b4,b5,b6,?_⟩;rw[if_pos rfl,if_pos rfl]at cb;unfold Nv Nw at cb;unfold bQ kb;simp only[jf.row,ka];generalize aQ E=XE at *
 generalize aQ r=X at *;generalize gl l=XL at *;generalize W .i8 v=XV at *;generalize aQ G=XG at *;generalize iq O=Jo at *;generalize df C=XC at *;generalize df Q=XQ at *;generalize df Sx=XS at *;refine bz aD mixed [.val] Tryz.func33 rfl rfl (by kernel_rfl) fun zD zE zG zH zI zJ zK zL zM zN zO zR zS zT zU zV zX zY zZ zg zh zj zu zy zz aK ah aI aH ak aq ae aE aB aG ao az aJ an aO au aP ai aM aN ay aw aL ar zW bc A L F hS hF=>?_
 have em:zy (ae XE)=mI:=by rw[hS.aW,hS.len,lE,iD]
 have eg:zM .i64 a 3=g:=by rw[hS.bP,hg];rfl
 refine bg ?_;cbv;refine⟨_,hS.call (cl),?_⟩;cbv;repeat (first|(refine tT rfl ?_;cbv)|(refine tF rfl ?_;cbv)|(refine nd rfl ?_;cbv))
 refine⟨_,hS.call (ca),?_⟩;cbv;simp only[eg,em];cbv;repeat (first|(refine tT rfl ?_;cbv)|(refine tF rfl ?_;cbv)|(refine nd rfl ?_;cbv))
 refine⟨_,hS.call (cb),?_⟩;cbv;repeat (first|(refine tT rfl ?_;cbv)|(refine tF rfl ?_;cbv)|(refine nd rfl ?_;cbv))
 exact bE hF ⟨ab.refl _,ab.drop _ _,ab.refl _,ab.refl _,ab.refl _,ab.refl _,ab.refl _,ab.refl _,ab.refl _,ab.refl _,ab.refl _,ab.refl _,ab.refl _,ab.refl _,ab.refl _,ab.drop _ _,ab.drop _ _,ab.drop _ _,ab.drop _ _,ab.drop _ _,ab.drop _ _,ab.drop _ _,ab.drop _ _,ab.drop _ _,ab.drop _ _,ab.drop _ _,ab.drop _ _,ab.drop _ _,trivial⟩
end Go.Proofs.YtekefilngojelaaGreat
end
