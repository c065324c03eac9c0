/-
  A part of the proof: TuMb3t.
-/
import Derived.Test.YtekefilngojelaaGreatM26
import Derived.Test.YtekefilngojelaaGreatM28
import Derived.Test.YtekefilngojelaaGreatM29
set_option maxHeartbeats 0
set_option maxRecDepth 100000
set_option linter.unusedVariables false
set_option linter.unusedSimpArgs false
set_option linter.unusedSectionVars false
section
namespace Go.Proofs.YtekefilngojelaaGreat
open Go Go.Abs Go.Abs.M Go.Proofs
theorem IT (K:Int) (l:List (List R5)) (hl:pP l) (v:List Int) (hv:nS v) (N:Int) (E:List (List T2)) (hE:E.length<=2) (XD P:Abs.Rows) (cn cd cr:Int) (XO tW Sg B:Abs.Rows) :
  ∃G O C Q Sx U U1 At,∃a1:Int,G.length<=3/\(∀p∈G,SP p)/\BG O/\rO C G.length E.length/\rO Q E.length G.length/\rO Sx (G.length*(G.length-1)/2) G.length/\FR a1/\OU U/\OU U1/\(∀q∈At,Qs q.1 100/\Qs q.2 100/\q.1<=q.2)/\At.length<=3/\aA Tryz.prog 33 [.val (.agg (bQ K l v)),.val (.agg [.v (.int .i64 N),.aa false (aQ E),.aa false XD]),.val (.agg (kb 8 P cn cd cr XO tW Sg B))] ⟨[.val (.agg (jf.row {ka with X2:=aQ G,X3:=iq O,X4:=df C,X5:=df Q,X6:=df Sx,r0:=1,r1:=a1,Y0:=ur U,Y2:=ur U1,Z1:=Jd At}))],[none,none,none]⟩:=by
 obtain⟨r,na,eL,cl⟩:=sZ l hl;have sp:∀p∈r,SP p:=fun p hp=>(eL p hp).sp (by omega)
 obtain⟨a,a1,a2,ca⟩:=jg v hv 4 (by omega) (by omega);obtain⟨d,d1,d2,Ny⟩:=jg v hv 5 (by omega) (by omega);obtain⟨g,hg⟩:∃g:Int,g=IntKind.wrap .i64 ((BitVec.ofInt 64 a &&& BitVec.ofInt 64 (3:Nat)).toNat):=⟨_,rfl⟩;have ub:0<=g/\g<=3:=by rw[hg];exact nT a 3 (by omega)
 obtain⟨m,hm⟩:∃m,m=E.length:=⟨_,rfl⟩;have lE:(aQ E).length=m:=by rw[lj,hm]
 obtain⟨mI,iD⟩:∃i:Int,i=(m:Int):=⟨_,rfl⟩;obtain⟨G,O,C,Q,Sx,b1,b2,b3,b4,b5,b6,cb⟩:=QN r sp (by omega) g.toNat m (by omega) (by omega) true;rw[Int.toNat_of_nonneg ub.1,<-iD]at cb;rw[<-b1,hm]at b4;rw[<-b1,hm]at b5;rw[<-b1]at b6;rw[if_pos rfl,if_pos rfl]at cb;unfold Nv Nw at cb;obtain⟨U,hU,cU⟩:=iL v hv 3 (by omega);obtain⟨U1,Nz,NA⟩:=iL v hv 2 (by omega);have hd:FR d:=by unfold FR;omega
 have lG:G.length<=3:=by omega
 obtain⟨x0,f0,nU⟩:=F7 v hv 0 (by omega) (by omega);obtain⟨x1,f1,uL⟩:=F7 v hv 1 (by omega) (by omega);obtain⟨x2,f2,Gf⟩:=F7 v hv 2 (by omega) (by omega);obtain⟨zs,zt,zr,zq,zw,_⟩:=bq 0;obtain rfl|rfl|rfl|rfl:g=0∨g=1∨g=2∨g=3:=by omega
 ·refine⟨G,O,C,Q,Sx,U,U1,[],d,lG,b2,b3,b4,b5,b6,hd,hU,Nz,by simp,by simp,?_⟩
  rw[show Jd []=[] from rfl];unfold bQ kb;simp only[jf.row,ka];generalize aQ E=XE at *;generalize aQ r=X at *;generalize gl l=XL at *;generalize W .i8 v=XV at *;generalize aQ G=XG at *;generalize iq O=Jo at *;generalize df C=XC at *;generalize df Q=XQ at *;generalize df Sx=XS at *;generalize ur U=XU at *;generalize ur U1=QR at *;clear zw;refine bz aD mixed [.val] Tryz.func33 rfl rfl (by kernel_rfl) fun zD zE zG zH zI zJ zK zL zM zN zO zR zS zT zU zV zX zY zZ zg zh zj zu zy zz aK ah aI aH ak aq ae aE aB aG ao az aJ an aO au aP ai aM aN ay aw aL ar zW bc A L F hS hF=>?_
  have em:zy (ae XE)=mI:=by rw[hS.aW,hS.len,lE,iD]
  have eg:zM .i64 a 3=0:=by rw[hS.bP];exact hg.symm
  have w0:∀c,ai c []=true:=fun c=>by rw[hS.wide];rfl
  have z0:ae []=0:=by rw[hS.len];rfl
  refine bg ?_;cbv;refine⟨_,hS.call (cl),?_⟩;cbv;repeat (first|(refine tT rfl ?_;cbv)|(refine tF rfl ?_;cbv)|(refine nd rfl ?_;cbv))
  refine⟨_,hS.call (ca),?_⟩;cbv;simp only[eg,em];cbv;repeat (first|(refine tT rfl ?_;cbv)|(refine tF rfl ?_;cbv)|(refine nd rfl ?_;cbv))
  refine⟨_,hS.call (cb),?_⟩;cbv;repeat (first|(refine tT rfl ?_;cbv)|(refine tF rfl ?_;cbv)|(refine nd rfl ?_;cbv))
  refine⟨_,hS.call (Ny),?_⟩;cbv;repeat (first|(refine tT rfl ?_;cbv)|(refine tF rfl ?_;cbv)|(refine nd rfl ?_;cbv))
  refine⟨_,hS.call (cU),?_⟩;cbv;refine⟨_,hS.call (NA),?_⟩;cbv;repeat (first|(refine tT rfl ?_;cbv)|(refine tF rfl ?_;cbv)|(refine nd rfl ?_;cbv))
  refine ba aD mixed hS (1) ?_;cbv;repeat (first|refine bT rfl ?_|refine bF rfl ?_|refine nd rfl ?_)
  repeat (first|(refine tT rfl ?_;cbv)|(refine tF rfl ?_;cbv)|(refine nd rfl ?_;cbv))
  exact bE hF ⟨ab.refl _,ab.drop _ _,ab.refl _,ab.refl _,ab.refl _,ab.refl _,ab.refl _,ab.refl _,ab.refl _,ab.refl _,ab.refl _,ab.refl _,ab.refl _,ab.refl _,ab.refl _,ab.refl _,ab.drop _ _,ab.refl _,ab.drop _ _,ab.drop _ _,ab.drop _ _,ab.drop _ _,ab.drop _ _,ab.drop _ _,ab.drop _ _,ab.drop _ _,ab.drop _ _,ab.drop _ _,trivial⟩
 ·refine⟨G,O,C,Q,Sx,U,U1,[(x0.u0,x0.v0)],d,lG,b2,b3,b4,b5,b6,hd,hU,Nz,by intro x hx;simp only[List.mem_cons,List.not_mem_nil,or_false]at hx;rcases hx with rfl;exact⟨f0.ok.1,f0.ok.2.1,f0.Jf⟩,by simp,?_⟩
  obtain⟨fJ,fK,fN,fO,Ea,_⟩:=bq x0.u0;obtain⟨fL,fM,fP,fQ,Eb,_⟩:=bq x0.v0;obtain⟨lk,lp,ly,lz,Lw,_⟩:=bq x0.u1;obtain⟨lq,lx,lA,lB,Ly,_⟩:=bq x0.v1;rw[show Jd [(x0.u0,x0.v0)]=[(qc x0.u0).row++(qc x0.v0).row] from rfl];unfold mS at nU;rw[f0.u2,f0.v2,f0.u3,f0.v3,f0.u4,f0.v4,f0.u5,f0.v5,f0.u6,f0.v6,f0.u7,f0.v7,Ea,Eb,Lw,Ly,zw]at nU;simp only[List.cons_append,List.nil_append]at nU
  rw[Ea,Eb];simp only[List.cons_append,List.nil_append];unfold bQ kb;simp only[jf.row,ka];generalize aQ E=XE at *;generalize aQ r=X at *;generalize gl l=XL at *;generalize W .i8 v=XV at *;generalize aQ G=XG at *;generalize iq O=Jo at *;generalize df C=XC at *;generalize df Q=XQ at *;generalize df Sx=XS at *;generalize ur U=XU at *;generalize ur U1=QR at *;clear zw;refine bz aD mixed [.val] Tryz.func33 rfl rfl (by kernel_rfl) fun zD zE zG zH zI zJ zK zL zM zN zO zR zS zT zU zV zX zY zZ zg zh zj zu zy zz aK ah aI aH ak aq ae aE aB aG ao az aJ an aO au aP ai aM aN ay aw aL ar zW bc A L F hS hF=>?_
  have em:zy (ae XE)=mI:=by rw[hS.aW,hS.len,lE,iD]
  have eg:zM .i64 a 3=1:=by rw[hS.bP];exact hg.symm
  have w0:∀c,ai c []=true:=fun c=>by rw[hS.wide];rfl
  have z0:ae []=0:=by rw[hS.len];rfl
  obtain⟨mU,mV,mW,mX,ig,D9,mY,mZ⟩:=hS.dD (row:=[.v (.bool fJ),.aa false fN,.v (.bool fK),.aa false fO,.v (.bool fL),.aa false fP,.v (.bool fM),.aa false fQ]) (w:=8) rfl (r:=[]) (len:=0) (b:=128) rfl (by unfold aF;omega);refine bg ?_;cbv;refine⟨_,hS.call (cl),?_⟩;cbv;repeat (first|(refine tT rfl ?_;cbv)|(refine tF rfl ?_;cbv)|(refine nd rfl ?_;cbv))
  refine⟨_,hS.call (ca),?_⟩;cbv;simp only[eg,em];cbv;repeat (first|(refine tT rfl ?_;cbv)|(refine tF rfl ?_;cbv)|(refine nd rfl ?_;cbv))
  refine⟨_,hS.call (cb),?_⟩;cbv;repeat (first|(refine tT rfl ?_;cbv)|(refine tF rfl ?_;cbv)|(refine nd rfl ?_;cbv))
  refine⟨_,hS.call (Ny),?_⟩;cbv;repeat (first|(refine tT rfl ?_;cbv)|(refine tF rfl ?_;cbv)|(refine nd rfl ?_;cbv))
  refine⟨_,hS.call (cU),?_⟩;cbv;refine⟨_,hS.call (NA),?_⟩;cbv;repeat (first|(refine tT rfl ?_;cbv)|(refine tF rfl ?_;cbv)|(refine nd rfl ?_;cbv))
  refine ba aD mixed hS (2) ?_;cbv;repeat (first|refine bT rfl ?_|refine bF rfl ?_|refine nd rfl ?_)
  refine⟨_,hS.call (nU),?_⟩;cbv;repeat (first|refine bT rfl ?_|refine bF rfl ?_|refine nd rfl ?_)
  have m6:ah (ae []) (ae [[.v (.bool fJ),.aa false fN,.v (.bool fK),.aa false fO,.v (.bool fL),.aa false fP,.v (.bool fM),.aa false fQ]])=1:=by rw[z0];exact mY
  rw[<-z0]at ig;simp only[mU];refine nd mV (nd mW (nd mX (nd (w0 _) (nd ig ?_))));simp only[m6,mZ];cbv;repeat (first|refine bT rfl ?_|refine bF rfl ?_|refine nd rfl ?_)
  repeat (first|(refine tT rfl ?_;cbv)|(refine tF rfl ?_;cbv)|(refine nd rfl ?_;cbv))
  obtain⟨v1,v2⟩:=hS.whole (r:=[[.v (.bool fJ),.aa false fN,.v (.bool fK),.aa false fO,.v (.bool fL),.aa false fP,.v (.bool fM),.aa false fQ]]) (len:=1) rfl;refine nd v1 ?_;simp only[List.nil_append,List.cons_append,v2];exact bE hF ⟨ab.refl _,ab.drop _ _,ab.refl _,ab.refl _,ab.refl _,ab.refl _,ab.refl _,ab.refl _,ab.refl _,ab.refl _,ab.refl _,ab.refl _,ab.refl _,ab.refl _,ab.refl _,ab.refl _,ab.drop _ _,ab.refl _,ab.drop _ _,ab.drop _ _,ab.drop _ _,ab.drop _ _,ab.drop _ _,ab.drop _ _,ab.refl _,ab.drop _ _,ab.drop _ _,ab.drop _ _,trivial⟩
 ·refine⟨G,O,C,Q,Sx,U,U1,[(x0.u0,x0.v0),(x1.u0,x1.v0)],d,lG,b2,b3,b4,b5,b6,hd,hU,Nz,by intro x hx;simp only[List.mem_cons,List.not_mem_nil,or_false]at hx;rcases hx with rfl|rfl;exact⟨f0.ok.1,f0.ok.2.1,f0.Jf⟩;exact⟨f1.ok.1,f1.ok.2.1,f1.Jf⟩,by simp,?_⟩
  obtain⟨fJ,fK,fN,fO,Ea,_⟩:=bq x0.u0;obtain⟨fL,fM,fP,fQ,Eb,_⟩:=bq x0.v0;obtain⟨lk,lp,ly,lz,Lw,_⟩:=bq x0.u1;obtain⟨lq,lx,lA,lB,Ly,_⟩:=bq x0.v1;obtain⟨rv,ry,rC,rD,Lz,_⟩:=bq x1.u0;obtain⟨rA,rB,rE,rF,LA,_⟩:=bq x1.v0;obtain⟨BQ,BR,BW,BX,QS,_⟩:=bq x1.u1;obtain⟨BS,BV,BY,BZ,QT,_⟩:=bq x1.v1;rw[show Jd [(x0.u0,x0.v0),(x1.u0,x1.v0)]=[(qc x0.u0).row++(qc x0.v0).row,(qc x1.u0).row++(qc x1.v0).row] from rfl]
  unfold mS at nU;rw[f0.u2,f0.v2,f0.u3,f0.v3,f0.u4,f0.v4,f0.u5,f0.v5,f0.u6,f0.v6,f0.u7,f0.v7,Ea,Eb,Lw,Ly,zw]at nU;simp only[List.cons_append,List.nil_append]at nU;rw[Ea,Eb];unfold mS at uL;rw[f1.u2,f1.v2,f1.u3,f1.v3,f1.u4,f1.v4,f1.u5,f1.v5,f1.u6,f1.v6,f1.u7,f1.v7,Lz,LA,QS,QT,zw]at uL;simp only[List.cons_append,List.nil_append]at uL;rw[Lz,LA];simp only[List.cons_append,List.nil_append]
  unfold bQ kb;simp only[jf.row,ka];generalize aQ E=XE at *;generalize aQ r=X at *;generalize gl l=XL at *;generalize W .i8 v=XV at *;generalize aQ G=XG at *;generalize iq O=Jo at *;generalize df C=XC at *;generalize df Q=XQ at *;generalize df Sx=XS at *;generalize ur U=XU at *;generalize ur U1=QR at *;clear zw;refine bz aD mixed [.val] Tryz.func33 rfl rfl (by kernel_rfl) fun zD zE zG zH zI zJ zK zL zM zN zO zR zS zT zU zV zX zY zZ zg zh zj zu zy zz aK ah aI aH ak aq ae aE aB aG ao az aJ an aO au aP ai aM aN ay aw aL ar zW bc A L F hS hF=>?_
  have em:zy (ae XE)=mI:=by rw[hS.aW,hS.len,lE,iD]
  have eg:zM .i64 a 3=2:=by rw[hS.bP];exact hg.symm
  have w0:∀c,ai c []=true:=fun c=>by rw[hS.wide];rfl
  have z0:ae []=0:=by rw[hS.len];rfl
  obtain⟨mU,mV,mW,mX,ig,D9,mY,mZ⟩:=hS.dD (row:=[.v (.bool fJ),.aa false fN,.v (.bool fK),.aa false fO,.v (.bool fL),.aa false fP,.v (.bool fM),.aa false fQ]) (w:=8) rfl (r:=[]) (len:=0) (b:=128) rfl (by unfold aF;omega);obtain⟨wR,wS,wU,wV,wW,wX,u16,wY⟩:=hS.dD (row:=[.v (.bool rv),.aa false rC,.v (.bool ry),.aa false rD,.v (.bool rA),.aa false rE,.v (.bool rB),.aa false rF]) (w:=8) rfl (r:=[[.v (.bool fJ),.aa false fN,.v (.bool fK),.aa false fO,.v (.bool fL),.aa false fP,.v (.bool fM),.aa false fQ]]) (len:=1) (b:=128) rfl (by unfold aF;omega)
  refine bg ?_;cbv;refine⟨_,hS.call (cl),?_⟩;cbv;repeat (first|(refine tT rfl ?_;cbv)|(refine tF rfl ?_;cbv)|(refine nd rfl ?_;cbv))
  refine⟨_,hS.call (ca),?_⟩;cbv;simp only[eg,em];cbv;repeat (first|(refine tT rfl ?_;cbv)|(refine tF rfl ?_;cbv)|(refine nd rfl ?_;cbv))
  refine⟨_,hS.call (cb),?_⟩;cbv;repeat (first|(refine tT rfl ?_;cbv)|(refine tF rfl ?_;cbv)|(refine nd rfl ?_;cbv))
  refine⟨_,hS.call (Ny),?_⟩;cbv;repeat (first|(refine tT rfl ?_;cbv)|(refine tF rfl ?_;cbv)|(refine nd rfl ?_;cbv))
  refine⟨_,hS.call (cU),?_⟩;cbv;refine⟨_,hS.call (NA),?_⟩;cbv;repeat (first|(refine tT rfl ?_;cbv)|(refine tF rfl ?_;cbv)|(refine nd rfl ?_;cbv))
  refine ba aD mixed hS (3) ?_;cbv;repeat (first|refine bT rfl ?_|refine bF rfl ?_|refine nd rfl ?_)
  refine⟨_,hS.call (nU),?_⟩;cbv;repeat (first|refine bT rfl ?_|refine bF rfl ?_|refine nd rfl ?_)
  have m6:ah (ae []) (ae [[.v (.bool fJ),.aa false fN,.v (.bool fK),.aa false fO,.v (.bool fL),.aa false fP,.v (.bool fM),.aa false fQ]])=1:=by rw[z0];exact mY
  rw[<-z0]at ig;simp only[mU];refine nd mV (nd mW (nd mX (nd (w0 _) (nd ig ?_))));simp only[m6,mZ];cbv;repeat (first|refine bT rfl ?_|refine bF rfl ?_|refine nd rfl ?_)
  refine⟨_,hS.call (uL),?_⟩;cbv;repeat (first|refine bT rfl ?_|refine bF rfl ?_|refine nd rfl ?_)
  simp only[wR];refine nd wS (nd wU (nd wV (nd wW (nd wX ?_))));simp only[u16,wY];cbv;repeat (first|refine bT rfl ?_|refine bF rfl ?_|refine nd rfl ?_)
  repeat (first|(refine tT rfl ?_;cbv)|(refine tF rfl ?_;cbv)|(refine nd rfl ?_;cbv))
  obtain⟨v1,v2⟩:=hS.whole (r:=[[.v (.bool fJ),.aa false fN,.v (.bool fK),.aa false fO,.v (.bool fL),.aa false fP,.v (.bool fM),.aa false fQ],[.v (.bool rv),.aa false rC,.v (.bool ry),.aa false rD,.v (.bool rA),.aa false rE,.v (.bool rB),.aa false rF]]) (len:=2) rfl;refine nd v1 ?_;simp only[List.nil_append,List.cons_append,v2];exact bE hF ⟨ab.refl _,ab.drop _ _,ab.refl _,ab.refl _,ab.refl _,ab.refl _,ab.refl _,ab.refl _,ab.refl _,ab.refl _,ab.refl _,ab.refl _,ab.refl _,ab.refl _,ab.refl _,ab.refl _,ab.drop _ _,ab.refl _,ab.drop _ _,ab.drop _ _,ab.drop _ _,ab.drop _ _,ab.drop _ _,ab.drop _ _,ab.refl _,ab.drop _ _,ab.drop _ _,ab.drop _ _,trivial⟩
 ·refine⟨G,O,C,Q,Sx,U,U1,[(x0.u0,x0.v0),(x1.u0,x1.v0),(x2.u0,x2.v0)],d,lG,b2,b3,b4,b5,b6,hd,hU,Nz,by intro x hx;simp only[List.mem_cons,List.not_mem_nil,or_false]at hx;rcases hx with rfl|rfl|rfl;exact⟨f0.ok.1,f0.ok.2.1,f0.Jf⟩;exact⟨f1.ok.1,f1.ok.2.1,f1.Jf⟩;exact⟨f2.ok.1,f2.ok.2.1,f2.Jf⟩,by simp,?_⟩
  obtain⟨fJ,fK,fN,fO,Ea,_⟩:=bq x0.u0;obtain⟨fL,fM,fP,fQ,Eb,_⟩:=bq x0.v0;obtain⟨lk,lp,ly,lz,Lw,_⟩:=bq x0.u1;obtain⟨lq,lx,lA,lB,Ly,_⟩:=bq x0.v1;obtain⟨rv,ry,rC,rD,Lz,_⟩:=bq x1.u0;obtain⟨rA,rB,rE,rF,LA,_⟩:=bq x1.v0;obtain⟨BQ,BR,BW,BX,QS,_⟩:=bq x1.u1;obtain⟨BS,BV,BY,BZ,QT,_⟩:=bq x1.v1;obtain⟨Jg,Jh,Jk,Jl,UJ,_⟩:=bq x2.u0;obtain⟨Ji,Jj,Jm,Jn,UK,_⟩:=bq x2.v0
  obtain⟨Ov,Ow,OA,OB,w2c,_⟩:=bq x2.u1;obtain⟨Ox,Oy,OC,OD,w3c,_⟩:=bq x2.v1;rw[show Jd [(x0.u0,x0.v0),(x1.u0,x1.v0),(x2.u0,x2.v0)]=[(qc x0.u0).row++(qc x0.v0).row,(qc x1.u0).row++(qc x1.v0).row,(qc x2.u0).row++(qc x2.v0).row] from rfl];unfold mS at nU;rw[f0.u2,f0.v2,f0.u3,f0.v3,f0.u4,f0.v4,f0.u5,f0.v5,f0.u6,f0.v6,f0.u7,f0.v7,Ea,Eb,Lw,Ly,zw]at nU;simp only[List.cons_append,List.nil_append]at nU
  rw[Ea,Eb];unfold mS at uL;rw[f1.u2,f1.v2,f1.u3,f1.v3,f1.u4,f1.v4,f1.u5,f1.v5,f1.u6,f1.v6,f1.u7,f1.v7,Lz,LA,QS,QT,zw]at uL;simp only[List.cons_append,List.nil_append]at uL;rw[Lz,LA];unfold mS at Gf;rw[f2.u2,f2.v2,f2.u3,f2.v3,f2.u4,f2.v4,f2.u5,f2.v5,f2.u6,f2.v6,f2.u7,f2.v7,UJ,UK,w2c,w3c,zw]at Gf;simp only[List.cons_append,List.nil_append]at Gf;rw[UJ,UK];simp only[List.cons_append,List.nil_append]
  unfold bQ kb;simp only[jf.row,ka];generalize aQ E=XE at *;generalize aQ r=X at *;generalize gl l=XL at *;generalize W .i8 v=XV at *;generalize aQ G=XG at *;generalize iq O=Jo at *;generalize df C=XC at *;generalize df Q=XQ at *;generalize df Sx=XS at *;generalize ur U=XU at *;generalize ur U1=QR at *;clear zw;refine bz aD mixed [.val] Tryz.func33 rfl rfl (by kernel_rfl) fun zD zE zG zH zI zJ zK zL zM zN zO zR zS zT zU zV zX zY zZ zg zh zj zu zy zz aK ah aI aH ak aq ae aE aB aG ao az aJ an aO au aP ai aM aN ay aw aL ar zW bc A L F hS hF=>?_
  have em:zy (ae XE)=mI:=by rw[hS.aW,hS.len,lE,iD]
  have eg:zM .i64 a 3=3:=by rw[hS.bP];exact hg.symm
  have w0:∀c,ai c []=true:=fun c=>by rw[hS.wide];rfl
  have z0:ae []=0:=by rw[hS.len];rfl
  obtain⟨mU,mV,mW,mX,ig,D9,mY,mZ⟩:=hS.dD (row:=[.v (.bool fJ),.aa false fN,.v (.bool fK),.aa false fO,.v (.bool fL),.aa false fP,.v (.bool fM),.aa false fQ]) (w:=8) rfl (r:=[]) (len:=0) (b:=128) rfl (by unfold aF;omega);obtain⟨wR,wS,wU,wV,wW,wX,u16,wY⟩:=hS.dD (row:=[.v (.bool rv),.aa false rC,.v (.bool ry),.aa false rD,.v (.bool rA),.aa false rE,.v (.bool rB),.aa false rF]) (w:=8) rfl (r:=[[.v (.bool fJ),.aa false fN,.v (.bool fK),.aa false fO,.v (.bool fL),.aa false fP,.v (.bool fM),.aa false fQ]]) (len:=1) (b:=128) rfl (by unfold aF;omega)
  obtain⟨Ln,Lo,Lp,Lq,Ls,Lt,Lu,Lv⟩:=hS.dD (row:=[.v (.bool Jg),.aa false Jk,.v (.bool Jh),.aa false Jl,.v (.bool Ji),.aa false Jm,.v (.bool Jj),.aa false Jn]) (w:=8) rfl (r:=[[.v (.bool fJ),.aa false fN,.v (.bool fK),.aa false fO,.v (.bool fL),.aa false fP,.v (.bool fM),.aa false fQ],[.v (.bool rv),.aa false rC,.v (.bool ry),.aa false rD,.v (.bool rA),.aa false rE,.v (.bool rB),.aa false rF]]) (len:=2) (b:=128) rfl (by unfold aF;omega)
  refine bg ?_;cbv;refine⟨_,hS.call (cl),?_⟩;cbv;repeat (first|(refine tT rfl ?_;cbv)|(refine tF rfl ?_;cbv)|(refine nd rfl ?_;cbv))
  refine⟨_,hS.call (ca),?_⟩;cbv;simp only[eg,em];cbv;repeat (first|(refine tT rfl ?_;cbv)|(refine tF rfl ?_;cbv)|(refine nd rfl ?_;cbv))
  refine⟨_,hS.call (cb),?_⟩;cbv;repeat (first|(refine tT rfl ?_;cbv)|(refine tF rfl ?_;cbv)|(refine nd rfl ?_;cbv))
  refine⟨_,hS.call (Ny),?_⟩;cbv;repeat (first|(refine tT rfl ?_;cbv)|(refine tF rfl ?_;cbv)|(refine nd rfl ?_;cbv))
  refine⟨_,hS.call (cU),?_⟩;cbv;refine⟨_,hS.call (NA),?_⟩;cbv;repeat (first|(refine tT rfl ?_;cbv)|(refine tF rfl ?_;cbv)|(refine nd rfl ?_;cbv))
  refine ba aD mixed hS (4) ?_;cbv;repeat (first|refine bT rfl ?_|refine bF rfl ?_|refine nd rfl ?_)
  refine⟨_,hS.call (nU),?_⟩;cbv;repeat (first|refine bT rfl ?_|refine bF rfl ?_|refine nd rfl ?_)
  have m6:ah (ae []) (ae [[.v (.bool fJ),.aa false fN,.v (.bool fK),.aa false fO,.v (.bool fL),.aa false fP,.v (.bool fM),.aa false fQ]])=1:=by rw[z0];exact mY
  rw[<-z0]at ig;simp only[mU];refine nd mV (nd mW (nd mX (nd (w0 _) (nd ig ?_))));simp only[m6,mZ];cbv;repeat (first|refine bT rfl ?_|refine bF rfl ?_|refine nd rfl ?_)
  refine⟨_,hS.call (uL),?_⟩;cbv;repeat (first|refine bT rfl ?_|refine bF rfl ?_|refine nd rfl ?_)
  simp only[wR];refine nd wS (nd wU (nd wV (nd wW (nd wX ?_))));simp only[u16,wY];cbv;repeat (first|refine bT rfl ?_|refine bF rfl ?_|refine nd rfl ?_)
  refine⟨_,hS.call (Gf),?_⟩;cbv;repeat (first|refine bT rfl ?_|refine bF rfl ?_|refine nd rfl ?_)
  simp only[Ln];refine nd Lo (nd Lp (nd Lq (nd Ls (nd Lt ?_))));simp only[Lu,Lv];cbv;repeat (first|refine bT rfl ?_|refine bF rfl ?_|refine nd rfl ?_)
  repeat (first|(refine tT rfl ?_;cbv)|(refine tF rfl ?_;cbv)|(refine nd rfl ?_;cbv))
  obtain⟨v1,v2⟩:=hS.whole (r:=[[.v (.bool fJ),.aa false fN,.v (.bool fK),.aa false fO,.v (.bool fL),.aa false fP,.v (.bool fM),.aa false fQ],[.v (.bool rv),.aa false rC,.v (.bool ry),.aa false rD,.v (.bool rA),.aa false rE,.v (.bool rB),.aa false rF],[.v (.bool Jg),.aa false Jk,.v (.bool Jh),.aa false Jl,.v (.bool Ji),.aa false Jm,.v (.bool Jj),.aa false Jn]]) (len:=3) rfl
  refine nd v1 ?_;simp only[List.nil_append,List.cons_append,v2];exact bE hF ⟨ab.refl _,ab.drop _ _,ab.refl _,ab.refl _,ab.refl _,ab.refl _,ab.refl _,ab.refl _,ab.refl _,ab.refl _,ab.refl _,ab.refl _,ab.refl _,ab.refl _,ab.refl _,ab.refl _,ab.drop _ _,ab.refl _,ab.drop _ _,ab.drop _ _,ab.drop _ _,ab.drop _ _,ab.drop _ _,ab.drop _ _,ab.refl _,ab.drop _ _,ab.drop _ _,ab.drop _ _,trivial⟩
end Go.Proofs.YtekefilngojelaaGreat
end
