/-
  A part of the proof: TuL3t.
-/
import Derived.Test.YtekefilngojelaaGreatM24
import Derived.Test.YtekefilngojelaaGreatM29
set_option maxHeartbeats 0
set_option maxRecDepth 100000
set_option linter.unusedVariables false
set_option linter.unusedSimpArgs false
set_option linter.unusedSectionVars false
section
namespace Go.Proofs.YtekefilngojelaaGreat
open Go Go.Abs Go.Abs.M Go.Proofs
theorem Jp {x:Int} (h1:-128<=x) (h2:x<128):IntKind.wrap .i8 x=x:=by
 unfold IntKind.wrap;simp[IntKind.bits,IntKind.signed];omega
theorem IQ (K:Int) (l:List (List R5)) (hl:pP l) (v:List Int) (hv:nS v) (N:Int) (E:List (List T2)) (hE:E.length<=2) (XD P:Abs.Rows) (cn cd cr:Int) (XO tW Sg B:Abs.Rows) :
  ∃(gC:List (List T2)) (Sq:List (Rat×List T2)),gC.length=E.length/\(∀p∈gC,SP p)/\(∀x∈Sq,Qs x.1 100/\SP x.2)/\Sq.length<=3/\aA Tryz.prog 33 [.val (.agg (bQ K l v)),.val (.agg [.v (.int .i64 N),.aa false (aQ E),.aa false XD]),.val (.agg (kb 9 P cn cd cr XO tW Sg B))] ⟨[.val (.agg (jf.row {ka with X1:=aQ gC,Z2:=Je Sq}))],[none,none,none]⟩:=by
 obtain⟨r,na,eL,cl⟩:=sZ l hl;have sp:∀p∈r,SP p:=fun p hp=>(eL p hp).sp (by omega)
 obtain⟨a,a1,a2,ca⟩:=jg v hv 4 (by omega) (by omega);obtain⟨g,hg⟩:∃g:Int,g=IntKind.wrap .i64 ((BitVec.ofInt 64 a &&& BitVec.ofInt 64 (3:Nat)).toNat):=⟨_,rfl⟩;have ub:0<=g/\g<=3:=by rw[hg];exact nT a 3 (by omega)
 obtain⟨m,hm⟩:∃m,m=E.length:=⟨_,rfl⟩;have lE:(aQ E).length=m:=by rw[lj,hm]
 obtain⟨mI,iD⟩:∃i:Int,i=(m:Int):=⟨_,rfl⟩;obtain⟨gC,c1,c2,cc⟩:=sW r sp (by omega) 1 (by omega) (by omega) m (by omega);rw[<-iD]at cc;obtain⟨b0,L7,L8,tV⟩:=jg v hv 0 (by omega) (by omega);have Ca:=gn b0 5 ⟨L7,L8⟩ (by omega);have QO:=kV b0 5 (by omega) (by decide) (by decide);obtain⟨L0,Z6,Z7,Nx⟩:=sW r sp (by omega) 0 (by omega) (by omega) 1 (by omega);obtain⟨P0,Z8⟩:∃P,L0=[P]:=by
  match L0,Z6 with
  | [P],_=>exact⟨P,rfl⟩
 subst Z8;have QP:=Z7 P0 List.mem_cons_self;rw[show aQ [P0]=[[.aa false (bo P0)]] from rfl]at Nx;obtain⟨b1,OE,OF,Ab⟩:=jg v hv 1 (by omega) (by omega);have Ey:=gn b1 5 ⟨OE,OF⟩ (by omega);have UG:=kV b1 5 (by omega) (by decide) (by decide);obtain⟨L1,Mm,ug,QQ⟩:=sW r sp (by omega) 1 (by omega) (by omega) 1 (by omega);obtain⟨P1,Z9⟩:∃P,L1=[P]:=by
  match L1,Mm with
  | [P],_=>exact⟨P,rfl⟩
 subst Z9;have UH:=ug P1 List.mem_cons_self;rw[show aQ [P1]=[[.aa false (bo P1)]] from rfl]at QQ;obtain⟨b2,RH,RJ,G8⟩:=jg v hv 2 (by omega) (by omega);have LZ:=gn b2 5 ⟨RH,RJ⟩ (by omega);have qm2:=kV b2 5 (by omega) (by decide) (by decide);obtain⟨L2,h21,h22,UI⟩:=sW r sp (by omega) 2 (by omega) (by omega) 1 (by omega);obtain⟨P2,hP2⟩:∃P,L2=[P]:=by
  match L2,h21 with
  | [P],_=>exact⟨P,rfl⟩
 subst hP2;have sP2:=h22 P2 List.mem_cons_self;rw[show aQ [P2]=[[.aa false (bo P2)]] from rfl]at UI;obtain rfl|rfl|rfl|rfl:g=0∨g=1∨g=2∨g=3:=by omega
 ·refine⟨gC,[],by omega,c2,by simp,by simp,?_⟩
  rw[show Je []=[] from rfl];unfold bQ kb;simp only[jf.row,ka];generalize aQ E=XE at *;generalize aQ gC=XC at *;generalize aQ r=X at *;generalize gl l=XL at *;generalize W .i8 v=XV at *;refine bz aD mixed [.val] Tryz.func33 rfl rfl (by kernel_rfl) fun zD zE zG zH zI zJ zK zL zM zN zO zR zS zT zU zV zX zY zZ zg zh zj zu zy zz aK ah aI aH ak aq ae aE aB aG ao az aJ an aO au aP ai aM aN ay aw aL ar zW bc A L F hS hF=>?_
  have em:zy (ae XE)=mI:=by rw[hS.aW,hS.len,lE,iD]
  have eg:zM .i64 a 3=0:=by rw[hS.bP];exact hg.symm
  have w0:∀c,ai c []=true:=fun c=>by rw[hS.wide];rfl
  have z0:ae []=0:=by rw[hS.len];rfl
  refine bg ?_;cbv;refine⟨_,hS.call (cl),?_⟩;cbv;repeat (first|(refine tT rfl ?_;cbv)|(refine tF rfl ?_;cbv)|(refine nd rfl ?_;cbv))
  refine⟨_,hS.call (ca),?_⟩;cbv;simp only[eg,em];cbv;repeat (first|(refine tT rfl ?_;cbv)|(refine tF rfl ?_;cbv)|(refine nd rfl ?_;cbv))
  refine⟨_,hS.call (cc),?_⟩;cbv;repeat (first|(refine tT rfl ?_;cbv)|(refine tF rfl ?_;cbv)|(refine nd rfl ?_;cbv))
  refine ba aD mixed hS (1) ?_;cbv;repeat (first|refine bT rfl ?_|refine bF rfl ?_|refine nd rfl ?_)
  repeat (first|(refine tT rfl ?_;cbv)|(refine tF rfl ?_;cbv)|(refine nd rfl ?_;cbv))
  exact bE hF ⟨ab.refl _,ab.refl _,ab.drop _ _,ab.drop _ _,ab.drop _ _,ab.drop _ _,ab.drop _ _,ab.refl _,ab.refl _,ab.refl _,ab.refl _,ab.refl _,ab.refl _,ab.refl _,ab.refl _,ab.drop _ _,ab.drop _ _,ab.drop _ _,ab.drop _ _,ab.drop _ _,ab.drop _ _,ab.drop _ _,ab.drop _ _,ab.drop _ _,ab.drop _ _,ab.drop _ _,ab.drop _ _,ab.drop _ _,trivial⟩
 ·refine⟨gC,[(fa b0 5,P0)],by omega,c2,by intro x hx;simp only[List.mem_cons,List.not_mem_nil,or_false]at hx;rcases hx with rfl;exact⟨QO.mono (by omega),QP⟩,by simp,?_⟩
  obtain⟨s0,t0,r0,q0,w0,_⟩:=bq (fa b0 5);rw[show Je [(fa b0 5,P0)]=[(qc (fa b0 5)).row ++ [.aa false (bo P0)]] from rfl];rw[w0]at Ca ⊢;simp only[List.cons_append,List.nil_append];unfold bQ kb;simp only[jf.row,ka];generalize bo P0=W0 at *;generalize aQ E=XE at *;generalize aQ gC=XC at *;generalize aQ r=X at *;generalize gl l=XL at *;generalize W .i8 v=XV at *;refine bz aD mixed [.val] Tryz.func33 rfl rfl (by kernel_rfl) fun zD zE zG zH zI zJ zK zL zM zN zO zR zS zT zU zV zX zY zZ zg zh zj zu zy zz aK ah aI aH ak aq ae aE aB aG ao az aJ an aO au aP ai aM aN ay aw aL ar zW bc A L F hS hF=>?_
  have em:zy (ae XE)=mI:=by rw[hS.aW,hS.len,lE,iD]
  have eg:zM .i64 a 3=1:=by rw[hS.bP];exact hg.symm
  have w0:∀c,ai c []=true:=fun c=>by rw[hS.wide];rfl
  have z0:ae []=0:=by rw[hS.len];rfl
  have e0:aZ zD .i8 b0=b0:=by rw[hS.wrap];exact Jp L7 L8
  rw[<-e0]at Ca;have j0:aE [[Tree.aa false W0]] 0=some [.aa false W0]:=by rw[hS.nth];rfl
  obtain⟨mU,mV,mW,mX,ig,D9,mY,mZ⟩:=hS.dD (row:=[.v (.bool s0),.aa false r0,.v (.bool t0),.aa false q0,.aa false W0]) (w:=5) rfl (r:=[]) (len:=0) (b:=88) rfl (by unfold aF;omega);refine bg ?_;cbv;refine⟨_,hS.call (cl),?_⟩;cbv;repeat (first|(refine tT rfl ?_;cbv)|(refine tF rfl ?_;cbv)|(refine nd rfl ?_;cbv))
  refine⟨_,hS.call (ca),?_⟩;cbv;simp only[eg,em];cbv;repeat (first|(refine tT rfl ?_;cbv)|(refine tF rfl ?_;cbv)|(refine nd rfl ?_;cbv))
  refine⟨_,hS.call (cc),?_⟩;cbv;repeat (first|(refine tT rfl ?_;cbv)|(refine tF rfl ?_;cbv)|(refine nd rfl ?_;cbv))
  refine ba aD mixed hS (2) ?_;cbv;repeat (first|refine bT rfl ?_|refine bF rfl ?_|refine nd rfl ?_)
  refine⟨_,hS.call (tV),?_⟩;cbv;refine⟨_,hS.call (Ca),?_⟩;cbv;repeat (first|refine bT rfl ?_|refine bF rfl ?_|refine nd rfl ?_)
  refine⟨_,hS.call (Nx),?_⟩;cbv;simp only[j0];cbv;repeat (first|refine bT rfl ?_|refine bF rfl ?_|refine nd rfl ?_)
  have m6:ah (ae []) (ae [[.v (.bool s0),.aa false r0,.v (.bool t0),.aa false q0,.aa false W0]])=1:=by rw[z0];exact mY
  rw[<-z0]at ig;simp only[mU];refine nd mV (nd mW (nd mX (nd (w0 _) (nd ig ?_))));simp only[m6,mZ];cbv;repeat (first|refine bT rfl ?_|refine bF rfl ?_|refine nd rfl ?_)
  repeat (first|(refine tT rfl ?_;cbv)|(refine tF rfl ?_;cbv)|(refine nd rfl ?_;cbv))
  obtain⟨v1,v2⟩:=hS.whole (r:=[[.v (.bool s0),.aa false r0,.v (.bool t0),.aa false q0,.aa false W0]]) (len:=1) rfl;refine nd v1 ?_;simp only[v2];exact bE hF ⟨ab.refl _,ab.refl _,ab.drop _ _,ab.drop _ _,ab.drop _ _,ab.drop _ _,ab.drop _ _,ab.refl _,ab.refl _,ab.refl _,ab.refl _,ab.refl _,ab.refl _,ab.refl _,ab.refl _,ab.drop _ _,ab.drop _ _,ab.drop _ _,ab.drop _ _,ab.drop _ _,ab.drop _ _,ab.drop _ _,ab.drop _ _,ab.drop _ _,ab.drop _ _,ab.refl _,ab.drop _ _,ab.drop _ _,trivial⟩
 ·refine⟨gC,[(fa b0 5,P0),(fa b1 5,P1)],by omega,c2,by intro x hx;simp only[List.mem_cons,List.not_mem_nil,or_false]at hx;rcases hx with rfl|rfl;exact⟨QO.mono (by omega),QP⟩;exact⟨UG.mono (by omega),UH⟩,by simp,?_⟩
  obtain⟨s0,t0,r0,q0,w0,_⟩:=bq (fa b0 5);obtain⟨s1,t1,r1,q1,w1,_⟩:=bq (fa b1 5);rw[show Je [(fa b0 5,P0),(fa b1 5,P1)]=[(qc (fa b0 5)).row ++ [.aa false (bo P0)],(qc (fa b1 5)).row ++ [.aa false (bo P1)]] from rfl];rw[w0]at Ca ⊢;rw[w1]at Ey ⊢;simp only[List.cons_append,List.nil_append];unfold bQ kb;simp only[jf.row,ka];generalize bo P0=W0 at *;generalize bo P1=W1 at *
  generalize aQ E=XE at *;generalize aQ gC=XC at *;generalize aQ r=X at *;generalize gl l=XL at *;generalize W .i8 v=XV at *;refine bz aD mixed [.val] Tryz.func33 rfl rfl (by kernel_rfl) fun zD zE zG zH zI zJ zK zL zM zN zO zR zS zT zU zV zX zY zZ zg zh zj zu zy zz aK ah aI aH ak aq ae aE aB aG ao az aJ an aO au aP ai aM aN ay aw aL ar zW bc A L F hS hF=>?_
  have em:zy (ae XE)=mI:=by rw[hS.aW,hS.len,lE,iD]
  have eg:zM .i64 a 3=2:=by rw[hS.bP];exact hg.symm
  have w0:∀c,ai c []=true:=fun c=>by rw[hS.wide];rfl
  have z0:ae []=0:=by rw[hS.len];rfl
  have e0:aZ zD .i8 b0=b0:=by rw[hS.wrap];exact Jp L7 L8
  rw[<-e0]at Ca;have j0:aE [[Tree.aa false W0]] 0=some [.aa false W0]:=by rw[hS.nth];rfl
  obtain⟨mU,mV,mW,mX,ig,D9,mY,mZ⟩:=hS.dD (row:=[.v (.bool s0),.aa false r0,.v (.bool t0),.aa false q0,.aa false W0]) (w:=5) rfl (r:=[]) (len:=0) (b:=88) rfl (by unfold aF;omega);have e1:aZ zD .i8 b1=b1:=by rw[hS.wrap];exact Jp OE OF
  rw[<-e1]at Ey;have j1:aE [[Tree.aa false W1]] 0=some [.aa false W1]:=by rw[hS.nth];rfl
  obtain⟨wR,wS,wU,wV,wW,wX,u16,wY⟩:=hS.dD (row:=[.v (.bool s1),.aa false r1,.v (.bool t1),.aa false q1,.aa false W1]) (w:=5) rfl (r:=[[.v (.bool s0),.aa false r0,.v (.bool t0),.aa false q0,.aa false W0]]) (len:=1) (b:=88) rfl (by unfold aF;omega);refine bg ?_;cbv;refine⟨_,hS.call (cl),?_⟩;cbv;repeat (first|(refine tT rfl ?_;cbv)|(refine tF rfl ?_;cbv)|(refine nd rfl ?_;cbv))
  refine⟨_,hS.call (ca),?_⟩;cbv;simp only[eg,em];cbv;repeat (first|(refine tT rfl ?_;cbv)|(refine tF rfl ?_;cbv)|(refine nd rfl ?_;cbv))
  refine⟨_,hS.call (cc),?_⟩;cbv;repeat (first|(refine tT rfl ?_;cbv)|(refine tF rfl ?_;cbv)|(refine nd rfl ?_;cbv))
  refine ba aD mixed hS (3) ?_;cbv;repeat (first|refine bT rfl ?_|refine bF rfl ?_|refine nd rfl ?_)
  refine⟨_,hS.call (tV),?_⟩;cbv;refine⟨_,hS.call (Ca),?_⟩;cbv;repeat (first|refine bT rfl ?_|refine bF rfl ?_|refine nd rfl ?_)
  refine⟨_,hS.call (Nx),?_⟩;cbv;simp only[j0];cbv;repeat (first|refine bT rfl ?_|refine bF rfl ?_|refine nd rfl ?_)
  have m6:ah (ae []) (ae [[.v (.bool s0),.aa false r0,.v (.bool t0),.aa false q0,.aa false W0]])=1:=by rw[z0];exact mY
  rw[<-z0]at ig;simp only[mU];refine nd mV (nd mW (nd mX (nd (w0 _) (nd ig ?_))));simp only[m6,mZ];cbv;repeat (first|refine bT rfl ?_|refine bF rfl ?_|refine nd rfl ?_)
  refine⟨_,hS.call (Ab),?_⟩;cbv;refine⟨_,hS.call (Ey),?_⟩;cbv;repeat (first|refine bT rfl ?_|refine bF rfl ?_|refine nd rfl ?_)
  refine⟨_,hS.call (QQ),?_⟩;cbv;simp only[j1];cbv;repeat (first|refine bT rfl ?_|refine bF rfl ?_|refine nd rfl ?_)
  simp only[wR];refine nd wS (nd wU (nd wV (nd wW (nd wX ?_))));simp only[u16,wY];cbv;repeat (first|refine bT rfl ?_|refine bF rfl ?_|refine nd rfl ?_)
  repeat (first|(refine tT rfl ?_;cbv)|(refine tF rfl ?_;cbv)|(refine nd rfl ?_;cbv))
  obtain⟨v1,v2⟩:=hS.whole (r:=[[.v (.bool s0),.aa false r0,.v (.bool t0),.aa false q0,.aa false W0],[.v (.bool s1),.aa false r1,.v (.bool t1),.aa false q1,.aa false W1]]) (len:=2) rfl;refine nd v1 ?_;simp only[v2];exact bE hF ⟨ab.refl _,ab.refl _,ab.drop _ _,ab.drop _ _,ab.drop _ _,ab.drop _ _,ab.drop _ _,ab.refl _,ab.refl _,ab.refl _,ab.refl _,ab.refl _,ab.refl _,ab.refl _,ab.refl _,ab.drop _ _,ab.drop _ _,ab.drop _ _,ab.drop _ _,ab.drop _ _,ab.drop _ _,ab.drop _ _,ab.drop _ _,ab.drop _ _,ab.drop _ _,ab.refl _,ab.drop _ _,ab.drop _ _,trivial⟩
 ·refine⟨gC,[(fa b0 5,P0),(fa b1 5,P1),(fa b2 5,P2)],by omega,c2,by intro x hx;simp only[List.mem_cons,List.not_mem_nil,or_false]at hx;rcases hx with rfl|rfl|rfl;exact⟨QO.mono (by omega),QP⟩;exact⟨UG.mono (by omega),UH⟩;exact⟨qm2.mono (by omega),sP2⟩,by simp,?_⟩
  obtain⟨s0,t0,r0,q0,w0,_⟩:=bq (fa b0 5);obtain⟨s1,t1,r1,q1,w1,_⟩:=bq (fa b1 5);obtain⟨s2,t2,r2,q2,w2,_⟩:=bq (fa b2 5);rw[show Je [(fa b0 5,P0),(fa b1 5,P1),(fa b2 5,P2)]=[(qc (fa b0 5)).row ++ [.aa false (bo P0)],(qc (fa b1 5)).row ++ [.aa false (bo P1)],(qc (fa b2 5)).row ++ [.aa false (bo P2)]] from rfl];rw[w0]at Ca ⊢;rw[w1]at Ey ⊢;rw[w2]at LZ ⊢;simp only[List.cons_append,List.nil_append]
  unfold bQ kb;simp only[jf.row,ka];generalize bo P0=W0 at *;generalize bo P1=W1 at *;generalize bo P2=W2 at *;generalize aQ E=XE at *;generalize aQ gC=XC at *;generalize aQ r=X at *;generalize gl l=XL at *;generalize W .i8 v=XV at *;refine bz aD mixed [.val] Tryz.func33 rfl rfl (by kernel_rfl) fun zD zE zG zH zI zJ zK zL zM zN zO zR zS zT zU zV zX zY zZ zg zh zj zu zy zz aK ah aI aH ak aq ae aE aB aG ao az aJ an aO au aP ai aM aN ay aw aL ar zW bc A L F hS hF=>?_
  have em:zy (ae XE)=mI:=by rw[hS.aW,hS.len,lE,iD]
  have eg:zM .i64 a 3=3:=by rw[hS.bP];exact hg.symm
  have w0:∀c,ai c []=true:=fun c=>by rw[hS.wide];rfl
  have z0:ae []=0:=by rw[hS.len];rfl
  have e0:aZ zD .i8 b0=b0:=by rw[hS.wrap];exact Jp L7 L8
  rw[<-e0]at Ca;have j0:aE [[Tree.aa false W0]] 0=some [.aa false W0]:=by rw[hS.nth];rfl
  obtain⟨mU,mV,mW,mX,ig,D9,mY,mZ⟩:=hS.dD (row:=[.v (.bool s0),.aa false r0,.v (.bool t0),.aa false q0,.aa false W0]) (w:=5) rfl (r:=[]) (len:=0) (b:=88) rfl (by unfold aF;omega);have e1:aZ zD .i8 b1=b1:=by rw[hS.wrap];exact Jp OE OF
  rw[<-e1]at Ey;have j1:aE [[Tree.aa false W1]] 0=some [.aa false W1]:=by rw[hS.nth];rfl
  obtain⟨wR,wS,wU,wV,wW,wX,u16,wY⟩:=hS.dD (row:=[.v (.bool s1),.aa false r1,.v (.bool t1),.aa false q1,.aa false W1]) (w:=5) rfl (r:=[[.v (.bool s0),.aa false r0,.v (.bool t0),.aa false q0,.aa false W0]]) (len:=1) (b:=88) rfl (by unfold aF;omega);have e2:aZ zD .i8 b2=b2:=by rw[hS.wrap];exact Jp RH RJ
  rw[<-e2]at LZ;have j2:aE [[Tree.aa false W2]] 0=some [.aa false W2]:=by rw[hS.nth];rfl
  obtain⟨Ln,Lo,Lp,Lq,Ls,Lt,Lu,Lv⟩:=hS.dD (row:=[.v (.bool s2),.aa false r2,.v (.bool t2),.aa false q2,.aa false W2]) (w:=5) rfl (r:=[[.v (.bool s0),.aa false r0,.v (.bool t0),.aa false q0,.aa false W0],[.v (.bool s1),.aa false r1,.v (.bool t1),.aa false q1,.aa false W1]]) (len:=2) (b:=88) rfl (by unfold aF;omega);refine bg ?_;cbv;refine⟨_,hS.call (cl),?_⟩;cbv;repeat (first|(refine tT rfl ?_;cbv)|(refine tF rfl ?_;cbv)|(refine nd rfl ?_;cbv))
  refine⟨_,hS.call (ca),?_⟩;cbv;simp only[eg,em];cbv;repeat (first|(refine tT rfl ?_;cbv)|(refine tF rfl ?_;cbv)|(refine nd rfl ?_;cbv))
  refine⟨_,hS.call (cc),?_⟩;cbv;repeat (first|(refine tT rfl ?_;cbv)|(refine tF rfl ?_;cbv)|(refine nd rfl ?_;cbv))
  refine ba aD mixed hS (4) ?_;cbv;repeat (first|refine bT rfl ?_|refine bF rfl ?_|refine nd rfl ?_)
  refine⟨_,hS.call (tV),?_⟩;cbv;refine⟨_,hS.call (Ca),?_⟩;cbv;repeat (first|refine bT rfl ?_|refine bF rfl ?_|refine nd rfl ?_)
  refine⟨_,hS.call (Nx),?_⟩;cbv;simp only[j0];cbv;repeat (first|refine bT rfl ?_|refine bF rfl ?_|refine nd rfl ?_)
  have m6:ah (ae []) (ae [[.v (.bool s0),.aa false r0,.v (.bool t0),.aa false q0,.aa false W0]])=1:=by rw[z0];exact mY
  rw[<-z0]at ig;simp only[mU];refine nd mV (nd mW (nd mX (nd (w0 _) (nd ig ?_))));simp only[m6,mZ];cbv;repeat (first|refine bT rfl ?_|refine bF rfl ?_|refine nd rfl ?_)
  refine⟨_,hS.call (Ab),?_⟩;cbv;refine⟨_,hS.call (Ey),?_⟩;cbv;repeat (first|refine bT rfl ?_|refine bF rfl ?_|refine nd rfl ?_)
  refine⟨_,hS.call (QQ),?_⟩;cbv;simp only[j1];cbv;repeat (first|refine bT rfl ?_|refine bF rfl ?_|refine nd rfl ?_)
  simp only[wR];refine nd wS (nd wU (nd wV (nd wW (nd wX ?_))));simp only[u16,wY];cbv;repeat (first|refine bT rfl ?_|refine bF rfl ?_|refine nd rfl ?_)
  refine⟨_,hS.call (G8),?_⟩;cbv;refine⟨_,hS.call (LZ),?_⟩;cbv;repeat (first|refine bT rfl ?_|refine bF rfl ?_|refine nd rfl ?_)
  refine⟨_,hS.call (UI),?_⟩;cbv;simp only[j2];cbv;repeat (first|refine bT rfl ?_|refine bF rfl ?_|refine nd rfl ?_)
  simp only[Ln];refine nd Lo (nd Lp (nd Lq (nd Ls (nd Lt ?_))));simp only[Lu,Lv];cbv;repeat (first|refine bT rfl ?_|refine bF rfl ?_|refine nd rfl ?_)
  repeat (first|(refine tT rfl ?_;cbv)|(refine tF rfl ?_;cbv)|(refine nd rfl ?_;cbv))
  obtain⟨v1,v2⟩:=hS.whole (r:=[[.v (.bool s0),.aa false r0,.v (.bool t0),.aa false q0,.aa false W0],[.v (.bool s1),.aa false r1,.v (.bool t1),.aa false q1,.aa false W1],[.v (.bool s2),.aa false r2,.v (.bool t2),.aa false q2,.aa false W2]]) (len:=3) rfl;refine nd v1 ?_;simp only[v2];exact bE hF ⟨ab.refl _,ab.refl _,ab.drop _ _,ab.drop _ _,ab.drop _ _,ab.drop _ _,ab.drop _ _,ab.refl _,ab.refl _,ab.refl _,ab.refl _,ab.refl _,ab.refl _,ab.refl _,ab.refl _,ab.drop _ _,ab.drop _ _,ab.drop _ _,ab.drop _ _,ab.drop _ _,ab.drop _ _,ab.drop _ _,ab.drop _ _,ab.drop _ _,ab.drop _ _,ab.refl _,ab.drop _ _,ab.drop _ _,trivial⟩
end Go.Proofs.YtekefilngojelaaGreat
end
