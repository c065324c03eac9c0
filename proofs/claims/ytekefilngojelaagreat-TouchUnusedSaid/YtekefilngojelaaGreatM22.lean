/-
  A part of the proof: TuE3t, TuF3t.
-/
import Derived.Test.YtekefilngojelaaGreatM21
set_option maxHeartbeats 0
set_option maxRecDepth 100000
set_option linter.unusedVariables false
set_option linter.unusedSimpArgs false
set_option linter.unusedSectionVars false
section
namespace Go.Proofs.YtekefilngojelaaGreat
open Go Go.Abs Go.Abs.M Go.Proofs
def gl (l:List (List R5)):Abs.Rows:=l.map fun t=>[.aa false (xd t)]
def pP (l:List (List R5)):Prop:=l.length<=281474976710656/\∀t∈l,∀x∈t,x.ok
theorem Nu (l:List (List R5)):(gl l).length=l.length:=by simp[gl]
def Aa (X:Abs.Rows) (len:Nat) (O:Abs.Rows) (I:Int):St:=aC 37 [.c (.t (.aa false X)),vi .i64 2,vi .i64 2,vi .i64 3,vi .i64 6,.aj,.aj,.aj,.aj,.aj,.aj,.c (.sl 5 0 len false),vi .i64 I] [none,none,none,none,none,some (.rows 1 O true false)]
theorem sZ (l:List (List R5)) (hl:pP l) :
  ∃r:List (List T2),r.length=min l.length 6/\(∀p∈r,MP 3 p)/\aA Tryz.prog 65 [.val (tl (gl l)),.val (ti .i64 2),.val (ti .i64 2),.val (ti .i64 3),.val (ti .i64 6)] ⟨[.val (tl (aQ r))],[none,none,none,none,none]⟩:=by
 have hM:∀i:Nat,∃p,MP 3 p/\(i<l.length->aA Tryz.prog 11 [.val (.agg [.aa false (xd (l.getD i []))]),.val (ti .i64 2),.val (ti .i64 2),.val (ti .i64 3)] ⟨[.val (tl (bo p))],[none,none,none,none]⟩):=fun i=>by
  by_cases h:i<l.length
  ·have hm:l.getD i []∈l:=by rw[List.getD_eq_getElem?_getD,List.getElem?_eq_getElem h];exact List.getElem_mem h
   obtain⟨p,h1,h2⟩:=tU (l.getD i []) (hl.2 _ hm);exact⟨p,h1,fun _=>h2⟩
  ·exact⟨[],⟨⟨by simp,List.Pairwise.nil⟩,by simp[Zb],by simp,by simp⟩,fun h2=>absurd h2 h⟩
 obtain⟨f,hf⟩:=Classical.axiomOfChoice hM;obtain⟨n,hn⟩:∃n,n=min l.length 6:=⟨_,rfl⟩;refine⟨(List.range n).map f,by simp[hn],fun p hp=>by obtain⟨i,_,rfl⟩:=List.mem_map.1 hp;exact(hf i).1,?_⟩;obtain⟨X,hX⟩:∃X,X=gl l:=⟨_,rfl⟩;have lX:X.length=l.length:=by rw[hX,Nu]
 obtain⟨Y,hY⟩:∃Y,Y=aQ ((List.range n).map f):=⟨_,rfl⟩;rw[<-hX,<-hY];refine bz aD mixed [.val] Tryz.func65 rfl rfl (by kernel_rfl) fun zD zE zG zH zI zJ zK zL zM zN zO zR zS zT zU zV zX zY zZ zg zh zj zu zy zz aK ah aI aH ak aq ae aE aB aG ao az aJ an aO au aP ai aM aN ay aw aL ar zW bc A L F hS hF=>?_
 cbv;refine Be aD mixed hS (n:=n) (fun i (O:Abs.Rows)=>Aa X i O (Int.ofNat i)) (fun i O=>O=aQ ((List.range i).map f)) (a0:=[]) (iY ?_ ?_) rfl (by show 5<=6;omega) (by simp[aQ]) ?_ ?_
 ·simp[eC,Aa,aC,vi,vb]
 ·simp[eF,Aa,aC]
 ·intro i O hi hO
  have c1:pk zU (Int.ofNat i) (zy (ae X))=true:=(hS.xt lX (show i<l.length by omega) (by have:=hl.1;omega)).1;have i1:aZ zD .i64 (eZ zE (Int.ofNat i) 1)=(i:Int)+1:=(hS.xt lX (show i<l.length by omega) (by have:=hl.1;omega)).2.1;have lO:i=O.length:=by rw[hO,lj];simp
  have cp:=(hf i).2 (by omega);have yQ:O ++ [[.aa false (bo (f i))]]=aQ ((List.range (i+1)).map f):=by rw[List.range_succ,List.map_append,hO];simp[aQ]
  obtain⟨u0,u1,u2,u3,u4,u5,u6,u7⟩:=hS.dD (row:=[.aa false (bo (f i))]) (w:=1) rfl (r:=O) (len:=i) (b:=24) lO (by unfold aF;omega);have j2:aE X i=some [.aa false (xd (l.getD i []))]:=by
   rw[hS.nth,hX];unfold gl;rw[List.getElem?_map,List.getElem?_eq_getElem (show i<l.length by omega),List.getD_eq_getElem?_getD,List.getElem?_eq_getElem (show i<l.length by omega)];rfl
  generalize xd (l.getD i [])=Z1 at *;generalize bo (f i)=Z at *;cbv at i1;refine⟨?_⟩;refine bg ?_;cbv;refine tT c1 ?_;cbv;refine tT (by rcases(show i=0∨i=1∨i=2∨i=3∨i=4∨i=5 by omega) with h|h|h|h|h|h<;>rw[h]) ?_;cbv;repeat (first|(refine tT rfl ?_;cbv)|(refine tF rfl ?_;cbv)|(refine nd rfl ?_;cbv))
  simp only[j2];cbv;repeat (first|(refine tT rfl ?_;cbv)|(refine tF rfl ?_;cbv)|(refine nd rfl ?_;cbv))
  refine⟨_,hS.call (cp),?_⟩;cbv;simp only[u0,i1];refine nd u1 (nd u2 (nd u3 (nd u4 (nd u5 ?_))));refine bR [(5,9)] (O ++ [[.aa false Z]]) ?_ ?_ ?_ ?_ rfl (by show 5<=6;omega) yQ
  ·simp[bV,Aa,aC,vi,AV.aX,AV.bA,Cell.aX,aT,u6]
  ·simp[bW,Aa,aC,Abs.look,aT,aU.aX,u7,Cell.aX]
  ·simp[bf,Aa,aC,aT]
  ·simp
 ·intro O hO
  obtain⟨v1,v2⟩:=hS.whole (r:=O) (len:=n) (by rw[hO,lj];simp);rw[<-hY]at hO;rw[hO]at v1 v2;subst hO
  by_cases h6:l.length<=6
  ·have lE:pk zU (Int.ofNat n) (zy (ae X))=false:=hS.qQ (by omega)
   refine⟨?_⟩;refine bg ?_;cbv;refine tF lE ?_;cbv;repeat (first|(refine tT rfl ?_;cbv)|(refine tF rfl ?_;cbv)|(refine nd rfl ?_;cbv))
   rw[v2];refine nd v1 ?_;exact hF _ (aS.refl _)
  ·obtain rfl:n=6:=by omega
   have c1:pk zU (Int.ofNat 6) (zy (ae X))=true:=by rw[hS.lt,hS.aW,hS.len,lX];exact decide_eq_true (show((6:Nat):Int)<(l.length:Int) by omega)
   refine⟨?_⟩;refine bg ?_;cbv;refine tT c1 ?_;cbv;repeat (first|(refine tT rfl ?_;cbv)|(refine tF rfl ?_;cbv)|(refine nd rfl ?_;cbv))
   rw[v2];refine nd v1 ?_;exact hF _ (aS.refl _)
open Go Go.Abs Go.Abs.M Go.Proofs
theorem wO (K:Int) (l:List (List R5)) (hl:pP l) (v:List Int) (hv:nS v) :
  ∃E D:List (List T2),KOK 2 E D/\(∀p∈E,SP p)/\(∀p∈D,SP p)/\E.length<=2/\D.length<=1 /\
   aA Tryz.prog 31 [.val (.agg [.v (.int .u8 K),.aa false (gl l),.aa false (W .i8 v)])] ⟨[.val (.agg [.v (.int .i64 2),.aa false (aQ E),.aa false (aQ D)])],[none]⟩:=by
 obtain⟨r,na,eL,cl⟩:=sZ l hl;obtain⟨a,a1,a2,cp⟩:=jg v hv 0 (by omega) (by omega);obtain⟨b,hb⟩:∃b:Int,b=IntKind.wrap .i64 ((BitVec.ofInt 64 a &&& BitVec.ofInt 64 1).toNat):=⟨_,rfl⟩;have mc:b=0∨b=1:=by
  have:(BitVec.ofInt 64 a &&& BitVec.ofInt 64 1).toNat<=1:=by
   rw[BitVec.toNat_and];exact Nat.le_trans Nat.and_le_right (by decide)
  rw[hb,wrap_i64 (by omega) (by omega)];omega
 obtain⟨n,hn⟩:∃n:Nat,n=min r.length (1+b.toNat):=⟨_,rfl⟩;obtain⟨m,hm⟩:∃m:Nat,m=min r.length (n+1):=⟨_,rfl⟩;have sp:∀p∈r,SP p:=fun p hp=>(eL p hp).sp (by omega)
 have s1:=fun p hp=>sp p (List.mem_of_mem_take (i:=n) hp)
 have s2:∀p∈(r.drop n).take (m-n),SP p:=fun p hp=>sp p (List.mem_of_mem_drop (List.mem_of_mem_take hp))
 have l1:(r.take n).length<=2:=by rw[List.length_take];omega
 have l2:((r.drop n).take (m-n)).length<=1:=by rw[List.length_take,List.length_drop];omega
 obtain⟨e1,e2,e3⟩:=jd (plain:=false) s1;obtain⟨d1,d2,d3⟩:=jd (plain:=true) s2;have c1:=gT (r.take n) false s1 (by omega);have c2:=gT ((r.drop n).take (m-n)) true s2 (by omega);refine⟨dY false (r.take n),dY true ((r.drop n).take (m-n)),⟨by decide,fun p hp=>(e2 p hp).1,fun p hp=>⟨(d2 p hp).1,(d2 p hp).2.2 rfl⟩,e1,d1,by omega,by omega⟩,fun p hp=>(e2 p hp).2.1,fun p hp=>(d2 p hp).2.1,by omega,by omega,?_⟩
 have q1:aQ (r.take n)=(aQ r).take n:=by simp[aQ,List.map_take]
 have q2:aQ ((r.drop n).take (m-n))=((aQ r).drop n).take (m-n):=by simp[aQ,List.map_take,List.map_drop]
 rw[q1]at c1;rw[q2]at c2;have lr:(aQ r).length=r.length:=lj r;have hr6:r.length<=6:=by omega
 generalize aQ (dY false (r.take n))=YE at *;generalize aQ (dY true ((r.drop n).take (m-n)))=YD at *;obtain⟨X,hXr⟩:∃X,X=aQ r:=⟨_,rfl⟩;rw[<-hXr]at c1 c2 cl lr;generalize gl l=XL at *;generalize W .i8 v=XV at *;refine aV aD mixed [.val] Tryz.func31 rfl rfl (by kernel_rfl) fun zD zE zG zH zI zJ zK zL zM zN zO zR zS zT zU zV zX zY zZ zg zh zj zu zy zz aK ah aI aH ak aq ae aE aB aG ao az aJ an aO au aP ai aM aN ay aw aL ar zW bc A L F hS hF=>?_
 refine bg ?_;cbv;refine⟨_,hS.call (cl),?_⟩;cbv;repeat (first|(refine tT rfl ?_;cbv)|(refine tF rfl ?_;cbv)|(refine nd rfl ?_;cbv))
 refine⟨_,hS.call (cp),?_⟩;cbv;obtain⟨nI,Ua⟩:∃i:Int,i=(n:Int):=⟨_,rfl⟩;obtain⟨mI,iD⟩:∃i:Int,i=(m:Int):=⟨_,rfl⟩;have zb:zM .i64 a 1=b:=by rw[hS.bP,hb];rfl
 have zb1:zD .i64 (zE 1 b)=1+b:=by rw[hS.add,hS.wrap];exact wrap_i64 (by omega) (by omega)
 have e0:zh (zy (ae X)) (zD .i64 (zE 1 (zM .i64 a 1)))=nI:=by
  rw[zb,zb1,hS.min,hS.aW,hS.len,lr];omega
 have zb2:zD .i64 (zE nI 1)=nI+1:=by rw[hS.add,hS.wrap];exact wrap_i64 (by omega) (by omega)
 have e1:zh (zy (ae X)) (zD .i64 (zE nI 1))=mI:=by
  rw[zb2,hS.min,hS.aW,hS.len,lr];omega
 have k1:aH 0 nI (ae X)=true:=by rw[hS.cut,hS.len,lr];exact decide_eq_true (by omega)
 have k2:aH nI mI (ae X)=true:=by rw[hS.cut,hS.len,lr];exact decide_eq_true (by omega)
 have n1:zj nI=n:=by rw[hS.nat,Ua];rfl
 have p1:an X 0 n=X.take n:=by rw[hS.part,List.drop_zero]
 have p2:aI mI nI=m-n:=by rw[hS.HF];omega
 have p3:an X n (m-n)=(X.drop n).take (m-n):=by rw[hS.part]
 have w1:ai 1 X=true:=by rw[hS.wide,hXr];simp[aQ]
 simp only[e0,n1,p1];refine nd k1 (nd w1 ?_);refine⟨_,hS.call (c1),?_⟩;cbv;simp only[e1,n1,p2,p3];refine nd k2 (nd w1 ?_);refine⟨_,hS.call (c2),?_⟩;cbv;exact hF _ (aS.refl _)
end Go.Proofs.YtekefilngojelaaGreat
end
