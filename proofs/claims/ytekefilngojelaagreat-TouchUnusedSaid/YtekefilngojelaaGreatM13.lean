/-
  A part of the proof: TcD3t, TvM3t, TvO3t, TvA3t, MxH, TnA3t, TnB3t, TnC3t, TnD3t, TnE3t, TwA3t, TwB3t, TwC3t, TnF3t, RnU3t, TnG3t, TwD3t, TvB3t, TvC3t, TvD3t, TvE3t, TwE3t, TwF3t, TwG3t, TwH3t, TwI3t, TwJ03t.
-/
import Derived.Test.YtekefilngojelaaGreatM9
import Derived.Test.YtekefilngojelaaGreatM11
import Derived.Test.YtekefilngojelaaGreatM12
set_option maxHeartbeats 0
set_option maxRecDepth 100000
set_option linter.unusedVariables false
set_option linter.unusedSimpArgs false
set_option linter.unusedSectionVars false
section
namespace Go.Proofs.YtekefilngojelaaGreat
open Go Go.Abs Go.Abs.M Go.Proofs
theorem M6 (s:Bool) (r:Abs.Rows) (v:Bool) (p:Abs.Rows) (a b:Int):(pR s r v p a b).length=12:=rfl
def cV (x:Rat) (c d:Int) (l:List T2):List T2:=if x=0 then [] else l.map fun t:T2=>T2.mk (x*t.c) (c+t.a) (d+t.b)
def yH (X:Abs.Rows) (s:Bool) (r:Abs.Rows) (t:Bool) (p:Abs.Rows) (a b:Int) (len:Nat) (R:Abs.Rows) (I:Int):St:=aC 47 [.aj,.aj,.c (.t (.aa false X)),.c (.ptr 3 0 0),.c (.ptr 4 0 0),.aj,.aj,.aj,.c (.sl 5 0 len false),vi .i64 I] [none,none,none,some (.var [.t (.v (.bool s)),.t (.aa false r),.t (.v (.bool t)),.t (.aa false p)]),some (.var [.t (.v (.int .i64 a)),.t (.v (.int .i64 b)),.t (.v (.int .i64 0)),.t (.v (.int .i64 0)),.t (.v (.int .i64 0)),.t (.v (.int .i64 0)),.t (.v (.int .i64 0)),.t (.v (.int .i64 0))]),some (.rows 12 R true false)]
theorem qZ (x:Rat) (c d:Int) (l:List T2) {n:Nat} (hx:Qs x n) (hc:0<=c/\c<=30000) (hd:0<=d/\d<=30000) (hl:∀t∈l,t.ok n 30000) (hn:n<=100000) (Rx:l.length<=1000) :
  aA Tryz.prog 75 [.val (.agg (qc x).row),.val (.agg (m2 c d)),.val (tl (bo l))] ⟨[.val (tl (bo (cV x c d l))),.val (ti .i64 0)],[none,none,none]⟩:=by
 have cs:=yE x;obtain⟨C,hC⟩:∃C,C=bO x.num 0:=⟨_,rfl⟩;have TQ:C=0↔x=0:=by
  rw[hC,<-Rat.num_eq_zero];unfold bO
  by_cases h1:x.num<0
  ·rw[if_pos h1];omega
  ·rw[if_neg h1];by_cases h2:0<x.num
   ·rw[if_pos h2];omega
   ·rw[if_neg h2];omega
 rw[<-hC]at cs;obtain⟨X,hX⟩:∃X,X=bo l:=⟨_,rfl⟩;obtain⟨k,hk⟩:∃n,n=l.length:=⟨_,rfl⟩;have lX:X.length=k:=by rw[hX,sO,hk]
 obtain⟨s1,v1,r1,p1,e1,_⟩:=bq x;rw[e1]at cs ⊢
 by_cases h:x=0
 ·have hE:bo (cV x c d l)=[]:=by unfold cV;rw[if_pos h];rfl
  rw[hE,<-hX];unfold m2;refine aV aD mixed [.val,.val] Tryz.func75 rfl rfl (by kernel_rfl) fun zD zE zG zH zI zJ zK zL zM zN zO zR zS zT zU zV zX zY zZ zg zh zj zu zy zz aK ah aI aH ak aq ae aE aB aG ao az aJ an aO au aP ai aM aN ay aw aL ar zW bc A L F hS hF=>?_
  have q:zS C 0=true:=by rw[hS.eq];exact decide_eq_true (TQ.2 h)
  cbv;refine⟨_,hS.call (cs),?_⟩;cbv;refine bT (q) ?_;exact Dl hF (ab.drop _ _) (iI.refl _)
 ·obtain⟨g,hg⟩:∃g:List T2,g=l.map fun t:T2=>T2.mk (x*t.c) (c+t.a) (d+t.b):=⟨_,rfl⟩
  have hE:cV x c d l=g:=by unfold cV;rw[if_neg h,hg]
  rw[hE,<-hX];have lg:g.length=k:=by rw[hg,List.length_map,hk]
  have ub:∀(i:Nat) (t:T2),l[i]?=some t->g[i]?=some (T2.mk (x*t.c) (c+t.a) (d+t.b)):=fun i t ht=>by rw[hg,List.getElem?_map,ht];rfl
  clear hg hE;unfold m2;refine aV aD mixed [.val,.val] Tryz.func75 rfl rfl (by kernel_rfl) fun zD zE zG zH zI zJ zK zL zM zN zO zR zS zT zU zV zX zY zZ zg zh zj zu zy zz aK ah aI aH ak aq ae aE aB aG ao az aJ an aO au aP ai aM aN ay aw aL ar zW bc A L F hS hF=>?_
  have q:zS C 0=false:=by rw[hS.eq];exact decide_eq_false fun e=>h (TQ.1 e)
  have lE:=hS.qQ lX;have e0:zT 0 0=false:=by rw[hS.ne];rfl
  cbv;refine⟨_,hS.call (cs),?_⟩;cbv;refine bF (q) ?_;refine nN aD mixed hS (n:=k) (fun i (R:Abs.Rows)=>yH X s1 r1 v1 p1 c d i R (Int.ofNat i)) (fun i R=>R=bo (g.take i)) (a0:=[]) (iY ?_ ?_) rfl (by show 3<=6;omega) rfl ?_ ?_
  ·simp[eC,yH,aC,vi,vb]
  ·simp[eF,yH,aC]
  ·intro i R hi hR
   obtain⟨l1,i1,j1,n0⟩:=hS.xt lX hi (by omega);obtain⟨t,s,v,r,p,ht,gt,qt,hr,_,_,_⟩:=j6 (l:=l) (i:=i) (by omega);obtain⟨u,s3,v3,r3,p3,hu,gu,qu,_,wu,il,_⟩:=j6 (l:=g) (i:=i) (by omega);have ot:=hl t ht;have VE:u=T2.mk (x*t.c) (c+t.a) (d+t.b):=by rw[ub i t gt]at gu;exact(Option.some.inj gu).symm
   have j2:aE X i=some (pR s r v p t.a t.b):=by rw[hS.nth,hX];exact hr
   have cn:=HO c d t.a t.b hc hd ot.a ot.b;have cm:=(H3 hx ot.c (by omega)).2;rw[show x*t.c=u.c by rw[VE],qu,qt,e1]at cm;rw[show c+t.a=u.a by rw[VE],show d+t.b=u.b by rw[VE]]at cn;have rL:R ++ [pR s3 r3 v3 p3 u.a u.b]=bo (g.take (i+1)):=by rw[il,sQ,<-hR,wu]
   obtain⟨u0,u1,u2,u3,u4,u5,u6,u7⟩:=hS.dD (M6 s3 r3 v3 p3 u.a u.b) (r:=R) (len:=i) (b:=128) (by rw[hR,sO,List.length_take];omega) (by unfold aF;omega);obtain⟨row,oJ⟩:∃row,row=pR s3 r3 v3 p3 u.a u.b:=⟨_,rfl⟩;rw[<-oJ]at rL u0 u1 u2 u3 u4 u6 u7;generalize t.a=a at *;generalize t.b=b at *;generalize u.a=a2 at *;generalize u.b=b2 at *;unfold m2 at cn;unfold pR at oJ;clear ub hl ot VE
   cbv;refine bT l1 ?_;rw[j1,j2];cbv;refine nd (n0) ?_;refine⟨_,hS.call (cn),?_⟩;cbv;refine bF (e0) ?_;rw[j1,j2];cbv;refine nd (n0) ?_;refine⟨_,hS.call (cm),?_⟩;cbv;rw[<-oJ,u0];refine nd (u1) ?_;refine nd (u2) ?_;refine nd (u3) ?_;refine nd (u4) ?_;refine nd (u5) ?_;refine bR [(3,3),(4,4),(5,12)] (R ++ [row]) ?_ ?_ ?_ ?_ rfl (by show 3<=6;omega) rL
   ·simp[bV,yH,aC,vi,AV.aX,AV.bA,Cell.aX,aT,i1,u6]
   ·simp[bW,yH,aC,Abs.look,aT,aU.aX,u7,Cell.aX]
   ·simp[bf,yH,aC,aT]
   ·simp
  ·intro R hR
   rw[List.take_of_length_le (by omega)]at hR;obtain⟨f1,f2⟩:=hS.whole (r:=R) (len:=k) (by rw[hR,sO,lg]);rw[<-hR]at hF;cbv;refine bF lE (nd f1 ?_);rw[f2];exact hF _ (aS.refl _)
open Go Go.Abs Go.Abs.M Go.Proofs
def Vd (p:List T2):Prop:=(∀t∈p,t.c≠0)/\p.Pairwise fun t u=>mD t.a t.b u.a u.b=1
def Zs (p:List T2):Prop:=∀t∈p,t.c.den=1/\t.c.num.natAbs<=1000000
def j7 (p:List T2):Nat:=p.foldl (fun g t=>Nat.gcd g t.c.num.natAbs) 0
def Bw (p:List T2):Rat:=(if(p.headD ⟨0,0,0⟩).c<0 then -1 else 1)*(Rat.divInt 1 (j7 p))
def jm (p:List T2):List T2:=if p=[] then [] else cV (Bw p) 0 0 p
def Nm (p:List T2):Prop:=p≠[]->j7 p=1/\0<(p.headD ⟨0,0,0⟩).c
theorem mQ:∀(p:List T2) (g:Nat),p.foldl (fun g t=>Nat.gcd g t.c.num.natAbs) g∣g/\∀t∈p,p.foldl (fun g t=>Nat.gcd g t.c.num.natAbs) g∣t.c.num.natAbs
 | [],g=>⟨Nat.dvd_refl _,fun t h=>absurd h (by simp)⟩
 | u::p,g=>by
  obtain⟨h1,h2⟩:=mQ p (Nat.gcd g u.c.num.natAbs);refine⟨Nat.dvd_trans h1 (Nat.gcd_dvd_left _ _),fun t ht=>?_⟩;rcases List.mem_cons.1 ht with rfl|ht
  ·exact Nat.dvd_trans h1 (Nat.gcd_dvd_right _ _)
  ·exact h2 t ht
theorem DO (k:Nat) (hk:0<k):∀(p q:List T2) (g:Nat),p.map (fun t=>t.c.num.natAbs)=q.map (fun t=>k*t.c.num.natAbs)->p.foldl (fun g t=>Nat.gcd g t.c.num.natAbs) (k*g)=k*q.foldl (fun g t=>Nat.gcd g t.c.num.natAbs) g
 | [],[],g,_=>rfl
 | [],_::_,g,h=>by simp at h
 | _::_,[],g,h=>by simp at h
 | t::p,u::q,g,h=>by
  simp only[List.map_cons,List.cons.injEq]at h;simp only[List.foldl_cons];rw[h.1,Nat.gcd_mul_left];exact DO k hk p q _ h.2
theorem j8 {p:List T2} (hp:p≠[]) (hz:Zs p) (hv:Vd p):0<j7 p:=by
 cases p with
 | nil=>exact absurd rfl hp
 | cons t p=>
  have h:=(mQ (t::p) 0).2 t List.mem_cons_self;refine Nat.pos_of_dvd_of_pos h ?_;have h0:=hv.1 t List.mem_cons_self;have:t.c.num≠0:=fun e=>h0 (Rat.num_eq_zero.1 e)
  omega
theorem ra {x:Rat} (h:x.den=1):x=(x.num:Rat):=Rat.ext (by simp) (by simp[h])
theorem FJ (p:List T2):cV 1 0 0 p=p:=by
 unfold cV;rw[if_neg (by decide)];have:(fun t:T2=>T2.mk (1*t.c) (0+t.a) (0+t.b))=id:=by funext t;simp[Rat.one_mul]
 rw[this,List.map_id]
theorem Qb {p:List T2} (h:Nm p):jm p=p:=by
 unfold jm
 by_cases hp:p=[]
 ·rw[if_pos hp,hp]
 ·rw[if_neg hp]
  obtain⟨h1,h2⟩:=h hp;have:Bw p=1:=by
   unfold Bw;rw[if_neg (by rw[Rat.not_lt];exact Rat.le_of_lt h2),h1];rw[Rat.one_mul];rfl
  rw[this,FJ]
theorem DP {s:Int} (hs:s=1∨s=-1) {g:Nat} (hg:0<g) {x:Rat} (hx:x.den=1) (hd:g∣x.num.natAbs) :
  ∃z:Int,((s:Rat)*Rat.divInt 1 g)*x=(z:Rat)/\x.num.natAbs=g*z.natAbs/\x.num=s*(g*z):=by
 obtain⟨c,hc⟩:=Int.ofNat_dvd_left.2 hd;have yf:s*s=1:=by rcases hs with rfl|rfl<;>rfl
 refine⟨s*c,?_,?_,?_⟩
 ·rw[ra hx,hc]
  have yt:(g:Rat)≠0:=by
   intro h;have h2:((g:Int):Rat)=((0:Int):Rat):=by exact_mod_cast h
   have:=Rat.intCast_inj.1 h2;omega
  have e:Rat.divInt 1 (g:Int)*(g:Rat)=1:=by
   rw[Rat.divInt_eq_div];have:((1:Int):Rat)=1:=rfl;rw[this];exact Rat.div_mul_cancel yt
  have:(((g:Int)*c:Int):Rat)=(g:Rat)*(c:Rat):=by rw[Rat.intCast_mul];rfl
  rw[this,Rat.intCast_mul];rw[show((s:Rat)*Rat.divInt 1 (g:Int))*((g:Rat)*(c:Rat))=(s:Rat)*(Rat.divInt 1 (g:Int)*(g:Rat))*(c:Rat) by simp only[Rat.mul_assoc],e,Rat.mul_one]
 ·rw[hc,Int.natAbs_mul,Int.natAbs_mul]
  rcases hs with rfl|rfl<;>simp
 ·rw[hc]
  rw[show s*((g:Int)*(s*c))=(s*s)*((g:Int)*c) by ac_rfl,yf,Int.one_mul]
theorem wv {p:List T2} (hp:p≠[]) (hz:Zs p) (hv:Vd p) :
  ∃s:Int,(s=1∨s=-1)/\(s=-1↔(p.headD ⟨0,0,0⟩).c<0)/\Bw p=(s:Rat)*Rat.divInt 1 (j7 p):=by
 unfold Bw
 by_cases h:(p.headD ⟨0,0,0⟩).c<0
 ·refine⟨-1,Or.inr rfl,⟨fun _=>h,fun _=>rfl⟩,?_⟩
  rw[if_pos h];rfl
 ·refine⟨1,Or.inl rfl,⟨fun e=>absurd e (by decide),fun e=>absurd e h⟩,?_⟩
  rw[if_neg h];rfl
theorem KN {p:List T2} (hp:p≠[]) (hz:Zs p) (hv:Vd p):Bw p≠0:=by
 obtain⟨s,hs,_,e⟩:=wv hp hz hv;have hg:=j8 hp hz hv;rw[e];intro h;rcases Rat.mul_eq_zero.1 h with h|h
 ·have:=Rat.intCast_inj.1 (show((s:Int):Rat)=((0:Int):Rat) from h)
  omega
 ·have e:Rat.divInt 1 ((j7 p:Nat):Int)*((j7 p:Nat):Rat)=1:=by
   rw[Rat.divInt_eq_div];have yt:((j7 p:Nat):Rat)≠0:=by
    intro h;have h2:(((j7 p:Nat):Int):Rat)=((0:Int):Rat):=by exact_mod_cast h
    have:=Rat.intCast_inj.1 h2;omega
   exact Rat.div_mul_cancel yt
  rw[h,Rat.zero_mul]at e;exact absurd e (by decide)
theorem H7 {p:List T2} (hz:Zs p) (hv:Vd p) :
  Zs (jm p)/\Vd (jm p)/\Nm (jm p)/\(jm p).length=p.length/\(jm p).map (fun t=>(t.a,t.b))=p.map (fun t=>(t.a,t.b)):=by
 by_cases hp:p=[]
 ·subst hp
  refine⟨fun t h=>absurd h (by simp[jm]),⟨fun t h=>absurd h (by simp[jm]),by simp[jm]⟩,fun h=>absurd (by simp[jm]) h,by simp[jm],by simp[jm]⟩
 ·have hn:=KN hp hz hv
  have hE:jm p=p.map fun t:T2=>T2.mk (Bw p*t.c) (0+t.a) (0+t.b):=by unfold jm;rw[if_neg hp];unfold cV;rw[if_neg hn]
  obtain⟨s,hs,ji,e⟩:=wv hp hz hv;have hg:=j8 hp hz hv;obtain⟨g,VF⟩:∃g,g=j7 p:=⟨_,rfl⟩;rw[<-VF]at hg e;have hdv:∀t∈p,g∣t.c.num.natAbs:=fun t ht=>by rw[VF];exact(mQ p 0).2 t ht
  have hq:∀t∈p,∃z:Int,Bw p*t.c=(z:Rat)/\t.c.num.natAbs=g*z.natAbs/\t.c.num=s*(g*z):=fun t ht=>by
   rw[e];exact DP hs hg (hz t ht).1 (hdv t ht)
  have hZ:Zs (jm p):=by
   intro u hu;rw[hE]at hu;obtain⟨t,ht,rfl⟩:=List.mem_map.1 hu;obtain⟨z,h1,h2,_⟩:=hq t ht;simp only[h1];refine⟨Rat.den_intCast z,?_⟩;have h3:z.natAbs<=g*z.natAbs:=Nat.le_mul_of_pos_left _ hg;have h4:=(hz t ht).2;rw[Rat.num_intCast];omega
  have Qc:∀t∈p,(T2.mk (Bw p*t.c) (0+t.a) (0+t.b)).c.num.natAbs*g=t.c.num.natAbs:=fun t ht=>by
   obtain⟨z,h1,h2,_⟩:=hq t ht;simp only[h1,Rat.num_intCast];rw[h2,Nat.mul_comm]
  refine⟨hZ,⟨?_,?_⟩,?_,by rw[hE,List.length_map],by rw[hE,List.map_map];exact List.map_congr_left fun t _=>by simp⟩
  ·intro u hu
   rw[hE]at hu;obtain⟨t,ht,rfl⟩:=List.mem_map.1 hu;exact fun h=>(Rat.mul_eq_zero.1 h).elim hn (hv.1 t ht)
  ·rw[hE,List.pairwise_map]
   exact hv.2.imp fun h=>by simp only[Int.zero_add];exact h
  ·intro _
   refine⟨?_,?_⟩
   ·have Jy:p.map (fun t=>t.c.num.natAbs)=(jm p).map (fun t=>g*t.c.num.natAbs):=by
     rw[hE,List.map_map];exact List.map_congr_left fun t ht=>by simp only[Function.comp];rw[<-Qc t ht,Nat.mul_comm]
    have h:=DO g hg p (jm p) 0 Jy;rw[Nat.mul_zero]at h;have h2:g=g*j7 (jm p):=by rw[VF];rw[VF]at h;exact h
    exact Nat.eq_of_mul_eq_mul_left hg (by rw[Nat.mul_one];exact h2.symm)
   ·cases p with
    | nil=>exact absurd rfl hp
    | cons t p=>
     rw[hE];simp only[List.map_cons,List.headD_cons];obtain⟨z,h1,h2,h3⟩:=hq t List.mem_cons_self;rw[h1];simp only[List.headD_cons]at ji;have h0:=hv.1 t List.mem_cons_self;have Hq:z≠0:=by
      intro h;rw[h]at h3;exact h0 (Rat.num_eq_zero.1 (by rw[h3];simp))
     have hgz:(0:Int)<g:=by omega
     have Ft:t.c<0↔t.c.num<0:=by rw[<-Rat.not_le,<-Rat.num_nonneg];omega
     have:0<z:=by
      rcases hs with rfl|rfl
      ·have:¬t.c.num<0:=fun h=>absurd (ji.2 (Ft.2 h)) (by decide)
       rw[Int.one_mul]at h3;rw[h3]at this;rcases Int.lt_trichotomy z 0 with h|h|h
       ·exact absurd (Int.mul_neg_of_pos_of_neg hgz h) this
       ·exact absurd h Hq
       ·exact h
      ·have h4:t.c.num<0:=Ft.1 (ji.1 rfl)
       rw[h3]at h4;rcases Int.lt_trichotomy z 0 with h|h|h
       ·have:=Int.mul_neg_of_pos_of_neg hgz h
        omega
       ·exact absurd h Hq
       ·exact h
     exact Rat.intCast_pos.2 this
open Go Go.Abs Go.Abs.M Go.Proofs
def Qd (t u:T2):Int:=if mD t.a t.b u.a u.b≠0 then mD t.a t.b u.a u.b else jl t.c u.c
theorem rb (a b c d:Int):(mD a b c d=-1/\(a<c∨a=c/\b<d))∨(mD a b c d=0/\a=c/\b=d)∨(mD a b c d=1/\(c<a∨a=c/\d<b)):=by
 unfold mD
 by_cases h1:a<c
 ·rw[if_pos h1];exact Or.inl ⟨rfl,Or.inl h1⟩
 ·rw[if_neg h1]
  by_cases h2:c<a
  ·rw[if_pos h2];exact Or.inr (Or.inr ⟨rfl,Or.inl h2⟩)
  ·rw[if_neg h2]
   by_cases h3:b<d
   ·rw[if_pos h3];exact Or.inl ⟨rfl,Or.inr ⟨by omega,h3⟩⟩
   ·rw[if_neg h3]
    by_cases h4:d<b
    ·rw[if_pos h4];exact Or.inr (Or.inr ⟨rfl,Or.inr ⟨by omega,h4⟩⟩)
    ·rw[if_neg h4];exact Or.inr (Or.inl ⟨rfl,by omega,by omega⟩)
theorem yI {x y z:Rat} (h1:x<y) (h2:y<z):x<z:=Std.lt_trans h1 h2
theorem uH {x:Rat} (h:x<x):False:=Rat.lt_irrefl h
theorem M7 (x y:Rat):x<y∨x=y∨y<x:=by
 rcases Rat.le_total (a:=x) (b:=y) with h|h
 ·by_cases e:x=y
  ·exact Or.inr (Or.inl e)
  ·exact Or.inl (Rat.lt_of_le_of_ne h e)
 ·by_cases e:x=y
  ·exact Or.inr (Or.inl e)
  ·exact Or.inr (Or.inr (Rat.lt_of_le_of_ne h (Ne.symm e)))
theorem KO (x y:Rat):(jl x y=-1/\x<y)∨(jl x y=0/\x=y)∨(jl x y=1/\y<x):=by
 unfold jl;rcases M7 x y with h|h|h
 ·rw[if_pos h];exact Or.inl ⟨rfl,h⟩
 ·subst h
  rw[if_neg uH,if_neg uH];exact Or.inr (Or.inl ⟨rfl,rfl⟩)
 ·rw[if_neg fun h2=>uH (yI h h2),if_pos h];exact Or.inr (Or.inr ⟨rfl,h⟩)
def L4 (t u:T2):Prop:=(t.a<u.a∨t.a=u.a/\t.b<u.b)∨(t.a=u.a/\t.b=u.b/\t.c<u.c)
theorem M8 (t u:T2):(Qd t u=-1/\L4 t u)∨(Qd t u=0/\t=u)∨(Qd t u=1/\L4 u t):=by
 unfold Qd L4;rcases rb t.a t.b u.a u.b with⟨h,g⟩|⟨h,g1,g2⟩|⟨h,g⟩
 ·rw[h,if_pos (by decide)];exact Or.inl ⟨rfl,Or.inl g⟩
 ·rw[h,if_neg (by decide)]
  rcases KO t.c u.c with⟨k,l⟩|⟨k,l⟩|⟨k,l⟩
  ·exact Or.inl ⟨k,Or.inr ⟨g1,g2,l⟩⟩
  ·exact Or.inr (Or.inl ⟨k,sR.2 ⟨l,g1,g2⟩⟩)
  ·exact Or.inr (Or.inr ⟨k,Or.inr ⟨g1.symm,g2.symm,l⟩⟩)
 ·rw[h,if_pos (by decide)];exact Or.inr (Or.inr ⟨rfl,Or.inl (by omega)⟩)
theorem H8 {t u v:T2} (h1:L4 t u) (h2:L4 u v):L4 t v:=by
 unfold L4 at *;rcases h1 with h1|⟨a1,b1,c1⟩
 ·rcases h2 with h2|⟨a2,b2,c2⟩
  ·left;omega
  ·left;omega
 ·rcases h2 with h2|⟨a2,b2,c2⟩
  ·left;omega
  ·right;exact⟨by omega,by omega,yI c1 c2⟩
theorem M9 {t:T2} (h:L4 t t):False:=by
 unfold L4 at h;rcases h with h|⟨_,_,c⟩
 ·omega
 ·exact uH c
theorem H9 (t u:T2) (l k:List T2):iK (t::l) (u::k)=if Qd t u≠0 then Qd t u else iK l k:=by
 unfold Qd;show(if mD t.a t.b u.a u.b≠0 then mD t.a t.b u.a u.b else if jl t.c u.c≠0 then jl t.c u.c else iK l k)=_
 by_cases h:mD t.a t.b u.a u.b≠0
 ·rw[if_pos h,if_pos h,if_pos h]
 ·rw[if_neg h,if_neg h]
def Ia:List T2->List T2->Prop
 | [],[]=>False
 | [],_::_=>True
 | _::_,[]=>False
 | t::l,u::k=>L4 t u∨(t=u/\Ia l k)
theorem wx:∀p q:List T2,(iK p q=-1/\Ia p q)∨(iK p q=0/\p=q)∨(iK p q=1/\Ia q p)
 | [],[]=>Or.inr (Or.inl ⟨rfl,rfl⟩)
 | [],_::_=>Or.inl ⟨rfl,trivial⟩
 | _::_,[]=>Or.inr (Or.inr ⟨rfl,trivial⟩)
 | t::l,u::k=>by
  rw[H9];rcases M8 t u with⟨h,g⟩|⟨h,g⟩|⟨h,g⟩
  ·rw[h,if_pos (by decide)];exact Or.inl ⟨rfl,Or.inl g⟩
  ·rw[h,if_neg (by decide)]
   subst g;rcases wx l k with⟨h,g⟩|⟨h,g⟩|⟨h,g⟩
   ·exact Or.inl ⟨h,Or.inr ⟨rfl,g⟩⟩
   ·exact Or.inr (Or.inl ⟨h,by rw[g]⟩)
   ·exact Or.inr (Or.inr ⟨h,Or.inr ⟨rfl,g⟩⟩)
  ·rw[h,if_pos (by decide)];exact Or.inr (Or.inr ⟨rfl,Or.inl g⟩)
theorem sS:∀ {p q r:List T2},Ia p q->Ia q r->Ia p r
 | [],[],_,h,_=>absurd h id
 | [],_::_,[],_,h=>absurd h id
 | [],_::_,_::_,_,_=>trivial
 | _::_,[],_,h,_=>absurd h id
 | _::_,_::_,[],_,h=>absurd h id
 | t::p,u::q,v::r,h1,h2=>by
  rcases h1 with h1|⟨rfl,h1⟩
  ·rcases h2 with h2|⟨rfl,h2⟩
   ·exact Or.inl (H8 h1 h2)
   ·exact Or.inl h1
  ·rcases h2 with h2|⟨rfl,h2⟩
   ·exact Or.inl h2
   ·exact Or.inr ⟨rfl,sS h1 h2⟩
theorem re:∀ {p:List T2},Ia p p->False
 | [],h=>h
 | t::p,h=>by
  rcases h with h|⟨_,h⟩
  ·exact M9 h
  ·exact re h
theorem rf {p q:List T2}:iK p q<0↔Ia p q:=by
 rcases wx p q with⟨h,g⟩|⟨h,g⟩|⟨h,g⟩
 ·rw[h];exact⟨fun _=>g,fun _=>by decide⟩
 ·subst g;rw[h];exact⟨fun k=>absurd k (by decide),fun k=>absurd k re⟩
 ·rw[h];exact⟨fun k=>absurd k (by decide),fun k=>absurd (sS k g) re⟩
theorem Na {p q:List T2} (h:¬Ia p q) (h2:p≠q):Ia q p:=by
 rcases wx p q with⟨_,g⟩|⟨_,g⟩|⟨_,g⟩
 ·exact absurd g h
 ·exact absurd g h2
 ·exact g
def lM (l:List (List T2)):Prop:=l.Pairwise Ia
theorem lM.nodup {l:List (List T2)} (h:lM l):l.Pairwise (· ≠ ·):=by
 refine List.Pairwise.imp ?_ h;intro a b h e;subst e;exact re h
def Ez (p:List T2):List (List T2)->Nat
 | []=>0
 | q::l=>if iK q p<0 then Ez p l+1 else 0
theorem KQ (p:List T2):∀l:List (List T2),Ez p l<=l.length
 | []=>Nat.le_refl 0
 | q::l=>by
  unfold Ez;split
  ·have:=KQ p l
   rw[List.length_cons];omega
  ·exact Nat.zero_le _
theorem KR (p:List T2):∀(l:List (List T2)) (i:Nat) (q:List T2),i<Ez p l->l[i]?=some q->iK q p<0
 | [],i,q,h,_=>by simp[Ez]at h
 | x::l,i,q,h,g=>by
  unfold Ez at h;split at h
  ·cases i with
   | zero=>simp at g;subst g;assumption
   | succ i=>exact KR p l i q (by omega) (by simpa using g)
  ·omega
theorem KS (p:List T2):∀(l:List (List T2)) (q:List T2),l[Ez p l]?=some q->¬iK q p<0
 | [],q,g=>by simp at g
 | x::l,q,g=>by
  unfold Ez at g;split at g
  ·exact KS p l q (by simpa using g)
  ·rename_i h;simp at g;subst g;exact h
def jc (p:List T2) (l:List (List T2)):List (List T2):=if l[Ez p l]?=some p then l else l.take (Ez p l)++p::l.drop (Ez p l)
theorem j9 (p q:List T2) (l:List (List T2)):jc p (q::l)=if iK q p<0 then q::jc p l else if q=p then q::l else p::q::l:=by
 unfold jc
 by_cases h:iK q p<0
 ·have e:Ez p (q::l)=Ez p l+1:=by show(if iK q p<0 then _ else _)=_;rw[if_pos h]
  rw[if_pos h,e];simp only[List.getElem?_cons_succ,List.take_succ_cons,List.drop_succ_cons,List.cons_append];split<;>rfl
 ·have e:Ez p (q::l)=0:=by show(if iK q p<0 then _ else _)=_;rw[if_neg h]
  rw[if_neg h,e];simp only[List.getElem?_cons_zero,List.take_zero,List.drop_zero,List.nil_append,Option.some.injEq]
theorem rh (p:List T2):jc p []=[p]:=by simp[jc,Ez]
theorem ri {p x:List T2}:∀ {l:List (List T2)},x∈jc p l↔x=p∨x∈l
 | []=>by rw[rh];simp
 | q::l=>by
  rw[j9];split
  ·rw[List.mem_cons,ri,List.mem_cons]
   constructor
   ·rintro(h|h|h)
    ·exact Or.inr (Or.inl h)
    ·exact Or.inl h
    ·exact Or.inr (Or.inr h)
   ·rintro(h|h|h)
    ·exact Or.inr (Or.inl h)
    ·exact Or.inl h
    ·exact Or.inr (Or.inr h)
  ·split
   ·rename_i h
    rw[List.mem_cons];constructor
    ·exact Or.inr
    ·rintro(h2|h2)
     ·exact Or.inl (h2.trans h.symm)
     ·exact h2
   ·rw[List.mem_cons]
theorem DQ {p:List T2}:∀ {l:List (List T2)},lM l->lM (jc p l)
 | [],_=>by rw[rh];exact List.pairwise_singleton _ _
 | q::l,h=>by
  obtain⟨h1,h2⟩:=List.pairwise_cons.1 h;rw[j9];split
  ·rename_i hq
   refine List.pairwise_cons.2 ⟨fun x hx=>?_,DQ h2⟩;rcases ri.1 hx with rfl|hx
   ·exact rf.1 hq
   ·exact h1 x hx
  ·split
   ·exact h
   ·rename_i hq cY
    have hpq:Ia p q:=Na (fun g=>hq (rf.2 g)) cY;refine List.pairwise_cons.2 ⟨fun x hx=>?_,h⟩;rcases List.mem_cons.1 hx with rfl|hx
    ·exact hpq
    ·exact sS hpq (h1 x hx)
theorem DR {p:List T2}:∀ {l:List (List T2)},lM l->p∈l->jc p l=l
 | [],_,h=>absurd h (by simp)
 | q::l,h,hm=>by
  obtain⟨h1,h2⟩:=List.pairwise_cons.1 h;rw[j9];rcases List.mem_cons.1 hm with rfl|hm
  ·rw[if_neg (fun g=>re (rf.1 g)),if_pos rfl]
  ·rw[if_pos (rf.2 (h1 p hm)),DR h2 hm]
theorem DS {p:List T2}:∀ {l:List (List T2)},p ∉ l->(jc p l).length=l.length+1
 | [],_=>by rw[rh];rfl
 | q::l,h=>by
  rw[j9];split
  ·rw[List.length_cons,DS fun g=>h (List.mem_cons_of_mem _ g)];rfl
  ·split
   ·rename_i e;exact absurd (e▸List.mem_cons_self) h
   ·rfl
theorem KT (p:List T2) (l:List (List T2)):(jc p l).length<=l.length+1:=by
 unfold jc;split
 ·omega
 ·rw[List.length_append,List.length_cons,List.length_take,List.length_drop];omega
theorem DT {p:List T2}:∀ {l:List (List T2)},(∀q∈l,Ia q p)->jc p l=l ++ [p]
 | [],_=>rh p
 | q::l,h=>by
  rw[j9,if_pos (rf.2 (h q List.mem_cons_self)),DT fun x hx=>h x (List.mem_cons_of_mem _ hx)];rfl
def rj (plain:Bool) (out:List (List T2)) (x:List T2):List (List T2):=if jm x=[]∨plain=true/\ia (jm x)=0 then out else jc (jm x) out
def dY (plain:Bool) (l:List (List T2)):List (List T2):=l.foldl (rj plain) []
theorem DU (plain:Bool) (l:List (List T2)) (x:List T2):dY plain (l ++ [x])=rj plain (dY plain l) x:=by unfold dY;rw[List.foldl_append];rfl
theorem Nb {plain:Bool}:∀ {l:List (List T2)},lM l->(∀p∈l,p≠[]/\Nm p/\(plain=true->ia p≠0))->dY plain l=l:=by
 intro l
 suffices h:∀(k o:List (List T2)),lM (o++k)->(∀p∈k,p≠[]/\Nm p/\(plain=true->ia p≠0))->k.foldl (rj plain) o=o++k from fun h1 h2=>h l [] h1 h2
 intro k
 induction k with
 | nil=>intro o _ _;simp
 | cons x k ih=>
  intro o h1 h2;obtain⟨g1,g2,g3⟩:=h2 x List.mem_cons_self;rw[List.foldl_cons];have e:rj plain o x=o ++ [x]:=by
   unfold rj;rw[Qb g2,if_neg (by rintro(h|⟨h,h'⟩);exact g1 h;exact g3 h h')];exact DT fun q hq=>(List.pairwise_append.1 h1).2.2 q hq x List.mem_cons_self
  rw[e,ih (o ++ [x]) (by rw[List.append_assoc];exact h1) fun p hp=>h2 p (List.mem_cons_of_mem _ hp)];simp
open Go Go.Abs Go.Abs.M Go.Proofs
end Go.Proofs.YtekefilngojelaaGreat
end
section
namespace Go.Abs
open Go
variable {P:Program} {C:dP} {n0:Nat} {zD:IntKind->Int->Int} {zE:Int->Int->Int} {zG:Int->Int->Int} {zH:Int->Int->Int} {zI:Int->Int->Int} {zJ:Int->Int->Int} {zK:IntKind->Int->Int->Int} {zL:IntKind->Int->Int->Int} {zM:IntKind->Int->Int->Int} {zN:IntKind->Int->Int->Int} {zO:IntKind->Int->Int->Int} {zR:IntKind->Int->Int->Int} {zS:Int->Int->Bool} {zT:Int->Int->Bool} {zU:Int->Int->Bool} {zV:Int->Int->Bool} {zX:Bool->Bool} {zY:Bool->Bool->Bool} {zZ:Bool->Bool->Bool} {zg:Int->Int->Int} {zh:Int->Int->Int} {zj:Int->Nat} {zu:Int->Nat->Bool} {zy:Nat->Int} {zz:Nat->Int->Nat} {aK:Nat->Nat->Bool} {ah:Nat->Nat->Nat} {aI:Int->Int->Nat} {aH:Int->Int->Nat->Bool} {ak:Nat->Nat->Nat->Bool} {aq:Int->Int->Nat->Bool} {ae:Rows->Nat} {aE:Rows->Nat->Option (List Tree)} {aB:Rows->Nat->List Tree->Rows} {aG:IntKind->Rows->Nat->Bool} {ao:Rows->Nat->Int} {az:IntKind->Rows->Nat->Int->Rows} {aJ:Nat->Nat->Rows->Bool} {an:Rows->Nat->Nat->Rows} {aO:Rows->Nat->Rows->Rows} {au:Rows->Nat->Rows->Rows} {aP:Nat->List Tree->Rows} {ai:Nat->Rows->Bool} {aM:List Bool->Bool} {aN:List (Value×Tree)->Value->Bool} {ay:List (Value×Tree)->Value->Bool} {aw:List (Value×Tree)->Value->Tree->List (Value×Tree)} {aL:Rows->Option ByteArray} {ar:List (Value×Tree)->Value->Option (Option Tree)} {zW:IntKind->List Int->Rows} {bc:(α:Type)->(Unit->α)->α} {A:FuncId->Ask->pc->Prop} {L:Code->St->(bC->ST->Prop)->Prop}
theorem Std.ch (h:Std P n0 zD zE zG zH zI zJ zK zL zM zN zO zR zS zT zU zV zX zY zZ zg zh zj zu zy zz aK ah aI aH ak aq ae aE aB aG ao az aJ an aO au aP ai aM aN ay aw aL ar zW bc A L) {f:FuncId} {s s':St} (hc:ep P f s s'):A f (.h s) (.h s'):=by rw[h.a];exact hc
def LN (_:Nat):Prop:=True
def LN.v {n:Nat} (_:LN n):Nat:=n
end Go.Abs
end
section
namespace Go.Proofs.YtekefilngojelaaGreat
open Go Go.Abs Go.Proofs
def eH (n:Int):List Tree:=[.v (.int .u8 n)]
def tS (len:Nat) (B:Abs.Rows):List (Option aU):=[some (.var [.sl 1 0 len false]),some (.rows 1 B true false)]
def jn (len:Nat) (B:Abs.Rows):List (Option aU):=[some (.var [.sl 2 0 len false]),none,some (.rows 1 B true false)]
theorem FK (n:Int) (h0:0<=n) (h1:n<128):ep Tryz.prog 164 ⟨[.c (.ptr 0 0 0),vi .u64 n],[some (.var [.t (.aa true [])])]⟩ ⟨[],tS 1 [eH n]⟩:=by
 unfold tS eH;refine sA aD mixed Tryz.func164 rfl rfl (by kernel_rfl) rfl (by simp) fun zD zE zG zH zI zJ zK zL zM zN zO zR zS zT zU zV zX zY zZ zg zh zj zu zy zz aK ah aI aH ak aq ae aE aB aG ao az aJ an aO au aP ai aM aN ay aw aL ar zW bc A L G hS hG=>?_
 have l1:zV 128 n=false:=by rw[hS.le];exact decide_eq_false (by omega)
 have e0:zD .u8 n=n:=by rw[hS.wrap];exact wrap_u8 h0 (by omega)
 have Nc:ai 1 []=true:=by rw[hS.wide];rfl
 obtain⟨u0,u1,u2,u3,u4,u5,u6,u7⟩:=hS.dD (row:=[Tree.v (.int .u8 n)]) (w:=1) rfl (r:=[]) (len:=0) (b:=1) rfl (by unfold aF;omega);have z0:ae []=0:=by rw[hS.len];rfl
 have u8:ah (ae []) (ae [[Tree.v (.int .u8 n)]])=1:=by rw[z0];exact u6
 rw[<-z0]at u4;cbv;refine ba aD mixed hS (1) ?_;cbv;refine bF l1 ?_;simp only[e0,u0];refine nd u1 (nd u2 (nd u3 (nd Nc (nd u4 ?_))));refine vX hG [(1,2)] ?_ ?_ ?_ ?_
 ·simp[bV]
 ·simp[bW,Abs.look,aT,aU.aX,Cell.aX,u8,u7]
 ·simp[bf,aT]
 ·simp
theorem KU (n:Int) (h0:0<=n) (h1:n<128) (len:Nat) (B:Abs.Rows) (hB:len=B.length) (hl:len<=1000000):ep Tryz.prog 164 ⟨[.c (.ptr 0 0 0),vi .u64 n],tS len B⟩ ⟨[],jn (len+1) (B ++ [eH n])⟩:=by
 unfold tS jn eH;refine sA aD mixed Tryz.func164 rfl rfl (by kernel_rfl) rfl (by simp) fun zD zE zG zH zI zJ zK zL zM zN zO zR zS zT zU zV zX zY zZ zg zh zj zu zy zz aK ah aI aH ak aq ae aE aB aG ao az aJ an aO au aP ai aM aN ay aw aL ar zW bc A L G hS hG=>?_
 have l1:zV 128 n=false:=by rw[hS.le];exact decide_eq_false (by omega)
 have e0:zD .u8 n=n:=by rw[hS.wrap];exact wrap_u8 h0 (by omega)
 obtain⟨u0,u1,u2,u3,u4,u5,u6,u7⟩:=hS.dD (row:=[Tree.v (.int .u8 n)]) (w:=1) rfl (r:=B) (len:=len) (b:=1) hB (by unfold aF;omega);cbv;refine ba aD mixed hS (1) ?_;cbv;refine bF l1 ?_;simp only[e0,u0];refine nd u1 (nd u2 (nd u3 (nd u4 (nd u5 ?_))));refine vX hG [(2,3)] ?_ ?_ ?_ ?_
 ·simp[bV]
 ·simp[bW,Abs.look,aT,aU.aX,Cell.aX,u6,u7]
 ·simp[bf,aT]
 ·simp
open Go Go.Abs Go.Proofs
theorem FL:ep Tryz.prog 146 ⟨[.c (.ptr 0 0 0),vi .i64 0],[some (.var [.t (.aa true [])])]⟩ ⟨[],tS 1 [eH 0]⟩:=by
 have c:=FK 0 (by omega) (by omega);unfold tS eH at c ⊢;refine sB aD mixed Tryz.func146 rfl rfl (by kernel_rfl) rfl (by simp) fun zD zE zG zH zI zJ zK zL zM zN zO zR zS zT zU zV zX zY zZ zg zh zj zu zy zz aK ah aI aH ak aq ae aE aB aG ao az aJ an aO au aP ai aM aN ay aw aL ar zW bc A L G hS hG=>?_
 have e:aZ zD .u64 (nM zH 2 (aZ zD .u64 0))=0:=by rw[hS.wrap,hS.mul,hS.wrap];rfl
 cbv;repeat (first|refine bT rfl ?_|refine bF rfl ?_|refine nd rfl ?_)
 refine⟨_,hS.ch c,?_⟩;cbv;refine vX hG [] ?_ ?_ ?_ ?_
 ·simp[bV]
 ·simp[bW,Abs.look,aT,aU.aX,Cell.aX]
 ·simp[bf,aT]
 ·simp
def wI (s:Bool) (w:Int):Abs.Rows:=[eH (if s then 3 else 2),eH 0,eH 0,eH 0,eH w]
theorem yJ (s:Bool) (w:Int) (h0:0<=w) (h1:w<256) (len:Nat) (B:Abs.Rows) (hB:len=B.length) (hl:len<=1000000) :
  ep Tryz.prog 179 ⟨[.c (.ptr 0 0 0),.agg [.t (.v (.bool s)),.t (.aa false [[.v (.int .u32 w)]])]],tS len B⟩ ⟨[],jn (len+5) (B++wI s w)⟩:=by
 have c:=KU (if s then 3 else 2) (by split<;>omega) (by split<;>omega) len B hB hl;unfold wI;obtain⟨lr,Qe⟩:∃lr:Abs.Rows,lr=[[.v (.int .u32 w)]]:=⟨_,rfl⟩;rw[<-Qe];obtain⟨new,tY⟩:∃new:Abs.Rows,new=[eH 0,eH 0,eH 0,eH w]:=⟨_,rfl⟩;have key:∀k:Int,ep Tryz.prog 164 ⟨[.c (.ptr 0 0 0),vi .u64 k],tS len B⟩ ⟨[],jn (len+1) (B ++ [eH k])⟩->∃B1,B1=B ++ [eH k]/\B1.length=len+1/\B++eH k::new=B1++new/\ep Tryz.prog 164 ⟨[.c (.ptr 0 0 0),vi .u64 k],tS len B⟩ ⟨[],jn (len+1) B1⟩:=fun k h=>⟨_,rfl,by rw[hB];simp,by simp,h⟩
 cases s
 ·obtain⟨B1,nJ,KV,hE,c⟩:=key _ c
  rw[<-tY,show(if false=true then(3:Int) else 2)=2 from rfl];rw[show(if false=true then(3:Int) else 2)=2 from rfl]at hE c nJ;rw[hE];clear hE nJ key;unfold tS jn eH at *;refine sB aD mixed Tryz.func179 rfl rfl (by kernel_rfl) rfl (by simp) fun zD zE zG zH zI zJ zK zL zM zN zO zR zS zT zU zV zX zY zZ zg zh zj zu zy zz aK ah aI aH ak aq ae aE aB aG ao az aJ an aO au aP ai aM aN ay aw aL ar zW bc A L G hS hG=>?_
  have n1:zy (ae lr)=1:=by rw[hS.aW,hS.len,Qe];rfl
  have g1:ao lr 0=w:=by rw[hS.dL,Qe];rfl
  have g2:aG .u32 lr 0=true:=by rw[hS.gJ,Qe];rfl
  have s1:aZ zD .u8 (zL .u32 w 24)=0:=by rw[hS.wrap,hS.shr,show(2:Int)^(Min.min (24:Int).toNat IntKind.u32.bits)=16777216 from rfl,show w.fdiv 16777216=0 by rw[Int.fdiv_eq_ediv_of_nonneg _ (by omega)];omega];rfl
  have s2:aZ zD .u8 (zL .u32 w 16)=0:=by rw[hS.wrap,hS.shr,show(2:Int)^(Min.min (16:Int).toNat IntKind.u32.bits)=65536 from rfl,show w.fdiv 65536=0 by rw[Int.fdiv_eq_ediv_of_nonneg _ (by omega)];omega];rfl
  have s3:aZ zD .u8 (zL .u32 w 8)=0:=by rw[hS.wrap,hS.shr,show(2:Int)^(Min.min (8:Int).toNat IntKind.u32.bits)=256 from rfl,show w.fdiv 256=0 by rw[Int.fdiv_eq_ediv_of_nonneg _ (by omega)];omega];rfl
  have s4:aZ zD .u8 w=w:=by rw[hS.wrap];exact wrap_u8 h0 (by omega)
  have UU:=hS.Tn (new:=new) (m:=4) (w:=1) (by rw[tY];rfl) (by omega) (by rw[tY];rfl) (r:=B1) (len:=len+1) (b:=1) KV.symm (by unfold aF;omega);have u0:=UU.1;have u1:=UU.2.1;have u2:=UU.2.2.1;have u3:=UU.2.2.2.1;have u4:=UU.2.2.2.2.1;have u5:=UU.2.2.2.2.2.1;have u6:=UU.2.2.2.2.2.2.1;have u7:=UU.2.2.2.2.2.2.2;clear UU;have l2:pk zU 1 1=false:=rfl;cbv at s1 s2 s3 s4;cbv;repeat (first|refine bT rfl ?_|refine bF rfl ?_|refine nd rfl ?_)
  simp only[n1];cbv;refine⟨_,hS.ch c,?_⟩;cbv;refine ba aD mixed hS (2) ?_;cbv;simp only[n1,g1,s1,s2,s3,s4,<-tY,u0];cbv;repeat (first|refine bT rfl ?_|refine bF rfl ?_|refine nd rfl ?_)
  refine nd g2 (nd u1 (nd u2 (nd u3 (nd u4 (nd u5 ?_)))));repeat (first|refine bT rfl ?_|refine bF rfl ?_|refine nd rfl ?_)
  refine vX hG [(2,8)] ?_ ?_ ?_ ?_
  ·simp[bV]
  ·simp[bW,Abs.look,aT,aU.aX,Cell.aX,u6,u7]
  ·simp[bf,aT]
  ·simp
 ·obtain⟨B1,nJ,KV,hE,c⟩:=key _ c
  rw[<-tY,show(if true=true then(3:Int) else 2)=3 from rfl];rw[show(if true=true then(3:Int) else 2)=3 from rfl]at hE c nJ;rw[hE];clear hE nJ key;unfold tS jn eH at *;refine sB aD mixed Tryz.func179 rfl rfl (by kernel_rfl) rfl (by simp) fun zD zE zG zH zI zJ zK zL zM zN zO zR zS zT zU zV zX zY zZ zg zh zj zu zy zz aK ah aI aH ak aq ae aE aB aG ao az aJ an aO au aP ai aM aN ay aw aL ar zW bc A L G hS hG=>?_
  have n1:zy (ae lr)=1:=by rw[hS.aW,hS.len,Qe];rfl
  have g1:ao lr 0=w:=by rw[hS.dL,Qe];rfl
  have g2:aG .u32 lr 0=true:=by rw[hS.gJ,Qe];rfl
  have s1:aZ zD .u8 (zL .u32 w 24)=0:=by rw[hS.wrap,hS.shr,show(2:Int)^(Min.min (24:Int).toNat IntKind.u32.bits)=16777216 from rfl,show w.fdiv 16777216=0 by rw[Int.fdiv_eq_ediv_of_nonneg _ (by omega)];omega];rfl
  have s2:aZ zD .u8 (zL .u32 w 16)=0:=by rw[hS.wrap,hS.shr,show(2:Int)^(Min.min (16:Int).toNat IntKind.u32.bits)=65536 from rfl,show w.fdiv 65536=0 by rw[Int.fdiv_eq_ediv_of_nonneg _ (by omega)];omega];rfl
  have s3:aZ zD .u8 (zL .u32 w 8)=0:=by rw[hS.wrap,hS.shr,show(2:Int)^(Min.min (8:Int).toNat IntKind.u32.bits)=256 from rfl,show w.fdiv 256=0 by rw[Int.fdiv_eq_ediv_of_nonneg _ (by omega)];omega];rfl
  have s4:aZ zD .u8 w=w:=by rw[hS.wrap];exact wrap_u8 h0 (by omega)
  have UU:=hS.Tn (new:=new) (m:=4) (w:=1) (by rw[tY];rfl) (by omega) (by rw[tY];rfl) (r:=B1) (len:=len+1) (b:=1) KV.symm (by unfold aF;omega);have u0:=UU.1;have u1:=UU.2.1;have u2:=UU.2.2.1;have u3:=UU.2.2.2.1;have u4:=UU.2.2.2.2.1;have u5:=UU.2.2.2.2.2.1;have u6:=UU.2.2.2.2.2.2.1;have u7:=UU.2.2.2.2.2.2.2;clear UU;have l2:pk zU 1 1=false:=rfl;cbv at s1 s2 s3 s4;cbv;repeat (first|refine bT rfl ?_|refine bF rfl ?_|refine nd rfl ?_)
  simp only[n1];cbv;refine⟨_,hS.ch c,?_⟩;cbv;refine ba aD mixed hS (2) ?_;cbv;simp only[n1,g1,s1,s2,s3,s4,<-tY,u0];cbv;repeat (first|refine bT rfl ?_|refine bF rfl ?_|refine nd rfl ?_)
  refine nd g2 (nd u1 (nd u2 (nd u3 (nd u4 (nd u5 ?_)))));repeat (first|refine bT rfl ?_|refine bF rfl ?_|refine nd rfl ?_)
  refine vX hG [(2,8)] ?_ ?_ ?_ ?_
  ·simp[bV]
  ·simp[bW,Abs.look,aT,aU.aX,Cell.aX,u6,u7]
  ·simp[bf,aT]
  ·simp
open Go Go.Abs Go.Abs.M Go.Proofs
def wQ (s:Bool) (w:Int):Abs.Rows:=wI s w++wI false 1
theorem Ib (s:Bool) (w:Int) (h0:0<=w) (h1:w<256) (len:Nat) (B:Abs.Rows) (hB:len=B.length) (hl:len<=900000) :
  ep Tryz.prog 175 ⟨[.c (.ptr 0 0 0),.agg [.t (.v (.bool s)),.t (.aa false [[.v (.int .u32 w)]]),.t (.v (.bool false)),.t (.aa false [[.v (.int .u32 1)]])]],tS len B⟩ ⟨[],jn (len+10) (B++wQ s w)⟩:=by
 have c1:=yJ s w h0 h1 len B hB (by omega);obtain⟨B1,nJ⟩:∃B1,B1=B++wI s w:=⟨_,rfl⟩;rw[<-nJ]at c1;have KV:B1.length=len+5:=by rw[nJ,hB];simp[wI]
 have c2:=yJ false 1 (by omega) (by omega) (len+5) B1 KV.symm (by omega);unfold wQ;rw[show B++(wI s w++wI false 1)=B1++wI false 1 by rw[nJ];simp];obtain⟨B2,pQ⟩:∃B2,B2=B1++wI false 1:=⟨_,rfl⟩;rw[<-pQ]at c2 ⊢;rw[show len+5+5=len+10 from rfl]at c2;generalize len+5=l1 at *;generalize len+10=l2 at *;unfold tS jn at *;refine sB aD mixed Tryz.func175 rfl rfl (by kernel_rfl) rfl (by simp) fun zD zE zG zH zI zJ zK zL zM zN zO zR zS zT zU zV zX zY zZ zg zh zj zu zy zz aK ah aI aH ak aq ae aE aB aG ao az aJ an aO au aP ai aM aN ay aw aL ar zW bc A L G hS hG=>?_
 cbv;repeat (first|refine bT rfl ?_|refine bF rfl ?_|refine nd rfl ?_)
 refine⟨_,hS.ch c1,?_⟩;cbv;repeat (first|refine bT rfl ?_|refine bF rfl ?_|refine nd rfl ?_)
 refine⟨_,hS.ch c2,?_⟩;cbv;repeat (first|refine bT rfl ?_|refine bF rfl ?_|refine nd rfl ?_)
 refine vX hG [(2,7)] ?_ ?_ ?_ ?_
 ·simp[bV]
 ·simp[bW,Abs.look,aT,aU.aX,Cell.aX]
 ·simp[bf,aT]
 ·simp
def wT (s:Bool) (w a b:Int):Abs.Rows:=wQ s w ++ [eH a,eH b,eH 0,eH 0,eH 0,eH 0,eH 0,eH 0]
theorem FM (s:Bool) (w a b:Int) (h0:0<=w) (h1:w<256) (ha:0<=a/\a<128) (hb:0<=b/\b<128) (len:Nat) (B:Abs.Rows) (hB:len=B.length) (hl:len<=800000) :
  ep Tryz.prog 166 ⟨[.c (.ptr 0 0 0),.agg ((pR s [[.v (.int .u32 w)]] false [[.v (.int .u32 1)]] a b).map .t)],tS len B⟩ ⟨[],jn (len+18) (B++wT s w a b)⟩:=by
 have c1:=Ib s w h0 h1 len B hB (by omega);obtain⟨B1,nJ⟩:∃X,X=B++wQ s w:=⟨_,rfl⟩;have KV:B1.length=len+10:=by rw[nJ,hB];simp[wQ,wI]
 rw[<-nJ]at c1;have c2:=KU a ha.1 ha.2 (len+10) B1 KV.symm (by omega);obtain⟨B2,pQ⟩:∃X,X=B1 ++ [eH a]:=⟨_,rfl⟩;have Rz:B2.length=len+10+1:=by rw[pQ];simp[KV]
 rw[<-pQ]at c2;have c3:=KU b hb.1 hb.2 (len+11) B2 Rz.symm (by omega);obtain⟨B3,Qf⟩:∃X,X=B2 ++ [eH b]:=⟨_,rfl⟩;have Ze:B3.length=len+11+1:=by rw[Qf];simp[Rz]
 rw[<-Qf]at c3;have c4:=KU 0 (by omega) (by omega) (len+12) B3 Ze.symm (by omega);obtain⟨B4,VG⟩:∃X,X=B3 ++ [eH 0]:=⟨_,rfl⟩;have Zf:B4.length=len+12+1:=by rw[VG];simp[Ze]
 rw[<-VG]at c4;have c5:=KU 0 (by omega) (by omega) (len+13) B4 Zf.symm (by omega);obtain⟨B5,VH⟩:∃X,X=B4 ++ [eH 0]:=⟨_,rfl⟩;have Zg:B5.length=len+13+1:=by rw[VH];simp[Zf]
 rw[<-VH]at c5;have c6:=KU 0 (by omega) (by omega) (len+14) B5 Zg.symm (by omega);obtain⟨B6,VI⟩:∃X,X=B5 ++ [eH 0]:=⟨_,rfl⟩;have Zh:B6.length=len+14+1:=by rw[VI];simp[Zg]
 rw[<-VI]at c6;have c7:=KU 0 (by omega) (by omega) (len+15) B6 Zh.symm (by omega);obtain⟨B7,VJ⟩:∃X,X=B6 ++ [eH 0]:=⟨_,rfl⟩;have Zi:B7.length=len+15+1:=by rw[VJ];simp[Zh]
 rw[<-VJ]at c7;have c8:=KU 0 (by omega) (by omega) (len+16) B7 Zi.symm (by omega);obtain⟨B8,VK⟩:∃X,X=B7 ++ [eH 0]:=⟨_,rfl⟩;have Zj:B8.length=len+16+1:=by rw[VK];simp[Zi]
 rw[<-VK]at c8;have c9:=KU 0 (by omega) (by omega) (len+17) B8 Zj.symm (by omega);obtain⟨B9,VL⟩:∃X,X=B8 ++ [eH 0]:=⟨_,rfl⟩;have lB9:B9.length=len+17+1:=by rw[VL];simp[Zj]
 rw[<-VL]at c9;have hE:B++wT s w a b=B9:=by rw[VL,VK,VJ,VI,VH,VG,Qf,pQ,nJ];simp[wT]
 rw[hE];clear hE VL VK VJ VI VH VG Qf pQ nJ KV Rz Ze Zf Zg Zh Zi Zj lB9;rw[show len+10+1=len+11 from rfl]at c2;rw[show len+11+1=len+12 from rfl]at c3;rw[show len+12+1=len+13 from rfl]at c4;rw[show len+13+1=len+14 from rfl]at c5;rw[show len+14+1=len+15 from rfl]at c6;rw[show len+15+1=len+16 from rfl]at c7;rw[show len+16+1=len+17 from rfl]at c8;rw[show len+17+1=len+18 from rfl]at c9
 generalize len+10=l0 at *;generalize len+11=l1 at *;generalize len+12=l2 at *;generalize len+13=l3 at *;generalize len+14=l4 at *;generalize len+15=l5 at *;generalize len+16=l6 at *;generalize len+17=l7 at *;generalize len+18=l8 at *;unfold tS jn pR at *;simp only[List.map_cons,List.map_nil];refine sB aD mixed Tryz.func166 rfl rfl (by kernel_rfl) rfl (by simp) fun zD zE zG zH zI zJ zK zL zM zN zO zR zS zT zU zV zX zY zZ zg zh zj zu zy zz aK ah aI aH ak aq ae aE aB aG ao az aJ an aO au aP ai aM aN ay aw aL ar zW bc A L G hS hG=>?_
 have sa:aZ zD .u64 a=a:=by rw[hS.wrap];exact fg ha.1 (by omega)
 have sb:aZ zD .u64 b=b:=by rw[hS.wrap];exact fg hb.1 (by omega)
 cbv at sa sb;cbv;repeat (first|refine bT rfl ?_|refine bF rfl ?_|refine nd rfl ?_)
 refine⟨_,hS.ch c1,?_⟩;cbv;repeat (first|refine bT rfl ?_|refine bF rfl ?_|refine nd rfl ?_)
 refine ba aD mixed hS (9) ?_;cbv;repeat (first|refine bT rfl ?_|refine bF rfl ?_|refine nd rfl ?_)
 simp only[sa];refine⟨_,hS.ch c2,?_⟩;cbv;repeat (first|refine bT rfl ?_|refine bF rfl ?_|refine nd rfl ?_)
 simp only[sb];refine⟨_,hS.ch c3,?_⟩;cbv;repeat (first|refine bT rfl ?_|refine bF rfl ?_|refine nd rfl ?_)
 refine⟨_,hS.ch c4,?_⟩;cbv;repeat (first|refine bT rfl ?_|refine bF rfl ?_|refine nd rfl ?_)
 refine⟨_,hS.ch c5,?_⟩;cbv;repeat (first|refine bT rfl ?_|refine bF rfl ?_|refine nd rfl ?_)
 refine⟨_,hS.ch c6,?_⟩;cbv;repeat (first|refine bT rfl ?_|refine bF rfl ?_|refine nd rfl ?_)
 refine⟨_,hS.ch c7,?_⟩;cbv;repeat (first|refine bT rfl ?_|refine bF rfl ?_|refine nd rfl ?_)
 refine⟨_,hS.ch c8,?_⟩;cbv;repeat (first|refine bT rfl ?_|refine bF rfl ?_|refine nd rfl ?_)
 refine⟨_,hS.ch c9,?_⟩;cbv;repeat (first|refine bT rfl ?_|refine bF rfl ?_|refine nd rfl ?_)
 refine vX hG [(2,35)] ?_ ?_ ?_ ?_
 ·simp[bV]
 ·simp[bW,Abs.look,aT,aU.aX,Cell.aX]
 ·simp[bf,aT]
 ·simp
open Go Go.Abs Go.Abs.M Go.Proofs
structure T2.int (t:T2):Prop where
 d:t.c.den=1
 n:t.c.num≠0/\t.c.num.natAbs<=100
 a:0<=t.a/\t.a<128
 b:0<=t.b/\t.b<128
def tB (t:T2):Abs.Rows:=wT (decide (t.c.num<0)) (t.c.num.natAbs:Int) t.a t.b
def pB (p:List T2):Abs.Rows:=eH (p.length:Int)::p.flatMap tB
theorem By {n:Nat} (h0:n≠0) (h:n<4294967296):dg n=[(n:Int)]:=by
 unfold dg;rw[Fp n (1+n) n (Nat.le_refl _) (by omega),Nat.add_comm];unfold LX;rw[if_neg h0,Nat.mod_eq_of_lt h,Nat.div_eq_of_lt h];cases n<;>simp[LX]
theorem Qg {t:T2} (h:t.int):t.row=pR (decide (t.c.num<0)) [[.v (.int .u32 (t.c.num.natAbs:Int))]] false [[.v (.int .u32 1)]] t.a t.b:=by
 unfold T2.row;have e:(qc t.c).row=[.v (.bool (decide (t.c.num<0))),.aa false (W .u32 (dg t.c.num.natAbs)),.v (.bool (decide ((t.c.den:Int)<0))),.aa false (W .u32 (dg (t.c.den:Int).natAbs))]:=rfl;rw[e,h.d,By (by have:=h.n.1;omega) (by have:=h.n.2;omega),show((1:Nat):Int).natAbs=1 from rfl,By (by omega) (by omega)];rfl
def Ic (X:Abs.Rows) (N:Int) (len:Nat) (B:Abs.Rows) (I:Int):St:=aC 23 [.c (.ptr 0 0 0),.aj,.c (.dj 1000000000166 [(0,0,0)]),.aj,.aj,.aj,.aj,.aj,.aj,.aj,.aj,.aj,.aj,.c (.t (.aa false X)),vi .i64 N,vi .i64 I] [some (.var [.sl 2 0 len false]),none,some (.rows 1 B true false)]
theorem FN (p:List T2) (hp:∀t∈p,t.int) (hn:p.length<100) (len:Nat) (B:Abs.Rows) (hB:len=B.length) (hl:len<=100000) :
  ep Tryz.prog 165 ⟨[.c (.ptr 0 0 0),.c (.t (.aa false (bo p))),.c (.dj 1000000000166 [(0,0,0)])],tS len B⟩ ⟨[],jn (len+1+18*p.length) (B++pB p)⟩:=by
 have c1:=KU (p.length:Int) (by omega) (by omega) len B hB (by omega);obtain⟨X,hX⟩:∃X,X=bo p:=⟨_,rfl⟩;obtain⟨n,kZ⟩:∃n,n=p.length:=⟨_,rfl⟩;have lX:X.length=n:=by rw[hX,sO,kZ]
 obtain⟨N,hN⟩:∃N:Int,N=(p.length:Int):=⟨_,rfl⟩;obtain⟨B1,nJ⟩:∃Z,Z=B ++ [eH N]:=⟨_,rfl⟩;rw[<-hN,<-nJ]at c1;rw[<-hX,<-kZ];unfold tS jn at *;refine sA aD mixed Tryz.func165 rfl rfl (by kernel_rfl) rfl (by simp) fun zD zE zG zH zI zJ zK zL zM zN zO zR zS zT zU zV zX zY zZ zg zh zj zu zy zz aK ah aI aH ak aq ae aE aB aG ao az aJ an aO au aP ai aM aN ay aw aL ar zW bc A L G hS hG=>?_
 have e2:zy (ae X)=N:=by rw[hS.aW,hS.len,lX,hN,kZ]
 have e1:zD .u64 (zy (ae X))=N:=by rw[hS.wrap,hS.aW,hS.len,lX,hN,kZ];exact fg (by omega) (by omega)
 cbv;simp only[e1];refine⟨_,hS.ch c1,?_⟩;cbv;simp only[e2];have KV:B1.length=len+1:=by rw[nJ,hB];simp
 have hW:∀t:T2,(tB t).length=18:=fun t=>by simp[tB,wT,wQ,wI]
 have hlen:∀q:List T2,(q.flatMap tB).length=18*q.length:=fun q=>by
  induction q with
  | nil=>rfl
  | cons t q ih=>rw[List.flatMap_cons,List.length_append,ih,hW,List.length_cons];omega
 refine nN aD mixed hS (n:=n) (fun i (z:Nat×Abs.Rows)=>Ic X N z.1 z.2 (Int.ofNat i)) (fun i z=>z.1=len+1+18*i/\z.2=B1++(p.take i).flatMap tB) (a0:=(len+1,B1)) (iY ?_ ?_) rfl (Nat.le_succ 2) ⟨rfl,by simp⟩ ?_ ?_
 ·simp[eC,Ic,aC,vi,vb]
 ·simp[eF,Ic,aC]
 ·rintro i ⟨l2,B2⟩ hi ⟨uW,pQ⟩
  simp only at uW pQ;obtain⟨t,s,v,r,q,ht,gt,_,hr,wt,il,_⟩:=j6 (l:=p) (i:=i) (by omega);have ot:=hp t ht;have dv:=Qg ot;have Rz:l2=B2.length:=by rw[pQ,List.length_append,hlen,KV,List.length_take,uW];omega
  have c2:=FM (decide (t.c.num<0)) (t.c.num.natAbs:Int) t.a t.b (by omega) (by have:=ot.n.2;omega) ot.a ot.b l2 B2 Rz (by omega);have hR:l2+18=len+1+18*(i+1)/\B2++tB t=B1++(p.take (i+1)).flatMap tB:=⟨by omega,by rw[il,pQ,List.flatMap_append];simp⟩;have l1:zU (Int.ofNat i) N=true:=by rw[hS.lt,hN];exact decide_eq_true (show(i:Int)<(p.length:Int) by omega)
  have i1:zD .i64 (zE (i:Int) 1)=(i:Int)+1:=by rw[hS.add,hS.wrap];exact wrap_i64 (by omega) (by omega)
  have j1:zj (Int.ofNat i)=i:=by rw[hS.nat];rfl
  have n0:zV 0 (Int.ofNat i)=true:=by rw[hS.le];exact decide_eq_true (show(0:Int)<=(i:Int) by omega)
  have j2:aE X i=some (pR (decide (t.c.num<0)) [[.v (.int .u32 (t.c.num.natAbs:Int))]] false [[.v (.int .u32 1)]] t.a t.b):=by rw[hS.nth,hX,hr,<-wt,dv]
  obtain⟨B3,Qf⟩:∃Z,Z=B2++tB t:=⟨_,rfl⟩;obtain⟨l3,hl3⟩:∃Z,Z=l2+18:=⟨_,rfl⟩;have c3:ep Tryz.prog 166 ⟨[.c (.ptr 0 0 0),.agg ((pR (decide (t.c.num<0)) [[.v (.int .u32 (t.c.num.natAbs:Int))]] false [[.v (.int .u32 1)]] t.a t.b).map .t)],tS l2 B2⟩ ⟨[],jn l3 B3⟩:=by rw[hl3,Qf];exact c2
  rw[<-Qf,<-hl3]at hR;generalize decide (t.c.num<0)=sg at *;generalize (t.c.num.natAbs:Int)=w at *;generalize t.a=a at *;generalize t.b=b at *;unfold tS jn pR at c3;simp only[List.map_cons,List.map_nil]at c3;clear c2 dv ot Rz pQ uW hr wt il;cbv;refine bT l1 ?_;rw[j1,j2];cbv;refine nd n0 ?_;refine⟨_,hS.ch c3,?_⟩;cbv;refine bR [(2,4)] (l3,B3) ?_ ?_ ?_ ?_ rfl (Nat.le_succ 2) hR
  ·simp[bV,Ic,aC,vi,AV.aX,AV.bA,Cell.aX,aT,i1]
  ·simp[bW,Ic,aC,Abs.look,aT,aU.aX,Cell.aX]
  ·simp[bf,Ic,aC,aT]
  ·simp
 ·rintro⟨l2,B2⟩ ⟨uW,pQ⟩
  simp only at uW pQ;have lE:zU (Int.ofNat n) N=false:=by rw[hS.lt,hN];exact decide_eq_false (show ¬(n:Int)<(p.length:Int) by omega)
  have hBE:B2=B++pB p:=by rw[pQ,nJ,List.take_of_length_le (by omega),hN];simp[pB]
  rw[<-hBE,<-uW]at hG;cbv;refine bF lE ?_;refine vX hG [] ?_ ?_ ?_ ?_
  ·simp[bV]
  ·simp[bW,Abs.look,aT,aU.aX,Cell.aX]
  ·simp[bf,aT]
  ·simp
open Go Go.Abs Go.Abs.M Go.Proofs
theorem FO (p:List T2) (hp:∀t∈p,t.int) (hn:p.length<100) (len:Nat) (B:Abs.Rows) (hB:len=B.length) (hl:len<=100000) :
  ep Tryz.prog 147 ⟨[.c (.ptr 0 0 0),.c (.t (.aa false (bo p)))],tS len B⟩ ⟨[],jn (len+1+18*p.length) (B++pB p)⟩:=by
 have c:=FN p hp hn len B hB hl;generalize len+1+18*p.length=l2 at *;generalize bo p=X at *;obtain⟨B2,pQ⟩:∃Z,Z=B++pB p:=⟨_,rfl⟩;rw[<-pQ]at c ⊢;unfold tS jn at *;refine sA aD mixed Tryz.func147 rfl rfl (by kernel_rfl) rfl (by simp) fun zD zE zG zH zI zJ zK zL zM zN zO zR zS zT zU zV zX zY zZ zg zh zj zu zy zz aK ah aI aH ak aq ae aE aB aG ao az aJ an aO au aP ai aM aN ay aw aL ar zW bc A L G hS hG=>?_
 cbv;refine⟨_,hS.ch c,?_⟩;cbv;refine vX hG [] ?_ ?_ ?_ ?_
 ·simp[bV]
 ·simp[bW,Abs.look,aT,aU.aX,Cell.aX]
 ·simp[bf,aT]
 ·simp
theorem DV (len:Nat) (B:Abs.Rows) (hB:len=B.length) (hl:len<=100000) :
  ep Tryz.prog 167 ⟨[.c (.ptr 0 0 0),.c (.t (.aa true [])),.c (.dj 1000000000168 [(0,0,0)])],tS len B⟩ ⟨[],jn (len+1) (B ++ [eH 0])⟩:=by
 have c:=KU 0 (by omega) (by omega) len B hB (by omega);obtain⟨B2,pQ⟩:∃Z,Z=B ++ [eH 0]:=⟨_,rfl⟩;rw[<-pQ]at c ⊢;unfold tS jn at *;refine sB aD mixed Tryz.func167 rfl rfl (by kernel_rfl) rfl (by simp) fun zD zE zG zH zI zJ zK zL zM zN zO zR zS zT zU zV zX zY zZ zg zh zj zu zy zz aK ah aI aH ak aq ae aE aB aG ao az aJ an aO au aP ai aM aN ay aw aL ar zW bc A L G hS hG=>?_
 have e2:zy (ae [])=0:=by rw[hS.aW,hS.len];rfl
 cbv;simp only[e2];cbv;refine⟨_,hS.ch c,?_⟩;cbv;refine ba aD mixed hS (1) ?_;simp only[e2];cbv;repeat (first|refine bT rfl ?_|refine bF rfl ?_|refine nd rfl ?_)
 refine vX hG [] ?_ ?_ ?_ ?_
 ·simp[bV]
 ·simp[bW,Abs.look,aT,aU.aX,Cell.aX]
 ·simp[bf,aT]
 ·simp
theorem FP (len:Nat) (B:Abs.Rows) (hB:len=B.length) (hl:len<=100000) :
  ep Tryz.prog 148 ⟨[.c (.ptr 0 0 0),.c (.t (.aa true []))],tS len B⟩ ⟨[],jn (len+1) (B ++ [eH 0])⟩:=by
 have c:=DV len B hB hl;obtain⟨B2,pQ⟩:∃Z,Z=B ++ [eH 0]:=⟨_,rfl⟩;rw[<-pQ]at c ⊢;unfold tS jn at *;refine sA aD mixed Tryz.func148 rfl rfl (by kernel_rfl) rfl (by simp) fun zD zE zG zH zI zJ zK zL zM zN zO zR zS zT zU zV zX zY zZ zg zh zj zu zy zz aK ah aI aH ak aq ae aE aB aG ao az aJ an aO au aP ai aM aN ay aw aL ar zW bc A L G hS hG=>?_
 cbv;refine⟨_,hS.ch c,?_⟩;cbv;refine vX hG [] ?_ ?_ ?_ ?_
 ·simp[bV]
 ·simp[bW,Abs.look,aT,aU.aX,Cell.aX]
 ·simp[bf,aT]
 ·simp
def kB (p:List T2):Abs.Rows:=eH 0::(pB p ++ [eH 0])
def kS (p:List T2):ByteArray:=(ZI.b9.str (kB p)).getD ⟨#[]⟩
theorem Qh (p:List T2):(pB p).length=1+18*p.length:=by
 unfold pB;have hW:∀t:T2,(tB t).length=18:=fun t=>by simp[tB,wT,wQ,wI]
 have hlen:∀q:List T2,(q.flatMap tB).length=18*q.length:=fun q=>by
  induction q with
  | nil=>rfl
  | cons t q ih=>rw[List.flatMap_cons,List.length_append,ih,hW,List.length_cons];omega
 rw[List.length_cons,hlen];omega
def Nd (r:List Tree):Prop:=∃n:Int,0<=n/\n<256/\r=eH n
theorem FQ {p:List T2} (hp:∀t∈p,t.int) (hn:p.length<100):∀r∈kB p,Nd r:=by
 have h0:Nd (eH 0):=⟨0,by omega,by omega,rfl⟩;have hI:∀(s:Bool) (w:Int),0<=w->w<256->∀r∈wI s w,Nd r:=fun s w h1 h2 r hr=>by
  simp only[wI,List.mem_cons,List.not_mem_nil,or_false]at hr;rcases hr with rfl|rfl|rfl|rfl|rfl
  ·exact⟨_,by split<;>omega,by split<;>omega,rfl⟩
  ·exact h0
  ·exact h0
  ·exact h0
  ·exact⟨w,h1,h2,rfl⟩
 intro r hr;simp only[kB,pB,List.mem_cons,List.mem_append,List.not_mem_nil,or_false,List.mem_flatMap]at hr;rcases hr with rfl|(rfl|⟨t,ht,hr⟩)|rfl
 ·exact h0
 ·exact⟨_,by omega,by omega,rfl⟩
 ·have ot:=hp t ht
  simp only[tB,wT,wQ,List.mem_append,List.mem_cons,List.not_mem_nil,or_false]at hr;rcases hr with(hr|hr)|hr
  ·exact hI _ _ (by omega) (by have:=ot.n.2;omega) r hr
  ·exact hI _ _ (by omega) (by omega) r hr
  ·rcases hr with rfl|rfl|rfl|rfl|rfl|rfl|rfl|rfl
   ·exact⟨_,ot.a.1,by have:=ot.a.2;omega,rfl⟩
   ·exact⟨_,ot.b.1,by have:=ot.b.2;omega,rfl⟩
   all_goals exact h0
 ·exact h0
theorem rk:∀ {R:Abs.Rows},(∀r∈R,Nd r)->∃l:List UInt8,dU R=some l/\R=l.map fun b=>eH (b.toNat:Int)
 | [],_=>⟨[],rfl,rfl⟩
 | r::R,h=>by
  obtain⟨l,h1,h2⟩:=rk fun x hx=>h x (List.mem_cons_of_mem _ hx)
  obtain⟨n,n0,n1,rfl⟩:=h r List.mem_cons_self;refine⟨UInt8.ofNat n.toNat::l,?_,?_⟩
  ·show(dU R).map _=_
   rw[h1];rfl
  ·rw[List.map_cons,<-h2]
   congr 2;have:(UInt8.ofNat n.toNat).toNat=n.toNat:=by rw[UInt8.toNat_ofNat'];omega
   rw[this];omega
theorem Qi {p:List T2} (hp:∀t∈p,t.int) (hn:p.length<100):ZI.b9.str (kB p)=some (kS p):=by
 obtain⟨l,h1,h2⟩:=rk (FQ hp hn);have:ZI.b9.str (kB p)=some ⟨l.toArray⟩:=by show(dU (kB p)).map _=_;rw[h1];rfl
 unfold kS;rw[this];rfl
theorem KW {p q:List T2} (hp:∀t∈p,t.int) (hn:p.length<100) (hq:∀t∈q,t.int) (hm:q.length<100) (h:kS p=kS q):p=q:=by
 obtain⟨l,h1,h2⟩:=rk (FQ hp hn);obtain⟨m,g1,g2⟩:=rk (FQ hq hm);have e1:kS p=⟨l.toArray⟩:=by unfold kS;rw[show ZI.b9.str (kB p)=some ⟨l.toArray⟩ by show(dU (kB p)).map _=_;rw[h1];rfl];rfl
 have e2:kS q=⟨m.toArray⟩:=by unfold kS;rw[show ZI.b9.str (kB q)=some ⟨m.toArray⟩ by show(dU (kB q)).map _=_;rw[g1];rfl];rfl
 rw[e1,e2]at h;have h3:l=m:=by
  have:=congrArg (fun z:ByteArray=>z.data.toList) h;simpa using this
 have hk:kB p=kB q:=by rw[h2,g2,h3]
 have KX:∀ {a b:Int},eH a=eH b->a=b:=fun h=>by simpa[eH]using h
 have hW:∀t:T2,(tB t).length=18:=fun t=>by simp[tB,wT,wQ,wI]
 have ht:∀t u:T2,t.int->u.int->tB t=tB u->t=u:=fun t u it iu h=>by
  simp only[tB,wT,wQ,wI,List.cons_append,List.nil_append,List.cons.injEq]at h;obtain⟨a1,_,_,_,a2,_,_,_,_,_,a3,a4,_⟩:=h;have a1:=KX a1;have a2:=KX a2;have hs:decide (t.c.num<0)=decide (u.c.num<0):=by
   by_cases x:t.c.num<0<;>by_cases y:u.c.num<0<;>simp[x,y]at a1 ⊢
  have Qc:t.c.num=u.c.num:=by
   by_cases x:t.c.num<0
   ·have y:u.c.num<0:=by rw[decide_eq_true x]at hs;exact of_decide_eq_true hs.symm
    omega
   ·have y:¬u.c.num<0:=by rw[decide_eq_false x]at hs;exact of_decide_eq_false hs.symm
    omega
  exact sR.2 ⟨Rat.ext Qc (it.d.trans iu.d.symm),KX a3,KX a4⟩
 have key:∀(p q:List T2) (x y:Abs.Rows),(∀t∈p,t.int)->(∀t∈q,t.int)->p.length=q.length->p.flatMap tB++x=q.flatMap tB++y->p=q:=by
  intro p
  induction p with
  | nil=>intro q x y _ _ hl _;cases q with
   | nil=>rfl
   | cons=>simp at hl
  | cons t p ih=>intro q x y h1 h2 hl h;cases q with
   | nil=>simp at hl
   | cons u q=>
    simp only[List.flatMap_cons,List.append_assoc]at h;obtain⟨h3,h4⟩:=List.append_inj h (by rw[hW,hW]);rw[ht t u (h1 t List.mem_cons_self) (h2 u List.mem_cons_self) h3,ih q x y (fun z hz=>h1 z (List.mem_cons_of_mem _ hz)) (fun z hz=>h2 z (List.mem_cons_of_mem _ hz)) (by simpa using hl) h4]
 simp only[kB,pB,List.cons_append,List.cons.injEq]at hk;have hlen:=KX hk.2.1;exact key p q _ _ hp hq (by omega) hk.2.2
theorem KY (p:List T2) (hp:∀t∈p,t.int) (hn:p.length<100):aA Tryz.prog 116 [.val (.agg [.v (.int .i64 0),.aa false (bo p),.aa true []])] ⟨[.val (.c (.v (.string (kS p))))],[none]⟩:=by
 have c1:=FL;have c2:=FO p hp hn 1 [eH 0] rfl (by omega);have lP:([eH 0]++pB p).length=1+1+18*p.length:=by rw[List.length_append,Qh];show 1+_=_;omega
 have c3:=FP (1+1+18*p.length) ([eH 0]++pB p) lP.symm (by omega);have hE:[eH 0]++pB p ++ [eH 0]=kB p:=by simp[kB]
 have lE:(kB p).length=1+1+18*p.length+1:=by rw[<-hE,List.length_append,lP];rfl
 have hK:=Qi hp hn;rw[hE]at c3;generalize kB p=K at *;generalize kS p=sK at *;generalize [eH 0]++pB p=B2 at *;generalize 1+1+18*p.length+1=l3 at *;generalize 1+1+18*p.length=l2 at *;generalize bo p=X at *;unfold tS jn eH at *;refine aV aD mixed [.val] Tryz.func116 rfl rfl (by kernel_rfl) fun zD zE zG zH zI zJ zK zL zM zN zO zR zS zT zU zV zX zY zZ zg zh zj zu zy zz aK ah aI aH ak aq ae aE aB aG ao az aJ an aO au aP ai aM aN ay aw aL ar zW bc A L F hS hF=>?_
 have UU:=hS.whole (r:=K) (len:=l3) lE.symm;have u1:=UU.1;have u2:=UU.2;clear UU;have u3:aL K=some sK:=by rw[hS.str];exact hK
 cbv;refine⟨_,hS.ch c1,?_⟩;cbv;refine⟨_,hS.ch c2,?_⟩;cbv;refine⟨_,hS.ch c3,?_⟩;cbv;rw[u2,u3];cbv;refine nd u1 ?_;exact hF _ (aS.refl _)
theorem DW (p:List T2) (hp:∀t∈p,t.int) (hn:p.length<100):aA Tryz.prog 78 [.val (tl (bo p))] ⟨[.val (.c (.v (.string (kS p))))],[none]⟩:=by
 have c:=KY p hp hn;generalize kS p=sK at *;generalize bo p=X at *;refine aV aD mixed [.val] Tryz.func78 rfl rfl (by kernel_rfl) fun zD zE zG zH zI zJ zK zL zM zN zO zR zS zT zU zV zX zY zZ zg zh zj zu zy zz aK ah aI aH ak aq ae aE aB aG ao az aJ an aO au aP ai aM aN ay aw aL ar zW bc A L F hS hF=>?_
 cbv;refine⟨_,hS.call (c),?_⟩;cbv;exact hF _ (aS.refl _)
open Go Go.Abs Go.Abs.M Go.Proofs
def nB (n:Int):Abs.Rows:=if n<128 then [eH n] else [eH (n%128+128),eH (n/128)]
theorem Bz {n:Int} (h0:0<=n) (h1:n<16384):∀r∈nB n,Nd r:=by
 unfold nB;split
 ·intro r hr
  rw[List.mem_singleton.1 hr];exact⟨n,h0,by omega,rfl⟩
 ·intro r hr
  simp only[List.mem_cons,List.not_mem_nil,or_false]at hr;rcases hr with rfl|rfl
  ·exact⟨_,by omega,by omega,rfl⟩
  ·exact⟨_,by omega,by omega,rfl⟩
open Go Go.Abs Go.Abs.M Go.Proofs
def b8 (w:Int) (k:Int):Int:=IntKind.wrap .u8 (w.fdiv (2^k.toNat))
def wB (w:Int):Abs.Rows:=[eH (b8 w 24),eH (b8 w 16),eH (b8 w 8),eH (IntKind.wrap .u8 w)]
def iB (s:Bool) (l:List Int):Abs.Rows:=nB (2*l.length+(if s then 1 else 0))++l.flatMap wB
theorem ib (x:Int):0<=IntKind.wrap .u8 x/\IntKind.wrap .u8 x<256:=by
 show 0<=x%256/\x%256<256
 omega
theorem Qj (w:Int):∀r∈wB w,Nd r:=by
 intro r hr;simp only[wB,List.mem_cons,List.not_mem_nil,or_false]at hr;rcases hr with rfl|rfl|rfl|rfl
 ·exact⟨_,(ib _).1,(ib _).2,rfl⟩
 ·exact⟨_,(ib _).1,(ib _).2,rfl⟩
 ·exact⟨_,(ib _).1,(ib _).2,rfl⟩
 ·exact⟨_,(ib _).1,(ib _).2,rfl⟩
theorem KZ {s:Bool} {l:List Int} (hl:l.length<=8000):∀r∈iB s l,Nd r:=by
 intro r hr;rcases List.mem_append.1 hr with hr|hr
 ·exact Bz (by split<;>omega) (by split<;>omega) r hr
 ·obtain⟨w,_,hw⟩:=List.mem_flatMap.1 hr
  exact Qj w r hw
open Go Go.Abs Go.Abs.M Go.Proofs
def qB (x:Rat):Abs.Rows:=iB (qc x).s (qc x).l++iB (qc x).t (qc x).m
theorem K0 {x:Rat} {k:Nat} (h:Qs x k):(qc x).l.length<=k/\(qc x).m.length<=k:=⟨h.1,by have:=h.2;unfold nl at this;show(dg (x.den:Int).natAbs).length<=k;rw[Int.natAbs_natCast];exact this⟩
theorem Qk {x:Rat} (h:Qs x 8000):∀r∈qB x,Nd r:=by
 intro r hr;rcases List.mem_append.1 hr with hr|hr
 ·exact KZ (K0 h).1 r hr
 ·exact KZ (K0 h).2 r hr
def teB (t:T2):Abs.Rows:=qB t.c++(nB t.a++(nB t.b ++ [eH 0,eH 0,eH 0,eH 0,eH 0,eH 0]))
def TR (p:List T2):Abs.Rows:=nB p.length++p.flatMap teB
open Go Go.Abs Go.Abs.M Go.Proofs
def aQ (l:List (List T2)):Abs.Rows:=l.map fun p=>[.aa false (bo p)]
theorem lj (l:List (List T2)):(aQ l).length=l.length:=by simp[aQ]
theorem kO {l:List (List T2)} {i:Nat} (hi:i<l.length):∃p,p∈l/\l[i]?=some p/\(aQ l)[i]?=some [.aa false (bo p)]/\l.take (i+1)=l.take i ++ [p]/\l.drop i=p::l.drop (i+1):=
 ⟨l[i],List.getElem_mem hi,List.getElem?_eq_getElem hi,by simp[aQ,hi],by rw[List.take_add_one,List.getElem?_eq_getElem hi];rfl,List.drop_eq_getElem_cons hi⟩
def KP (p:List T2):Prop:=(∀t∈p,t.int)/\p.length<100
def nP:Nat->List (List T2)->List (Value×Tree)
 | _,[]=>[]
 | k,p::ps=>(.string (kS p),.v (.int .i64 (k:Int)))::nP (k+1) ps
def sT:Nat->List (List T2)->List T2->Int
 | _,[],_=>-1
 | k,q::qs,p=>if q=p then(k:Int) else sT (k+1) qs p
theorem BA {k:Nat} {p:List T2}:∀ {to:List (List T2)},p ∉ to->sT k to p=-1
 | [],_=>rfl
 | q::qs,h=>by
  unfold sT;rw[if_neg (fun e=>h (by rw[e];exact List.mem_cons_self))];exact BA fun e=>h (List.mem_cons_of_mem _ e)
theorem Zk (a b:ByteArray):(a==b)=decide (a=b):=by
 obtain⟨x⟩:=a;obtain⟨y⟩:=b;show(x==y)=_
 rw[Bool.eq_iff_iff,beq_iff_eq,decide_eq_true_eq,ByteArray.mk.injEq]
theorem wy {p:List T2} (hp:KP p):∀ {to:List (List T2)} {k:Nat},(∀q∈to,KP q)->(p ∉ to/\cJ (.string (kS p)) (nP k to)=some none)∨(∃j:Nat,k<=j/\j<k+to.length/\sT k to p=(j:Int)/\cJ (.string (kS p)) (nP k to)=some (some (.v (.int .i64 (j:Int)))))
 | [],k,_=>.inl ⟨by simp,rfl⟩
 | q::qs,k,h=>by
  have hq:=h q List.mem_cons_self
  by_cases e:q=p
  ·refine .inr ⟨k,Nat.le_refl _,by simp,by unfold sT;rw[if_pos e],?_⟩
   unfold nP cJ;rw[show sameKey (.string (kS p)) (.string (kS q))=some true by rw[e];simp[sameKey,Zk]]
  ·have hs:sameKey (.string (kS p)) (.string (kS q))=some false:=by
    have:¬kS p=kS q:=fun h'=>e (KW hp.1 hp.2 hq.1 hq.2 h').symm
    simp[sameKey,Zk,this]
   rcases wy hp (to:=qs) (k:=k+1) (fun x hx=>h x (List.mem_cons_of_mem _ hx)) with⟨h1,h2⟩|⟨j,h1,h2,h3,h4⟩
   ·refine .inl ⟨?_,?_⟩
    ·intro hm
     rcases List.mem_cons.1 hm with hm|hm
     ·exact e hm.symm
     ·exact h1 hm
    ·unfold nP cJ
     rw[hs];exact h2
   ·refine .inr ⟨j,by omega,by simp;omega,by unfold sT;rw[if_neg e];exact h3,?_⟩
    unfold nP cJ;rw[hs];exact h4
theorem GV {p:List T2} (hp:KP p) (v:Tree):∀ {to:List (List T2)} {k:Nat},(∀q∈to,KP q)->p ∉ to->fq (.string (kS p)) v (nP k to)=some (nP k to ++ [(.string (kS p),v)])
 | [],k,_,_=>rfl
 | q::qs,k,h,hn=>by
  have hq:=h q List.mem_cons_self;have hs:sameKey (.string (kS p)) (.string (kS q))=some false:=by
   have:¬kS p=kS q:=fun h'=>hn (by rw[KW hp.1 hp.2 hq.1 hq.2 h'];exact List.mem_cons_self)
   simp[sameKey,Zk,this]
  unfold nP fq;rw[hs,GV hp v (fun x hx=>h x (List.mem_cons_of_mem _ hx)) fun e=>hn (List.mem_cons_of_mem _ e)];rfl
theorem GW (p:List T2):∀(to:List (List T2)) (k:Nat),nP k (to ++ [p])=nP k to ++ [(.string (kS p),.v (.int .i64 ((k+to.length:Nat):Int)))]
 | [],k=>rfl
 | q::qs,k=>by
  show _::nP (k+1) (qs ++ [p])=_::(nP (k+1) qs++_)
  rw[GW p qs (k+1),show k+1+qs.length=k+(q::qs).length by simp;omega]
def yK (X Y:Abs.Rows) (M:Int) (E:List (Value×Tree)) (I:Int):St:=aC 53 [.c (.t (.aa false X)),.aj,.aj,.aj,.aj,.c (.mp 2),.aj,.aj,.aj,.aj,.aj,.aj,.aj,.aj,.c (.t (.aa false Y)),vi .i64 M,vi .i64 I] [none,none,some (.map E)]
def rn (X:Abs.Rows) (n:Nat) (N:Int) (E:List (Value×Tree)) (R:Abs.Rows) (I:Int):St:=aC 53 [.aj,.aj,.aj,.aj,.aj,.c (.mp 2),.aj,.aj,.c (.sl 3 0 n false),.aj,.aj,.aj,.aj,.aj,.aj,.aj,.aj,.aj,.aj,.aj,.aj,.aj,.aj,.aj,.aj,.aj,.aj,.aj,.aj,.c (.t (.aa false X)),vi .i64 N,vi .i64 I] [none,none,some (.map E),some (.rows 1 R true false)]
theorem DX (l to:List (List T2)) (hl:∀p∈l,KP p) (ht:∀p∈to,KP p) (hd:to.Nodup) (hn:l.length<=1000) (hm:to.length<=1000) :
  aA Tryz.prog 41 [.val (tl (aQ l)),.val (tl (aQ to))] ⟨[.val (tl (W .i64 (l.map (sT 0 to))))],[none,none]⟩:=by
 obtain⟨X,hX⟩:∃X,X=aQ l:=⟨_,rfl⟩;obtain⟨Y,hY⟩:∃X,X=aQ to:=⟨_,rfl⟩;obtain⟨n,kZ⟩:∃n,n=l.length:=⟨_,rfl⟩;obtain⟨m,Q0⟩:∃n,n=to.length:=⟨_,rfl⟩;have lX:X.length=n:=by rw[hX,lj,kZ]
 have lY:Y.length=m:=by rw[hY,lj,Q0]
 rw[<-hX,<-hY];obtain⟨N,hN⟩:∃N:Int,N=n:=⟨_,rfl⟩;obtain⟨M,hM⟩:∃N:Int,N=m:=⟨_,rfl⟩;refine aV aD mixed [.val] Tryz.func41 rfl rfl (by kernel_rfl) fun zD zE zG zH zI zJ zK zL zM zN zO zR zS zT zU zV zX zY zZ zg zh zj zu zy zz aK ah aI aH ak aq ae aE aB aG ao az aJ an aO au aP ai aM aN ay aw aL ar zW bc A L F hS hF=>?_
 have xN:zy (ae X)=N:=by rw[hS.aW,hS.len,lX,hN]
 have yM:zy (ae Y)=M:=by rw[hS.aW,hS.len,lY,hM]
 cbv;simp only[yM];refine nN aD mixed hS (n:=m) (fun i (E:List (Value×Tree))=>yK X Y M E (Int.ofNat i)) (fun i E=>E=nP 0 (to.take i)) (a0:=[]) (iY ?_ ?_) rfl (Nat.le_succ 2) rfl ?_ ?_
 ·simp[eC,yK,aC,vi,vb]
 ·simp[eF,yK,aC]
 ·intro i E hi hE
  obtain⟨p,hp,gp,hr,il,GO⟩:=kO (l:=to) (i:=i) (by omega);have kp:=ht p hp;have ck:=DW p kp.1 kp.2;have Ci:p ∉ to.take i:=by
   have:=hd;rw[<-List.take_append_drop i to,GO]at this;intro hx;exact(List.nodup_append.1 this).2.2 p hx p List.mem_cons_self rfl
  have L5:aw E (.string (kS p)) (.v (.int .i64 (Int.ofNat i)))=nP 0 (to.take (i+1)):=by
   rw[hS.HG,hE,GV kp _ (fun q hq=>ht q (List.mem_of_mem_take hq)) Ci,il,GW,List.length_take,show 0+min i to.length=i by omega];rfl
  have hF1:ar E (.string (kS p))=some none:=by
   rw[hS.find,hE];rcases wy kp (to:=to.take i) (k:=0) (fun q hq=>ht q (List.mem_of_mem_take hq)) with⟨_,h⟩|⟨j,_,h2,h3,_⟩
   ·exact h
   ·rw[BA Ci]at h3;omega
  have l1:zU (Int.ofNat i) M=true:=by rw[hS.lt,hM];exact decide_eq_true (show(i:Int)<(m:Int) by omega)
  have i1:zD .i64 (zE (i:Int) 1)=(i:Int)+1:=by rw[hS.add,hS.wrap];exact wrap_i64 (by omega) (by omega)
  have j1:zj (Int.ofNat i)=i:=by rw[hS.nat];rfl
  have n0:zV 0 (Int.ofNat i)=true:=by rw[hS.le];exact decide_eq_true (show(0:Int)<=(i:Int) by omega)
  have j2:aE Y i=some [.aa false (bo p)]:=by rw[hS.nth,hY];exact hr
  obtain⟨E2,hE3⟩:∃Z,Z=nP 0 (to.take (i+1)):=⟨_,rfl⟩;rw[<-hE3]at L5;generalize kS p=sK at *;generalize bo p=Z at *;cbv;refine bT l1 ?_;rw[j1,j2];cbv;refine nd (n0) ?_;refine⟨_,hS.call (ck),?_⟩;cbv;rw[hF1];cbv;refine bR [] E2 ?_ ?_ ?_ ?_ rfl (Nat.le_succ 2) hE3
  ·simp[bV,yK,aC,vi,AV.aX,AV.bA,Cell.aX,aT,i1]
  ·simp only[L5];simp[bW,yK,aC,Abs.look,aT,aU.aX,Cell.aX]
  ·simp[bf,yK,aC,aT]
  ·simp
 ·intro E hE
  rw[List.take_of_length_le (by omega)]at hE;have lE:zU (Int.ofNat m) M=false:=by rw[hS.lt,hM];exact decide_eq_false (show ¬(m:Int)<(m:Int) by omega)
  cbv;refine bF lE ?_;simp only[xN];have hN:N=(n:Int):=hN;have k1:aq N N 8=true:=by rw[hS.my,hN];exact decide_eq_true ⟨by omega,by omega,by unfold aF;omega⟩
  have k2:zj N=n:=by rw[hS.nat,hN];rfl
  obtain⟨R0,Gq⟩:∃Z,Z=W .i64 (List.replicate n 0):=⟨_,rfl⟩;have k3:aP n [Tree.v (.int .i64 0)]=R0:=by rw[hS.rep,vW,Gq]
  refine nd k1 ?_;simp only[k2,k3];refine nN aD mixed hS (n:=n) (fun i (R:Abs.Rows)=>rn X n N E R (Int.ofNat i)) (fun i R=>R=W .i64 ((l.take i).map (sT 0 to)++List.replicate (n-i) 0)) (a0:=R0) (iY ?_ ?_) rfl (Nat.le_add_left 2 2) Gq ?_ ?_
  ·simp[eC,rn,aC,vi,vb]
  ·simp[eF,rn,aC]
  ·intro i R hi hR
   obtain⟨p,hp,gp,hr,il,GO⟩:=kO (l:=l) (i:=i) (by omega);have kp:=hl p hp;have ck:=DW p kp.1 kp.2;obtain⟨La,Zl⟩:∃Z,Z=(l.take i).map (sT 0 to)++List.replicate (n-i) 0:=⟨_,rfl⟩;rw[<-Zl]at hR;have lLa:La.length=n:=by rw[Zl];simp;omega
   obtain⟨u,hu⟩:∃u,u=sT 0 to p:=⟨_,rfl⟩;have Og:La.set i u=(l.take (i+1)).map (sT 0 to)++List.replicate (n-(i+1)) 0:=by
    rw[il,List.map_append,Zl,List.append_assoc,List.set_append_right _ _ (by simp;omega)];congr 1;rw[List.length_map,List.length_take,show i-min i l.length=0 by omega,show n-i=n-(i+1)+1 by omega,List.replicate_succ,List.set_cons_zero,hu];rfl
   obtain⟨R1,I4⟩:∃Z,Z=W .i64 (La.set i (-1)):=⟨_,rfl⟩;obtain⟨R2,rL⟩:∃Z,Z=W .i64 ((l.take (i+1)).map (sT 0 to)++List.replicate (n-(i+1)) 0):=⟨_,rfl⟩;have r1:aG .i64 R i=true:=by rw[hS.gJ,hR,lS];exact decide_eq_true (by omega)
   have r2:aG .i64 R1 i=true:=by rw[hS.gJ,I4,lS];exact decide_eq_true (by simp;omega)
   have s1:az .i64 R i (-1)=R1:=by rw[hS.nK,hR,oo,I4]
   have hfc:=wy kp (to:=to) (k:=0) ht;rw[<-hE,<-hu]at hfc;have l1:zU (Int.ofNat i) N=true:=by rw[hS.lt,hN];exact decide_eq_true (show(i:Int)<(n:Int) by omega)
   have i1:zD .i64 (zE (i:Int) 1)=(i:Int)+1:=by rw[hS.add,hS.wrap];exact wrap_i64 (by omega) (by omega)
   have j1:zj (Int.ofNat i)=i:=by rw[hS.nat];rfl
   have n0:zV 0 (Int.ofNat i)=true:=by rw[hS.le];exact decide_eq_true (show(0:Int)<=(i:Int) by omega)
   have n1:zu (Int.ofNat i) n=true:=by rw[hS.xo];exact decide_eq_true (show(0:Int)<=(i:Int)/\(i:Int)<(n:Int) by omega)
   have n2:zz 0 (Int.ofNat i)=i:=by rw[hS.idx];simp
   have j2:aE X i=some [.aa false (bo p)]:=by rw[hS.nth,hX];exact hr
   rcases hfc with⟨Ci,hf⟩|⟨j,_,hj,huj,hf⟩
   ·have SD:R1=R2:=by rw[I4,rL,<-Og,hu,BA Ci]
    have Sb:ar E (.string (kS p))=some none:=by rw[hS.find];exact hf
    clear hf hu Og;generalize kS p=sK at *;generalize bo p=Z at *;cbv;refine bT l1 ?_;rw[j1,j2];cbv;refine nd n0 (nd n1 ?_);simp only[n2];refine nd r1 ?_;refine⟨_,hS.call (ck),?_⟩;cbv;rw[Sb];cbv;refine bF rfl ?_;simp only[s1];refine bR [] R1 ?_ ?_ ?_ ?_ rfl (Nat.le_add_left 2 2) (SD.trans rL)
    ·simp[bV,rn,aC,vi,AV.aX,AV.bA,Cell.aX,aT,i1]
    ·simp[bW,rn,aC,Abs.look,aT,aU.aX,Cell.aX]
    ·simp[bf,rn,aC,aT]
    ·simp
   ·have Sb:ar E (.string (kS p))=some (some (.v (.int .i64 (Int.ofNat j)))):=by rw[hS.find];exact hf
    have s2:az .i64 R1 i (Int.ofNat j)=R2:=by rw[hS.nK,I4,oo,List.set_set,rL,<-Og,huj];rfl
    clear hf hu Og huj;generalize kS p=sK at *;generalize bo p=Z at *;cbv;refine bT l1 ?_;rw[j1,j2];cbv;refine nd n0 (nd n1 ?_);simp only[n2];refine nd r1 ?_;refine⟨_,hS.call (ck),?_⟩;cbv;rw[Sb];cbv;refine bT rfl ?_;simp only[s1,n2];refine nd n1 (nd r2 ?_);simp only[s2];refine bR [] R2 ?_ ?_ ?_ ?_ rfl (Nat.le_add_left 2 2) rL
    ·simp[bV,rn,aC,vi,AV.aX,AV.bA,Cell.aX,aT,i1]
    ·simp[bW,rn,aC,Abs.look,aT,aU.aX,Cell.aX]
    ·simp[bf,rn,aC,aT]
    ·simp
  ·intro R hR
   rw[List.take_of_length_le (by omega),Nat.sub_self,List.replicate_zero,List.append_nil]at hR;have TP:zU (Int.ofNat n) N=false:=by rw[hS.lt,hN];exact decide_eq_false (show ¬(n:Int)<(n:Int) by omega)
   have f1:aJ 0 n R=true:=by rw[hS.fit,hR,iZ,List.length_map];exact decide_eq_true (by omega)
   have f2:an R 0 n=R:=by rw[hS.part,List.drop_zero,List.take_of_length_le (by rw[hR,iZ,List.length_map];omega)]
   rw[<-hR]at hF;cbv;refine bF TP (nd f1 ?_);rw[f2];exact hF _ (aS.refl _)
open Go Go.Abs Go.Proofs
structure RN where
 s:Bool
 r:Abs.Rows
 t:Bool
 p:Abs.Rows
def RN.row (c:RN):List Tree:=[.v (.bool c.s),.aa false c.r,.v (.bool c.t),.aa false c.p]
open Go Go.Abs Go.Abs.M Go.Proofs
structure ny where
 P:Abs.Rows
 cn:Int
 cd:Int
 cr:Int
 O:Abs.Rows
 Lc:Abs.Rows
 S:Abs.Rows
 B:Abs.Rows
 eN:Int
 G:Abs.Rows
 eO:Abs.Rows
 Q:Abs.Rows
 Sx:Abs.Rows
 r0:Int
 r1:Int
 r2:Int
 r3:Int
 r4:Int
 r5:Int
 r6:Int
 r7:Int
 r8:Abs.Rows
 r9:Abs.Rows
 TT:Abs.Rows
 Zm:Abs.Rows
 Zn:Abs.Rows
 Zo:Abs.Rows
 Zp:Abs.Rows
 Zq:Abs.Rows
 Zr:Abs.Rows
 At:Abs.Rows
 Sq:Abs.Rows
 X:Abs.Rows
 eB:Abs.Rows
def cT (k:Int) (q:ny):List Tree:=[.v (.int .i64 k),.aa false q.P,.v (.int .i64 q.cn),.v (.int .i64 q.cd),.v (.int .i64 q.cr),.aa false q.O,.aa false q.Lc,.aa false q.S,.aa false q.B]
def fT (N:Int) (E D:Tree) (k:Int) (bD C:Tree) (q:ny):List Tree:=[.v (.int .i64 N),E,D,.v (.int .i64 k),.aa false q.P,.v (.int .i64 q.cn),.v (.int .i64 q.cd),.v (.int .i64 q.cr),.aa false q.O,.aa false q.Lc,.aa false q.S,.aa false q.B,.v (.int .i64 q.eN),bD,.aa false q.G,.aa false q.eO,C,.aa false q.Q,.aa false q.Sx,.v (.int .i64 q.r0),.v (.int .i64 q.r1),.v (.int .i64 q.r2),.v (.int .i64 q.r3),.v (.int .i64 q.r4),.v (.int .i64 q.r5),.v (.int .i64 q.r6),.v (.int .i64 q.r7),.aa false q.r8,.aa false q.r9,.aa false q.TT,.aa false q.Zm,.aa false q.Zn,.aa false q.Zo,.aa false q.Zp,.aa false q.Zq,.aa false q.Zr,.aa false q.At,.aa false q.Sq,.aa false q.X,.aa false q.eB]
def EA (k:Int):Bool:=k==2||k==4||k==5||k==6||k==7||k==8||k==11||k==13
theorem kP (k:Int) (hk:1<=k/\k<=13) (q:ny):aA Tryz.prog 25 [.val (.agg (cT k q))] ⟨[.val (tb (EA k))],[none]⟩:=by
 rw[cT];obtain rfl|rfl|rfl|rfl|rfl|rfl|rfl|rfl|rfl|rfl|rfl|rfl|rfl:k=1∨k=2∨k=3∨k=4∨k=5∨k=6∨k=7∨k=8∨k=9∨k=10∨k=11∨k=12∨k=13:=by omega
 all_goals
  refine bz aD mixed [.val] Tryz.func25 rfl rfl (by kernel_rfl) fun zD zE zG zH zI zJ zK zL zM zN zO zR zS zT zU zV zX zY zZ zg zh zj zu zy zz aK ah aI aH ak aq ae aE aB aG ao az aJ an aO au aP ai aM aN ay aw aL ar zW bc A L F hS hF=>?_
  cbv;repeat (first|refine bT rfl ?_|refine bF rfl ?_|refine nd rfl ?_)
  exact hF _ (aS.refl _)
def df (l:List (List (List T2))):Abs.Rows:=l.map fun r=>[.aa false (aQ r)]
theorem nA (l:List (List (List T2))):(df l).length=l.length:=by simp[df]
theorem K1 {l:List (List (List T2))} {i:Nat} (hi:i<l.length):∃p,p∈l/\l[i]?=some p/\(df l)[i]?=some [.aa false (aQ p)]/\l.take (i+1)=l.take i ++ [p]:=
 ⟨l[i],List.getElem_mem hi,List.getElem?_eq_getElem hi,by simp[df,hi],by rw[List.take_add_one,List.getElem?_eq_getElem hi];rfl⟩
def Jc (bD:List (List T2)) (i:Nat):Bool:=decide (0<(bD.getD i []).length)
def K2 (k:Int) (bD:List (List T2)) (C:List (List (List T2))) (i:Nat):Bool:=if k=12 then C.any fun r=>Jc r i else Jc bD i
theorem Nf (N:Int) (E D C:Tree) (k:Int) (hk:k≠12) (bD:List (List T2)) (hc:bD.length<=1000) (q:ny) (i:Nat) (hi:i<bD.length) :
  aA Tryz.prog 38 [.val (.agg (fT N E D k (.aa false (aQ bD)) C q)),.val (ti .i64 (Int.ofNat i))] ⟨[.val (tb (Jc bD i))],[none,none]⟩:=by
 obtain⟨p,hp,gp,hr,_,_⟩:=kO (l:=bD) (i:=i) hi;obtain⟨X,hX⟩:∃X,X=aQ bD:=⟨_,rfl⟩;obtain⟨Z,hZ⟩:∃X,X=bo p:=⟨_,rfl⟩;have lX:X.length=bD.length:=by rw[hX,lj]
 have lZ:Z.length=p.length:=by rw[hZ,sO]
 have hu:Jc bD i=decide (0<p.length):=by unfold Jc;rw[List.getD_eq_getElem?_getD,gp];rfl
 obtain⟨u,Bk⟩:∃u,u=Jc bD i:=⟨_,rfl⟩;rw[<-Bk,<-hX];rw[<-hX,<-hZ]at hr;refine aV aD mixed [.val] Tryz.func38 rfl rfl (by kernel_rfl) fun zD zE zG zH zI zJ zK zL zM zN zO zR zS zT zU zV zX zY zZ zg zh zj zu zy zz aK ah aI aH ak aq ae aE aB aG ao az aJ an aO au aP ai aM aN ay aw aL ar zW bc A L F hS hF=>?_
 have z1:zT k 12=true:=by rw[hS.ne];exact decide_eq_true hk
 have l1:zU (Int.ofNat i) (zy (ae X))=true:=by rw[hS.lt,hS.aW,hS.len,lX];exact decide_eq_true (show(i:Int)<(bD.length:Int) by omega)
 have j1:zj (Int.ofNat i)=i:=by rw[hS.nat];rfl
 have n0:zV 0 (Int.ofNat i)=true:=by rw[hS.le];exact decide_eq_true (show(0:Int)<=(i:Int) by omega)
 have j2:aE X i=some [.aa false Z]:=by rw[hS.nth];exact hr
 have l3:zU 0 (zy (ae Z))=u:=by rw[hS.lt,hS.aW,hS.len,lZ,Bk,hu,decide_eq_decide];omega
 cbv;refine bT z1 ?_;refine bT l1 ?_;rw[j1,j2];cbv;refine nd n0 ?_;exact bX hF (tJ l3)
open Go Go.Abs Go.Abs.M Go.Proofs
def BP (p:List T2):Prop:=(∀t∈p,t.ok 100 1000)/\p.length<=100
def Ql (l:List (List T2)):Abs.Rows:=nB l.length++l.flatMap TR
def BL (l:List (List T2)):Prop:=(∀p∈l,BP p)/\l.length<=20
def Qm (l:List (List (List T2))):Abs.Rows:=nB l.length++l.flatMap Ql
open Go Go.Abs Go.Abs.M Go.Proofs
structure VP (p:List T2) (d:Int):Prop where
 ok:∀t∈p,t.ok 100 1000
 len:p.length<=100
 vd:Vd p
 VM:ia p<=d
theorem VP.mono {p:List T2} {d e:Int} (h:VP p d) (hd:d<=e):VP p e:=⟨h.ok,h.len,h.vd,by have:=h.VM;omega⟩
theorem VP.bp {p:List T2} {d:Int} (h:VP p d):BP p:=⟨h.ok,h.len⟩
theorem VP.v9 {p:List T2} {d:Int} (h:VP p d):∀t∈p,t.ok 1000 30000:=fun t ht=>(h.ok t ht).mono (by omega) (by omega)
open Go Go.Abs Go.Abs.M Go.Proofs
theorem BB {x:Rat} {s v:Bool} {r p:Abs.Rows} (h:(qc x).row=[.v (.bool s),.aa false r,.v (.bool v),.aa false p]):wc x s r v p:=by
 have h2:=ff x;have e:(qc x).row=[.v (.bool (qc x).s),.aa false (W .u32 (qc x).l),.v (.bool (qc x).t),.aa false (W .u32 (qc x).m)]:=rfl;rw[e]at h;simp only[List.cons.injEq,Tree.v.injEq,Value.bool.injEq,Tree.aa.injEq]at h;obtain⟨h1,⟨_,h3⟩,h4,⟨_,h5⟩,_⟩:=h;rw[h1,h3,h4,h5]at h2;exact h2
theorem GX {z:Int} (h:z.natAbs<=1000000):nl z.natAbs<=274877906944:=by
 have:=(Qs.whole (n:=z) (k:=1) (by omega) (Nat.le_refl 1)).1;rw[Rat.num_intCast]at this;omega
theorem BC {l:List T2} (hl:l≠[]) (hz:Zs l) (hv:Vd l):Qs (Bw l) 1/\j7 l<=1000000:=by
 have yt:=j8 hl hz hv;have hg:j7 l<=1000000:=by
  cases l with
  | nil=>exact absurd rfl hl
  | cons t l=>
   have h1:=(mQ (t::l) 0).2 t List.mem_cons_self;have h2:t.c.num.natAbs≠0:=fun e=>hv.1 t List.mem_cons_self (Rat.num_eq_zero.1 (by omega))
   exact Nat.le_trans (Nat.le_of_dvd (by omega) h1) (hz t List.mem_cons_self).2
 refine⟨?_,hg⟩;have hq:Qs (((j7 l:Nat):Int):Rat) 1:=Qs.whole (by omega) (Nat.le_refl 1);have hi:Qs (Rat.divInt 1 (j7 l)) 1:=by
  rw[Rat.divInt_eq_div];have:((1:Int):Rat)/(((j7 l:Nat):Int):Rat)=(((j7 l:Nat):Int):Rat)⁻¹:=by rw[Rat.div_def];exact Rat.one_mul _
  rw[this];refine yC ?_ hq;intro h;have:=Rat.intCast_inj.1 (show(((j7 l:Nat):Int):Rat)=((0:Int):Rat) from h);omega
 unfold Bw;split
 ·rw[show(-1:Rat)*Rat.divInt 1 (j7 l)=-(Rat.divInt 1 (j7 l)) by rw[Rat.neg_mul,Rat.one_mul]]
  exact hi.neg
 ·rw[Rat.one_mul];exact hi
def yL (X:Abs.Rows) (s:Bool) (r:Abs.Rows) (s0:Bool) (r0:Abs.Rows) (I:Int):St:=aC 101 [.c (.t (.aa false X)),.aj,.aj,.c (.ptr 5 0 0),.c (.ptr 6 0 0),vi .i64 I] [none,none,none,none,none,some (.var [.t (.v (.bool s)),.t (.aa false r)]),some (.var [.t (.v (.bool s0)),.t (.aa false r0)])]
def yO (X:Abs.Rows) (s:Bool) (r:Abs.Rows) (z:Bool×Abs.Rows) (I:Int):St:=aC 101 [.c (.t (.aa false X)),.aj,.aj,.c (.ptr 5 0 0),.c (.ptr 6 0 0),.aj,.aj,.aj,.aj,vi .i64 I] [none,none,none,none,none,some (.var [.t (.v (.bool s)),.t (.aa false r)]),some (.var [.t (.v (.bool z.1)),.t (.aa false z.2)])]
theorem BD (l:List T2) (hz:Zs l) (hv:Vd l) (ho:∀t∈l,t.ok 100 1000) (hn:l.length<=100) :
  aA Tryz.prog 57 [.val (tl (bo l))] ⟨[.val (tl (bo (jm l)))],[none]⟩:=by
 by_cases hl:l=[]
 ·subst hl
  obtain⟨X,hX⟩:∃X,X=bo []:=⟨_,rfl⟩;have Ym:X=[]:=hX;have hE:bo (jm [])=[]:=by simp[jm,bo]
  rw[hE,<-hX];refine aV aD mixed [.val] Tryz.func57 rfl rfl (by kernel_rfl) fun zD zE zG zH zI zJ zK zL zM zN zO zR zS zT zU zV zX zY zZ zg zh zj zu zy zz aK ah aI aH ak aq ae aE aB aG ao az aJ an aO au aP ai aM aN ay aw aL ar zW bc A L F hS hF=>?_
  have z0:zS (zy (ae X)) 0=true:=by rw[hS.eq,hS.aW,hS.len,Ym];rfl
  obtain⟨u1,u2⟩:=hS.whole (r:=[]) (len:=0) rfl;cbv;refine bT z0 ?_;simp only[u2];refine nd u1 ?_;exact hF _ (aS.refl _)
 obtain⟨X,hX⟩:∃X,X=bo l:=⟨_,rfl⟩;obtain⟨n,kZ⟩:∃n,n=l.length:=⟨_,rfl⟩;have lX:X.length=n:=by rw[hX,sO,kZ]
 have Me:0<n:=by rw[kZ];exact List.length_pos_iff.2 hl
 obtain⟨s1,r1,h1,k1⟩:=gf 1 (by decide) (by decide);obtain⟨s0,r0,h0,k0⟩:=gf 0 (by decide) (by decide);have hnE:jm l=cV (Bw l) 0 0 l:=by unfold jm;rw[if_neg hl]
 obtain⟨g,hg⟩:∃g,g=j7 l:=⟨_,rfl⟩;have yt:0<g:=by rw[hg];exact j8 hl hz hv
 have Rv:g<=1000000:=by rw[hg];exact(BC hl hz hv).2
 have ct:=qZ (Bw l) 0 0 l (n:=1000) ((BC hl hz hv).1.mono (by omega)) (by omega) (by omega) (fun t ht=>(ho t ht).mono (by omega) (by omega)) (by omega) (by omega);rw[hnE];rw[<-hX]at ct ⊢;generalize afb:bo (cV (Bw l) 0 0 l)=Y at *;unfold m2 at ct;have TU:∀t∈l,∀ {v:Bool} {q:Abs.Rows},eG (t.c.den:Int) v q->eG 1 v q:=fun t ht v q h=>by rw[(hz t ht).1]at h;exact h
 refine aV aD mixed [.val] Tryz.func57 rfl rfl (by kernel_rfl) fun zD zE zG zH zI zJ zK zL zM zN zO zR zS zT zU zV zX zY zZ zg zh zj zu zy zz aK ah aI aH ak aq ae aE aB aG ao az aJ an aO au aP ai aM aN ay aw aL ar zW bc A L F hS hF=>?_
 have z0:zS (zy (ae X)) 0=false:=by rw[hS.eq,hS.aW,hS.len,lX];exact decide_eq_false (by omega)
 have lE:=hS.qQ lX;cbv;refine bF z0 ?_;refine⟨_,hS.call (k1),?_⟩;cbv;refine⟨_,hS.call (k0),?_⟩;cbv;refine Be aD mixed hS (n:=n) (fun i (z:Bool×Abs.Rows)=>yL X z.1 z.2 s0 r0 (Int.ofNat i)) (fun i z=>eG 1 z.1 z.2) (a0:=(s1,r1)) (iY ?_ ?_) rfl (by show 1<=7;omega) h1 ?_ ?_
 ·simp[eC,yL,aC,vi,vb]
 ·simp[eF,yL,aC]
 ·rintro i ⟨sd,rd⟩ hi hR
  simp only at hR;obtain⟨c1,i1,j1,n0⟩:=hS.xt lX hi (by omega);obtain⟨t,s,v,r,q,ht,gt,hq,hr,_,_,_⟩:=j6 (l:=l) (i:=i) (by omega);have j2:aE X i=some (pR s r v q t.a t.b):=by rw[hS.nth,hX];exact hr
  have hd:=TU t ht (BB hq).d;obtain⟨w,hw,cg⟩:=sH hR hd (GX (by decide)) (GX (by decide));obtain⟨u2,w2,p2,Bk,_,cd⟩:=kF hd hw (by decide) (GX (by decide)) (GX (by decide));obtain⟨u3,w3,VN,cm⟩:=HR hR Bk (Nat.le_trans (GX (by decide)) (by omega)) (Nat.le_trans (GX (by decide)) (by omega));have rL:eG 1 (u3,w3).1 (u3,w3).2:=VN;generalize t.a=a at *;generalize t.b=b at *
  unfold iT at cg cd cm;clear hq hr hw Bk hd;refine⟨?_⟩;cbv;refine bT c1 ?_;simp only[j1,j2];cbv;refine nd n0 ?_;simp only[j1,j2];cbv;refine nd (n0) ?_;refine⟨_,hS.call (cg),?_⟩;cbv;refine⟨_,hS.call (cd),?_⟩;cbv;refine⟨_,hS.call (cm),?_⟩;cbv;refine bR [(5,5),(6,6)] (u3,w3) ?_ ?_ ?_ ?_ rfl (by show 1<=7;omega) rL
  ·simp[bV,yL,aC,vi,vb,AV.aX,AV.bA,Cell.aX,aT]
   exact i1
  ·simp[bW,yL,aC,Abs.look,aT,aU.aX,Cell.aX]
  ·simp[bf,yL,aC,aT]
  ·simp
 ·rintro⟨sd,rd⟩ hR
  simp only at hR;refine⟨?_⟩;cbv;refine bF lE ?_;refine Be aD mixed hS (n:=n) (fun i (z:Bool×Abs.Rows)=>yO X sd rd z (Int.ofNat i)) (fun i z=>eG (((l.take i).foldl (fun g t=>Nat.gcd g t.c.num.natAbs) 0:Nat):Int) z.1 z.2) (a0:=(s0,r0)) (iY ?_ ?_) rfl (by show 1<=7;omega) (by simpa using h0) ?_ ?_
  ·simp[eC,yO,aC,vi,vb]
  ·simp[eF,yO,aC]
  ·rintro i ⟨sm,rm⟩ hi hM
   simp only at hM;obtain⟨c1,i1,j1,n0⟩:=hS.xt lX hi (by omega);obtain⟨t,s,v,r,q,ht,gt,hq,hr,_,il,_⟩:=j6 (l:=l) (i:=i) (by omega);have j2:aE X i=some (pR s r v q t.a t.b):=by rw[hS.nth,hX];exact hr
   have hd:=TU t ht (BB hq).d;have Ci:=(BB hq).n;obtain⟨gi,I1⟩:∃g,g=(l.take i).foldl (fun g t=>Nat.gcd g t.c.num.natAbs) 0:=⟨_,rfl⟩;rw[<-I1]at hM;have TW:(l.take (i+1)).foldl (fun g t=>Nat.gcd g t.c.num.natAbs) 0=Nat.gcd gi t.c.num.natAbs:=by rw[il,List.foldl_append,I1];rfl
   have GN:gi<=1000000:=by
    rw[I1]
    by_cases h:l.take i=[]
    ·rw[h];exact Nat.zero_le _
    ·exact(BC h (fun t ht=>hz t (List.mem_of_mem_take ht)) ⟨fun t ht=>hv.1 t (List.mem_of_mem_take ht),hv.2.sublist (List.take_sublist _ _)⟩).2
   obtain⟨u2,w2,p2,Bk,_,cd⟩:=kF hR hd (by decide) (GX (by decide)) (GX (by decide));obtain⟨u3,w3,VN,cm⟩:=HR Ci Bk (Nat.le_trans (GX (hz t ht).2) (by omega)) (Nat.le_trans (GX (by decide)) (by omega));obtain⟨w,hw,cg⟩:=sH hM VN (GX (by omega)) (GX (by rw[show(1:Int)/1=1 from rfl,Int.mul_one];exact(hz t ht).2));have rL:eG (((l.take (i+1)).foldl (fun g t=>Nat.gcd g t.c.num.natAbs) 0:Nat):Int) (false,w).1 (false,w).2:=by
    rw[TW];have e:Int.gcd (gi:Int) (t.c.num*(1/1))=Nat.gcd gi t.c.num.natAbs:=by rw[show(1:Int)/1=1 from rfl,Int.mul_one];rfl
    rw[e]at hw;exact hw
   generalize t.a=a at *;generalize t.b=b at *;unfold iT at cg cd cm;clear hq hr hw Bk hd hM VN Ci I1 TW il;refine⟨?_⟩;cbv;refine bT c1 ?_;simp only[j1,j2];cbv;refine nd (n0) ?_;refine⟨_,hS.call (cd),?_⟩;cbv;simp only[j1,j2];cbv;refine nd (n0) ?_;refine⟨_,hS.call (cm),?_⟩;cbv;refine⟨_,hS.call (cg),?_⟩;cbv;refine bR [(5,5),(6,6)] (false,w) ?_ ?_ ?_ ?_ rfl (by show 1<=7;omega) rL
   ·simp[bV,yO,aC,vi,vb,AV.aX,AV.bA,Cell.aX,aT]
    exact i1
   ·simp[bW,yO,aC,Abs.look,aT,aU.aX,Cell.aX]
   ·simp[bf,yO,aC,aT]
   ·simp
  ·rintro⟨sm,rm⟩ hM
   simp only at hM;rw[List.take_of_length_le (by omega)]at hM;have hM:eG (g:Int) sm rm:=by rw[hg];exact hM
   obtain⟨u,w,v,p,hc,cn⟩:=FF hR hM (by omega) (GX (by decide)) (GX (by omega));obtain⟨t,s,v',r,q,ht,gt,hq,hr,_,_,_⟩:=j6 (l:=l) (i:=0) (by omega);have VO:l.headD ⟨0,0,0⟩=t:=by cases l with|nil=>exact absurd rfl hl|cons x l=>simpa using gt
   have j2:aE X 0=some (pR s r v' q t.a t.b):=by rw[hS.nth,hX];exact hr
   have j1:zj 0=0:=by rw[hS.nat];rfl
   have n0:zV 0 0=true:=by rw[hS.le];rfl
   have cs:=yE t.c;rw[hq]at cs;obtain⟨C,hC⟩:∃C,C=bO t.c.num 0:=⟨_,rfl⟩;rw[<-hC]at cs;have TQ:C<0↔t.c<0:=by
    have Ft:t.c<0↔t.c.num<0:=by rw[<-Rat.not_le,<-Rat.num_nonneg];omega
    rw[Ft,hC];unfold bO
    by_cases h:t.c.num<0
    ·rw[if_pos h];exact⟨fun _=>h,fun _=>by decide⟩
    ·rw[if_neg h]
     refine⟨fun h2=>?_,fun h2=>absurd h2 h⟩;split at h2<;>omega
   unfold iT at cn
   by_cases Bo:t.c<0
   ·have zC:zU C 0=true:=by rw[hS.lt];exact decide_eq_true (TQ.2 Bo)
    have hx:Bw l=-(Rat.divInt 1 g):=by unfold Bw;rw[VO,if_pos Bo,hg,Rat.neg_mul,Rat.one_mul]
    have Ty:Qs (Rat.divInt 1 g) 1:=by have:=(BC hl hz hv).1;rw[hx]at this;have:=this.neg;rwa[Rat.neg_neg]at this
    obtain⟨u',w',UY,cng⟩:=FB hc (Ty.mono (by omega));rw[hx,<-sJ UY]at ct;unfold iT at cng ct;generalize t.a=a at *;generalize t.b=b at *;clear hq hr VO gt hc UY hM;refine⟨?_⟩;cbv;refine bF lE ?_;refine⟨_,hS.call (cn),?_⟩;cbv;simp only[j1,j2];cbv;refine nd (n0) ?_;refine⟨_,hS.call (cs),?_⟩;cbv;refine bT (zC) ?_;refine⟨_,hS.call (cng),?_⟩;cbv;refine⟨_,hS.call (ct),?_⟩
    cbv;exact hF _ (aS.refl _)
   ·have zC:zU C 0=false:=by rw[hS.lt];exact decide_eq_false fun h=>Bo (TQ.1 h)
    have hx:Bw l=Rat.divInt 1 g:=by unfold Bw;rw[VO,if_neg Bo,hg,Rat.one_mul]
    rw[hx,<-sJ hc]at ct;unfold iT at ct;generalize t.a=a at *;generalize t.b=b at *;clear hq hr VO gt hc hM;refine⟨?_⟩;cbv;refine bF lE ?_;refine⟨_,hS.call (cn),?_⟩;cbv;simp only[j1,j2];cbv;refine nd (n0) ?_;refine⟨_,hS.call (cs),?_⟩;cbv;refine bF (zC) ?_;refine⟨_,hS.call (ct),?_⟩;cbv;exact hF _ (aS.refl _)
open Go Go.Abs Go.Abs.M Go.Proofs
structure CP (p:List T2):Prop where
 vp:VP p 12
 int:∀t∈p,t.int
 ne:p≠[]
 nm:Nm p
theorem CP.zs {p:List T2} (h:CP p):Zs p:=fun t ht=>⟨(h.int t ht).d,by have:=(h.int t ht).n.2;omega⟩
structure KOK (N:Int) (E D:List (List T2)):Prop where
 n:1<=N/\N<=4
 pe:∀p∈E,CP p
 pd:∀p∈D,CP p/\ia p≠0
 se:lM E
 sd:lM D
 le:E.length<=6
 ld:D.length<=6
open Go Go.Abs Go.Abs.M Go.Proofs
structure SP (p:List T2):Prop where
 int:∀t∈p,t.int
 vd:Vd p
 len:p.length<=50
 VM:ia p<=12
theorem SP.zs {p:List T2} (h:SP p):Zs p:=fun t ht=>⟨(h.int t ht).d,by have:=(h.int t ht).n.2;omega⟩
theorem Qn {t:T2} (h:t.int):t.ok 100 1000:=
 ⟨by rw[ra h.d];exact Qs.whole (by have:=h.n.2;omega) (by omega),by have:=h.a;omega,by have:=h.b;omega⟩
theorem SP.vp {p:List T2} (h:SP p):VP p 12:=⟨fun t ht=>Qn (h.int t ht),by have:=h.len;omega,h.vd,h.VM⟩
theorem Ie {p:List T2} (hz:Zs p) (hv:Vd p):∀u∈jm p,∃t∈p,u.a=t.a/\u.b=t.b/\u.c.num.natAbs<=t.c.num.natAbs:=by
 by_cases hp:p=[]
 ·subst hp;intro u hu;simp[jm]at hu
 intro u hu;have hE:jm p=p.map fun t:T2=>T2.mk (Bw p*t.c) (0+t.a) (0+t.b):=by unfold jm;rw[if_neg hp];unfold cV;rw[if_neg (KN hp hz hv)]
 rw[hE]at hu;obtain⟨t,ht,rfl⟩:=List.mem_map.1 hu;obtain⟨s,hs,_,e⟩:=wv hp hz hv;obtain⟨z,h1,h2,_⟩:=DP hs (j8 hp hz hv) (hz t ht).1 ((mQ p 0).2 t ht);refine⟨t,ht,by simp,by simp,?_⟩;rw[<-e]at h1;simp only[h1,Rat.num_intCast];rw[h2];exact Nat.le_mul_of_pos_left _ (j8 hp hz hv)
theorem K3 {p q:List T2} (h:p.map (fun t=>(t.a,t.b))=q.map (fun t=>(t.a,t.b))):ia p=ia q:=by
 have e:∀p:List T2,ia p=(p.map (fun t=>(t.a,t.b))).foldl (fun d t=>if t.1+t.2>d then t.1+t.2 else d) (-1):=fun p=>by rw[List.foldl_map];rfl
 rw[e,e,h]
theorem SP.jm {p:List T2} (h:SP p):SP (jm p)/\(p≠[]->CP (jm p))/\ia (jm p)=ia p:=by
 obtain⟨h1,h2,h3,h4,h5⟩:=H7 h.zs h.vd;have hd:=K3 h5;have hi:∀t∈Go.Proofs.YtekefilngojelaaGreat.jm p,t.int:=fun u hu=>by
  obtain⟨t,ht,ea,eb,hn⟩:=Ie h.zs h.vd u hu;have it:=h.int t ht;exact⟨(h1 u hu).1,⟨fun e=>h2.1 u hu (Rat.num_eq_zero.1 e),by have:=it.n.2;omega⟩,by rw[ea];exact it.a,by rw[eb];exact it.b⟩
 have hs:SP (Go.Proofs.YtekefilngojelaaGreat.jm p):=⟨hi,h2,by rw[h4];exact h.len,by rw[hd];exact h.VM⟩;refine⟨hs,fun hp=>⟨hs.vp,hi,?_,h3⟩,hd⟩;intro e;rw[e]at h4;exact hp (List.length_eq_zero_iff.1 h4.symm)
theorem jd {plain:Bool}:∀ {l:List (List T2)},(∀p∈l,SP p) ->
  lM (dY plain l)/\(∀p∈dY plain l,CP p/\SP p/\(plain=true->ia p≠0))/\(dY plain l).length<=l.length:=by
 intro l
 suffices h:∀(k o:List (List T2)),(∀p∈k,SP p)->lM o->(∀p∈o,CP p/\SP p/\(plain=true->ia p≠0)) ->
   lM (k.foldl (rj plain) o)/\(∀p∈k.foldl (rj plain) o,CP p/\SP p/\(plain=true->ia p≠0))/\(k.foldl (rj plain) o).length<=o.length+k.length from
  fun hl=>by
   have:=h l [] hl List.Pairwise.nil (fun p hp=>absurd hp (by simp));simpa[dY]using this
 intro k
 induction k with
 | nil=>intro o _ h1 h2;exact⟨h1,h2,by simp⟩
 | cons x k ih=>
  intro o hk h1 h2;rw[List.foldl_cons];have hx:=hk x List.mem_cons_self;have xf:=fun p hp=>hk p (List.mem_cons_of_mem x hp)
  unfold rj;split
  ·obtain⟨g1,g2,g3⟩:=ih o xf h1 h2
   exact⟨g1,g2,by rw[List.length_cons];unfold rj at g3;omega⟩
  ·rename_i hc
   have cY:x≠[]:=fun e=>hc (Or.inl (by rw[e];simp[Go.Proofs.YtekefilngojelaaGreat.jm]))
   obtain⟨g1,g2,g3⟩:=ih (jc (Go.Proofs.YtekefilngojelaaGreat.jm x) o) xf (DQ h1) (fun p hp=>by
    rcases ri.1 hp with rfl|hp
    ·exact⟨hx.jm.2.1 cY,hx.jm.1,fun LS hd=>hc (Or.inr ⟨LS,hd⟩)⟩
    ·exact h2 p hp)
   refine⟨g1,g2,?_⟩;have:=KT (Go.Proofs.YtekefilngojelaaGreat.jm x) o;rw[List.length_cons];unfold rj at g3;omega
def dJ (X:Abs.Rows) (pl:Bool) (len:Nat) (O:Abs.Rows) (I:Int):St:=aC 75 [.c (.t (.aa false X)),vb pl,.aj,.aj,.aj,.c (.sl 2 0 len false),vi .i64 I] [none,none,some (.rows 1 O true false)]
def yP (X:Abs.Rows) (pl:Bool) (len:Nat) (O:Abs.Rows) (I:Int) (P:Abs.Rows) (J:Int):St:=aC 75 [.c (.t (.aa false X)),vb pl,.aj,.aj,.aj,.c (.sl 2 0 len false),vi .i64 I,.c (.t (.aa false P)),vi .i64 J] [none,none,some (.rows 1 O true false)]
theorem gT (l:List (List T2)) (plain:Bool) (hl:∀p∈l,SP p) (hk:l.length<=50) :
  aA Tryz.prog 26 [.val (tl (aQ l)),.val (tb plain)] ⟨[.val (tl (aQ (dY plain l)))],[none,none]⟩:=by
 obtain⟨X,hX⟩:∃X,X=aQ l:=⟨_,rfl⟩;obtain⟨k,Gs⟩:∃n,n=l.length:=⟨_,rfl⟩;have lX:X.length=k:=by rw[hX,lj,Gs]
 obtain⟨Y,hY⟩:∃Y,Y=aQ (dY plain l):=⟨_,rfl⟩;rw[<-hX,<-hY];refine aV aD mixed [.val] Tryz.func26 rfl rfl (by kernel_rfl) fun zD zE zG zH zI zJ zK zL zM zN zO zR zS zT zU zV zX zY zZ zg zh zj zu zy zz aK ah aI aH ak aq ae aE aB aG ao az aJ an aO au aP ai aM aN ay aw aL ar zW bc A L F hS hF=>?_
 have lE:=hS.qQ lX;cbv;refine Be aD mixed hS (n:=k) (fun i (z:Nat×Abs.Rows)=>dJ X plain z.1 z.2 (Int.ofNat i)) (fun i z=>z.1=z.2.length/\z.2=aQ (dY plain (l.take i))) (a0:=(0,[])) (iY ?_ ?_) rfl (by show 2<=3;omega) ⟨rfl,by simp[dY,aQ]⟩ ?_ ?_
 ·simp[eC,dJ,aC,vi,vb]
 ·simp[eF,dJ,aC]
 ·rintro i ⟨len,O⟩ hi ⟨hlen,hO⟩
  simp only at hlen hO;obtain⟨c1,i1,j1,n0⟩:=hS.xt lX hi (by omega);obtain⟨x,hx,gx,hr,il,_⟩:=kO (l:=l) (i:=i) (by omega);have j2:aE X i=some [.aa false (bo x)]:=by rw[hS.nth,hX];exact hr
  have sx:=hl x hx;have cn:=BD x sx.zs sx.vd sx.vp.ok sx.vp.len;obtain⟨o,ho⟩:∃o,o=dY plain (l.take i):=⟨_,rfl⟩;obtain⟨f1,f2,f3⟩:=jd (plain:=plain) (l:=l.take i) (fun p hp=>hl p (List.mem_of_mem_take hp));rw[<-ho]at hO f1 f2 f3;have f4:o.length<=50:=by rw[List.length_take]at f3;omega
  have lO:len=o.length:=by rw[hlen,hO,lj]
  have jO:dY plain (l.take (i+1))=rj plain o x:=by rw[il,DU,ho]
  have sp:=sx.jm.1;obtain⟨p,hp⟩:∃p,p=Go.Proofs.YtekefilngojelaaGreat.jm x:=⟨_,rfl⟩;have ji:rj plain o x=if p=[]∨plain=true/\ia p=0 then o else jc p o:=by rw[hp];rfl
  rw[<-hp]at cn sp;rw[ji]at jO;clear hp ji;have cd:=FG p sp.vp.v9 (by have:=sp.len;omega);obtain⟨dg,hdg⟩:∃d,d=ia p:=⟨_,rfl⟩;rw[<-hdg]at cd jO;clear hdg;obtain⟨m,hm⟩:∃m,m=Ez p o:=⟨_,rfl⟩;have hmo:m<=o.length:=by rw[hm];exact KQ p o
  obtain⟨P,hP⟩:∃P,P=bo p:=⟨_,rfl⟩;rw[<-hP]at cn cd;have lOO:O.length=o.length:=by rw[hO,lj]
  have cc:∀ {j:Nat} (hj:j<o.length),∃q,o[j]?=some q/\O[j]?=some [.aa false (bo q)]/\aA Tryz.prog 58 [.val (tl (bo q)),.val (tl P)] ⟨[.val (ti .i64 (iK q p))],[none,none]⟩/\aA Tryz.prog 56 [.val (tl (bo q)),.val (tl P)] ⟨[.val (tb (decide (q=p)))],[none,none]⟩:=fun {j} hj=>by
   obtain⟨q,hq,gq,EL,_,_⟩:=kO (l:=o) (i:=j) hj;have sq:=(f2 q hq).2.1;refine⟨q,gq,by rw[hO];exact EL,?_,?_⟩
   ·rw[hP];exact FI q p sq.vp.v9 sp.vp.v9 (by have:=sq.len;omega) (by have:=sp.len;omega)
   ·rw[hP];exact DN q p sq.vp.v9 (by have:=sq.len;omega) (by have:=sp.len;omega)
  generalize bo x=Z at *;refine⟨?_⟩;cbv;refine bT c1 ?_;simp only[j1,j2];cbv;refine nd (n0) ?_;refine⟨_,hS.call (cn),?_⟩;cbv;refine Be aD mixed hS (n:=m) (fun j (_:Unit)=>yP X plain len O (Int.ofNat i) P (Int.ofNat j)) (fun _ _=>True) (a0:=()) (iY ?_ ?_) rfl (by show 2<=3;omega) trivial ?_ ?_
  ·simp[eC,yP,aC,vi,vb]
  ·simp[eF,yP,aC]
  ·rintro j ⟨⟩ hj -
   obtain⟨q,gq,Zt,cq,_⟩:=cc (j:=j) (by omega);have bH:iK q p<0:=KR p o j q (by omega) gq;generalize iK q p=e at *;have ze:zU e 0=true:=by rw[hS.lt];exact decide_eq_true bH
   have l1:zU (Int.ofNat j) (zy len)=true:=by rw[hS.lt,hS.aW,lO];exact decide_eq_true (show(j:Int)<(o.length:Int) by omega)
   have w1:zD .i64 (zE (Int.ofNat j) 1)=(j:Int)+1:=by rw[hS.add,hS.wrap];exact wrap_i64 (by show -9223372036854775808<=(j:Int)+1;omega) (by show(j:Int)+1<9223372036854775808;omega)
   have j3:aE O j=some [.aa false (bo q)]:=by rw[hS.nth];exact Zt
   have d1:zu (Int.ofNat j) len=true:=by rw[hS.xo];exact decide_eq_true (show 0<=(j:Int)/\(j:Int)<len by omega)
   have d2:zz 0 (Int.ofNat j)=j:=by rw[hS.idx];show 0+(j:Int).toNat=j;omega
   generalize bo q=Z2 at *;refine⟨?_⟩;cbv;refine bT l1 (nd d1 ?_);simp only[d2,j3];cbv;refine⟨_,hS.call (cq),?_⟩;cbv;refine bT (ze) ?_;refine bR [(2,2)] () ?_ ?_ ?_ ?_ rfl (by show 2<=3;omega) trivial
   ·simp[bV,yP,aC,vi,vb,AV.aX,AV.bA,Cell.aX,aT]
    exact w1
   ·simp[bW,yP,aC,Abs.look,aT,aU.aX,Cell.aX]
   ·simp[bf,yP,aC,aT]
   ·simp
  ·rintro⟨⟩ -
   have d2:zz 0 (Int.ofNat m)=m:=by rw[hS.idx];show 0+(m:Int).toNat=m;omega
   rcases Nat.lt_or_ge m o.length with PU|afc
   ·obtain⟨q,gq,Zt,cq,cs⟩:=cc PU
    have Ef:¬iK q p<0:=KS p o q (by rw[<-hm];exact gq);have Ig:jc p o=if q=p then o else o.take m++p::o.drop m:=by
     unfold jc;rw[<-hm,gq];simp only[Option.some.injEq]
    generalize iK q p=e at *;have ze:zU e 0=false:=by rw[hS.lt];exact decide_eq_false Ef
    have l1:zU (Int.ofNat m) (zy len)=true:=by rw[hS.lt,hS.aW,lO];exact decide_eq_true (show(m:Int)<(o.length:Int) by omega)
    have j3:aE O m=some [.aa false (bo q)]:=by rw[hS.nth];exact Zt
    have k1:aH (Int.ofNat m) (zy len) len=true:=by rw[hS.cut,hS.aW];exact decide_eq_true (show 0<=(m:Int)/\(m:Int)<=(len:Int)/\(len:Int)<=(len:Int) by omega)
    have k0:aI (zy len) (Int.ofNat m)=len-m:=by rw[hS.HF,hS.aW];show(len:Int).toNat-(m:Int).toNat=_;omega
    obtain⟨T,hT⟩:∃T,T=O.drop m:=⟨_,rfl⟩;have lT:T.length=len-m:=by rw[hT,List.length_drop];omega
    have kT:an O (zz 0 (Int.ofNat m)) (aI (zy len) (Int.ofNat m))=T:=by rw[d2,k0,hS.part,hT,List.take_of_length_le (by rw[List.length_drop];omega)]
    have k3:aJ (zz 0 (Int.ofNat m)) (aI (zy len) (Int.ofNat m)) O=true:=by rw[d2,k0,hS.fit];exact decide_eq_true (show m+(len-m)<=O.length by omega)
    have k4:aH 0 (Int.ofNat m) len=true:=by rw[hS.cut];exact decide_eq_true (show(0:Int)<=(0:Int)/\(0:Int)<=(m:Int)/\(m:Int)<=(len:Int) by omega)
    have k5:zS (Int.ofNat m) (Int.ofNat m)=true:=by rw[hS.eq];exact decide_eq_true rfl
    obtain⟨R,hR⟩:∃R,R=[Tree.aa false P]::T:=⟨_,rfl⟩;have lR:R.length=1+T.length:=by rw[hR,List.length_cons];omega
    have kR:aO [[Tree.aa false P]] 0 T=R:=by rw[hS.ext,hR];rfl
    have hE:O.take m++R=aQ (o.take m++p::o.drop m):=by rw[hR,hT,hO,hP];simp[aQ,List.map_take,List.map_drop]
    have nm:zj (Int.ofNat m)=m:=by rw[hS.nat];rfl
    have k8:zX (aK (ae R) 0)=true:=by rw[hS.neq,hS.len,lR,hS.not,decide_eq_false (by omega)];rfl
    have k9:ai 1 R=true:=by rw[hS.wide,hR,hT,hO];simp[aQ,List.all_eq_true];intro a ha;have:=List.mem_of_mem_drop ha;simp at this;obtain⟨_,_,rfl⟩:=this;rfl
    have Oh:ak m (ae R) 24=true:=by rw[hS.room,hS.len];exact decide_eq_true (by unfold aF;omega)
    have Oi:aJ 0 m O=true:=by rw[hS.fit];exact decide_eq_true (show 0+m<=O.length by omega)
    obtain⟨O2,yQ⟩:∃O2,O2=O.take m++R:=⟨_,rfl⟩;have zx:aO (an O 0 m) 0 R=O2:=by rw[hS.ext,hS.part,yQ];rfl
    obtain⟨L2,TX⟩:∃L2,L2=m+R.length:=⟨_,rfl⟩;have TY:L2=O2.length:=by rw[TX,yQ,List.length_append,List.length_take];omega
    have nR:ah m (ae R)=L2:=by rw[hS.fc,hS.len,TX]
    have k2:aK (ae T) 0=false:=by rw[hS.neq,hS.len,lT];exact decide_eq_false (by omega)
    have k2b:zX (aK (ae T) 0)=true:=by rw[k2,hS.not];rfl
    have k2c:ai 1 T=true:=by rw[hS.wide,hT,hO];simp[aQ,List.all_eq_true];intro a ha;have:=List.mem_of_mem_drop ha;simp at this;obtain⟨_,_,rfl⟩:=this;rfl
    have k2d:ak 1 (ae T) 24=true:=by rw[hS.room,hS.len];exact decide_eq_true (by unfold aF;omega)
    have k2e:aK (ah 0 1) (ae [[Tree.aa false P]])=true:=by rw[hS.neq,hS.fc,hS.len];rfl
    have kRp:an R 0 (ah 1 (ae T))=R:=by rw[hS.part,hS.fc,hS.len,List.drop_zero,List.take_of_length_le (by omega)]
    have k6:aK (ae R) 0=false:=by rw[hS.neq,hS.len,lR];exact decide_eq_false (by omega)
    have k7:aJ 0 (ah 1 (ae T)) R=true:=by rw[hS.fit,hS.fc,hS.len];exact decide_eq_true (show 0+(1+T.length)<=R.length by omega)
    have d1:zu (Int.ofNat m) len=true:=by rw[hS.xo];exact decide_eq_true (show 0<=(m:Int)/\(m:Int)<len by omega)
    generalize bo q=Z2 at *;refine⟨?_⟩;cbv;refine bT l1 (nd d1 ?_);simp only[d2,j3];cbv;refine⟨_,hS.call (cq),?_⟩;cbv;refine bF (ze) ?_
    by_cases Ex:p=[]
    ·have zP:zS (zy (ae P)) 0=true:=by rw[hS.eq,hS.aW,hS.len,hP,sO,Ex];rfl
     have mR:len=O.length/\O=aQ (dY plain (l.take (i+1))):=⟨hlen,by rw[jO,if_pos (Or.inl Ex)];exact hO⟩;refine bT zP ?_;refine bR [(2,2)] (len,O) ?_ ?_ ?_ ?_ rfl (by show 2<=3;omega) mR
     ·simp[bV,dJ,aC,vi,vb,AV.aX,AV.bA,Cell.aX,aT]
      exact i1
     ·simp[bW,dJ,aC,Abs.look,aT,aU.aX,Cell.aX]
     ·simp[bf,dJ,aC,aT]
     ·simp
    have zP:zS (zy (ae P)) 0=false:=by rw[hS.eq,hS.aW,hS.len,hP,sO];exact decide_eq_false (by have:=List.length_pos_iff.2 Ex;omega)
    refine bF zP ?_;cases plain with
    | true=>
     refine bT rfl ?_
     by_cases BE:dg=0
     ·have mR:len=O.length/\O=aQ (dY true (l.take (i+1))):=⟨hlen,by rw[jO,if_pos (Or.inr ⟨rfl,BE⟩)];exact hO⟩
      have zd:zS dg 0=true:=by rw[hS.eq];exact decide_eq_true BE
      refine⟨_,hS.call (cd),?_⟩;cbv;refine bT (zd) ?_;refine bR [(2,2)] (len,O) ?_ ?_ ?_ ?_ rfl (by show 2<=3;omega) mR
      ·simp[bV,dJ,aC,vi,vb,AV.aX,AV.bA,Cell.aX,aT]
       exact i1
      ·simp[bW,dJ,aC,Abs.look,aT,aU.aX,Cell.aX]
      ·simp[bf,dJ,aC,aT]
      ·simp
     ·have zd:zS dg 0=false:=by rw[hS.eq];exact decide_eq_false BE
      rw[if_neg (by rintro(h|⟨_,h⟩);exact Ex h;exact BE h)]at jO;refine⟨_,hS.call (cd),?_⟩;cbv;refine bF (zd) ?_;refine bT l1 (nd d1 ?_);simp only[d2,j3];cbv
      by_cases Ng:q=p
      ·rw[decide_eq_true Ng]at cs
       have mR:len=O.length/\O=aQ (dY _ (l.take (i+1))):=⟨hlen,by rw[jO,Ig,if_pos Ng];exact hO⟩;refine⟨_,hS.call (cs),?_⟩;cbv;refine bT (rfl) ?_;refine bR [(2,2)] (len,O) ?_ ?_ ?_ ?_ rfl (by show 2<=3;omega) mR
       ·simp[bV,dJ,aC,vi,vb,AV.aX,AV.bA,Cell.aX,aT]
        exact i1
       ·simp[bW,dJ,aC,Abs.look,aT,aU.aX,Cell.aX]
       ·simp[bf,dJ,aC,aT]
       ·simp
      ·rw[decide_eq_false Ng]at cs
       have L5:O.take m++R=aQ (jc p o):=by rw[Ig,if_neg Ng];exact hE
       refine⟨_,hS.call (cs),?_⟩;cbv;refine bF (rfl) ?_;refine nd k1 ?_;simp only[kT];refine bF k2 (nd k3 (nd k2b (nd k2c (nd k2d (bT k2e ?_)))));simp only[kR,kRp];refine nd k4 (nd k5 (bF k6 (nd k7 ?_)));simp only[nm];refine nd k8 (nd k9 (nd Oh (nd Oi ?_)));simp only[nR,zx];have Qo:L2=O2.length/\O2=aQ (dY _ (l.take (i+1))):=⟨TY,by rw[jO,yQ];exact L5⟩;refine bR [(2,11)] (L2,O2) ?_ ?_ ?_ ?_ rfl (by show 2<=3;omega) Qo
       ·simp[bV,dJ,aC,vi,vb,AV.aX,AV.bA,Cell.aX,aT]
        exact i1
       ·simp[bW,dJ,aC,Abs.look,aT,aU.aX,Cell.aX]
       ·simp[bf,dJ,aC,aT]
       ·simp
    | false=>
     rw[if_neg (by rintro(h|⟨h,_⟩);exact Ex h;exact absurd h (by decide))]at jO;refine bF rfl ?_;refine bT l1 (nd d1 ?_);simp only[d2,j3];cbv
     by_cases Ng:q=p
     ·rw[decide_eq_true Ng]at cs
      have mR:len=O.length/\O=aQ (dY _ (l.take (i+1))):=⟨hlen,by rw[jO,Ig,if_pos Ng];exact hO⟩;refine⟨_,hS.call (cs),?_⟩;cbv;refine bT (rfl) ?_;refine bR [(2,2)] (len,O) ?_ ?_ ?_ ?_ rfl (by show 2<=3;omega) mR
      ·simp[bV,dJ,aC,vi,vb,AV.aX,AV.bA,Cell.aX,aT]
       exact i1
      ·simp[bW,dJ,aC,Abs.look,aT,aU.aX,Cell.aX]
      ·simp[bf,dJ,aC,aT]
      ·simp
     ·rw[decide_eq_false Ng]at cs
      have L5:O.take m++R=aQ (jc p o):=by rw[Ig,if_neg Ng];exact hE
      refine⟨_,hS.call (cs),?_⟩;cbv;refine bF (rfl) ?_;refine nd k1 ?_;simp only[kT];refine bF k2 (nd k3 (nd k2b (nd k2c (nd k2d (bT k2e ?_)))));simp only[kR,kRp];refine nd k4 (nd k5 (bF k6 (nd k7 ?_)));simp only[nm];refine nd k8 (nd k9 (nd Oh (nd Oi ?_)));simp only[nR,zx];have Qo:L2=O2.length/\O2=aQ (dY _ (l.take (i+1))):=⟨TY,by rw[jO,yQ];exact L5⟩;refine bR [(2,11)] (L2,O2) ?_ ?_ ?_ ?_ rfl (by show 2<=3;omega) Qo
      ·simp[bV,dJ,aC,vi,vb,AV.aX,AV.bA,Cell.aX,aT]
       exact i1
      ·simp[bW,dJ,aC,Abs.look,aT,aU.aX,Cell.aX]
      ·simp[bf,dJ,aC,aT]
      ·simp
   ·have l1:zU (Int.ofNat m) (zy len)=false:=by rw[hS.lt,hS.aW,lO];exact decide_eq_false (show ¬(m:Int)<(o.length:Int) by omega)
    have k1:aH (Int.ofNat m) (zy len) len=true:=by rw[hS.cut,hS.aW];exact decide_eq_true (show 0<=(m:Int)/\(m:Int)<=(len:Int)/\(len:Int)<=(len:Int) by omega)
    have k0:aI (zy len) (Int.ofNat m)=len-m:=by rw[hS.HF,hS.aW];show(len:Int).toNat-(m:Int).toNat=_;omega
    obtain⟨T,hT⟩:∃T,T=O.drop m:=⟨_,rfl⟩;have lT:T.length=len-m:=by rw[hT,List.length_drop];omega
    have kT:an O (zz 0 (Int.ofNat m)) (aI (zy len) (Int.ofNat m))=T:=by rw[d2,k0,hS.part,hT,List.take_of_length_le (by rw[List.length_drop];omega)]
    have k3:aJ (zz 0 (Int.ofNat m)) (aI (zy len) (Int.ofNat m)) O=true:=by rw[d2,k0,hS.fit];exact decide_eq_true (show m+(len-m)<=O.length by omega)
    have k4:aH 0 (Int.ofNat m) len=true:=by rw[hS.cut];exact decide_eq_true (show(0:Int)<=(0:Int)/\(0:Int)<=(m:Int)/\(m:Int)<=(len:Int) by omega)
    have k5:zS (Int.ofNat m) (Int.ofNat m)=true:=by rw[hS.eq];exact decide_eq_true rfl
    obtain⟨R,hR⟩:∃R,R=[Tree.aa false P]::T:=⟨_,rfl⟩;have lR:R.length=1+T.length:=by rw[hR,List.length_cons];omega
    have kR:aO [[Tree.aa false P]] 0 T=R:=by rw[hS.ext,hR];rfl
    have hE:O.take m++R=aQ (o.take m++p::o.drop m):=by rw[hR,hT,hO,hP];simp[aQ,List.map_take,List.map_drop]
    have nm:zj (Int.ofNat m)=m:=by rw[hS.nat];rfl
    have k8:zX (aK (ae R) 0)=true:=by rw[hS.neq,hS.len,lR,hS.not,decide_eq_false (by omega)];rfl
    have k9:ai 1 R=true:=by rw[hS.wide,hR,hT,hO];simp[aQ,List.all_eq_true];intro a ha;have:=List.mem_of_mem_drop ha;simp at this;obtain⟨_,_,rfl⟩:=this;rfl
    have Oh:ak m (ae R) 24=true:=by rw[hS.room,hS.len];exact decide_eq_true (by unfold aF;omega)
    have Oi:aJ 0 m O=true:=by rw[hS.fit];exact decide_eq_true (show 0+m<=O.length by omega)
    obtain⟨O2,yQ⟩:∃O2,O2=O.take m++R:=⟨_,rfl⟩;have zx:aO (an O 0 m) 0 R=O2:=by rw[hS.ext,hS.part,yQ];rfl
    obtain⟨L2,TX⟩:∃L2,L2=m+R.length:=⟨_,rfl⟩;have TY:L2=O2.length:=by rw[TX,yQ,List.length_append,List.length_take];omega
    have nR:ah m (ae R)=L2:=by rw[hS.fc,hS.len,TX]
    have kq:an [[Tree.aa false P]] 0 1=R:=by rw[hS.part,hR,List.length_eq_zero_iff.1 (show T.length=0 by omega)];rfl
    have k2:aK (ae T) 0=true:=by rw[hS.neq,hS.len,lT];exact decide_eq_true (by omega)
    have k6:aK (ae (an [[Tree.aa false P]] 0 1)) 0=false:=by rw[hS.neq,hS.len,hS.part];rfl
    have k7:aJ 0 1 [[Tree.aa false P]]=true:=by rw[hS.fit];rfl
    have Ig:jc p o=o.take m++p::o.drop m:=by unfold jc;rw[<-hm,List.getElem?_eq_none (by omega),if_neg (by simp)]
    rw[<-Ig]at hE;refine⟨?_⟩;cbv;refine bF l1 ?_
    by_cases Ex:p=[]
    ·have zP:zS (zy (ae P)) 0=true:=by rw[hS.eq,hS.aW,hS.len,hP,sO,Ex];rfl
     have mR:len=O.length/\O=aQ (dY plain (l.take (i+1))):=⟨hlen,by rw[jO,if_pos (Or.inl Ex)];exact hO⟩;refine bT zP ?_;refine bR [(2,2)] (len,O) ?_ ?_ ?_ ?_ rfl (by show 2<=3;omega) mR
     ·simp[bV,dJ,aC,vi,vb,AV.aX,AV.bA,Cell.aX,aT]
      exact i1
     ·simp[bW,dJ,aC,Abs.look,aT,aU.aX,Cell.aX]
     ·simp[bf,dJ,aC,aT]
     ·simp
    have zP:zS (zy (ae P)) 0=false:=by rw[hS.eq,hS.aW,hS.len,hP,sO];exact decide_eq_false (by have:=List.length_pos_iff.2 Ex;omega)
    refine bF zP ?_;cases plain with
    | true=>
     refine bT rfl ?_
     by_cases BE:dg=0
     ·have mR:len=O.length/\O=aQ (dY true (l.take (i+1))):=⟨hlen,by rw[jO,if_pos (Or.inr ⟨rfl,BE⟩)];exact hO⟩
      have zd:zS dg 0=true:=by rw[hS.eq];exact decide_eq_true BE
      refine⟨_,hS.call (cd),?_⟩;cbv;refine bT (zd) ?_;refine bR [(2,2)] (len,O) ?_ ?_ ?_ ?_ rfl (by show 2<=3;omega) mR
      ·simp[bV,dJ,aC,vi,vb,AV.aX,AV.bA,Cell.aX,aT]
       exact i1
      ·simp[bW,dJ,aC,Abs.look,aT,aU.aX,Cell.aX]
      ·simp[bf,dJ,aC,aT]
      ·simp
     ·have zd:zS dg 0=false:=by rw[hS.eq];exact decide_eq_false BE
      rw[if_neg (by rintro(h|⟨_,h⟩);exact Ex h;exact BE h)]at jO;refine⟨_,hS.call (cd),?_⟩;cbv;refine bF (zd) ?_;have L5:O.take m++R=aQ (jc p o):=hE;refine bF l1 ?_;refine nd k1 ?_;simp only[kT];refine bT k2 (nd k3 (nd k4 (nd k5 (bF k6 (nd k7 ?_)))));simp only[kq];simp only[nm];refine nd k8 (nd k9 (nd Oh (nd Oi ?_)));simp only[nR,zx];have Qo:L2=O2.length/\O2=aQ (dY _ (l.take (i+1))):=⟨TY,by rw[jO,yQ];exact L5⟩
      refine bR [(2,11)] (L2,O2) ?_ ?_ ?_ ?_ rfl (by show 2<=3;omega) Qo
      ·simp[bV,dJ,aC,vi,vb,AV.aX,AV.bA,Cell.aX,aT]
       exact i1
      ·simp[bW,dJ,aC,Abs.look,aT,aU.aX,Cell.aX]
      ·simp[bf,dJ,aC,aT]
      ·simp
    | false=>
     rw[if_neg (by rintro(h|⟨h,_⟩);exact Ex h;exact absurd h (by decide))]at jO;refine bF rfl ?_;have L5:O.take m++R=aQ (jc p o):=hE;refine bF l1 ?_;refine nd k1 ?_;simp only[kT];refine bT k2 (nd k3 (nd k4 (nd k5 (bF k6 (nd k7 ?_)))));simp only[kq];simp only[nm];refine nd k8 (nd k9 (nd Oh (nd Oi ?_)));simp only[nR,zx];have Qo:L2=O2.length/\O2=aQ (dY _ (l.take (i+1))):=⟨TY,by rw[jO,yQ];exact L5⟩
     refine bR [(2,11)] (L2,O2) ?_ ?_ ?_ ?_ rfl (by show 2<=3;omega) Qo
     ·simp[bV,dJ,aC,vi,vb,AV.aX,AV.bA,Cell.aX,aT]
      exact i1
     ·simp[bW,dJ,aC,Abs.look,aT,aU.aX,Cell.aX]
     ·simp[bf,dJ,aC,aT]
     ·simp
 ·rintro⟨len,O⟩ ⟨hlen,hO⟩
  simp only at hlen hO;rw[List.take_of_length_le (by omega),<-hY]at hO;obtain⟨u1,u2⟩:=hS.whole (r:=O) (len:=len) hlen;refine⟨?_⟩;cbv;refine bF lE ?_;rw[u2];refine nd u1 ?_;rw[hO];exact hF _ (aS.refl _)
open Go Go.Abs Go.Abs.M Go.Proofs
def VQ (n:Int):Int:=if n<0 then -(n+1)*2+1 else n*2
def oB (n:Int):Abs.Rows:=nB (VQ n)
theorem Qp {n:Int} (h0:-8000<=n) (h1:n<=8000):0<=VQ n/\VQ n<16384:=by unfold VQ;split<;>omega
def uB (l:List Rat):Abs.Rows:=nB l.length++l.flatMap qB
open Go Go.Abs Go.Abs.M Go.Proofs
structure R8 where
 a0:Int
 a1:Int
 a2:Int
 a3:Int
 a4:Int
 a5:Int
 a6:Int
 a7:Int
def R8.ok (x:R8):Prop:=(-8000<=x.a0/\x.a0<=8000)/\(-8000<=x.a1/\x.a1<=8000)/\(-8000<=x.a2/\x.a2<=8000)/\(-8000<=x.a3/\x.a3<=8000)/\(-8000<=x.a4/\x.a4<=8000)/\(-8000<=x.a5/\x.a5<=8000)/\(-8000<=x.a6/\x.a6<=8000)/\(-8000<=x.a7/\x.a7<=8000)
def r8r (x:R8):List Tree:=[.v (.int .i64 x.a0),.v (.int .i64 x.a1),.v (.int .i64 x.a2),.v (.int .i64 x.a3),.v (.int .i64 x.a4),.v (.int .i64 x.a5),.v (.int .i64 x.a6),.v (.int .i64 x.a7)]
def iq (l:List R8):Abs.Rows:=l.map r8r
def r8B (x:R8):Abs.Rows:=oB x.a0++oB x.a1++oB x.a2++oB x.a3++oB x.a4++oB x.a5++oB x.a6++oB x.a7
def VR (l:List R8):Abs.Rows:=nB l.length++l.flatMap r8B
open Go Go.Abs Go.Abs.M Go.Proofs
open Go Go.Abs Go.Abs.M Go.Proofs
structure Bx where
 u0:Rat
 v0:Rat
 u1:Rat
 v1:Rat
 u2:Rat
 v2:Rat
 u3:Rat
 v3:Rat
 u4:Rat
 v4:Rat
 u5:Rat
 v5:Rat
 u6:Rat
 v6:Rat
 u7:Rat
 v7:Rat
def Bx.ok (x:Bx):Prop:=Qs x.u0 100/\Qs x.v0 100/\Qs x.u1 100/\Qs x.v1 100/\Qs x.u2 100/\Qs x.v2 100/\Qs x.u3 100/\Qs x.v3 100/\Qs x.u4 100/\Qs x.v4 100/\Qs x.u5 100/\Qs x.v5 100/\Qs x.u6 100/\Qs x.v6 100/\Qs x.u7 100/\Qs x.v7 100
def mS (x:Bx):List Tree:=(qc x.u0).row++(qc x.v0).row++(qc x.u1).row++(qc x.v1).row++(qc x.u2).row++(qc x.v2).row++(qc x.u3).row++(qc x.v3).row++(qc x.u4).row++(qc x.v4).row++(qc x.u5).row++(qc x.v5).row++(qc x.u6).row++(qc x.v6).row++(qc x.u7).row++(qc x.v7).row
def yR (l:List Bx):Abs.Rows:=l.map mS
def bx1 (x:Bx):Abs.Rows:=qB x.u0++qB x.v0++qB x.u1++qB x.v1++qB x.u2++qB x.v2++qB x.u3++qB x.v3++qB x.u4++qB x.v4++qB x.u5++qB x.v5++qB x.u6++qB x.v6++qB x.u7++qB x.v7
def VS (l:List Bx):Abs.Rows:=nB l.length++l.flatMap bx1
open Go Go.Abs Go.Abs.M Go.Proofs
def Qq (l:List Int):Abs.Rows:=W .i64 l
structure Cl where
 k:Int
 P:List T2
 cn:Int
 cd:Int
 cr:Int
 O:List R8
 L:List (List T2)
 S:List Int
 B:List Bx
def FR (n:Int):Prop:=-8000<=n/\n<=8000
structure Cl.ok (c:Cl):Prop where
 k:FR c.k
 P:BP c.P
 cn:FR c.cn
 cd:FR c.cd
 cr:FR c.cr
 O:(∀x∈c.O,x.ok)/\c.O.length<=100
 L:BL c.L
 S:(∀x∈c.S,FR x)/\c.S.length<=100
 B:(∀x∈c.B,x.ok)/\c.B.length<=100
def clB (c:Cl):Abs.Rows:=oB c.k++TR c.P++oB c.cn++oB c.cd++oB c.cr++VR c.O++Ql c.L++nB c.S.length++c.S.flatMap oB++VS c.B
open Go Go.Abs Go.Abs.M Go.Proofs
def Jd (l:List (Rat×Rat)):Abs.Rows:=l.map fun x=>(qc x.1).row++(qc x.2).row
def Je (l:List (Rat×List T2)):Abs.Rows:=l.map fun x=>(qc x.1).row ++ [.aa false (bo x.2)]
structure Q8 where
 a0:Rat
 a1:Rat
 a2:Rat
 a3:Rat
 a4:Rat
 a5:Rat
 a6:Rat
 a7:Rat
def Q8.ok (x:Q8):Prop:=Qs x.a0 100/\Qs x.a1 100/\Qs x.a2 100/\Qs x.a3 100/\Qs x.a4 100/\Qs x.a5 100/\Qs x.a6 100/\Qs x.a7 100
def q8r (x:Q8):List Tree:=(qc x.a0).row++(qc x.a1).row++(qc x.a2).row++(qc x.a3).row++(qc x.a4).row++(qc x.a5).row++(qc x.a6).row++(qc x.a7).row
def RA (l:List Q8):Abs.Rows:=l.map q8r
def TZ (x:Rat×Rat):Abs.Rows:=qB x.1++qB x.2
def T0 (x:Rat×List T2):Abs.Rows:=qB x.1++TR x.2
def Zu (x:Q8):Abs.Rows:=qB x.a0++qB x.a1++qB x.a2++qB x.a3++qB x.a4++qB x.a5++qB x.a6++qB x.a7
def BU (l:List Rat):Prop:=(∀x∈l,Qs x 100)/\l.length<=100
def BT (l:List (List (List T2))):Prop:=(∀p∈l,BL p)/\l.length<=10
structure Ce where
 N:Int
 gC:List (List T2)
 G:List (List T2)
 O:List R8
 C:List (List (List T2))
 Q:List (List (List T2))
 Sx:List (List (List T2))
 R:R8
 U:List Rat
 U0:List Rat
 U1:List Rat
 U2:List Rat
 U3:List Rat
 U4:List Rat
 U5:List Rat
 U6:List Rat
 U7:List Rat
 At:List (Rat×Rat)
 Sq:List (Rat×List T2)
 X:List Q8
 B:List Bx
structure Ce.ok (e:Ce):Prop where
 N:FR e.N
 gC:BL e.gC
 G:BL e.G
 O:(∀x∈e.O,x.ok)/\e.O.length<=100
 C:BT e.C
 Q:BT e.Q
 Sx:BT e.Sx
 R:e.R.ok
 U:BU e.U
 U0:BU e.U0
 U1:BU e.U1
 U2:BU e.U2
 U3:BU e.U3
 U4:BU e.U4
 U5:BU e.U5
 U6:BU e.U6
 U7:BU e.U7
 At:(∀x∈e.At,Qs x.1 100/\Qs x.2 100)/\e.At.length<=100
 Sq:(∀x∈e.Sq,Qs x.1 100/\BP x.2)/\e.Sq.length<=100
 X:(∀x∈e.X,x.ok)/\e.X.length<=100
 B:(∀x∈e.B,x.ok)/\e.B.length<=100
def ceB (e:Ce):Abs.Rows:=oB e.N++Ql e.gC++Ql e.G++VR e.O++Qm e.C++Qm e.Q++Qm e.Sx++oB e.R.a0++oB e.R.a1++oB e.R.a2++oB e.R.a3++oB e.R.a4++oB e.R.a5++oB e.R.a6++oB e.R.a7++uB e.U++uB e.U0++uB e.U1++uB e.U2++uB e.U3++uB e.U4++uB e.U5++uB e.U6++uB e.U7++nB e.At.length++e.At.flatMap TZ++nB e.Sq.length++e.Sq.flatMap T0++nB e.X.length++e.X.flatMap Zu++VS e.B
end Go.Proofs.YtekefilngojelaaGreat
end
