/- A part. -/
import Derived.Test.YtekefilngojelaaGreatM9
import Derived.Test.YtekefilngojelaaGreatM10
import Derived.Test.YtekefilngojelaaGreatM11
set_option maxHeartbeats 0
set_option maxRecDepth 100000
set_option linter.unusedVariables false
set_option linter.unusedSimpArgs false
set_option linter.unusedSectionVars false
section
namespace Go.Proofs.YtekefilngojelaaGreat
open Go Go.Abs Go.Abs.M Go.Proofs
theorem PI (s:Bool) (r:Abs.Rows) (v:Bool) (p:Abs.Rows) (a b:Int):(na s r v p a b).length=12:=rfl
def bM (x:Rat) (c d:Int) (l:List T2):List T2:=if x=0 then [] else l.map fun t:T2=>T2.mk (x*t.c) (c+t.a) (d+t.b)
def Bk (X:Abs.Rows) (s:Bool) (r:Abs.Rows) (t:Bool) (p:Abs.Rows) (a b:Int) (len:Nat) (R:Abs.Rows) (I:Int):St:=ae 47 [.af,.af,.c (.t (.aa false X)),.c (.ptr 3 0 0),.c (.ptr 4 0 0),.af,.af,.af,.c (.sl 5 0 len false),vi .i64 I] [none,none,none,some (.var [.t (.v (.bool s)),.t (.aa false r),.t (.v (.bool t)),.t (.aa false p)]),some (.var [.t (.v (.int .i64 a)),.t (.v (.int .i64 b)),.t (.v (.int .i64 0)),.t (.v (.int .i64 0)),.t (.v (.int .i64 0)),.t (.v (.int .i64 0)),.t (.v (.int .i64 0)),.t (.v (.int .i64 0))]),some (.rows 12 R true false)]
theorem mB (x:Rat) (c d:Int) (l:List T2) {n:Nat} (hx:Qs x n) (hc:0<=c/\c<=30000) (hd:0<=d/\d<=30000) (hl:∀t∈l,t.ok n 30000) (hn:n<=100000) (UC:l.length<=1000) :
  aH 75 [.val (.agg (qc x).row),.val (.agg (m2 c d)),.val (tl (aP l))] ⟨[.val (tl (aP (bM x c d l))),.val (ti .i64 0)],[none,none,none]⟩:=by
 have cs:=ug x;obtain⟨C,hC⟩:=aq (bH x.num 0);have Tf:C=0↔x=0:=by
  rw[hC,<-Rat.num_eq_zero];unfold bH
  by_cases h1:x.num<0
  ·rw[if_pos h1];omega
  ·rw[if_neg h1];by_cases h2:0<x.num
   ·rw[if_pos h2];omega
   ·rw[if_neg h2];omega
 rw[<-hC]at cs;obtain⟨X,hX⟩:=aq (aP l);obtain⟨k,hk⟩:=aq (l.length);have lX:X.length=k:=by rw[hX,pK,hk]
 obtain⟨s1,v1,r1,p1,e1,_⟩:=bX x;rw[e1]at cs ⊢
 by_cases h:x=0
 ·have hE:aP (bM x c d l)=[]:=by unfold bM;rw[if_pos h];rfl
  rw[hE,<-hX];unfold m2;refine an ai mixed [.val,.val] Tryz.func75 rfl rfl (by kernel_rfl) ?_;intros;rename_i zT zU _ _ _ _ _ _ _ _ _ _ _ _ _ _ _ _ _ _ aB _ _ _ _ _ _ _ _ _ _ _ _ _ _ _ _ _ _ A L F hS hF;have q:zT C 0=true:=dT (hS.eq ..) (Tf.2 h);cbv;refine hS.cl cs ?_;cbv;apply bT q;exact Fl hF (aY.drop _ _) (jq.refl _)
 ·obtain⟨g,hg⟩:=aq (l.map fun t:T2=>T2.mk (x*t.c) (c+t.a) (d+t.b):List T2)
  have hE:bM x c d l=g:=by unfold bM;rw[if_neg h,hg]
  rw[hE,<-hX];have lg:g.length=k:=by rw[hg,List.length_map,hk]
  have Nd:∀(i:Nat) (t:T2),l[i]?=some t->g[i]?=some (T2.mk (x*t.c) (c+t.a) (d+t.b)):=fun i t ht=>by rw[hg,List.getElem?_map,ht];rfl
  clear hg hE;unfold m2;refine an ai mixed [.val,.val] Tryz.func75 rfl rfl (by kernel_rfl) ?_;intros;rename_i zT zU _ _ _ _ _ _ _ _ _ _ _ _ _ _ _ _ _ _ aB _ _ _ _ _ _ _ _ _ _ _ _ _ _ _ _ _ _ A L F hS hF;have q:zT C 0=false:=dF (hS.eq ..) fun e=>h (Tf.1 e)
  have lE:=hS.fh lX;have e0:zU 0 0=false:=by rw[hS.ne];rfl
  cbv;refine hS.cl cs ?_;cbv;apply bF q;refine mV ai mixed hS (n:=k) (fun i (R:Abs.Rows)=>Bk X s1 r1 v1 p1 c d i R (Int.ofNat i)) (fun i R=>R=aP (g.take i)) (a0:=[]) (fy ?_ ?_) rfl (by show 3<=6;omega) rfl ?_ ?_
  ·simp[dS,Bk,ae,vi,vb]
  ·simp[dU,Bk,ae]
  ·intro i R hi hR
   obtain⟨l1,i1,j1,n0⟩:=hS.ic lX hi (by omega);obtain⟨t,s,v,r,p,ht,gt,qt,hr,_,_,_⟩:=ig (l:=l) (i:=i) (by omega);obtain⟨u,s3,v3,r3,p3,hu,gu,qu,_,wu,fc,_⟩:=ig (l:=g) (i:=i) (by omega);have ot:=hl t ht;have Yv:u=T2.mk (x*t.c) (c+t.a) (d+t.b):=by rw[Nd i t gt]at gu;exact(Option.some.inj gu).symm
   have j2:aB X i=some (na s r v p t.a t.b):=by rw[hS.nth,hX];exact hr
   have cn:=Kh c d t.a t.b hc hd ot.a ot.b;have cm:=(Kx hx ot.c (by omega)).2;rw[show x*t.c=u.c by rw[Yv],qu,qt,e1]at cm;rw[show c+t.a=u.a by rw[Yv],show d+t.b=u.b by rw[Yv]]at cn;have mY:R ++ [na s3 r3 v3 p3 u.a u.b]=aP (g.take (i+1)):=by rw[fc,ue,<-hR,wu]
   obtain⟨u0,u1,u2,u3,u4,u5,u6,u7⟩:=hS.vg (PI s3 r3 v3 p3 u.a u.b) (r:=R) (len:=i) (b:=128) (by rw[hR,pK,List.length_take];omega) (by unfold au;omega);obtain⟨row,pS⟩:=aq (na s3 r3 v3 p3 u.a u.b);rw[<-pS]at mY u0 u1 u2 u3 u4 u6 u7;generalize t.a=a,t.b=b,u.a=a2,u.b=b2 at *;unfold m2 at cn;unfold na at pS;clear Nd hl ot Yv;cbv;apply bT l1;rw[j1,j2];cbv;apply nd n0;refine hS.cl cn ?_
   cbv;apply bF e0;rw[j1,j2];cbv;apply nd n0;refine hS.cl cm ?_;cbv;rw[<-pS,u0];apply nd u1;apply nd u2;apply nd u3;apply nd u4;apply nd u5;refine aU [(3,3),(4,4),(5,12)] (R ++ [row]) ?_ ?_ ?_ ?_ rfl (by show 3<=6;omega) mY
   ·simp[bd,Bk,ae,vi,AV.aw,AV.aJ,Cell.aw,ak,i1,u6]
   ·simp[bf,Bk,ae,Abs.look,ak,aA.aw,u7,Cell.aw]
   ·simp[aF,Bk,ae,ak]
   ·simp
  ·intro R hR
   rw[List.take_of_length_le (by omega)]at hR;obtain⟨f1,f2⟩:=hS.whole (r:=R) (len:=k) (by rw[hR,pK,lg]);rw[<-hR]at hF;cbv;refine bF lE (nd f1 ?_);rw[f2];exact aC hF
def Vd (p:List T2):Prop:=(∀t∈p,t.c≠0)/\p.Pairwise fun t u=>mU t.a t.b u.a u.b=1
def Zs (p:List T2):Prop:=∀t∈p,t.c.den=1/\t.c.num.natAbs<=1000000
def lh (p:List T2):Nat:=p.foldl (fun g t=>Nat.gcd g t.c.num.natAbs) 0
def DA (p:List T2):Rat:=(if(p.headD ⟨0,0,0⟩).c<0 then -1 else 1)*(Rat.divInt 1 (lh p))
def jP (p:List T2):List T2:=if p=[] then [] else bM (DA p) 0 0 p
def Nm (p:List T2):Prop:=p≠[]->lh p=1/\0<(p.headD ⟨0,0,0⟩).c
theorem nY:∀(p:List T2) (g:Nat),p.foldl (fun g t=>Nat.gcd g t.c.num.natAbs) g∣g/\∀t∈p,p.foldl (fun g t=>Nat.gcd g t.c.num.natAbs) g∣t.c.num.natAbs
 | [],g=>⟨Nat.dvd_refl _,fun t h=>absurd h (by simp)⟩
 | u::p,g=>by
  obtain⟨h1,h2⟩:=nY p (Nat.gcd g u.c.num.natAbs);refine⟨Nat.dvd_trans h1 (Nat.gcd_dvd_left _ _),fun t ht=>?_⟩;rcases List.mem_cons.1 ht with rfl|ht
  ·exact Nat.dvd_trans h1 (Nat.gcd_dvd_right _ _)
  ·exact h2 t ht
theorem FU (k:Nat) (hk:0<k):∀(p q:List T2) (g:Nat),p.map (fun t=>t.c.num.natAbs)=q.map (fun t=>k*t.c.num.natAbs)->p.foldl (fun g t=>Nat.gcd g t.c.num.natAbs) (k*g)=k*q.foldl (fun g t=>Nat.gcd g t.c.num.natAbs) g
 | [],[],g,_=>rfl
 | [],_::_,g,h=>by simp at h
 | _::_,[],g,h=>by simp at h
 | t::p,u::q,g,h=>by
  simp only[List.map_cons,List.cons.injEq]at h;simp only[List.foldl_cons];rw[h.1,Nat.gcd_mul_left];exact FU k hk p q _ h.2
theorem lj {p:List T2} (hp:p≠[]) (hz:Zs p) (hv:Vd p):0<lh p:=by
 cases p with
 | nil=>exact absurd rfl hp
 | cons t p=>
  have h:=(nY (t::p) 0).2 t List.mem_cons_self;refine Nat.pos_of_dvd_of_pos h ?_;have h0:=hv.1 t List.mem_cons_self;have:t.c.num≠0:=fun e=>h0 (Rat.num_eq_zero.1 e)
  omega
theorem oL {x:Rat} (h:x.den=1):x=(x.num:Rat):=Rat.ext (by simp) (by simp[h])
theorem HT (p:List T2):bM 1 0 0 p=p:=by
 unfold bM;rw[if_neg (by decide)];have:(fun t:T2=>T2.mk (1*t.c) (0+t.a) (0+t.b))=id:=by funext t;simp[Rat.one_mul]
 rw[this,List.map_id]
theorem HU {p:List T2} (h:Nm p):jP p=p:=by
 unfold jP
 by_cases hp:p=[]
 ·rw[if_pos hp,hp]
 ·rw[if_neg hp]
  obtain⟨h1,h2⟩:=h hp;have:DA p=1:=by
   unfold DA;rw[if_neg (by rw[Rat.not_lt];exact Rat.le_of_lt h2),h1];rw[Rat.one_mul];rfl
  rw[this,HT]
theorem FV {s:Int} (hs:s=1∨s=-1) {g:Nat} (hg:0<g) {x:Rat} (hx:x.den=1) (hd:g∣x.num.natAbs) :
  ∃z:Int,((s:Rat)*Rat.divInt 1 g)*x=(z:Rat)/\x.num.natAbs=g*z.natAbs/\x.num=s*(g*z):=by
 obtain⟨c,hc⟩:=Int.ofNat_dvd_left.2 hd;have AK:s*s=1:=by rcases hs with rfl|rfl<;>rfl
 refine⟨s*c,?_,?_,?_⟩
 ·rw[oL hx,hc]
  have Fv:(g:Rat)≠0:=by
   intro h;have h2:((g:Int):Rat)=((0:Int):Rat):=by exact_mod_cast h
   have:=Rat.intCast_inj.1 h2;omega
  have e:Rat.divInt 1 (g:Int)*(g:Rat)=1:=by
   rw[Rat.divInt_eq_div];have:((1:Int):Rat)=1:=rfl;rw[this];exact Rat.div_mul_cancel Fv
  have:(((g:Int)*c:Int):Rat)=(g:Rat)*(c:Rat):=by rw[Rat.intCast_mul];rfl
  rw[this,Rat.intCast_mul];rw[show((s:Rat)*Rat.divInt 1 (g:Int))*((g:Rat)*(c:Rat))=(s:Rat)*(Rat.divInt 1 (g:Int)*(g:Rat))*(c:Rat) by simp only[Rat.mul_assoc],e,Rat.mul_one]
 ·rw[hc,Int.natAbs_mul,Int.natAbs_mul]
  rcases hs with rfl|rfl<;>simp
 ·rw[hc]
  rw[show s*((g:Int)*(s*c))=(s*s)*((g:Int)*c) by ac_rfl,AK,Int.one_mul]
theorem xB {p:List T2} (hp:p≠[]) (hz:Zs p) (hv:Vd p) :
  ∃s:Int,(s=1∨s=-1)/\(s=-1↔(p.headD ⟨0,0,0⟩).c<0)/\DA p=(s:Rat)*Rat.divInt 1 (lh p):=by
 unfold DA
 by_cases h:(p.headD ⟨0,0,0⟩).c<0
 ·refine⟨-1,Or.inr rfl,⟨fun _=>h,fun _=>rfl⟩,?_⟩
  rw[if_pos h];rfl
 ·refine⟨1,Or.inl rfl,⟨fun e=>absurd e (by decide),fun e=>absurd e h⟩,?_⟩
  rw[if_neg h];rfl
theorem Nf {p:List T2} (hp:p≠[]) (hz:Zs p) (hv:Vd p):DA p≠0:=by
 obtain⟨s,hs,_,e⟩:=xB hp hz hv;have hg:=lj hp hz hv;rw[e];intro h;rcases Rat.mul_eq_zero.1 h with h|h
 ·have:=Rat.intCast_inj.1 (show((s:Int):Rat)=((0:Int):Rat) from h)
  omega
 ·have e:Rat.divInt 1 ((lh p:Nat):Int)*((lh p:Nat):Rat)=1:=by
   rw[Rat.divInt_eq_div];have Fv:((lh p:Nat):Rat)≠0:=by
    intro h;have h2:(((lh p:Nat):Int):Rat)=((0:Int):Rat):=by exact_mod_cast h
    have:=Rat.intCast_inj.1 h2;omega
   exact Rat.div_mul_cancel Fv
  rw[h,Rat.zero_mul]at e;exact absurd e (by decide)
theorem KB {p:List T2} (hz:Zs p) (hv:Vd p) :
  Zs (jP p)/\Vd (jP p)/\Nm (jP p)/\(jP p).length=p.length/\(jP p).map (fun t=>(t.a,t.b))=p.map (fun t=>(t.a,t.b)):=by
 by_cases hp:p=[]
 ·subst hp
  refine⟨fun t h=>absurd h (by simp[jP]),⟨fun t h=>absurd h (by simp[jP]),by simp[jP]⟩,fun h=>absurd (by simp[jP]) h,by simp[jP],by simp[jP]⟩
 ·have hn:=Nf hp hz hv
  have hE:jP p=p.map fun t:T2=>T2.mk (DA p*t.c) (0+t.a) (0+t.b):=by unfold jP;rw[if_neg hp];unfold bM;rw[if_neg hn]
  obtain⟨s,hs,ji,e⟩:=xB hp hz hv;have hg:=lj hp hz hv;obtain⟨g,Yw⟩:=aq (lh p);rw[<-Yw]at hg e;have hdv:∀t∈p,g∣t.c.num.natAbs:=fun t ht=>by rw[Yw];exact(nY p 0).2 t ht
  have hq:∀t∈p,∃z:Int,DA p*t.c=(z:Rat)/\t.c.num.natAbs=g*z.natAbs/\t.c.num=s*(g*z):=fun t ht=>by
   rw[e];exact FV hs hg (hz t ht).1 (hdv t ht)
  have hZ:Zs (jP p):=by
   intro u hu;rw[hE]at hu;obtain⟨t,ht,rfl⟩:=List.mem_map.1 hu;obtain⟨z,h1,h2,_⟩:=hq t ht;simp only[h1];refine⟨Rat.den_intCast z,?_⟩;have h3:z.natAbs<=g*z.natAbs:=Nat.le_mul_of_pos_left _ hg;have h4:=(hz t ht).2;rw[Rat.num_intCast];omega
  have Tg:∀t∈p,(T2.mk (DA p*t.c) (0+t.a) (0+t.b)).c.num.natAbs*g=t.c.num.natAbs:=fun t ht=>by
   obtain⟨z,h1,h2,_⟩:=hq t ht;simp only[h1,Rat.num_intCast];rw[h2,Nat.mul_comm]
  refine⟨hZ,⟨?_,?_⟩,?_,by rw[hE,List.length_map],by rw[hE,List.map_map];exact List.map_congr_left fun t _=>by simp⟩
  ·intro u hu
   rw[hE]at hu;obtain⟨t,ht,rfl⟩:=List.mem_map.1 hu;exact fun h=>(Rat.mul_eq_zero.1 h).elim hn (hv.1 t ht)
  ·rw[hE,List.pairwise_map]
   exact hv.2.imp fun h=>by simp only[Int.zero_add];exact h
  ·intro _
   refine⟨?_,?_⟩
   ·have LV:p.map (fun t=>t.c.num.natAbs)=(jP p).map (fun t=>g*t.c.num.natAbs):=by
     rw[hE,List.map_map];exact List.map_congr_left fun t ht=>by simp only[Function.comp];rw[<-Tg t ht,Nat.mul_comm]
    have h:=FU g hg p (jP p) 0 LV;rw[Nat.mul_zero]at h;have h2:g=g*lh (jP p):=by rw[Yw];rw[Yw]at h;exact h
    exact Nat.eq_of_mul_eq_mul_left hg (by rw[Nat.mul_one];exact h2.symm)
   ·cases p with
    | nil=>exact absurd rfl hp
    | cons t p=>
     rw[hE];simp only[List.map_cons,List.headD_cons];obtain⟨z,h1,h2,h3⟩:=hq t List.mem_cons_self;rw[h1];simp only[List.headD_cons]at ji;have h0:=hv.1 t List.mem_cons_self;have JS:z≠0:=by
      intro h;rw[h]at h3;exact h0 (Rat.num_eq_zero.1 (by rw[h3];simp))
     have hgz:(0:Int)<g:=by omega
     have HE:t.c<0↔t.c.num<0:=by rw[<-Rat.not_le,<-Rat.num_nonneg];omega
     have:0<z:=by
      rcases hs with rfl|rfl
      ·have:¬t.c.num<0:=fun h=>absurd (ji.2 (HE.2 h)) (by decide)
       rw[Int.one_mul]at h3;rw[h3]at this;rcases Int.lt_trichotomy z 0 with h|h|h
       ·exact absurd (Int.mul_neg_of_pos_of_neg hgz h) this
       ·exact absurd h JS
       ·exact h
      ·have h4:t.c.num<0:=HE.1 (ji.1 rfl)
       rw[h3]at h4;rcases Int.lt_trichotomy z 0 with h|h|h
       ·have:=Int.mul_neg_of_pos_of_neg hgz h
        omega
       ·exact absurd h JS
       ·exact h
     exact Rat.intCast_pos.2 this
def Th (t u:T2):Int:=if mU t.a t.b u.a u.b≠0 then mU t.a t.b u.a u.b else jt t.c u.c
theorem sf (a b c d:Int):(mU a b c d=-1/\(a<c∨a=c/\b<d))∨(mU a b c d=0/\a=c/\b=d)∨(mU a b c d=1/\(c<a∨a=c/\d<b)):=by
 unfold mU
 by_cases h1:a<c
 ·rw[if_pos h1];exact Or.inl ⟨rfl,Or.inl h1⟩
 ·rw[if_neg h1]
  by_cases h2:c<a
  ·rw[if_pos h2];exact Or.inr (Or.inr ⟨rfl,Or.inl h2⟩)
  ·rw[if_neg h2]
   by_cases h3:b<d
   ·rw[if_pos h3];exact Or.inl ⟨rfl,Or.inr ⟨by omega,h3⟩⟩
   ·rw[if_neg h3]
    by_cases h4:d<b
    ·rw[if_pos h4];exact Or.inr (Or.inr ⟨rfl,Or.inr ⟨by omega,h4⟩⟩)
    ·rw[if_neg h4];exact Or.inr (Or.inl ⟨rfl,by omega,by omega⟩)
theorem Bl {x y z:Rat} (h1:x<y) (h2:y<z):x<z:=Std.lt_trans h1 h2
theorem vR {x:Rat} (h:x<x):False:=Rat.lt_irrefl h
theorem PJ (x y:Rat):x<y∨x=y∨y<x:=by
 rcases Rat.le_total (a:=x) (b:=y) with h|h
 ·by_cases e:x=y
  ·exact Or.inr (Or.inl e)
  ·exact Or.inl (Rat.lt_of_le_of_ne h e)
 ·by_cases e:x=y
  ·exact Or.inr (Or.inl e)
  ·exact Or.inr (Or.inr (Rat.lt_of_le_of_ne h (Ne.symm e)))
theorem FW (x y:Rat):(jt x y=-1/\x<y)∨(jt x y=0/\x=y)∨(jt x y=1/\y<x):=by
 unfold jt;rcases PJ x y with h|h|h
 ·rw[if_pos h];exact Or.inl ⟨rfl,h⟩
 ·subst h
  rw[if_neg vR,if_neg vR];exact Or.inr (Or.inl ⟨rfl,rfl⟩)
 ·rw[if_neg fun h2=>vR (Bl h h2),if_pos h];exact Or.inr (Or.inr ⟨rfl,h⟩)
def Ot (t u:T2):Prop:=(t.a<u.a∨t.a=u.a/\t.b<u.b)∨(t.a=u.a/\t.b=u.b/\t.c<u.c)
theorem PK (t u:T2):(Th t u=-1/\Ot t u)∨(Th t u=0/\t=u)∨(Th t u=1/\Ot u t):=by
 unfold Th Ot;rcases sf t.a t.b u.a u.b with⟨h,g⟩|⟨h,g1,g2⟩|⟨h,g⟩
 ·rw[h,if_pos (by decide)];exact Or.inl ⟨rfl,Or.inl g⟩
 ·rw[h,if_neg (by decide)]
  rcases FW t.c u.c with⟨k,l⟩|⟨k,l⟩|⟨k,l⟩
  ·exact Or.inl ⟨k,Or.inr ⟨g1,g2,l⟩⟩
  ·exact Or.inr (Or.inl ⟨k,uh.2 ⟨l,g1,g2⟩⟩)
  ·exact Or.inr (Or.inr ⟨k,Or.inr ⟨g1.symm,g2.symm,l⟩⟩)
 ·rw[h,if_pos (by decide)];exact Or.inr (Or.inr ⟨rfl,Or.inl (by omega)⟩)
theorem KC {t u v:T2} (h1:Ot t u) (h2:Ot u v):Ot t v:=by
 unfold Ot at *;rcases h1 with h1|⟨a1,b1,c1⟩
 ·rcases h2 with h2|⟨a2,b2,c2⟩
  ·left;omega
  ·left;omega
 ·rcases h2 with h2|⟨a2,b2,c2⟩
  ·left;omega
  ·right;exact⟨by omega,by omega,Bl c1 c2⟩
theorem PM {t:T2} (h:Ot t t):False:=by
 unfold Ot at h;rcases h with h|⟨_,_,c⟩
 ·omega
 ·exact vR c
theorem KD (t u:T2) (l k:List T2):iZ (t::l) (u::k)=if Th t u≠0 then Th t u else iZ l k:=by
 unfold Th;show(if mU t.a t.b u.a u.b≠0 then mU t.a t.b u.a u.b else if jt t.c u.c≠0 then jt t.c u.c else iZ l k)=_
 by_cases h:mU t.a t.b u.a u.b≠0
 ·rw[if_pos h,if_pos h,if_pos h]
 ·rw[if_neg h,if_neg h]
def LD:List T2->List T2->Prop
 | [],[]=>False
 | [],_::_=>True
 | _::_,[]=>False
 | t::l,u::k=>Ot t u∨(t=u/\LD l k)
theorem xC:∀p q:List T2,(iZ p q=-1/\LD p q)∨(iZ p q=0/\p=q)∨(iZ p q=1/\LD q p)
 | [],[]=>Or.inr (Or.inl ⟨rfl,rfl⟩)
 | [],_::_=>Or.inl ⟨rfl,trivial⟩
 | _::_,[]=>Or.inr (Or.inr ⟨rfl,trivial⟩)
 | t::l,u::k=>by
  rw[KD];rcases PK t u with⟨h,g⟩|⟨h,g⟩|⟨h,g⟩
  ·rw[h,if_pos (by decide)];exact Or.inl ⟨rfl,Or.inl g⟩
  ·rw[h,if_neg (by decide)]
   subst g;rcases xC l k with⟨h,g⟩|⟨h,g⟩|⟨h,g⟩
   ·exact Or.inl ⟨h,Or.inr ⟨rfl,g⟩⟩
   ·exact Or.inr (Or.inl ⟨h,by rw[g]⟩)
   ·exact Or.inr (Or.inr ⟨h,Or.inr ⟨rfl,g⟩⟩)
  ·rw[h,if_pos (by decide)];exact Or.inr (Or.inr ⟨rfl,Or.inl g⟩)
theorem oM:∀ {p q r:List T2},LD p q->LD q r->LD p r
 | [],[],_,h,_=>absurd h id
 | [],_::_,[],_,h=>absurd h id
 | [],_::_,_::_,_,_=>trivial
 | _::_,[],_,h,_=>absurd h id
 | _::_,_::_,[],_,h=>absurd h id
 | t::p,u::q,v::r,h1,h2=>by
  rcases h1 with h1|⟨rfl,h1⟩
  ·rcases h2 with h2|⟨rfl,h2⟩
   ·exact Or.inl (KC h1 h2)
   ·exact Or.inl h1
  ·rcases h2 with h2|⟨rfl,h2⟩
   ·exact Or.inl h2
   ·exact Or.inr ⟨rfl,oM h1 h2⟩
theorem mC:∀ {p:List T2},LD p p->False
 | [],h=>h
 | t::p,h=>by
  rcases h with h|⟨_,h⟩
  ·exact PM h
  ·exact mC h
theorem DB {p q:List T2}:iZ p q<0↔LD p q:=by
 rcases xC p q with⟨h,g⟩|⟨h,g⟩|⟨h,g⟩
 ·rw[h];exact⟨fun _=>g,fun _=>by decide⟩
 ·subst g;rw[h];exact⟨fun k=>absurd k (by decide),fun k=>absurd k mC⟩
 ·rw[h];exact⟨fun k=>absurd k (by decide),fun k=>absurd (oM k g) mC⟩
theorem PN {p q:List T2} (h:¬LD p q) (h2:p≠q):LD q p:=by
 rcases xC p q with⟨_,g⟩|⟨_,g⟩|⟨_,g⟩
 ·exact absurd g h
 ·exact absurd g h2
 ·exact g
def mW (l:aS):Prop:=l.Pairwise LD
theorem mW.nodup {l:aS} (h:mW l):l.Pairwise (· ≠ ·):=by
 refine List.Pairwise.imp ?_ h;intro a b h e;subst e;exact mC h
def GP (p:List T2):aS->Nat
 | []=>0
 | q::l=>if iZ q p<0 then GP p l+1 else 0
theorem Ng (p:List T2):∀l:aS,GP p l<=l.length
 | []=>Nat.le_refl 0
 | q::l=>by
  unfold GP;split
  ·have:=Ng p l
   rw[List.length_cons];omega
  ·exact Nat.zero_le _
theorem Nh (p:List T2):∀(l:aS) (i:Nat) (q:List T2),i<GP p l->l[i]?=some q->iZ q p<0
 | [],i,q,h,_=>by simp[GP]at h
 | x::l,i,q,h,g=>by
  unfold GP at h;split at h
  ·cases i with
   | zero=>simp at g;subst g;assumption
   | succ i=>exact Nh p l i q (by omega) (by simpa using g)
  ·omega
theorem Ni (p:List T2):∀(l:aS) (q:List T2),l[GP p l]?=some q->¬iZ q p<0
 | [],q,g=>by simp at g
 | x::l,q,g=>by
  unfold GP at g;split at g
  ·exact Ni p l q (by simpa using g)
  ·rename_i h;simp at g;subst g;exact h
def lk (p:List T2) (l:aS):aS:=if l[GP p l]?=some p then l else l.take (GP p l)++p::l.drop (GP p l)
theorem Bm (p q:List T2) (l:aS):lk p (q::l)=if iZ q p<0 then q::lk p l else if q=p then q::l else p::q::l:=by
 unfold lk
 by_cases h:iZ q p<0
 ·have e:GP p (q::l)=GP p l+1:=by show(if iZ q p<0 then _ else _)=_;rw[if_pos h]
  rw[if_pos h,e];simp only[List.getElem?_cons_succ,List.take_succ_cons,List.drop_succ_cons,List.cons_append];split<;>rfl
 ·have e:GP p (q::l)=0:=by show(if iZ q p<0 then _ else _)=_;rw[if_neg h]
  rw[if_neg h,e];simp only[List.getElem?_cons_zero,List.take_zero,List.drop_zero,List.nil_append,Option.some.injEq]
theorem FX (p:List T2):lk p []=[p]:=by simp[lk,GP]
theorem xD {p x:List T2}:∀ {l:aS},x∈lk p l↔x=p∨x∈l
 | []=>by rw[FX];simp
 | q::l=>by
  rw[Bm];split
  ·rw[List.mem_cons,xD,List.mem_cons]
   constructor
   ·rintro(h|h|h)
    ·exact Or.inr (Or.inl h)
    ·exact Or.inl h
    ·exact Or.inr (Or.inr h)
   ·rintro(h|h|h)
    ·exact Or.inr (Or.inl h)
    ·exact Or.inl h
    ·exact Or.inr (Or.inr h)
  ·split
   ·rename_i h
    rw[List.mem_cons];constructor
    ·exact Or.inr
    ·rintro(h2|h2)
     ·exact Or.inl (h2.trans h.symm)
     ·exact h2
   ·rw[List.mem_cons]
theorem FY {p:List T2}:∀ {l:aS},mW l->mW (lk p l)
 | [],_=>by rw[FX];exact List.pairwise_singleton _ _
 | q::l,h=>by
  obtain⟨h1,h2⟩:=List.pairwise_cons.1 h;rw[Bm];split
  ·rename_i hq
   refine List.pairwise_cons.2 ⟨fun x hx=>?_,FY h2⟩;rcases xD.1 hx with rfl|hx
   ·exact DB.1 hq
   ·exact h1 x hx
  ·split
   ·exact h
   ·rename_i hq dh
    have hpq:LD p q:=PN (fun g=>hq (DB.2 g)) dh;refine List.pairwise_cons.2 ⟨fun x hx=>?_,h⟩;rcases List.mem_cons.1 hx with rfl|hx
    ·exact hpq
    ·exact oM hpq (h1 x hx)
theorem Nj (p:List T2) (l:aS):(lk p l).length<=l.length+1:=by
 unfold lk;split
 ·omega
 ·rw[List.length_append,List.length_cons,List.length_take,List.length_drop];omega
def yU (plain:Bool) (out:aS) (x:List T2):aS:=if jP x=[]∨plain=true/\ju (jP x)=0 then out else lk (jP x) out
def iC (plain:Bool) (l:aS):aS:=l.foldl (yU plain) []
theorem Nk (plain:Bool) (l:aS) (x:List T2):iC plain (l ++ [x])=yU plain (iC plain l) x:=by unfold iC;rw[List.foldl_append];rfl
def si (X:Abs.Rows) (I:Int):St:=ae 52 [.c (.t (.aa false X)),.af,vb false,vi .i64 I] [none]
theorem DC (l:List T2) (hl:∀t∈l,t.ok 1000 30000) (hv:Vd l) (hn:l.length<=1000):aH 139 [.val (tl (aP l))] ⟨[.val (tb true)],[none]⟩:=by
 obtain⟨X,hX⟩:=aq (aP l);obtain⟨n,fx⟩:=aq (l.length);have lX:X.length=n:=by rw[hX,pK,fx]
 rw[<-hX];refine an ai mixed [.val] Tryz.func139 rfl rfl (by kernel_rfl) fun zD _ zG _ _ _ _ _ _ _ _ _ zT _ zV zX zY _ _ _ _ zu _ _ _ _ _ _ _ _ _ _ aB _ _ _ _ _ _ _ _ _ _ _ _ _ _ _ _ _ _ A L F hS hF=>?_
 have lE:=hS.fh lX;cbv;refine fX ai mixed hS (n:=n) (fun i (_:Unit)=>si X (Int.ofNat i)) (fun i _=>True) (a0:=()) (fy ?_ ?_) rfl (Nat.le_refl 1) trivial ?_ ?_
 ·simp[dS,si,ae,vi,vb]
 ·simp[dU,si,ae]
 ·rintro i ⟨⟩ hi -
  obtain⟨c1,i1,j1,n0⟩:=hS.ic lX hi (by omega);obtain⟨t,s,v,r,p,ht,gt,hq,hr,_,_,_⟩:=ig (l:=l) (i:=i) (by omega);have j2:aB X i=some (na s r v p t.a t.b):=by rw[hS.nth,hX];exact hr
  have ot:=hl t ht;have cv:=Re (ot.c.mono (by omega));have cs:=ug t.c;have cm:=AU t.a t.b (by have:=ot.a;omega) (by have:=ot.b;omega);rw[hq]at cv cs;obtain⟨C,hC⟩:=aq (bH t.c.num 0);have Tf:C≠0:=by
   have h0:t.c.num≠0:=fun e=>hv.1 t ht (Rat.num_eq_zero.1 e)
   rw[hC];unfold bH
   by_cases h1:t.c.num<0
   ·rw[if_pos h1];omega
   ·rw[if_neg h1,if_pos (by omega)];omega
  rw[<-hC]at cs;have zC:zT C 0=false:=dF (hS.eq ..) Tf;have y:zY true=false:=by rw[hS.not];rfl
  cases i with
  | zero=>
   have z0:zV 0 (Int.ofNat 0)=false:=by rw[hS.lt];rfl
   generalize t.a=a,t.b=b at *;unfold m2 at cm;refine⟨?_⟩;cbv;apply bT c1;simp only[j1,j2];cbv;apply nd n0;refine hS.cl cv ?_;cbv;apply bF y;simp only[j1,j2];cbv;apply nd n0;refine hS.cl cs ?_;cbv;apply bF zC;simp only[j1,j2];cbv;apply nd n0;refine hS.cl cm ?_;cbv;apply bF y;apply bF z0;refine aU [] () ?_ ?_ ?_ ?_ rfl (Nat.le_refl 1) trivial
   ·simp[bd,si,ae,vi,vb,AV.aw,AV.aJ,Cell.aw]
    exact i1
   ·simp[bf,si,ae]
   ·simp[aF,si,ae]
   ·simp
  | succ i=>
   obtain⟨u,s',v',r',p',hu,gu,VX,vx,_,_,_⟩:=ig (l:=l) (i:=i) (by omega);have j4:aB X i=some (na s' r' v' p' u.a u.b):=by rw[hS.nth,hX];exact vx
   have z0:zV 0 (Int.ofNat (i+1))=true:=dT (hS.lt ..) (show(0:Int)<((i+1:Nat):Int) by omega);have w1:zD .i64 (zG (Int.ofNat (i+1)) 1)=(i:Int):=by rw[hS.sub,hS.wrap];exact(wrap_i64 (by show -9223372036854775808<=((i+1:Nat):Int)-1;omega) (by show((i+1:Nat):Int)-1<9223372036854775808;omega)).trans (by show((i+1:Nat):Int)-1=i;omega)
   have j3:zu (i:Int)=i:=by rw[hS.nat];rfl
   have n3:zX 0 (i:Int)=true:=dT (hS.le ..) (show(0:Int)<=(i:Int) by omega);have hc:mU u.a u.b t.a t.b=1:=by
    have hp:=hv.2;rw[List.pairwise_iff_getElem]at hp;have h1:l[i]'(by omega)=u:=by have:=gu;rw[List.getElem?_eq_getElem (by omega)]at this;simpa using this
    have h2:l[i+1]'(by omega)=t:=by have:=gt;rw[List.getElem?_eq_getElem (by omega)]at this;simpa using this
    have:=hp i (i+1) (by omega) (by omega) (by omega);rw[h1,h2]at this;exact this
   have cc:=tS u.a u.b t.a t.b;rw[hc]at cc;have zc:zX 1 0=false:=by rw[hS.le];rfl
   generalize t.a=a,t.b=b,u.a=a',u.b=b' at *;unfold m2 at cm cc;refine⟨?_⟩;cbv;apply bT c1;simp only[j1,j2];cbv;apply nd n0;refine hS.cl cv ?_;cbv;apply bF y;simp only[j1,j2];cbv;apply nd n0;refine hS.cl cs ?_;cbv;apply bF zC;simp only[j1,j2];cbv;apply nd n0;refine hS.cl cm ?_;cbv;apply bF y;apply bT z0;simp only[w1,j3,j4];cbv;apply nd n3;simp only[j1,j2];cbv;apply nd n0
   refine hS.cl cc ?_;cbv;apply bF zc;refine aU [] () ?_ ?_ ?_ ?_ rfl (Nat.le_refl 1) trivial
   ·simp[bd,si,ae,vi,vb,AV.aw,AV.aJ,Cell.aw]
    exact i1
   ·simp[bf,si,ae]
   ·simp[aF,si,ae]
   ·simp
 ·rintro⟨⟩ -
  refine⟨?_⟩;cbv;apply bF lE;exact aC hF
end Go.Proofs.YtekefilngojelaaGreat
end
section
namespace Go.Abs
open Go
variable {P:Program} {C:eA} {n0:Nat} {zD:IntKind->Int->Int} {zE zG zH zI zJ:Int->Int->Int} {zK zM zN zO zR zS:IntKind->Int->Int->Int} {zT zU zV zX:Int->Int->Bool} {zY:Bool->Bool} {zZ zg:Bool->Bool->Bool} {zh zj:Int->Int->Int} {zu:Int->Nat} {zy:Int->Nat->Bool} {zz:Nat->Int} {bg:Nat->Int->Nat} {ay:Nat->Nat->Bool} {aK:Nat->Nat->Nat} {bO:Int->Int->Nat} {bI:Int->Int->Nat->Bool} {aQ:Nat->Nat->Nat->Bool} {aT:Int->Int->Nat->Bool} {ab:Rows->Nat} {aB:Rows->Nat->Option (List Tree)} {bA:Rows->Nat->List Tree->Rows} {aL:IntKind->Rows->Nat->Bool} {ar:Rows->Nat->Int} {aR:IntKind->Rows->Nat->Int->Rows} {a9:Nat->Nat->Rows->Bool} {aD:Rows->Nat->Nat->Rows} {bV bB:Rows->Nat->Rows->Rows} {bR:Nat->List Tree->Rows} {aM:Nat->Rows->Bool} {db:List Bool->Bool} {dc bn:List (Value×Tree)->Value->Bool} {a8:List (Value×Tree)->Value->Tree->List (Value×Tree)} {bY:Rows->Option ByteArray} {aX:List (Value×Tree)->Value->Option (Option Tree)} {zW:IntKind->List Int->Rows} {kW:(α:Type)->(Unit->α)->α} {A:FuncId->Ask->oV->Prop} {L:Code->St->(bq->ST->Prop)->Prop}
theorem Std.cY (h:Std P n0 zD zE zG zH zI zJ zK zM zN zO zR zS zT zU zV zX zY zZ zg zh zj zu zy zz bg ay aK bO bI aQ aT ab aB bA aL ar aR a9 aD bV bB bR aM db dc bn a8 bY aX zW kW A L) {f:FuncId} {s s':St} (hc:ff P f s s'):A f (.h s) (.h s'):=by rw[h.a];exact hc
def LN (_:Nat):Prop:=True
def LN.v {n:Nat} (_:LN n):Nat:=n
end Go.Abs
end
section
namespace Go.Proofs.YtekefilngojelaaGreat
open Go Go.Abs Go.Proofs
def fj (n:Int):List Tree:=[.v (.int .u8 n)]
def uV (len:Nat) (B:Abs.Rows):List (Option aA):=[some (.var [.sl 1 0 len false]),some (.rows 1 B true false)]
def jQ (len:Nat) (B:Abs.Rows):List (Option aA):=[some (.var [.sl 2 0 len false]),none,some (.rows 1 B true false)]
theorem HV (n:Int) (h0:0<=n) (h1:n<128):ff Tryz.prog 164 ⟨[.c (.ptr 0 0 0),vi .u64 n],[some (.var [.t (.aa true [])])]⟩ ⟨[],uV 1 [fj n]⟩:=by
 unfold uV fj;refine tQ ai mixed Tryz.func164 rfl rfl (by kernel_rfl) rfl (by simp) fun zD _ _ _ _ _ _ _ _ _ _ _ _ _ _ zX _ _ _ _ _ _ _ _ _ _ aK _ _ _ _ ab _ _ _ _ _ _ _ _ _ _ aM _ _ _ _ _ _ _ _ A L G hS hG=>?_
 have l1:zX 128 n=false:=dF (hS.le ..) (by omega);have e0:zD .u8 n=n:=by rw[hS.wrap];exact wrap_u8 h0 (by omega)
 have PO:aM 1 []=true:=by rw[hS.wide];rfl
 obtain⟨u0,u1,u2,u3,u4,u5,u6,u7⟩:=hS.vg (row:=[Tree.v (.int .u8 n)]) (w:=1) rfl (r:=[]) (len:=0) (b:=1) rfl (by unfold au;omega);have z0:ab []=0:=by rw[hS.len];rfl
 have u8:aK (ab []) (ab [[Tree.v (.int .u8 n)]])=1:=by rw[z0];exact u6
 rw[<-z0]at u4;cbv;refine bz ai mixed hS (1) ?_;cbv;apply bF l1;simp only[e0,u0];refine nd u1 (nd u2 (nd u3 (nd PO (nd u4 ?_))));refine xl hG [(1,2)] ?_ ?_ ?_ ?_
 ·simp[bd]
 ·simp[bf,Abs.look,ak,aA.aw,Cell.aw,u8,u7]
 ·simp[aF,ak]
 ·simp
theorem Nl (n:Int) (h0:0<=n) (h1:n<128) (len:Nat) (B:Abs.Rows) (hB:len=B.length) (hl:len<=1000000):ff Tryz.prog 164 ⟨[.c (.ptr 0 0 0),vi .u64 n],uV len B⟩ ⟨[],jQ (len+1) (B ++ [fj n])⟩:=by
 unfold uV jQ fj;refine tQ ai mixed Tryz.func164 rfl rfl (by kernel_rfl) rfl (by simp) fun zD _ _ _ _ _ _ _ _ _ _ _ _ _ _ zX _ _ _ _ _ _ _ _ _ _ _ _ _ _ _ _ _ _ _ _ _ _ _ _ _ _ _ _ _ _ _ _ _ _ _ A L G hS hG=>?_
 have l1:zX 128 n=false:=dF (hS.le ..) (by omega);have e0:zD .u8 n=n:=by rw[hS.wrap];exact wrap_u8 h0 (by omega)
 obtain⟨u0,u1,u2,u3,u4,u5,u6,u7⟩:=hS.vg (row:=[Tree.v (.int .u8 n)]) (w:=1) rfl (r:=B) (len:=len) (b:=1) hB (by unfold au;omega);cbv;refine bz ai mixed hS (1) ?_;cbv;apply bF l1;simp only[e0,u0];refine nd u1 (nd u2 (nd u3 (nd u4 (nd u5 ?_))));refine xl hG [(2,3)] ?_ ?_ ?_ ?_
 ·simp[bd]
 ·simp[bf,Abs.look,ak,aA.aw,Cell.aw,u6,u7]
 ·simp[aF,ak]
 ·simp
theorem HW:ff Tryz.prog 146 ⟨[.c (.ptr 0 0 0),vi .i64 0],[some (.var [.t (.aa true [])])]⟩ ⟨[],uV 1 [fj 0]⟩:=by
 have c:=HV 0 (by omega) (by omega);unfold uV fj at c ⊢;refine tR ai mixed Tryz.func146 rfl rfl (by kernel_rfl) rfl (by simp) fun zD _ _ zH _ _ _ _ _ _ _ _ _ _ _ _ _ _ _ _ _ _ _ _ _ _ _ _ _ _ _ _ _ _ _ _ _ _ _ _ _ _ _ _ _ _ _ _ _ _ _ A L G hS hG=>?_
 have e:aE zD .u64 (nM zH 2 (aE zD .u64 0))=0:=by rw[hS.wrap,hS.mul,hS.wrap];rfl
 cbv;repeat (first|apply bT rfl|apply bF rfl|apply nd rfl)
 refine⟨_,hS.cY c,?_⟩;cbv;refine xl hG [] ?_ ?_ ?_ ?_
 ·simp[bd]
 ·simp[bf,Abs.look,ak,aA.aw,Cell.aw]
 ·simp[aF,ak]
 ·simp
def wI (s:Bool) (w:Int):Abs.Rows:=[fj (if s then 3 else 2),fj 0,fj 0,fj 0,fj w]
theorem Bn (s:Bool) (w:Int) (h0:0<=w) (h1:w<256) (len:Nat) (B:Abs.Rows) (hB:len=B.length) (hl:len<=1000000) :
  ff Tryz.prog 179 ⟨[.c (.ptr 0 0 0),.agg [.t (.v (.bool s)),.t (.aa false [[.v (.int .u32 w)]])]],uV len B⟩ ⟨[],jQ (len+5) (B++wI s w)⟩:=by
 have c:=Nl (if s then 3 else 2) (by split<;>omega) (by split<;>omega) len B hB hl;unfold wI;obtain⟨lr,Ti⟩:=aq ([[.v (.int .u32 w)]]:Abs.Rows);rw[<-Ti];obtain⟨new,jO⟩:=aq ([fj 0,fj 0,fj 0,fj w]:Abs.Rows);have key:∀k:Int,ff Tryz.prog 164 ⟨[.c (.ptr 0 0 0),vi .u64 k],uV len B⟩ ⟨[],jQ (len+1) (B ++ [fj k])⟩->∃B1,B1=B ++ [fj k]/\B1.length=len+1/\B++fj k::new=B1++new/\ff Tryz.prog 164 ⟨[.c (.ptr 0 0 0),vi .u64 k],uV len B⟩ ⟨[],jQ (len+1) B1⟩:=fun k h=>⟨_,rfl,by rw[hB];simp,by simp,h⟩
 cases s
 ·obtain⟨B1,fQ,GQ,hE,c⟩:=key _ c
  rw[<-jO,show(if false=true then(3:Int) else 2)=2 from rfl];rw[show(if false=true then(3:Int) else 2)=2 from rfl]at hE c fQ;rw[hE];clear hE fQ key;unfold uV jQ fj at *;refine tR ai mixed Tryz.func179 rfl rfl (by kernel_rfl) rfl (by simp) fun zD _ _ _ _ _ _ zM _ _ _ _ _ _ zV _ _ _ _ _ _ _ _ zz _ _ _ _ _ _ _ ab _ _ aL ar _ _ _ _ _ _ _ _ _ _ _ _ _ _ _ A L G hS hG=>?_
  have n1:zz (ab lr)=1:=by rw[hS.az,hS.len,Ti];rfl
  have g1:ar lr 0=w:=by rw[hS.dK,Ti];rfl
  have g2:aL .u32 lr 0=true:=by rw[hS.gM,Ti];rfl
  have s1:aE zD .u8 (zM .u32 w 24)=0:=by rw[hS.wrap,hS.shr,show(2:Int)^(Min.min (24:Int).toNat IntKind.u32.bits)=16777216 from rfl,show w.fdiv 16777216=0 by rw[Int.fdiv_eq_ediv_of_nonneg _ (by omega)];omega];rfl
  have s2:aE zD .u8 (zM .u32 w 16)=0:=by rw[hS.wrap,hS.shr,show(2:Int)^(Min.min (16:Int).toNat IntKind.u32.bits)=65536 from rfl,show w.fdiv 65536=0 by rw[Int.fdiv_eq_ediv_of_nonneg _ (by omega)];omega];rfl
  have s3:aE zD .u8 (zM .u32 w 8)=0:=by rw[hS.wrap,hS.shr,show(2:Int)^(Min.min (8:Int).toNat IntKind.u32.bits)=256 from rfl,show w.fdiv 256=0 by rw[Int.fdiv_eq_ediv_of_nonneg _ (by omega)];omega];rfl
  have s4:aE zD .u8 w=w:=by rw[hS.wrap];exact wrap_u8 h0 (by omega)
  have UU:=hS.Po (new:=new) (m:=4) (w:=1) (by rw[jO];rfl) (by omega) (by rw[jO];rfl) (r:=B1) (len:=len+1) (b:=1) GQ.symm (by unfold au;omega);have u0:=UU.1;have u1:=UU.2.1;have u2:=UU.2.2.1;have u3:=UU.2.2.2.1;have u4:=UU.2.2.2.2.1;have u5:=UU.2.2.2.2.2.1;have u6:=UU.2.2.2.2.2.2.1;have u7:=UU.2.2.2.2.2.2.2;clear UU;have l2:me zV 1 1=false:=rfl;cbv at s1 s2 s3 s4;cbv;repeat (first|apply bT rfl|apply bF rfl|apply nd rfl)
  simp only[n1];cbv;refine⟨_,hS.cY c,?_⟩;cbv;refine bz ai mixed hS (2) ?_;cbv;simp only[n1,g1,s1,s2,s3,s4,<-jO,u0];cbv;repeat (first|apply bT rfl|apply bF rfl|apply nd rfl)
  refine nd g2 (nd u1 (nd u2 (nd u3 (nd u4 (nd u5 ?_)))));repeat (first|apply bT rfl|apply bF rfl|apply nd rfl)
  refine xl hG [(2,8)] ?_ ?_ ?_ ?_
  ·simp[bd]
  ·simp[bf,Abs.look,ak,aA.aw,Cell.aw,u6,u7]
  ·simp[aF,ak]
  ·simp
 ·obtain⟨B1,fQ,GQ,hE,c⟩:=key _ c
  rw[<-jO,show(if true=true then(3:Int) else 2)=3 from rfl];rw[show(if true=true then(3:Int) else 2)=3 from rfl]at hE c fQ;rw[hE];clear hE fQ key;unfold uV jQ fj at *;refine tR ai mixed Tryz.func179 rfl rfl (by kernel_rfl) rfl (by simp) fun zD _ _ _ _ _ _ zM _ _ _ _ _ _ zV _ _ _ _ _ _ _ _ zz _ _ _ _ _ _ _ ab _ _ aL ar _ _ _ _ _ _ _ _ _ _ _ _ _ _ _ A L G hS hG=>?_
  have n1:zz (ab lr)=1:=by rw[hS.az,hS.len,Ti];rfl
  have g1:ar lr 0=w:=by rw[hS.dK,Ti];rfl
  have g2:aL .u32 lr 0=true:=by rw[hS.gM,Ti];rfl
  have s1:aE zD .u8 (zM .u32 w 24)=0:=by rw[hS.wrap,hS.shr,show(2:Int)^(Min.min (24:Int).toNat IntKind.u32.bits)=16777216 from rfl,show w.fdiv 16777216=0 by rw[Int.fdiv_eq_ediv_of_nonneg _ (by omega)];omega];rfl
  have s2:aE zD .u8 (zM .u32 w 16)=0:=by rw[hS.wrap,hS.shr,show(2:Int)^(Min.min (16:Int).toNat IntKind.u32.bits)=65536 from rfl,show w.fdiv 65536=0 by rw[Int.fdiv_eq_ediv_of_nonneg _ (by omega)];omega];rfl
  have s3:aE zD .u8 (zM .u32 w 8)=0:=by rw[hS.wrap,hS.shr,show(2:Int)^(Min.min (8:Int).toNat IntKind.u32.bits)=256 from rfl,show w.fdiv 256=0 by rw[Int.fdiv_eq_ediv_of_nonneg _ (by omega)];omega];rfl
  have s4:aE zD .u8 w=w:=by rw[hS.wrap];exact wrap_u8 h0 (by omega)
  have UU:=hS.Po (new:=new) (m:=4) (w:=1) (by rw[jO];rfl) (by omega) (by rw[jO];rfl) (r:=B1) (len:=len+1) (b:=1) GQ.symm (by unfold au;omega);have u0:=UU.1;have u1:=UU.2.1;have u2:=UU.2.2.1;have u3:=UU.2.2.2.1;have u4:=UU.2.2.2.2.1;have u5:=UU.2.2.2.2.2.1;have u6:=UU.2.2.2.2.2.2.1;have u7:=UU.2.2.2.2.2.2.2;clear UU;have l2:me zV 1 1=false:=rfl;cbv at s1 s2 s3 s4;cbv;repeat (first|apply bT rfl|apply bF rfl|apply nd rfl)
  simp only[n1];cbv;refine⟨_,hS.cY c,?_⟩;cbv;refine bz ai mixed hS (2) ?_;cbv;simp only[n1,g1,s1,s2,s3,s4,<-jO,u0];cbv;repeat (first|apply bT rfl|apply bF rfl|apply nd rfl)
  refine nd g2 (nd u1 (nd u2 (nd u3 (nd u4 (nd u5 ?_)))));repeat (first|apply bT rfl|apply bF rfl|apply nd rfl)
  refine xl hG [(2,8)] ?_ ?_ ?_ ?_
  ·simp[bd]
  ·simp[bf,Abs.look,ak,aA.aw,Cell.aw,u6,u7]
  ·simp[aF,ak]
  ·simp
open Go Go.Abs Go.Abs.M Go.Proofs
def wQ (s:Bool) (w:Int):Abs.Rows:=wI s w++wI false 1
theorem KE (s:Bool) (w:Int) (h0:0<=w) (h1:w<256) (len:Nat) (B:Abs.Rows) (hB:len=B.length) (hl:len<=900000) :
  ff Tryz.prog 175 ⟨[.c (.ptr 0 0 0),.agg [.t (.v (.bool s)),.t (.aa false [[.v (.int .u32 w)]]),.t (.v (.bool false)),.t (.aa false [[.v (.int .u32 1)]])]],uV len B⟩ ⟨[],jQ (len+10) (B++wQ s w)⟩:=by
 have c1:=Bn s w h0 h1 len B hB (by omega);obtain⟨B1,fQ⟩:=aq (B++wI s w);rw[<-fQ]at c1;have GQ:B1.length=len+5:=by rw[fQ,hB];simp[wI]
 have c2:=Bn false 1 (by omega) (by omega) (len+5) B1 GQ.symm (by omega);unfold wQ;rw[show B++(wI s w++wI false 1)=B1++wI false 1 by rw[fQ];simp];obtain⟨B2,dW⟩:=aq (B1++wI false 1);rw[<-dW]at c2 ⊢;rw[show len+5+5=len+10 from rfl]at c2;generalize len+5=l1,len+10=l2 at *;unfold uV jQ at *;refine tR ai mixed Tryz.func175 rfl rfl (by kernel_rfl) rfl (by simp) ?_;intros;rename_i A L G hS hG
 cbv;repeat (first|apply bT rfl|apply bF rfl|apply nd rfl)
 refine⟨_,hS.cY c1,?_⟩;cbv;repeat (first|apply bT rfl|apply bF rfl|apply nd rfl)
 refine⟨_,hS.cY c2,?_⟩;cbv;repeat (first|apply bT rfl|apply bF rfl|apply nd rfl)
 refine xl hG [(2,7)] ?_ ?_ ?_ ?_
 ·simp[bd]
 ·simp[bf,Abs.look,ak,aA.aw,Cell.aw]
 ·simp[aF,ak]
 ·simp
def wT (s:Bool) (w a b:Int):Abs.Rows:=wQ s w ++ [fj a,fj b,fj 0,fj 0,fj 0,fj 0,fj 0,fj 0]
theorem HX (s:Bool) (w a b:Int) (h0:0<=w) (h1:w<256) (ha:0<=a/\a<128) (hb:0<=b/\b<128) (len:Nat) (B:Abs.Rows) (hB:len=B.length) (hl:len<=800000) :
  ff Tryz.prog 166 ⟨[.c (.ptr 0 0 0),.agg ((na s [[.v (.int .u32 w)]] false [[.v (.int .u32 1)]] a b).map .t)],uV len B⟩ ⟨[],jQ (len+18) (B++wT s w a b)⟩:=by
 have c1:=KE s w h0 h1 len B hB (by omega);obtain⟨B1,fQ⟩:=aq (B++wQ s w);have GQ:B1.length=len+10:=by rw[fQ,hB];simp[wQ,wI]
 rw[<-fQ]at c1;have c2:=Nl a ha.1 ha.2 (len+10) B1 GQ.symm (by omega);obtain⟨B2,dW⟩:=aq (B1 ++ [fj a]);have Bo:B2.length=len+10+1:=by rw[dW];simp[GQ]
 rw[<-dW]at c2;have c3:=Nl b hb.1 hb.2 (len+11) B2 Bo.symm (by omega);obtain⟨B3,sn⟩:=aq (B2 ++ [fj b]);have lB3:B3.length=len+11+1:=by rw[sn];simp[Bo]
 rw[<-sn]at c3;have c4:=Nl 0 (by omega) (by omega) (len+12) B3 lB3.symm (by omega);obtain⟨B4,yk⟩:=aq (B3 ++ [fj 0]);have lB4:B4.length=len+12+1:=by rw[yk];simp[lB3]
 rw[<-yk]at c4;have c5:=Nl 0 (by omega) (by omega) (len+13) B4 lB4.symm (by omega);obtain⟨B5,yl⟩:=aq (B4 ++ [fj 0]);have lB5:B5.length=len+13+1:=by rw[yl];simp[lB4]
 rw[<-yl]at c5;have c6:=Nl 0 (by omega) (by omega) (len+14) B5 lB5.symm (by omega);obtain⟨B6,ym⟩:=aq (B5 ++ [fj 0]);have lB6:B6.length=len+14+1:=by rw[ym];simp[lB5]
 rw[<-ym]at c6;have c7:=Nl 0 (by omega) (by omega) (len+15) B6 lB6.symm (by omega);obtain⟨B7,yn⟩:=aq (B6 ++ [fj 0]);have lB7:B7.length=len+15+1:=by rw[yn];simp[lB6]
 rw[<-yn]at c7;have c8:=Nl 0 (by omega) (by omega) (len+16) B7 lB7.symm (by omega);obtain⟨B8,yo⟩:=aq (B7 ++ [fj 0]);have lB8:B8.length=len+16+1:=by rw[yo];simp[lB7]
 rw[<-yo]at c8;have c9:=Nl 0 (by omega) (by omega) (len+17) B8 lB8.symm (by omega);obtain⟨B9,DD⟩:=aq (B8 ++ [fj 0]);have lB9:B9.length=len+17+1:=by rw[DD];simp[lB8]
 rw[<-DD]at c9;have hE:B++wT s w a b=B9:=by rw[DD,yo,yn,ym,yl,yk,sn,dW,fQ];simp[wT]
 rw[hE];clear hE DD yo yn ym yl yk sn dW fQ GQ Bo lB3 lB4 lB5 lB6 lB7 lB8 lB9;rw[show len+10+1=len+11 from rfl]at c2;rw[show len+11+1=len+12 from rfl]at c3;rw[show len+12+1=len+13 from rfl]at c4;rw[show len+13+1=len+14 from rfl]at c5;rw[show len+14+1=len+15 from rfl]at c6;rw[show len+15+1=len+16 from rfl]at c7;rw[show len+16+1=len+17 from rfl]at c8;rw[show len+17+1=len+18 from rfl]at c9
 generalize len+10=l0,len+11=l1,len+12=l2,len+13=l3,len+14=l4,len+15=l5,len+16=l6,len+17=l7,len+18=l8 at *;unfold uV jQ na at *;simp only[List.map_cons,List.map_nil];refine tR ai mixed Tryz.func166 rfl rfl (by kernel_rfl) rfl (by simp) fun zD _ _ _ _ _ _ _ _ _ _ _ _ _ _ _ _ _ _ _ _ _ _ _ _ _ _ _ _ _ _ _ _ _ _ _ _ _ _ _ _ _ _ _ _ _ _ _ _ _ _ A L G hS hG=>?_
 have sa:aE zD .u64 a=a:=by rw[hS.wrap];exact eS ha.1 (by omega)
 have sb:aE zD .u64 b=b:=by rw[hS.wrap];exact eS hb.1 (by omega)
 cbv at sa sb;cbv;repeat (first|apply bT rfl|apply bF rfl|apply nd rfl)
 refine⟨_,hS.cY c1,?_⟩;cbv;repeat (first|apply bT rfl|apply bF rfl|apply nd rfl)
 refine bz ai mixed hS (9) ?_;cbv;repeat (first|apply bT rfl|apply bF rfl|apply nd rfl)
 simp only[sa];refine⟨_,hS.cY c2,?_⟩;cbv;repeat (first|apply bT rfl|apply bF rfl|apply nd rfl)
 simp only[sb];refine⟨_,hS.cY c3,?_⟩;cbv;repeat (first|apply bT rfl|apply bF rfl|apply nd rfl)
 refine⟨_,hS.cY c4,?_⟩;cbv;repeat (first|apply bT rfl|apply bF rfl|apply nd rfl)
 refine⟨_,hS.cY c5,?_⟩;cbv;repeat (first|apply bT rfl|apply bF rfl|apply nd rfl)
 refine⟨_,hS.cY c6,?_⟩;cbv;repeat (first|apply bT rfl|apply bF rfl|apply nd rfl)
 refine⟨_,hS.cY c7,?_⟩;cbv;repeat (first|apply bT rfl|apply bF rfl|apply nd rfl)
 refine⟨_,hS.cY c8,?_⟩;cbv;repeat (first|apply bT rfl|apply bF rfl|apply nd rfl)
 refine⟨_,hS.cY c9,?_⟩;cbv;repeat (first|apply bT rfl|apply bF rfl|apply nd rfl)
 refine xl hG [(2,35)] ?_ ?_ ?_ ?_
 ·simp[bd]
 ·simp[bf,Abs.look,ak,aA.aw,Cell.aw]
 ·simp[aF,ak]
 ·simp
structure T2.int (t:T2):Prop where
 d:t.c.den=1
 n:t.c.num≠0/\t.c.num.natAbs<=100
 a:0<=t.a/\t.a<128
 b:0<=t.b/\t.b<128
def tB (t:T2):Abs.Rows:=wT (decide (t.c.num<0)) (t.c.num.natAbs:Int) t.a t.b
def pB (p:List T2):Abs.Rows:=fj (p.length:Int)::p.flatMap tB
theorem xE {n:Nat} (h0:n≠0) (h:n<4294967296):dg n=[(n:Int)]:=by
 unfold dg;rw[HB n (1+n) n (Nat.le_refl _) (by omega),Nat.add_comm];unfold On;rw[if_neg h0,Nat.mod_eq_of_lt h,Nat.div_eq_of_lt h];cases n<;>simp[On]
theorem Tj {t:T2} (h:t.int):t.row=na (decide (t.c.num<0)) [[.v (.int .u32 (t.c.num.natAbs:Int))]] false [[.v (.int .u32 1)]] t.a t.b:=by
 unfold T2.row;have e:(qc t.c).row=[.v (.bool (decide (t.c.num<0))),.aa false (W .u32 (dg t.c.num.natAbs)),.v (.bool (decide ((t.c.den:Int)<0))),.aa false (W .u32 (dg (t.c.den:Int).natAbs))]:=rfl;rw[e,h.d,xE (by have:=h.n.1;omega) (by have:=h.n.2;omega),show((1:Nat):Int).natAbs=1 from rfl,xE (by omega) (by omega)];rfl
def KF (X:Abs.Rows) (N:Int) (len:Nat) (B:Abs.Rows) (I:Int):St:=ae 23 [.c (.ptr 0 0 0),.af,.c (.dA 1000000000166 [(0,0,0)]),.af,.af,.af,.af,.af,.af,.af,.af,.af,.af,.c (.t (.aa false X)),vi .i64 N,vi .i64 I] [some (.var [.sl 2 0 len false]),none,some (.rows 1 B true false)]
theorem HY (p:List T2) (hp:∀t∈p,t.int) (hn:p.length<100) (len:Nat) (B:Abs.Rows) (hB:len=B.length) (hl:len<=100000) :
  ff Tryz.prog 165 ⟨[.c (.ptr 0 0 0),.c (.t (.aa false (aP p))),.c (.dA 1000000000166 [(0,0,0)])],uV len B⟩ ⟨[],jQ (len+1+18*p.length) (B++pB p)⟩:=by
 have c1:=Nl (p.length:Int) (by omega) (by omega) len B hB (by omega);obtain⟨X,hX⟩:=aq (aP p);obtain⟨n,fx⟩:=aq (p.length);have lX:X.length=n:=by rw[hX,pK,fx]
 obtain⟨N,hN⟩:=aq (p.length:Int);obtain⟨B1,fQ⟩:=aq (B ++ [fj N]);rw[<-hN,<-fQ]at c1;rw[<-hX,<-fx];unfold uV jQ at *;refine tQ ai mixed Tryz.func165 rfl rfl (by kernel_rfl) rfl (by simp) fun zD zE _ _ _ _ _ _ _ _ _ _ _ _ zV zX _ _ _ _ _ zu _ zz _ _ _ _ _ _ _ ab aB _ _ _ _ _ _ _ _ _ _ _ _ _ _ _ _ _ _ A L G hS hG=>?_
 have e2:zz (ab X)=N:=by rw[hS.az,hS.len,lX,hN,fx]
 have e1:zD .u64 (zz (ab X))=N:=by rw[hS.wrap,hS.az,hS.len,lX,hN,fx];exact eS (by omega) (by omega)
 cbv;simp only[e1];refine⟨_,hS.cY c1,?_⟩;cbv;simp only[e2];have GQ:B1.length=len+1:=by rw[fQ,hB];simp
 have hW:∀t:T2,(tB t).length=18:=fun t=>by simp[tB,wT,wQ,wI]
 have hlen:∀q:List T2,(q.flatMap tB).length=18*q.length:=fun q=>by
  induction q with
  | nil=>rfl
  | cons t q ih=>rw[List.flatMap_cons,List.length_append,ih,hW,List.length_cons];omega
 refine mV ai mixed hS (n:=n) (fun i (z:Nat×Abs.Rows)=>KF X N z.1 z.2 (Int.ofNat i)) (fun i z=>z.1=len+1+18*i/\z.2=B1++(p.take i).flatMap tB) (a0:=(len+1,B1)) (fy ?_ ?_) rfl (Nat.le_succ 2) ⟨rfl,by simp⟩ ?_ ?_
 ·simp[dS,KF,ae,vi,vb]
 ·simp[dU,KF,ae]
 ·rintro i ⟨l2,B2⟩ hi ⟨fM,dW⟩
  simp only at fM dW;obtain⟨t,s,v,r,q,ht,gt,_,hr,wt,fc,_⟩:=ig (l:=p) (i:=i) (by omega);have ot:=hp t ht;have dk:=Tj ot;have Bo:l2=B2.length:=by rw[dW,List.length_append,hlen,GQ,List.length_take,fM];omega
  have c2:=HX (decide (t.c.num<0)) (t.c.num.natAbs:Int) t.a t.b (by omega) (by have:=ot.n.2;omega) ot.a ot.b l2 B2 Bo (by omega);have hR:l2+18=len+1+18*(i+1)/\B2++tB t=B1++(p.take (i+1)).flatMap tB:=⟨by omega,by rw[fc,dW,List.flatMap_append];simp⟩;have l1:zV (Int.ofNat i) N=true:=by rw[hS.lt,hN];exact decide_eq_true (show(i:Int)<(p.length:Int) by omega)
  have i1:zD .i64 (zE (i:Int) 1)=(i:Int)+1:=by rw[hS.add,hS.wrap];exact wrap_i64 (by omega) (by omega)
  have j1:zu (Int.ofNat i)=i:=by rw[hS.nat];rfl
  have n0:zX 0 (Int.ofNat i)=true:=dT (hS.le ..) (show(0:Int)<=(i:Int) by omega);have j2:aB X i=some (na (decide (t.c.num<0)) [[.v (.int .u32 (t.c.num.natAbs:Int))]] false [[.v (.int .u32 1)]] t.a t.b):=by rw[hS.nth,hX,hr,<-wt,dk]
  obtain⟨B3,sn⟩:=aq (B2++tB t);obtain⟨l3,Ou⟩:=aq (l2+18);have c3:ff Tryz.prog 166 ⟨[.c (.ptr 0 0 0),.agg ((na (decide (t.c.num<0)) [[.v (.int .u32 (t.c.num.natAbs:Int))]] false [[.v (.int .u32 1)]] t.a t.b).map .t)],uV l2 B2⟩ ⟨[],jQ l3 B3⟩:=by rw[Ou,sn];exact c2
  rw[<-sn,<-Ou]at hR;generalize decide (t.c.num<0)=sg at *;generalize (t.c.num.natAbs:Int)=w at *;generalize t.a=a,t.b=b at *;unfold uV jQ na at c3;simp only[List.map_cons,List.map_nil]at c3;clear c2 dk ot Bo dW fM hr wt fc;cbv;apply bT l1;rw[j1,j2];cbv;apply nd n0;refine⟨_,hS.cY c3,?_⟩;cbv;refine aU [(2,4)] (l3,B3) ?_ ?_ ?_ ?_ rfl (Nat.le_succ 2) hR
  ·simp[bd,KF,ae,vi,AV.aw,AV.aJ,Cell.aw,ak,i1]
  ·simp[bf,KF,ae,Abs.look,ak,aA.aw,Cell.aw]
  ·simp[aF,KF,ae,ak]
  ·simp
 ·rintro⟨l2,B2⟩ ⟨fM,dW⟩
  simp only at fM dW;have lE:zV (Int.ofNat n) N=false:=by rw[hS.lt,hN];exact decide_eq_false (show ¬(n:Int)<(p.length:Int) by omega)
  have hBE:B2=B++pB p:=by rw[dW,fQ,List.take_of_length_le (by omega),hN];simp[pB]
  rw[<-hBE,<-fM]at hG;cbv;apply bF lE;refine xl hG [] ?_ ?_ ?_ ?_
  ·simp[bd]
  ·simp[bf,Abs.look,ak,aA.aw,Cell.aw]
  ·simp[aF,ak]
  ·simp
theorem HZ (p:List T2) (hp:∀t∈p,t.int) (hn:p.length<100) (len:Nat) (B:Abs.Rows) (hB:len=B.length) (hl:len<=100000) :
  ff Tryz.prog 147 ⟨[.c (.ptr 0 0 0),.c (.t (.aa false (aP p)))],uV len B⟩ ⟨[],jQ (len+1+18*p.length) (B++pB p)⟩:=by
 have c:=HY p hp hn len B hB hl;generalize len+1+18*p.length=l2,aP p=X at *;obtain⟨B2,dW⟩:=aq (B++pB p);rw[<-dW]at c ⊢;unfold uV jQ at *;refine tQ ai mixed Tryz.func147 rfl rfl (by kernel_rfl) rfl (by simp) ?_;intros;rename_i A L G hS hG;cbv;refine⟨_,hS.cY c,?_⟩;cbv;refine xl hG [] ?_ ?_ ?_ ?_
 ·simp[bd]
 ·simp[bf,Abs.look,ak,aA.aw,Cell.aw]
 ·simp[aF,ak]
 ·simp
theorem FZ (len:Nat) (B:Abs.Rows) (hB:len=B.length) (hl:len<=100000) :
  ff Tryz.prog 167 ⟨[.c (.ptr 0 0 0),.c (.t (.aa true [])),.c (.dA 1000000000168 [(0,0,0)])],uV len B⟩ ⟨[],jQ (len+1) (B ++ [fj 0])⟩:=by
 have c:=Nl 0 (by omega) (by omega) len B hB (by omega);obtain⟨B2,dW⟩:=aq (B ++ [fj 0]);rw[<-dW]at c ⊢;unfold uV jQ at *;refine tR ai mixed Tryz.func167 rfl rfl (by kernel_rfl) rfl (by simp) ?_;intros;rename_i zz _ _ _ _ _ _ _ ab _ _ _ _ _ _ _ _ _ _ _ _ _ _ _ _ _ _ _ A L G hS hG;have e2:zz (ab [])=0:=by rw[hS.az,hS.len];rfl
 cbv;simp only[e2];cbv;refine⟨_,hS.cY c,?_⟩;cbv;refine bz ai mixed hS (1) ?_;simp only[e2];cbv;repeat (first|apply bT rfl|apply bF rfl|apply nd rfl)
 refine xl hG [] ?_ ?_ ?_ ?_
 ·simp[bd]
 ·simp[bf,Abs.look,ak,aA.aw,Cell.aw]
 ·simp[aF,ak]
 ·simp
theorem H0 (len:Nat) (B:Abs.Rows) (hB:len=B.length) (hl:len<=100000) :
  ff Tryz.prog 148 ⟨[.c (.ptr 0 0 0),.c (.t (.aa true []))],uV len B⟩ ⟨[],jQ (len+1) (B ++ [fj 0])⟩:=by
 have c:=FZ len B hB hl;obtain⟨B2,dW⟩:=aq (B ++ [fj 0]);rw[<-dW]at c ⊢;unfold uV jQ at *;refine tQ ai mixed Tryz.func148 rfl rfl (by kernel_rfl) rfl (by simp) ?_;intros;rename_i A L G hS hG;cbv;refine⟨_,hS.cY c,?_⟩;cbv;refine xl hG [] ?_ ?_ ?_ ?_
 ·simp[bd]
 ·simp[bf,Abs.look,ak,aA.aw,Cell.aw]
 ·simp[aF,ak]
 ·simp
def kB (p:List T2):Abs.Rows:=fj 0::(pB p ++ [fj 0])
def kS (p:List T2):ByteArray:=(ZI.cJ.str (kB p)).getD ⟨#[]⟩
theorem Tk (p:List T2):(pB p).length=1+18*p.length:=by
 unfold pB;have hW:∀t:T2,(tB t).length=18:=fun t=>by simp[tB,wT,wQ,wI]
 have hlen:∀q:List T2,(q.flatMap tB).length=18*q.length:=fun q=>by
  induction q with
  | nil=>rfl
  | cons t q ih=>rw[List.flatMap_cons,List.length_append,ih,hW,List.length_cons];omega
 rw[List.length_cons,hlen];omega
def PQ (r:List Tree):Prop:=∃n:Int,0<=n/\n<256/\r=fj n
theorem H2 {p:List T2} (hp:∀t∈p,t.int) (hn:p.length<100):∀r∈kB p,PQ r:=by
 have h0:PQ (fj 0):=⟨0,by omega,by omega,rfl⟩;have hI:∀(s:Bool) (w:Int),0<=w->w<256->∀r∈wI s w,PQ r:=fun s w h1 h2 r hr=>by
  simp only[wI,List.mem_cons,List.not_mem_nil,or_false]at hr;rcases hr with rfl|rfl|rfl|rfl|rfl
  ·exact⟨_,by split<;>omega,by split<;>omega,rfl⟩
  ·exact h0
  ·exact h0
  ·exact h0
  ·exact⟨w,h1,h2,rfl⟩
 intro r hr;simp only[kB,pB,List.mem_cons,List.mem_append,List.not_mem_nil,or_false,List.mem_flatMap]at hr;rcases hr with rfl|(rfl|⟨t,ht,hr⟩)|rfl
 ·exact h0
 ·exact⟨_,by omega,by omega,rfl⟩
 ·have ot:=hp t ht
  simp only[tB,wT,wQ,List.mem_append,List.mem_cons,List.not_mem_nil,or_false]at hr;rcases hr with(hr|hr)|hr
  ·exact hI _ _ (by omega) (by have:=ot.n.2;omega) r hr
  ·exact hI _ _ (by omega) (by omega) r hr
  ·rcases hr with rfl|rfl|rfl|rfl|rfl|rfl|rfl|rfl
   ·exact⟨_,ot.a.1,by have:=ot.a.2;omega,rfl⟩
   ·exact⟨_,ot.b.1,by have:=ot.b.2;omega,rfl⟩
   all_goals exact h0
 ·exact h0
theorem nZ:∀ {R:Abs.Rows},(∀r∈R,PQ r)->∃l:List UInt8,ez R=some l/\R=l.map fun b=>fj (b.toNat:Int)
 | [],_=>⟨[],rfl,rfl⟩
 | r::R,h=>by
  obtain⟨l,h1,h2⟩:=nZ fun x hx=>h x (List.mem_cons_of_mem _ hx)
  obtain⟨n,n0,n1,rfl⟩:=h r List.mem_cons_self;refine⟨UInt8.ofNat n.toNat::l,?_,?_⟩
  ·show(ez R).map _=_
   rw[h1];rfl
  ·rw[List.map_cons,<-h2]
   congr 2;have:(UInt8.ofNat n.toNat).toNat=n.toNat:=by rw[UInt8.toNat_ofNat'];omega
   rw[this];omega
theorem Tl {p:List T2} (hp:∀t∈p,t.int) (hn:p.length<100):ZI.cJ.str (kB p)=some (kS p):=by
 obtain⟨l,h1,h2⟩:=nZ (H2 hp hn);have:ZI.cJ.str (kB p)=some ⟨l.toArray⟩:=by show(ez (kB p)).map _=_;rw[h1];rfl
 unfold kS;rw[this];rfl
theorem Nn {p q:List T2} (hp:∀t∈p,t.int) (hn:p.length<100) (hq:∀t∈q,t.int) (hm:q.length<100) (h:kS p=kS q):p=q:=by
 obtain⟨l,h1,h2⟩:=nZ (H2 hp hn);obtain⟨m,g1,g2⟩:=nZ (H2 hq hm);have e1:kS p=⟨l.toArray⟩:=by unfold kS;rw[show ZI.cJ.str (kB p)=some ⟨l.toArray⟩ by show(ez (kB p)).map _=_;rw[h1];rfl];rfl
 have e2:kS q=⟨m.toArray⟩:=by unfold kS;rw[show ZI.cJ.str (kB q)=some ⟨m.toArray⟩ by show(ez (kB q)).map _=_;rw[g1];rfl];rfl
 rw[e1,e2]at h;have h3:l=m:=by
  have:=congrArg (fun z:ByteArray=>z.data.toList) h;simpa using this
 have hk:kB p=kB q:=by rw[h2,g2,h3]
 have Np:∀ {a b:Int},fj a=fj b->a=b:=fun h=>by simpa[fj]using h
 have hW:∀t:T2,(tB t).length=18:=fun t=>by simp[tB,wT,wQ,wI]
 have ht:∀t u:T2,t.int->u.int->tB t=tB u->t=u:=fun t u it iu h=>by
  simp only[tB,wT,wQ,wI,List.cons_append,List.nil_append,List.cons.injEq]at h;obtain⟨a1,_,_,_,a2,_,_,_,_,_,a3,a4,_⟩:=h;have a1:=Np a1;have a2:=Np a2;have hs:decide (t.c.num<0)=decide (u.c.num<0):=by
   by_cases x:t.c.num<0<;>by_cases y:u.c.num<0<;>simp[x,y]at a1 ⊢
  have Tg:t.c.num=u.c.num:=by
   by_cases x:t.c.num<0
   ·have y:u.c.num<0:=by rw[decide_eq_true x]at hs;exact of_decide_eq_true hs.symm
    omega
   ·have y:¬u.c.num<0:=by rw[decide_eq_false x]at hs;exact of_decide_eq_false hs.symm
    omega
  exact uh.2 ⟨Rat.ext Tg (it.d.trans iu.d.symm),Np a3,Np a4⟩
 have key:∀(p q:List T2) (x y:Abs.Rows),(∀t∈p,t.int)->(∀t∈q,t.int)->p.length=q.length->p.flatMap tB++x=q.flatMap tB++y->p=q:=by
  intro p
  induction p with
  | nil=>intro q x y _ _ hl _;cases q with
   | nil=>rfl
   | cons=>simp at hl
  | cons t p ih=>intro q x y h1 h2 hl h;cases q with
   | nil=>simp at hl
   | cons u q=>
    simp only[List.flatMap_cons,List.append_assoc]at h;obtain⟨h3,h4⟩:=List.append_inj h (by rw[hW,hW]);rw[ht t u (h1 t List.mem_cons_self) (h2 u List.mem_cons_self) h3,ih q x y (fun z hz=>h1 z (List.mem_cons_of_mem _ hz)) (fun z hz=>h2 z (List.mem_cons_of_mem _ hz)) (by simpa using hl) h4]
 simp only[kB,pB,List.cons_append,List.cons.injEq]at hk;have hlen:=Np hk.2.1;exact key p q _ _ hp hq (by omega) hk.2.2
theorem Nq (p:List T2) (hp:∀t∈p,t.int) (hn:p.length<100):aH 116 [.val (.agg [.v (.int .i64 0),.aa false (aP p),.aa true []])] ⟨[.val (.c (.v (.string (kS p))))],[none]⟩:=by
 have c1:=HW;have c2:=HZ p hp hn 1 [fj 0] rfl (by omega);have lP:([fj 0]++pB p).length=1+1+18*p.length:=by rw[List.length_append,Tk];show 1+_=_;omega
 have c3:=H0 (1+1+18*p.length) ([fj 0]++pB p) lP.symm (by omega);have hE:[fj 0]++pB p ++ [fj 0]=kB p:=by simp[kB]
 have lE:(kB p).length=1+1+18*p.length+1:=by rw[<-hE,List.length_append,lP];rfl
 have hK:=Tl hp hn;rw[hE]at c3;generalize kB p=K,kS p=sK,[fj 0]++pB p=B2,1+1+18*p.length+1=l3 at *;generalize 1+1+18*p.length=l2,aP p=X at *;unfold uV jQ fj at *;refine an ai mixed [.val] Tryz.func116 rfl rfl (by kernel_rfl) ?_;intros;rename_i bY _ _ _ A L F hS hF;have UU:=hS.whole (r:=K) (len:=l3) lE.symm;have u1:=UU.1;have u2:=UU.2;clear UU;have u3:bY K=some sK:=by rw[hS.str];exact hK
 cbv;refine⟨_,hS.cY c1,?_⟩;cbv;refine⟨_,hS.cY c2,?_⟩;cbv;refine⟨_,hS.cY c3,?_⟩;cbv;rw[u2,u3];cbv;apply nd u1;exact aC hF
theorem F0 (p:List T2) (hp:∀t∈p,t.int) (hn:p.length<100):aH 78 [.val (tl (aP p))] ⟨[.val (.c (.v (.string (kS p))))],[none]⟩:=by
 have c:=Nq p hp hn;generalize kS p=sK,aP p=X at *;refine an ai mixed [.val] Tryz.func78 rfl rfl (by kernel_rfl) ?_;intros;rename_i A L F hS hF;cbv;refine hS.cl c ?_;cbv;exact aC hF
def nB (n:Int):Abs.Rows:=if n<128 then [fj n] else [fj (n%128+128),fj (n/128)]
theorem yV (n:Int):(nB n).length<=2:=by unfold nB;split<;>simp
theorem DE {n:Int} (h0:0<=n) (h1:n<16384):∀r∈nB n,PQ r:=by
 unfold nB;split
 ·intro r hr
  rw[List.mem_singleton.1 hr];exact⟨n,h0,by omega,rfl⟩
 ·intro r hr
  simp only[List.mem_cons,List.not_mem_nil,or_false]at hr;rcases hr with rfl|rfl
  ·exact⟨_,by omega,by omega,rfl⟩
  ·exact⟨_,by omega,by omega,rfl⟩
theorem H3 (n:Int) (h0:0<=n) (h1:n<16384) (B:Abs.Rows) (hB:B.length<=1000000000) :
  aH 54 [.own 1 B,.val (ti .u64 n)] ⟨[.own 1 (B++nB n)],[none,none]⟩:=by
 obtain⟨len,hlen⟩:=aq (B.length);unfold nB fj
 by_cases h:n<128
 ·rw[if_pos h]
  refine an ai mixed [.own 1] Tryz.func54 rfl rfl (by kernel_rfl) fun zD zE _ _ zI zJ _ _ _ _ _ _ _ _ zV _ _ _ _ _ _ _ _ _ _ ay aK _ _ _ _ ab _ _ _ _ _ _ _ _ _ _ _ _ _ _ _ _ _ _ _ A L F hS hF=>?_
  have l1:zV 127 n=false:=dF (hS.lt ..) (by omega);have e0:zD .u8 n=n:=by rw[hS.wrap];exact wrap_u8 h0 (by omega)
  have hz:ab B=len:=by rw[hS.len,hlen]
  have UU:=hS.vg (row:=[Tree.v (.int .u8 n)]) (w:=1) rfl (r:=B) (len:=len) (b:=1) hlen (by unfold au;omega);have u0:=UU.1;have u1:=UU.2.1;have u2:=UU.2.2.1;have u3:=UU.2.2.2.1;have u4:=UU.2.2.2.2.1;have u5:=UU.2.2.2.2.2.1;have u6:=UU.2.2.2.2.2.2.1;have u7:=UU.2.2.2.2.2.2.2;clear UU;rw[<-hz]at u4 u5;have u9:ay (aK (ab B) (ab [[Tree.v (.int .u8 n)]])) (ab (B ++ [[Tree.v (.int .u8 n)]]))=true:=by rw[hz,u6,hS.len,hS.neq,List.length_append,<-hlen];exact decide_eq_true rfl
  cbv;refine bz ai mixed hS (1) ?_;cbv;apply bF l1;simp only[e0,u0,u7];refine nd u1 (nd u2 (nd u3 (nd u4 (nd u5 (nd u9 ?_)))));exact aC hF
 ·rw[if_neg h]
  obtain⟨q,hq⟩:=aq (n/128);obtain⟨t,ht⟩:=aq (n%128+128);rw[<-hq,<-ht];obtain⟨B2,dW⟩:=aq (B ++ [[Tree.v (.int .u8 t)]]);have Bo:B2.length=len+1:=by rw[dW,List.length_append,<-hlen];rfl
  rw[show B ++ [[Tree.v (.int .u8 t)],[Tree.v (.int .u8 q)]]=B2 ++ [[Tree.v (.int .u8 q)]] by rw[dW,List.append_assoc];rfl];refine an ai mixed [.own 1] Tryz.func54 rfl rfl (by kernel_rfl) fun zD zE _ _ zI zJ _ _ _ _ _ _ _ _ zV _ _ _ _ _ _ _ _ _ _ ay aK _ _ _ _ ab _ _ _ _ _ _ _ _ _ _ _ _ _ _ _ _ _ _ _ A L F hS hF=>?_
  have l1:zV 127 n=true:=dT (hS.lt ..) (by omega);have l2:zV 127 q=false:=dF (hS.lt ..) (by omega);have q0:zD .u64 (zI n 128)=q:=by rw[hS.quo,hS.wrap,Int.tdiv_eq_ediv_of_nonneg h0,<-hq];exact eS (by omega) (by omega)
  have e1:zJ n 128=n%128:=by rw[hS.rem,Int.tmod_eq_emod_of_nonneg h0]
  have e2:zD .u8 (n%128)=n%128:=by rw[hS.wrap];exact wrap_u8 (by omega) (by omega)
  have e3:zD .u8 (zE (n%128) 128)=t:=by rw[hS.add,hS.wrap,<-ht];exact wrap_u8 (by omega) (by omega)
  have e0:zD .u8 q=q:=by rw[hS.wrap];exact wrap_u8 (by omega) (by omega)
  have hz:ab B=len:=by rw[hS.len,hlen]
  have UU:=hS.vg (row:=[Tree.v (.int .u8 t)]) (w:=1) rfl (r:=B) (len:=len) (b:=1) hlen (by unfold au;omega);have u0:=UU.1;have u1:=UU.2.1;have u2:=UU.2.2.1;have u3:=UU.2.2.2.1;have u4:=UU.2.2.2.2.1;have u5:=UU.2.2.2.2.2.1;have u6:=UU.2.2.2.2.2.2.1;have u7:=UU.2.2.2.2.2.2.2;clear UU;rw[<-dW]at u7;rw[hz]at u5;have UU:=hS.vg (row:=[Tree.v (.int .u8 q)]) (w:=1) rfl (r:=B2) (len:=len+1) (b:=1) Bo.symm (by unfold au;omega)
  have v0:=UU.1;have v1:=UU.2.1;have v2:=UU.2.2.1;have v3:=UU.2.2.2.1;have v4:=UU.2.2.2.2.1;have v5:=UU.2.2.2.2.2.1;have v6:=UU.2.2.2.2.2.2.1;have v7:=UU.2.2.2.2.2.2.2;clear UU;have v9:ay (len+1+1) (ab (B2 ++ [[Tree.v (.int .u8 q)]]))=true:=by rw[hS.len,hS.neq,List.length_append,Bo];exact decide_eq_true rfl
  cbv;refine bz ai mixed hS (2) ?_;cbv;simp only[q0];apply bT l1;simp only[e1,e2,e3,e0,u0,u7,v0,v7,hz,u6,v6];refine nd u1 (nd u2 (nd u3 (nd u4 (nd u5 (bF l2 (nd v1 (nd v2 (nd v3 (nd v4 (nd v5 (nd v9 ?_)))))))))));exact aC hF
def b8 (w k:Int):Int:=IntKind.wrap .u8 (w.fdiv (2^k.toNat))
def wB (w:Int):Abs.Rows:=[fj (b8 w 24),fj (b8 w 16),fj (b8 w 8),fj (IntKind.wrap .u8 w)]
def iB (s:Bool) (l:List Int):Abs.Rows:=nB (2*l.length+(if s then 1 else 0))++l.flatMap wB
theorem ja (x:Int):0<=IntKind.wrap .u8 x/\IntKind.wrap .u8 x<256:=by
 show 0<=x%256/\x%256<256
 omega
theorem Tm (w:Int):∀r∈wB w,PQ r:=by
 intro r hr;simp only[wB,List.mem_cons,List.not_mem_nil,or_false]at hr;rcases hr with rfl|rfl|rfl|rfl
 ·exact⟨_,(ja _).1,(ja _).2,rfl⟩
 ·exact⟨_,(ja _).1,(ja _).2,rfl⟩
 ·exact⟨_,(ja _).1,(ja _).2,rfl⟩
 ·exact⟨_,(ja _).1,(ja _).2,rfl⟩
theorem Nr {s:Bool} {l:List Int} (hl:l.length<=8000):∀r∈iB s l,PQ r:=by
 intro r hr;rcases List.mem_append.1 hr with hr|hr
 ·exact DE (by split<;>omega) (by split<;>omega) r hr
 ·obtain⟨w,_,hw⟩:=List.mem_flatMap.1 hr
  exact Tm w r hw
theorem so (l:List Int):(l.flatMap wB).length=4*l.length:=by
 induction l with
 | nil=>rfl
 | cons a l ih=>rw[List.flatMap_cons,List.length_append,ih];simp[wB];omega
theorem H4 (s:Bool) (l:List Int):(iB s l).length<=2+4*l.length:=by
 unfold iB;rw[List.length_append,so];have:=yV (2*(l.length:Int)+(if s then 1 else 0));omega
def vk (s:Bool) (X:Abs.Rows) (m:Int) (len:Nat) (B:Abs.Rows) (I:Int):St:=ae 46 [.c (.sl 3 0 len false),.af,.af,.c (.ptr 2 0 0),.af,.c (.t (.v (.int .u64 m))),vi .i64 I] [none,none,some (.var [.t (.v (.bool s)),.t (.aa false X)]),some (.rows 1 B true false)]
theorem sr (s:Bool) (l:List Int) (hl:l.length<=8000) (B:Abs.Rows) (hB:B.length<=900000000) :
  aH 126 [.own 1 B,.val (.agg [.v (.bool s),.aa false (W .u32 l)])] ⟨[.own 1 (B++iB s l)],[none,none]⟩:=by
 have cn:=H3 (2*l.length+(if s then 1 else 0)) (by split<;>omega) (by split<;>omega) B (by omega);unfold iB;have UG:=yV (2*(l.length:Int)+(if s then 1 else 0));obtain⟨m,hm⟩:=aq (if s then 1 else 0:Int);rw[<-hm]at cn UG ⊢;have afG:0<=m/\m<=1:=by rw[hm];split<;>omega
 obtain⟨X,hX⟩:=aq (W .u32 l);obtain⟨n,hn⟩:=aq (l.length);have lX:X.length=n:=by rw[hX,jr,hn]
 obtain⟨c,hc⟩:=aq (2*(l.length:Int)+m:Int);rw[<-hc]at cn UG;obtain⟨B1,fQ⟩:=aq (B++nB c);rw[<-fQ]at cn;rw[<-hX,<-hc,show B++(nB c++l.flatMap wB)=B1++l.flatMap wB by rw[fQ,List.append_assoc]];have GQ:B1.length<=900000002:=by rw[fQ,List.length_append];omega
 obtain⟨l1,oT⟩:=aq (B1.length);cases s
 ·refine an ai mixed [.own 1] Tryz.func126 rfl rfl (by kernel_rfl) fun zD zE _ zH _ _ _ zM _ _ _ _ _ _ _ _ _ _ _ _ _ _ _ zz _ ay _ _ _ _ _ ab _ _ aL ar _ _ _ _ _ _ _ _ _ _ _ _ _ _ _ A L F hS hF=>?_
  have m0:m=0:=by rw[hm];rfl
  have hz:ay (ab B) (ab B)=true:=by rw[hS.neq];exact decide_eq_true rfl
  have Cu:ab B1=l1:=by rw[hS.len,oT]
  have ec:zD .u64 (zE (zD .u64 (zH (zD .u64 (zz (ab X))) 2)) 0)=c:=by
   rw[hS.az,hS.len,lX,hS.wrap,hS.wrap,hS.wrap,hS.mul,hS.add,eS (x:=(n:Int)) (by omega) (by omega),eS (x:=(n:Int)*2) (by omega) (by omega),eS (by omega) (by omega),hc,m0,hn];omega
  have lE:=hS.fh lX;cbv;refine bF rfl (nd hz ?_);simp only[ec];refine hS.cl cn ?_;cbv;simp only[Cu];refine fX ai mixed hS (n:=n) (fun i (z:Nat×Abs.Rows)=>vk false X m z.1 z.2 (Int.ofNat i)) (fun i z=>z.1=l1+4*i/\z.2=B1++(l.take i).flatMap wB) (a0:=(l1,B1)) (fy ?_ ?_) rfl (by show 2<=4;omega) ⟨rfl,by simp⟩ ?_ ?_
  ·simp[dS,vk,ae,vi,vb,m0]
  ·simp[dU,vk,ae]
  ·rintro i ⟨l2,B2⟩ hi ⟨fM,dW⟩
   simp only at fM dW;obtain⟨c1,i1,j1,n0⟩:=hS.ic lX hi (by omega);have Tn:i<l.length:=by omega
   have Bo:l2=B2.length:=by rw[dW,List.length_append,so,List.length_take,<-oT,fM];omega
   obtain⟨w,hw⟩:=aq (l[i]);have fc:l.take (i+1)=l.take i ++ [w]:=by rw[List.take_add_one,List.getElem?_eq_getElem Tn,hw];rfl
   have g1:aL .u32 X i=true:=by rw[hS.gM,hX,kY];exact decide_eq_true Tn
   have g2:ar X i=w:=by rw[hS.dK,hX,m8,List.getD_eq_getElem?_getD,List.getElem?_eq_getElem Tn,hw];rfl
   have s1:zD .u8 (zM .u32 w 24)=b8 w 24:=by rw[hS.wrap,hS.shr];rfl
   have s2:zD .u8 (zM .u32 w 16)=b8 w 16:=by rw[hS.wrap,hS.shr];rfl
   have s3:zD .u8 (zM .u32 w 8)=b8 w 8:=by rw[hS.wrap,hS.shr];rfl
   obtain⟨w4,To⟩:=aq (IntKind.wrap .u8 w);have s4:zD .u8 w=w4:=by rw[hS.wrap,To]
   obtain⟨new,jO⟩:=aq ([[.v (.int .u8 (b8 w 24))],[.v (.int .u8 (b8 w 16))],[.v (.int .u8 (b8 w 8))],[.v (.int .u8 w4)]]:Abs.Rows);have Ws:wB w=new:=by rw[jO,To];rfl
   obtain⟨u0,u1,u2,u3,u4,u5,u6,u7⟩:=hS.Po (new:=new) (m:=4) (w:=1) (by rw[jO];rfl) (by omega) (by rw[jO];rfl) (r:=B2) (len:=l2) (b:=1) Bo (by unfold au;omega);have hR:l2+4=l1+4*(i+1)/\B2++new=B1++(l.take (i+1)).flatMap wB:=⟨by omega,by rw[fc,dW,List.flatMap_append,<-Ws];simp⟩;generalize b8 w 24=w1,b8 w 16=w2,b8 w 8=w3 at *;clear hw To fc dW fM Ws;refine⟨?_⟩;cbv;apply bT c1
   simp only[j1,g2,s1,s2,s3,s4,<-jO,u0];refine nd n0 (nd g1 (nd u1 (nd u2 (nd u3 (nd u4 (nd u5 ?_))))));refine aU [(2,2),(3,5)] (l2+4,B2++new) ?_ ?_ ?_ ?_ rfl (by show 2<=4;omega) hR
   ·simp[bd,vk,ae,vi,vb,AV.aw,AV.aJ,Cell.aw,ak,i1,u6,m0]
   ·simp[bf,vk,ae,Abs.look,ak,aA.aw,Cell.aw,u7]
   ·simp[aF,vk,ae,ak]
   ·simp
  ·rintro⟨l2,B2⟩ ⟨fM,dW⟩
   simp only at fM dW;rw[List.take_of_length_le (by omega)]at dW;have Bo:l2=B2.length:=by rw[dW,List.length_append,so,<-oT,fM,hn]
   have u9:ay l2 (ab B2)=true:=by rw[hS.len,hS.neq,Bo];exact decide_eq_true rfl
   rw[<-dW]at hF;refine⟨?_⟩;cbv;refine bF lE (nd u9 ?_);exact aC hF
 ·refine an ai mixed [.own 1] Tryz.func126 rfl rfl (by kernel_rfl) fun zD zE _ zH _ _ _ zM _ _ _ _ _ _ _ _ _ _ _ _ _ _ _ zz _ ay _ _ _ _ _ ab _ _ aL ar _ _ _ _ _ _ _ _ _ _ _ _ _ _ _ A L F hS hF=>?_
  have m0:m=1:=by rw[hm];rfl
  have hz:ay (ab B) (ab B)=true:=by rw[hS.neq];exact decide_eq_true rfl
  have Cu:ab B1=l1:=by rw[hS.len,oT]
  have ec:zD .u64 (zE (zD .u64 (zH (zD .u64 (zz (ab X))) 2)) 1)=c:=by
   rw[hS.az,hS.len,lX,hS.wrap,hS.wrap,hS.wrap,hS.mul,hS.add,eS (x:=(n:Int)) (by omega) (by omega),eS (x:=(n:Int)*2) (by omega) (by omega),eS (by omega) (by omega),hc,m0,hn];omega
  have lE:=hS.fh lX;cbv;refine bT rfl (nd hz ?_);simp only[ec];refine hS.cl cn ?_;cbv;simp only[Cu];refine fX ai mixed hS (n:=n) (fun i (z:Nat×Abs.Rows)=>vk true X m z.1 z.2 (Int.ofNat i)) (fun i z=>z.1=l1+4*i/\z.2=B1++(l.take i).flatMap wB) (a0:=(l1,B1)) (fy ?_ ?_) rfl (by show 2<=4;omega) ⟨rfl,by simp⟩ ?_ ?_
  ·simp[dS,vk,ae,vi,vb,m0]
  ·simp[dU,vk,ae]
  ·rintro i ⟨l2,B2⟩ hi ⟨fM,dW⟩
   simp only at fM dW;obtain⟨c1,i1,j1,n0⟩:=hS.ic lX hi (by omega);have Tn:i<l.length:=by omega
   have Bo:l2=B2.length:=by rw[dW,List.length_append,so,List.length_take,<-oT,fM];omega
   obtain⟨w,hw⟩:=aq (l[i]);have fc:l.take (i+1)=l.take i ++ [w]:=by rw[List.take_add_one,List.getElem?_eq_getElem Tn,hw];rfl
   have g1:aL .u32 X i=true:=by rw[hS.gM,hX,kY];exact decide_eq_true Tn
   have g2:ar X i=w:=by rw[hS.dK,hX,m8,List.getD_eq_getElem?_getD,List.getElem?_eq_getElem Tn,hw];rfl
   have s1:zD .u8 (zM .u32 w 24)=b8 w 24:=by rw[hS.wrap,hS.shr];rfl
   have s2:zD .u8 (zM .u32 w 16)=b8 w 16:=by rw[hS.wrap,hS.shr];rfl
   have s3:zD .u8 (zM .u32 w 8)=b8 w 8:=by rw[hS.wrap,hS.shr];rfl
   obtain⟨w4,To⟩:=aq (IntKind.wrap .u8 w);have s4:zD .u8 w=w4:=by rw[hS.wrap,To]
   obtain⟨new,jO⟩:=aq ([[.v (.int .u8 (b8 w 24))],[.v (.int .u8 (b8 w 16))],[.v (.int .u8 (b8 w 8))],[.v (.int .u8 w4)]]:Abs.Rows);have Ws:wB w=new:=by rw[jO,To];rfl
   obtain⟨u0,u1,u2,u3,u4,u5,u6,u7⟩:=hS.Po (new:=new) (m:=4) (w:=1) (by rw[jO];rfl) (by omega) (by rw[jO];rfl) (r:=B2) (len:=l2) (b:=1) Bo (by unfold au;omega);have hR:l2+4=l1+4*(i+1)/\B2++new=B1++(l.take (i+1)).flatMap wB:=⟨by omega,by rw[fc,dW,List.flatMap_append,<-Ws];simp⟩;generalize b8 w 24=w1,b8 w 16=w2,b8 w 8=w3 at *;clear hw To fc dW fM Ws;refine⟨?_⟩;cbv;apply bT c1
   simp only[j1,g2,s1,s2,s3,s4,<-jO,u0];refine nd n0 (nd g1 (nd u1 (nd u2 (nd u3 (nd u4 (nd u5 ?_))))));refine aU [(2,2),(3,5)] (l2+4,B2++new) ?_ ?_ ?_ ?_ rfl (by show 2<=4;omega) hR
   ·simp[bd,vk,ae,vi,vb,AV.aw,AV.aJ,Cell.aw,ak,i1,u6,m0]
   ·simp[bf,vk,ae,Abs.look,ak,aA.aw,Cell.aw,u7]
   ·simp[aF,vk,ae,ak]
   ·simp
  ·rintro⟨l2,B2⟩ ⟨fM,dW⟩
   simp only at fM dW;rw[List.take_of_length_le (by omega)]at dW;have Bo:l2=B2.length:=by rw[dW,List.length_append,so,<-oT,fM,hn]
   have u9:ay l2 (ab B2)=true:=by rw[hS.len,hS.neq,Bo];exact decide_eq_true rfl
   rw[<-dW]at hF;refine⟨?_⟩;cbv;refine bF lE (nd u9 ?_);exact aC hF
def qB (x:Rat):Abs.Rows:=iB (qc x).s (qc x).l++iB (qc x).t (qc x).m
theorem qP {x:Rat} {k:Nat} (h:Qs x k):(qc x).l.length<=k/\(qc x).m.length<=k:=⟨h.1,by have:=h.2;unfold nl at this;show(dg (x.den:Int).natAbs).length<=k;rw[Int.natAbs_natCast];exact this⟩
theorem oN {x:Rat} {k:Nat} (h:Qs x k):(qB x).length<=4+8*k:=by
 unfold qB;rw[List.length_append];have:=H4 (qc x).s (qc x).l;have:=H4 (qc x).t (qc x).m;have:=(qP h).1;have:=(qP h).2;omega
theorem Tp {x:Rat} (h:Qs x 8000):∀r∈qB x,PQ r:=by
 intro r hr;rcases List.mem_append.1 hr with hr|hr
 ·exact Nr (qP h).1 r hr
 ·exact Nr (qP h).2 r hr
theorem F1 (x:Rat) (hx:Qs x 8000) (B:Abs.Rows) (hB:B.length<=800000000) :
  aH 92 [.own 1 B,.val (.agg (qc x).row)] ⟨[.own 1 (B++qB x)],[none,none]⟩:=by
 obtain⟨h1,h2⟩:=qP hx;have c1:=sr (qc x).s (qc x).l h1 B (by omega);have hl:=H4 (qc x).s (qc x).l;obtain⟨B1,fQ⟩:=aq (B++iB (qc x).s (qc x).l);have c2:=sr (qc x).t (qc x).m h2 B1 (by rw[fQ,List.length_append];omega);obtain⟨B2,dW⟩:=aq (B1++iB (qc x).t (qc x).m);rw[<-fQ]at c1;rw[<-dW]at c2;have hE:B++qB x=B2:=by rw[dW,fQ];unfold qB;rw[List.append_assoc]
 have dk:(qc x).row=[.v (.bool (qc x).s),.aa false (W .u32 (qc x).l),.v (.bool (qc x).t),.aa false (W .u32 (qc x).m)]:=rfl;rw[hE,dk];generalize (qc x).s=s,(qc x).t=t,W .u32 (qc x).l=X,W .u32 (qc x).m=Y at *;clear hE fQ dW dk;refine an ai mixed [.own 1] Tryz.func92 rfl rfl (by kernel_rfl) ?_;intros;rename_i ay _ _ _ _ _ ab _ _ _ _ _ _ _ _ _ _ _ _ _ _ _ _ _ _ _ A L F hS hF;have z0:ay (ab B) (ab B)=true:=by rw[hS.neq];exact decide_eq_true rfl
 have z1:ay (ab B1) (ab B1)=true:=by rw[hS.neq];exact decide_eq_true rfl
 have z2:ay (ab B2) (ab B2)=true:=by rw[hS.neq];exact decide_eq_true rfl
 cbv;apply nd z0;refine hS.cl c1 ?_;cbv;apply nd z1;refine hS.cl c2 ?_;cbv;apply nd z2;exact aC hF
def KG (t:T2):Abs.Rows:=qB t.c++(nB t.a++(nB t.b ++ [fj 0,fj 0,fj 0,fj 0,fj 0,fj 0]))
def GR (p:List T2):Abs.Rows:=nB p.length++p.flatMap KG
theorem PR {t:T2} {k:Nat} (h:Qs t.c k):(KG t).length<=14+8*k:=by
 unfold KG;have:=oN h;have:=yV t.a;have:=yV t.b;simp only[List.length_append,List.length_cons,List.length_nil];omega
theorem F2 {p:List T2} {k:Nat} (h:∀t∈p,Qs t.c k):(p.flatMap KG).length<=p.length*(14+8*k):=by
 induction p with
 | nil=>simp
 | cons t p ih=>
  rw[List.flatMap_cons,List.length_append,List.length_cons,Nat.succ_mul];have:=PR (h t List.mem_cons_self);have:=ih fun x hx=>h x (List.mem_cons_of_mem _ hx)
  omega
def Bp (X:Abs.Rows) (len:Nat) (B:Abs.Rows) (I:Int):St:=ae 40 [.c (.sl 2 0 len false),.c (.t (.aa false X)),.af,.af,.af,vi .i64 I] [none,none,some (.rows 1 B true false)]
theorem uW (p:List T2) (hp:∀t∈p,t.ok 100 1000) (hn:p.length<=100) (B:Abs.Rows) (hB:B.length<=700000000) :
  aH 52 [.own 1 B,.val (tl (aP p))] ⟨[.own 1 (B++GR p)],[none,none]⟩:=by
 have c0:=H3 (p.length:Int) (by omega) (by omega) B (by omega);obtain⟨X,hX⟩:=aq (aP p);obtain⟨n,fx⟩:=aq (p.length);have lX:X.length=n:=by rw[hX,pK,fx]
 obtain⟨N,hN⟩:=aq (p.length:Int);have UG:=yV N;unfold GR;rw[<-hN]at c0 ⊢;obtain⟨B1,fQ⟩:=aq (B++nB N);rw[<-fQ]at c0;rw[<-hX,show B++(nB N++p.flatMap KG)=B1++p.flatMap KG by rw[fQ,List.append_assoc]];have GQ:B1.length<=700000002:=by rw[fQ,List.length_append];omega
 obtain⟨l1,oT⟩:=aq (B1.length);refine dE ai mixed [.own 1] Tryz.func52 rfl rfl (by kernel_rfl) fun zD zE _ _ _ _ _ _ _ _ _ _ _ _ _ _ _ _ _ _ _ _ _ zz _ ay _ _ _ _ _ ab aB _ _ _ _ _ _ _ _ _ _ _ _ _ _ _ _ _ _ A L F hS hF=>?_
 have hz:ay (ab B) (ab B)=true:=by rw[hS.neq];exact decide_eq_true rfl
 have Cu:ab B1=l1:=by rw[hS.len,oT]
 have ec:aE zD .u64 (zz (ab X))=N:=by rw[hS.az,hS.len,lX,hS.wrap,eS (by omega) (by omega),hN,fx]
 have lE:=hS.fh lX;cbv at ec;cbv;apply nd hz;simp only[ec];refine hS.cl c0 ?_;cbv;simp only[Cu];refine fX ai mixed hS (n:=n) (fun i (z:Nat×Abs.Rows)=>Bp X z.1 z.2 (Int.ofNat i)) (fun i z=>z.1=z.2.length/\z.2=B1++(p.take i).flatMap KG) (a0:=(l1,B1)) (fy ?_ ?_) rfl (by show 2<=3;omega) ⟨oT,by simp⟩ ?_ ?_
 ·simp[dS,Bp,ae,vi,vb]
 ·simp[dU,Bp,ae]
 ·rintro i ⟨l2,B2⟩ hi ⟨fM,dW⟩
  simp only at fM dW;have c1:=(hS.ic lX hi (by omega)).1;have i1:aE zD .i64 (eE zE (Int.ofNat i) 1)=(i:Int)+1:=(hS.ic lX hi (by omega)).2.1;obtain⟨t,s,v,r,q,ht,gt,qt,hr,wt,fc,_⟩:=ig (l:=p) (i:=i) (by omega);have ot:=hp t ht;have hlen:((p.take i).flatMap KG).length<=100*814:=Nat.le_trans (F2 (k:=100) fun x hx=>(hp x (List.mem_of_mem_take hx)).c) (Nat.mul_le_mul (by rw[List.length_take];omega) (by omega))
  have Bo:B2.length<=700081402:=by rw[dW,List.length_append];omega
  have cq:=F1 t.c (ot.c.mono (by omega)) B2 (by omega);have lq:=oN ot.c;obtain⟨B3,sn⟩:=aq (B2++qB t.c);have b3:B3.length<=B2.length+900:=by rw[sn,List.length_append];omega
  rw[<-sn,qt]at cq;have d0:=H3 (t.a) (by have:=ot.a;omega) (by have:=ot.a;omega) B3 (by omega);obtain⟨B4,yk⟩:=aq (B3++nB (t.a));have b4:B4.length<=B2.length+902:=by have:=yV (t.a);rw[yk,List.length_append];omega
  rw[<-yk]at d0;have d1:=H3 (t.b) (by have:=ot.b;omega) (by have:=ot.b;omega) B4 (by omega);obtain⟨B5,yl⟩:=aq (B4++nB (t.b));have b5:B5.length<=B2.length+904:=by have:=yV (t.b);rw[yl,List.length_append];omega
  rw[<-yl]at d1;have d2:=H3 (0) (by omega) (by omega) B5 (by omega);obtain⟨B6,ym⟩:=aq (B5++nB (0));have b6:B6.length<=B2.length+906:=by have:=yV (0);rw[ym,List.length_append];omega
  rw[<-ym]at d2;have d3:=H3 (0) (by omega) (by omega) B6 (by omega);obtain⟨B7,yn⟩:=aq (B6++nB (0));have b7:B7.length<=B2.length+908:=by have:=yV (0);rw[yn,List.length_append];omega
  rw[<-yn]at d3;have d4:=H3 (0) (by omega) (by omega) B7 (by omega);obtain⟨B8,yo⟩:=aq (B7++nB (0));have b8:B8.length<=B2.length+910:=by have:=yV (0);rw[yo,List.length_append];omega
  rw[<-yo]at d4;have d5:=H3 (0) (by omega) (by omega) B8 (by omega);obtain⟨B9,DD⟩:=aq (B8++nB (0));have b9:B9.length<=B2.length+912:=by have:=yV (0);rw[DD,List.length_append];omega
  rw[<-DD]at d5;have d6:=H3 (0) (by omega) (by omega) B9 (by omega);obtain⟨DF,su⟩:=aq (B9++nB (0));have PS:DF.length<=B2.length+914:=by have:=yV (0);rw[su,List.length_append];omega
  rw[<-su]at d6;have d7:=H3 (0) (by omega) (by omega) DF (by omega);obtain⟨KH,DG⟩:=aq (DF++nB (0));have LF:KH.length<=B2.length+916:=by have:=yV (0);rw[DG,List.length_append];omega
  rw[<-DG]at d7;have n00:nB 0=[fj 0]:=by unfold nB;rfl
  have hR:KH=B1++(p.take (i+1)).flatMap KG:=by
   rw[DG,su,DD,yo,yn,ym,yl,yk,sn,dW,fc,List.flatMap_append];simp[KG,n00]
  obtain⟨l11,Tq⟩:=aq (KH.length);have F3:l11=KH.length/\KH=B1++(p.take (i+1)).flatMap KG:=⟨Tq,hR⟩;have sa:aE zD .u64 t.a=t.a:=by rw[hS.wrap];exact eS ot.a.1 (by have:=ot.a.2;omega)
  have sb:aE zD .u64 t.b=t.b:=by rw[hS.wrap];exact eS ot.b.1 (by have:=ot.b.2;omega)
  have j2:aB X i=some (na s r v q t.a t.b):=by rw[hS.nth,hX];exact hr
  have y2:ay l2 (ab B2)=true:=by rw[hS.neq,hS.len];exact decide_eq_true fM
  have y3:ay (ab B3) (ab B3)=true:=by rw[hS.neq];exact decide_eq_true rfl
  have y4:ay (ab B4) (ab B4)=true:=by rw[hS.neq];exact decide_eq_true rfl
  have y5:ay (ab B5) (ab B5)=true:=by rw[hS.neq];exact decide_eq_true rfl
  have y6:ay (ab B6) (ab B6)=true:=by rw[hS.neq];exact decide_eq_true rfl
  have y7:ay (ab B7) (ab B7)=true:=by rw[hS.neq];exact decide_eq_true rfl
  have y8:ay (ab B8) (ab B8)=true:=by rw[hS.neq];exact decide_eq_true rfl
  have y9:ay (ab B9) (ab B9)=true:=by rw[hS.neq];exact decide_eq_true rfl
  have We:ay (ab DF) (ab DF)=true:=by rw[hS.neq];exact decide_eq_true rfl
  have zL:ab KH=l11:=by rw[hS.len,Tq]
  generalize t.a=a,t.b=b at *;clear hR sn yk yl ym yn yo DD su DG dW fc Tq b3 b4 b5 b6 b7 b8 b9 PS LF n00;unfold na at j2;cbv at sa sb i1;refine⟨?_⟩;cbv;apply bT c1;rw[j2];cbv;repeat (first|apply bT rfl|apply bF rfl|apply nd rfl)
  apply nd y2;refine hS.cl cq ?_;cbv;refine bz ai mixed hS (9) ?_;cbv;repeat (first|apply bT rfl|apply bF rfl|apply nd rfl)
  rw[j2];cbv;repeat (first|apply bT rfl|apply bF rfl|apply nd rfl)
  simp only[sa];apply nd y3;refine hS.cl d0 ?_;cbv;repeat (first|apply bT rfl|apply bF rfl|apply nd rfl)
  rw[j2];cbv;repeat (first|apply bT rfl|apply bF rfl|apply nd rfl)
  simp only[sb];apply nd y4;refine hS.cl d1 ?_;cbv;repeat (first|apply bT rfl|apply bF rfl|apply nd rfl)
  rw[j2];cbv;repeat (first|apply bT rfl|apply bF rfl|apply nd rfl)
  apply nd y5;refine hS.cl d2 ?_;cbv;repeat (first|apply bT rfl|apply bF rfl|apply nd rfl)
  rw[j2];cbv;repeat (first|apply bT rfl|apply bF rfl|apply nd rfl)
  apply nd y6;refine hS.cl d3 ?_;cbv;repeat (first|apply bT rfl|apply bF rfl|apply nd rfl)
  rw[j2];cbv;repeat (first|apply bT rfl|apply bF rfl|apply nd rfl)
  apply nd y7;refine hS.cl d4 ?_;cbv;repeat (first|apply bT rfl|apply bF rfl|apply nd rfl)
  rw[j2];cbv;repeat (first|apply bT rfl|apply bF rfl|apply nd rfl)
  apply nd y8;refine hS.cl d5 ?_;cbv;repeat (first|apply bT rfl|apply bF rfl|apply nd rfl)
  rw[j2];cbv;repeat (first|apply bT rfl|apply bF rfl|apply nd rfl)
  apply nd y9;refine hS.cl d6 ?_;cbv;repeat (first|apply bT rfl|apply bF rfl|apply nd rfl)
  rw[j2];cbv;repeat (first|apply bT rfl|apply bF rfl|apply nd rfl)
  apply nd We;refine hS.cl d7 ?_;cbv;repeat (first|apply bT rfl|apply bF rfl|apply nd rfl)
  simp only[zL,i1];refine aU [(2,19)] (l11,KH) ?_ ?_ ?_ ?_ rfl (by show 2<=3;omega) F3
  ·simp[bd,Bp,ae,vi,vb,AV.aw,AV.aJ,Cell.aw,ak]
  ·simp[bf,Bp,ae,Abs.look,ak,aA.aw,Cell.aw]
  ·simp[aF,Bp,ae,ak]
  ·simp
 ·rintro⟨l2,B2⟩ ⟨fM,dW⟩
  simp only at fM dW;rw[List.take_of_length_le (by omega)]at dW;have u9:ay l2 (ab B2)=true:=by rw[hS.len,hS.neq,fM];exact decide_eq_true rfl
  rw[<-dW]at hF;refine⟨?_⟩;cbv;refine bF lE (nd u9 ?_);exact aC hF
def aj (l:aS):Abs.Rows:=l.map fun p=>[.aa false (aP p)]
theorem lB (l:aS):(aj l).length=l.length:=by simp[aj]
theorem fq {l:aS} {i:Nat} (hi:i<l.length):∃p,p∈l/\l[i]?=some p/\(aj l)[i]?=some [.aa false (aP p)]/\l.take (i+1)=l.take i ++ [p]/\l.drop i=p::l.drop (i+1):=
 ⟨l[i],List.getElem_mem hi,List.getElem?_eq_getElem hi,by simp[aj,hi],by rw[List.take_add_one,List.getElem?_eq_getElem hi];rfl,List.drop_eq_getElem_cons hi⟩
def KP (p:List T2):Prop:=(∀t∈p,t.int)/\p.length<100
def oZ:Nat->aS->List (Value×Tree)
 | _,[]=>[]
 | k,p::ps=>(.string (kS p),.v (.int .i64 (k:Int)))::oZ (k+1) ps
def nc:Nat->aS->List T2->Int
 | _,[],_=>-1
 | k,q::qs,p=>if q=p then(k:Int) else nc (k+1) qs p
theorem DH {k:Nat} {p:List T2}:∀ {to:aS},p ∉ to->nc k to p=-1
 | [],_=>rfl
 | q::qs,h=>by
  unfold nc;rw[if_neg (fun e=>h (by rw[e];exact List.mem_cons_self))];exact DH fun e=>h (List.mem_cons_of_mem _ e)
theorem bab (a b:ByteArray):(a==b)=decide (a=b):=by
 obtain⟨x⟩:=a;obtain⟨y⟩:=b;show(x==y)=_
 rw[Bool.eq_iff_iff,beq_iff_eq,decide_eq_true_eq,ByteArray.mk.injEq]
theorem xF {p:List T2} (hp:KP p):∀ {to:aS} {k:Nat},(∀q∈to,KP q)->(p ∉ to/\df (.string (kS p)) (oZ k to)=some none)∨(∃j:Nat,k<=j/\j<k+to.length/\nc k to p=(j:Int)/\df (.string (kS p)) (oZ k to)=some (some (.v (.int .i64 (j:Int)))))
 | [],k,_=>.inl ⟨by simp,rfl⟩
 | q::qs,k,h=>by
  have hq:=h q List.mem_cons_self
  by_cases e:q=p
  ·refine .inr ⟨k,Nat.le_refl _,by simp,by unfold nc;rw[if_pos e],?_⟩
   unfold oZ df;rw[show sameKey (.string (kS p)) (.string (kS q))=some true by rw[e];simp[sameKey,bab]]
  ·have hs:sameKey (.string (kS p)) (.string (kS q))=some false:=by
    have:¬kS p=kS q:=fun h'=>e (Nn hp.1 hp.2 hq.1 hq.2 h').symm
    simp[sameKey,bab,this]
   rcases xF hp (to:=qs) (k:=k+1) (fun x hx=>h x (List.mem_cons_of_mem _ hx)) with⟨h1,h2⟩|⟨j,h1,h2,h3,h4⟩
   ·refine .inl ⟨?_,?_⟩
    ·intro hm
     rcases List.mem_cons.1 hm with hm|hm
     ·exact e hm.symm
     ·exact h1 hm
    ·unfold oZ df
     rw[hs];exact h2
   ·refine .inr ⟨j,by omega,by simp;omega,by unfold nc;rw[if_neg e];exact h3,?_⟩
    unfold oZ df;rw[hs];exact h4
theorem Jc {p:List T2} (hp:KP p) (v:Tree):∀ {to:aS} {k:Nat},(∀q∈to,KP q)->p ∉ to->gk (.string (kS p)) v (oZ k to)=some (oZ k to ++ [(.string (kS p),v)])
 | [],k,_,_=>rfl
 | q::qs,k,h,hn=>by
  have hq:=h q List.mem_cons_self;have hs:sameKey (.string (kS p)) (.string (kS q))=some false:=by
   have:¬kS p=kS q:=fun h'=>hn (by rw[Nn hp.1 hp.2 hq.1 hq.2 h'];exact List.mem_cons_self)
   simp[sameKey,bab,this]
  unfold oZ gk;rw[hs,Jc hp v (fun x hx=>h x (List.mem_cons_of_mem _ hx)) fun e=>hn (List.mem_cons_of_mem _ e)];rfl
theorem Jd (p:List T2):∀(to:aS) (k:Nat),oZ k (to ++ [p])=oZ k to ++ [(.string (kS p),.v (.int .i64 ((k+to.length:Nat):Int)))]
 | [],k=>rfl
 | q::qs,k=>by
  show _::oZ (k+1) (qs ++ [p])=_::(oZ (k+1) qs++_)
  rw[Jd p qs (k+1),show k+1+qs.length=k+(q::qs).length by simp;omega]
def Bq (X Y:Abs.Rows) (M:Int) (E:List (Value×Tree)) (I:Int):St:=ae 53 [.c (.t (.aa false X)),.af,.af,.af,.af,.c (.mp 2),.af,.af,.af,.af,.af,.af,.af,.af,.c (.t (.aa false Y)),vi .i64 M,vi .i64 I] [none,none,some (.map E)]
def sv (X:Abs.Rows) (n:Nat) (N:Int) (E:List (Value×Tree)) (R:Abs.Rows) (I:Int):St:=ae 53 [.af,.af,.af,.af,.af,.c (.mp 2),.af,.af,.c (.sl 3 0 n false),.af,.af,.af,.af,.af,.af,.af,.af,.af,.af,.af,.af,.af,.af,.af,.af,.af,.af,.af,.af,.c (.t (.aa false X)),vi .i64 N,vi .i64 I] [none,none,some (.map E),some (.rows 1 R true false)]
theorem F4 (l to:aS) (hl:∀p∈l,KP p) (ht:∀p∈to,KP p) (hd:to.Nodup) (hn:l.length<=1000) (hm:to.length<=1000) :
  aH 41 [.val (tl (aj l)),.val (tl (aj to))] ⟨[.val (tl (W .i64 (l.map (nc 0 to))))],[none,none]⟩:=by
 obtain⟨X,hX⟩:=aq (aj l);obtain⟨Y,hY⟩:=aq (aj to);obtain⟨n,fx⟩:=aq (l.length);obtain⟨m,Uh⟩:=aq (to.length);have lX:X.length=n:=by rw[hX,lB,fx]
 have lY:Y.length=m:=by rw[hY,lB,Uh]
 rw[<-hX,<-hY];obtain⟨N,hN⟩:=aq (n:Int);obtain⟨M,hM⟩:=aq (m:Int);refine an ai mixed [.val] Tryz.func41 rfl rfl (by kernel_rfl) fun zD zE _ _ _ _ _ _ _ _ _ _ _ _ zV zX _ _ _ _ _ zu zy zz bg _ _ _ _ _ aT ab aB _ aL _ aR a9 aD _ _ bR _ _ _ _ a8 _ aX _ _ A L F hS hF=>?_
 have xN:zz (ab X)=N:=by rw[hS.az,hS.len,lX,hN]
 have yM:zz (ab Y)=M:=by rw[hS.az,hS.len,lY,hM]
 cbv;simp only[yM];refine mV ai mixed hS (n:=m) (fun i (E:List (Value×Tree))=>Bq X Y M E (Int.ofNat i)) (fun i E=>E=oZ 0 (to.take i)) (a0:=[]) (fy ?_ ?_) rfl (Nat.le_succ 2) rfl ?_ ?_
 ·simp[dS,Bq,ae,vi,vb]
 ·simp[dU,Bq,ae]
 ·intro i E hi hE
  obtain⟨p,hp,gp,hr,fc,I4⟩:=fq (l:=to) (i:=i) (by omega);have kp:=ht p hp;have ck:=F0 p kp.1 kp.2;have Ee:p ∉ to.take i:=by
   have:=hd;rw[<-List.take_append_drop i to,I4]at this;intro hx;exact(List.nodup_append.1 this).2.2 p hx p List.mem_cons_self rfl
  have KI:a8 E (.string (kS p)) (.v (.int .i64 (Int.ofNat i)))=oZ 0 (to.take (i+1)):=by
   rw[hS.J8,hE,Jc kp _ (fun q hq=>ht q (List.mem_of_mem_take hq)) Ee,fc,Jd,List.length_take,show 0+min i to.length=i by omega];rfl
  have hF1:aX E (.string (kS p))=some none:=by
   rw[hS.find,hE];rcases xF kp (to:=to.take i) (k:=0) (fun q hq=>ht q (List.mem_of_mem_take hq)) with⟨_,h⟩|⟨j,_,h2,h3,_⟩
   ·exact h
   ·rw[DH Ee]at h3;omega
  have l1:zV (Int.ofNat i) M=true:=by rw[hS.lt,hM];exact decide_eq_true (show(i:Int)<(m:Int) by omega)
  have i1:zD .i64 (zE (i:Int) 1)=(i:Int)+1:=by rw[hS.add,hS.wrap];exact wrap_i64 (by omega) (by omega)
  have j1:zu (Int.ofNat i)=i:=by rw[hS.nat];rfl
  have n0:zX 0 (Int.ofNat i)=true:=dT (hS.le ..) (show(0:Int)<=(i:Int) by omega);have j2:aB Y i=some [.aa false (aP p)]:=by rw[hS.nth,hY];exact hr
  obtain⟨E2,Wt⟩:=aq (oZ 0 (to.take (i+1)));rw[<-Wt]at KI;generalize kS p=sK,aP p=Z at *;cbv;apply bT l1;rw[j1,j2];cbv;apply nd n0;refine hS.cl ck ?_;cbv;rw[hF1];cbv;refine aU [] E2 ?_ ?_ ?_ ?_ rfl (Nat.le_succ 2) Wt
  ·simp[bd,Bq,ae,vi,AV.aw,AV.aJ,Cell.aw,ak,i1]
  ·simp only[KI];simp[bf,Bq,ae,Abs.look,ak,aA.aw,Cell.aw]
  ·simp[aF,Bq,ae,ak]
  ·simp
 ·intro E hE
  rw[List.take_of_length_le (by omega)]at hE;have lE:zV (Int.ofNat m) M=false:=by rw[hS.lt,hM];exact decide_eq_false (show ¬(m:Int)<(m:Int) by omega)
  cbv;apply bF lE;simp only[xN];have hN:N=(n:Int):=hN;have k1:aT N N 8=true:=by rw[hS.nG,hN];exact decide_eq_true ⟨by omega,by omega,by unfold au;omega⟩
  have k2:zu N=n:=by rw[hS.nat,hN];rfl
  obtain⟨R0,Ec⟩:=aq (W .i64 (List.replicate n 0));have k3:bR n [Tree.v (.int .i64 0)]=R0:=by rw[hS.rep,xk,Ec]
  apply nd k1;simp only[k2,k3];refine mV ai mixed hS (n:=n) (fun i (R:Abs.Rows)=>sv X n N E R (Int.ofNat i)) (fun i R=>R=W .i64 ((l.take i).map (nc 0 to)++List.replicate (n-i) 0)) (a0:=R0) (fy ?_ ?_) rfl (Nat.le_add_left 2 2) Ec ?_ ?_
  ·simp[dS,sv,ae,vi,vb]
  ·simp[dU,sv,ae]
  ·intro i R hi hR
   obtain⟨p,hp,gp,hr,fc,I4⟩:=fq (l:=l) (i:=i) (by omega);have kp:=hl p hp;have ck:=F0 p kp.1 kp.2;obtain⟨La,hLa⟩:=aq ((l.take i).map (nc 0 to)++List.replicate (n-i) 0);rw[<-hLa]at hR;have lLa:La.length=n:=by rw[hLa];simp;omega
   obtain⟨u,hu⟩:=aq (nc 0 to p);have Rf:La.set i u=(l.take (i+1)).map (nc 0 to)++List.replicate (n-(i+1)) 0:=by
    rw[fc,List.map_append,hLa,List.append_assoc,List.set_append_right _ _ (by simp;omega)];congr 1;rw[List.length_map,List.length_take,show i-min i l.length=0 by omega,show n-i=n-(i+1)+1 by omega,List.replicate_succ,List.set_cons_zero,hu];rfl
   obtain⟨R1,Lt⟩:=aq (W .i64 (La.set i (-1)));obtain⟨R2,mY⟩:=aq (W .i64 ((l.take (i+1)).map (nc 0 to)++List.replicate (n-(i+1)) 0));have r1:aL .i64 R i=true:=by rw[hS.gM,hR,kY];exact decide_eq_true (by omega)
   have r2:aL .i64 R1 i=true:=by rw[hS.gM,Lt,kY];exact decide_eq_true (by simp;omega)
   have s1:aR .i64 R i (-1)=R1:=by rw[hS.oW,hR,pC,Lt]
   have hfc:=xF kp (to:=to) (k:=0) ht;rw[<-hE,<-hu]at hfc;have l1:zV (Int.ofNat i) N=true:=by rw[hS.lt,hN];exact decide_eq_true (show(i:Int)<(n:Int) by omega)
   have i1:zD .i64 (zE (i:Int) 1)=(i:Int)+1:=by rw[hS.add,hS.wrap];exact wrap_i64 (by omega) (by omega)
   have j1:zu (Int.ofNat i)=i:=by rw[hS.nat];rfl
   have n0:zX 0 (Int.ofNat i)=true:=dT (hS.le ..) (show(0:Int)<=(i:Int) by omega);have n1:zy (Int.ofNat i) n=true:=by rw[hS.yC];exact decide_eq_true (show(0:Int)<=(i:Int)/\(i:Int)<(n:Int) by omega)
   have n2:bg 0 (Int.ofNat i)=i:=by rw[hS.idx];simp
   have j2:aB X i=some [.aa false (aP p)]:=by rw[hS.nth,hX];exact hr
   rcases hfc with⟨Ee,hf⟩|⟨j,_,hj,huj,hf⟩
   ·have QQ:R1=R2:=by rw[Lt,mY,<-Rf,hu,DH Ee]
    have Vc:aX E (.string (kS p))=some none:=by rw[hS.find];exact hf
    clear hf hu Rf;generalize kS p=sK,aP p=Z at *;cbv;apply bT l1;rw[j1,j2];cbv;refine nd n0 (nd n1 ?_);simp only[n2];apply nd r1;refine hS.cl ck ?_;cbv;rw[Vc];cbv;apply bF rfl;simp only[s1];refine aU [] R1 ?_ ?_ ?_ ?_ rfl (Nat.le_add_left 2 2) (QQ.trans mY)
    ·simp[bd,sv,ae,vi,AV.aw,AV.aJ,Cell.aw,ak,i1]
    ·simp[bf,sv,ae,Abs.look,ak,aA.aw,Cell.aw]
    ·simp[aF,sv,ae,ak]
    ·simp
   ·have Vc:aX E (.string (kS p))=some (some (.v (.int .i64 (Int.ofNat j)))):=by rw[hS.find];exact hf
    have s2:aR .i64 R1 i (Int.ofNat j)=R2:=by rw[hS.oW,Lt,pC,List.set_set,mY,<-Rf,huj];rfl
    clear hf hu Rf huj;generalize kS p=sK,aP p=Z at *;cbv;apply bT l1;rw[j1,j2];cbv;refine nd n0 (nd n1 ?_);simp only[n2];apply nd r1;refine hS.cl ck ?_;cbv;rw[Vc];cbv;apply bT rfl;simp only[s1,n2];refine nd n1 (nd r2 ?_);simp only[s2];refine aU [] R2 ?_ ?_ ?_ ?_ rfl (Nat.le_add_left 2 2) mY
    ·simp[bd,sv,ae,vi,AV.aw,AV.aJ,Cell.aw,ak,i1]
    ·simp[bf,sv,ae,Abs.look,ak,aA.aw,Cell.aw]
    ·simp[aF,sv,ae,ak]
    ·simp
  ·intro R hR
   rw[List.take_of_length_le (by omega),Nat.sub_self,List.replicate_zero,List.append_nil]at hR;have UE:zV (Int.ofNat n) N=false:=by rw[hS.lt,hN];exact decide_eq_false (show ¬(n:Int)<(n:Int) by omega)
   have f1:a9 0 n R=true:=by rw[hS.fit,hR,jr,List.length_map];exact decide_eq_true (by omega)
   have f2:aD R 0 n=R:=by rw[hS.part,List.drop_zero,List.take_of_length_le (by rw[hR,jr,List.length_map];omega)]
   rw[<-hR]at hF;cbv;refine bF UE (nd f1 ?_);rw[f2];exact aC hF
structure RN where
 s:Bool
 r:Abs.Rows
 t:Bool
 p:Abs.Rows
def RN.row (c:RN):List Tree:=[.v (.bool c.s),.aa false c.r,.v (.bool c.t),.aa false c.p]
structure jJ where
 P:Abs.Rows
 cn:Int
 cd:Int
 cr:Int
 O:Abs.Rows
 Lc:Abs.Rows
 S:Abs.Rows
 B:Abs.Rows
 eN:Int
 G:Abs.Rows
 eO:Abs.Rows
 Q:Abs.Rows
 Sx:Abs.Rows
 r0:Int
 r1:Int
 r2:Int
 r3:Int
 r4:Int
 r5:Int
 r6:Int
 r7:Int
 r8:Abs.Rows
 r9:Abs.Rows
 Ts:Abs.Rows
 Wu:Abs.Rows
 Wv:Abs.Rows
 Ww:Abs.Rows
 Wx:Abs.Rows
 Wy:Abs.Rows
 Yx:Abs.Rows
 At:Abs.Rows
 Sq:Abs.Rows
 X:Abs.Rows
 eB:Abs.Rows
def cT (k:Int) (q:jJ):List Tree:=[.v (.int .i64 k),.aa false q.P,.v (.int .i64 q.cn),.v (.int .i64 q.cd),.v (.int .i64 q.cr),.aa false q.O,.aa false q.Lc,.aa false q.S,.aa false q.B]
def fT (N:Int) (E D:Tree) (k:Int) (aG C:Tree) (q:jJ):List Tree:=[.v (.int .i64 N),E,D,.v (.int .i64 k),.aa false q.P,.v (.int .i64 q.cn),.v (.int .i64 q.cd),.v (.int .i64 q.cr),.aa false q.O,.aa false q.Lc,.aa false q.S,.aa false q.B,.v (.int .i64 q.eN),aG,.aa false q.G,.aa false q.eO,C,.aa false q.Q,.aa false q.Sx,.v (.int .i64 q.r0),.v (.int .i64 q.r1),.v (.int .i64 q.r2),.v (.int .i64 q.r3),.v (.int .i64 q.r4),.v (.int .i64 q.r5),.v (.int .i64 q.r6),.v (.int .i64 q.r7),.aa false q.r8,.aa false q.r9,.aa false q.Ts,.aa false q.Wu,.aa false q.Wv,.aa false q.Ww,.aa false q.Wx,.aa false q.Wy,.aa false q.Yx,.aa false q.At,.aa false q.Sq,.aa false q.X,.aa false q.eB]
def yW (k:Int):Bool:=k==2||k==4||k==5||k==6||k==7||k==8||k==11||k==13
theorem qQ (k:Int) (hk:1<=k/\k<=13) (q:jJ):aH 25 [.val (.agg (cT k q))] ⟨[.val (tb (yW k))],[none]⟩:=by
 rw[cT];obtain rfl|rfl|rfl|rfl|rfl|rfl|rfl|rfl|rfl|rfl|rfl|rfl|rfl:k=1∨k=2∨k=3∨k=4∨k=5∨k=6∨k=7∨k=8∨k=9∨k=10∨k=11∨k=12∨k=13:=by omega
 all_goals
  refine dE ai mixed [.val] Tryz.func25 rfl rfl (by kernel_rfl) ?_;intros;rename_i A L F hS hF;cbv;repeat (first|apply bT rfl|apply bF rfl|apply nd rfl)
  exact aC hF
def dL (l:fi):Abs.Rows:=l.map fun r=>[.aa false (aj r)]
theorem mD (l:fi):(dL l).length=l.length:=by simp[dL]
theorem H5 {l:fi} {i:Nat} (hi:i<l.length):∃p,p∈l/\l[i]?=some p/\(dL l)[i]?=some [.aa false (aj p)]/\l.take (i+1)=l.take i ++ [p]:=
 ⟨l[i],List.getElem_mem hi,List.getElem?_eq_getElem hi,by simp[dL,hi],by rw[List.take_add_one,List.getElem?_eq_getElem hi];rfl⟩
def F5 (aG:aS) (i:Nat):Bool:=decide (0<(aG.getD i []).length)
def KJ (k:Int) (aG:aS) (C:fi) (i:Nat):Bool:=if k=12 then C.any fun r=>F5 r i else F5 aG i
theorem PT (N:Int) (E D C:Tree) (k:Int) (hk:k≠12) (aG:aS) (hc:aG.length<=1000) (q:jJ) (i:Nat) (hi:i<aG.length) :
  aH 38 [.val (.agg (fT N E D k (.aa false (aj aG)) C q)),.val (ti .i64 (Int.ofNat i))] ⟨[.val (tb (F5 aG i))],[none,none]⟩:=by
 obtain⟨p,hp,gp,hr,_,_⟩:=fq (l:=aG) (i:=i) hi;obtain⟨X,hX⟩:=aq (aj aG);obtain⟨Z,hZ⟩:=aq (aP p);have lX:X.length=aG.length:=by rw[hX,lB]
 have lZ:Z.length=p.length:=by rw[hZ,pK]
 have hu:F5 aG i=decide (0<p.length):=by unfold F5;rw[List.getD_eq_getElem?_getD,gp];rfl
 obtain⟨u,yK⟩:=aq (F5 aG i);rw[<-yK,<-hX];rw[<-hX,<-hZ]at hr;refine an ai mixed [.val] Tryz.func38 rfl rfl (by kernel_rfl) ?_;intros;rename_i zU zV zX _ _ _ _ _ zu _ zz _ _ _ _ _ _ _ ab aB _ _ _ _ _ _ _ _ _ _ _ _ _ _ _ _ _ _ A L F hS hF;have z1:zU k 12=true:=dT (hS.ne ..) hk;have l1:zV (Int.ofNat i) (zz (ab X))=true:=by rw[hS.lt,hS.az,hS.len,lX];exact decide_eq_true (show(i:Int)<(aG.length:Int) by omega)
 have j1:zu (Int.ofNat i)=i:=by rw[hS.nat];rfl
 have n0:zX 0 (Int.ofNat i)=true:=dT (hS.le ..) (show(0:Int)<=(i:Int) by omega);have j2:aB X i=some [.aa false Z]:=by rw[hS.nth];exact hr
 have l3:zV 0 (zz (ab Z))=u:=by rw[hS.lt,hS.az,hS.len,lZ,yK,hu,decide_eq_decide];omega
 cbv;apply bT z1;apply bT l1;rw[j1,j2];cbv;apply nd n0;exact bc hF (jf l3)
def BP (p:List T2):Prop:=(∀t∈p,t.ok 100 1000)/\p.length<=100
theorem DI {p:List T2} (h:BP p):(GR p).length<=81402:=by
 unfold GR;rw[List.length_append];have h1:=yV (p.length:Int);have h2:(p.flatMap KG).length<=100*814:=Nat.le_trans (F2 (k:=100) fun x hx=>(h.1 x hx).c) (Nat.mul_le_mul h.2 (by omega));omega
theorem jK {α:Type} {f:α->Abs.Rows} {k:Nat}:∀ {l:List α},(∀x∈l,(f x).length<=k)->(l.flatMap f).length<=l.length*k
 | [],_=>by simp
 | x::l,h=>by
  rw[List.flatMap_cons,List.length_append,List.length_cons,Nat.succ_mul];have:=h x List.mem_cons_self;have:=jK fun y hy=>h y (List.mem_cons_of_mem _ hy)
  omega
def ui (X:Abs.Rows) (len:Nat) (B:Abs.Rows) (I:Int):St:=ae 24 [.c (.sl 2 0 len false),.c (.t (.aa false X)),.af,.af,.af,vi .i64 I] [none,none,some (.rows 1 B true false)]
def GS (l:aS):Abs.Rows:=nB l.length++l.flatMap GR
theorem uj (l:aS) (hp:∀p∈l,BP p) (hn:l.length<=20) (B:Abs.Rows) (hB:B.length<=600000000) :
  aH 50 [.own 1 B,.val (tl (aj l))] ⟨[.own 1 (B++GS l)],[none,none]⟩:=by
 have c0:=H3 (l.length:Int) (by omega) (by omega) B (by omega);obtain⟨X,hX⟩:=aq (aj l);obtain⟨n,fx⟩:=aq (l.length);have lX:X.length=n:=by rw[hX,lB,fx]
 obtain⟨N,hN⟩:=aq (l.length:Int);have UG:=yV N;unfold GS;rw[<-hN]at c0 ⊢;obtain⟨B1,fQ⟩:=aq (B++nB N);rw[<-fQ]at c0;rw[<-hX,show B++(nB N++l.flatMap GR)=B1++l.flatMap GR by rw[fQ,List.append_assoc]];have GQ:B1.length<=600000000+2:=by rw[fQ,List.length_append];omega
 obtain⟨l1,oT⟩:=aq (B1.length);refine an ai mixed [.own 1] Tryz.func50 rfl rfl (by kernel_rfl) fun zD _ _ _ _ _ _ _ _ _ _ _ _ _ _ _ _ _ _ _ _ _ _ zz _ ay _ _ _ _ _ ab aB _ _ _ _ _ _ _ _ _ _ _ _ _ _ _ _ _ _ A L F hS hF=>?_
 have hz:ay (ab B) (ab B)=true:=by rw[hS.neq];exact decide_eq_true rfl
 have Cu:ab B1=l1:=by rw[hS.len,oT]
 have ec:zD .u64 (zz (ab X))=N:=by rw[hS.az,hS.len,lX,hS.wrap,eS (by omega) (by omega),hN,fx]
 have lE:=hS.fh lX;cbv;apply nd hz;simp only[ec];refine hS.cl c0 ?_;cbv;simp only[Cu];refine fX ai mixed hS (n:=n) (fun i (z:Nat×Abs.Rows)=>ui X z.1 z.2 (Int.ofNat i)) (fun i z=>z.1=z.2.length/\z.2=B1++(l.take i).flatMap GR) (a0:=(l1,B1)) (fy ?_ ?_) rfl (by show 2<=3;omega) ⟨oT,by simp⟩ ?_ ?_
 ·simp[dS,ui,ae,vi,vb]
 ·simp[dU,ui,ae]
 ·rintro i ⟨l2,B2⟩ hi ⟨fM,dW⟩
  simp only at fM dW;obtain⟨c1,i1,j1,n0⟩:=hS.ic lX hi (by omega);obtain⟨p,hpm,gp,hr,fc⟩:∃p,p∈l/\l[i]?=some p/\(aj l)[i]?=some [.aa false (aP p)]/\l.take (i+1)=l.take i ++ [p]:=by obtain⟨p,a,b,c,d,_⟩:=fq (l:=l) (i:=i) (by omega);exact⟨p,a,b,c,d⟩
  have hlen:((l.take i).flatMap GR).length<=20*81402:=Nat.le_trans (jK (k:=81402) fun x hx=>DI (hp x (List.mem_of_mem_take hx))) (Nat.mul_le_mul (by rw[List.length_take];omega) (by omega));have cq:=uW p (hp p hpm).1 (hp p hpm).2 B2 (by rw[dW,List.length_append];omega);obtain⟨B3,sn⟩:=aq (B2++GR p);rw[<-sn]at cq;obtain⟨l3,Ou⟩:=aq (B3.length);have F3:l3=B3.length/\B3=B1++(l.take (i+1)).flatMap GR:=⟨Ou,by rw[fc,sn,dW,List.flatMap_append];simp⟩
  have j2:aB X i=some [.aa false (aP p)]:=by rw[hS.nth,hX];exact hr
  have y2:ay l2 (ab B2)=true:=by rw[hS.neq,hS.len];exact decide_eq_true fM
  have zL:ab B3=l3:=by rw[hS.len,Ou]
  generalize aP p=Z at *;clear sn dW fc Ou hr;refine⟨?_⟩;cbv;apply bT c1;rw[j1,j2];cbv;refine nd n0 (nd y2 ?_);refine hS.cl cq ?_;cbv;simp only[zL];refine aU [(2,3)] (l3,B3) ?_ ?_ ?_ ?_ rfl (by show 2<=3;omega) F3
  ·simp[bd,ui,ae,vi,vb,AV.aw,AV.aJ,Cell.aw,ak,i1]
  ·simp[bf,ui,ae,Abs.look,ak,aA.aw,Cell.aw]
  ·simp[aF,ui,ae,ak]
  ·simp
 ·rintro⟨l2,B2⟩ ⟨fM,dW⟩
  simp only at fM dW;rw[List.take_of_length_le (by omega)]at dW;have u9:ay l2 (ab B2)=true:=by rw[hS.len,hS.neq,fM];exact decide_eq_true rfl
  rw[<-dW]at hF;refine⟨?_⟩;cbv;refine bF lE (nd u9 ?_);exact aC hF
def BL (l:aS):Prop:=(∀p∈l,BP p)/\l.length<=20
theorem Je {l:aS} (h:BL l):(GS l).length<=1628042:=by
 unfold GS;rw[List.length_append];have h1:=yV (l.length:Int);have h2:(l.flatMap GR).length<=20*81402:=Nat.le_trans (jK (k:=81402) fun x hx=>DI (h.1 x hx)) (Nat.mul_le_mul h.2 (by omega));omega
def Tt (l:fi):Abs.Rows:=nB l.length++l.flatMap GS
def Bt (X:Abs.Rows) (d I:Int):St:=ae 20 [.c (.t (.aa false X)),.af,vi .u8 0,vi .u8 d,vi .i64 I] [none]
theorem KK (l:List T2) (hn:l.length<=1000):aH 140 [.val (tl (aP l))] ⟨[.val (ti .u8 (vj l))],[none]⟩:=by
 obtain⟨X,hX⟩:=aq (aP l);obtain⟨n,fx⟩:=aq (l.length);have lX:X.length=n:=by rw[hX,pK,fx]
 rw[<-hX];refine an ai mixed [.val] Tryz.func140 rfl rfl (by kernel_rfl) fun _ _ _ _ _ _ _ _ _ zO _ _ _ _ _ _ _ _ _ _ _ _ _ _ _ _ _ _ _ _ _ _ aB _ _ _ _ _ _ _ _ _ _ _ _ _ _ _ _ _ _ A L F hS hF=>?_
 have lE:=hS.fh lX;cbv;refine mV ai mixed hS (n:=n) (fun i (d:Int)=>Bt X d (Int.ofNat i)) (fun i d=>d=vj (l.take i)) (a0:=0) (fy ?_ ?_) rfl (Nat.le_refl 1) rfl ?_ ?_
 ·simp[dS,Bt,ae,vi,vb]
 ·simp[dU,Bt,ae]
 ·intro i d hi hd
  obtain⟨l1,i1,j1,n0⟩:=hS.ic lX hi (by omega);obtain⟨t,s,v,r,p,ht,_,_,hr,_,fc,_⟩:=ig (l:=l) (i:=i) (by omega);have j2:aB X i=some (na s r v p t.a t.b):=by rw[hS.nth,hX];exact hr
  have cd:=Kg t.a t.b;have Q7:zO .u8 d (ve t.a t.b)=vj (l.take (i+1)):=by rw[hS.fu,hd,fc];unfold vj;rw[List.foldl_append];rfl
  obtain⟨u,hu⟩:=aq (ve t.a t.b);obtain⟨d2,Wq⟩:=aq (vj (l.take (i+1)));rw[<-hu]at cd Q7;rw[<-Wq]at Q7;unfold m2 at cd;cbv;apply bT l1;rw[j1,j2];cbv;apply nd n0;refine hS.cl cd ?_;cbv;refine aU [] d2 ?_ ?_ ?_ ?_ rfl (Nat.le_refl 1) Wq
  ·simp[bd,Bt,ae,vi,AV.aw,AV.aJ,Cell.aw,i1,Q7]
  ·simp[bf,Bt,ae]
  ·simp[aF,Bt,ae]
  ·simp
 ·intro d hd
  cbv;apply bF lE;refine bc hF (kx ?_);rw[hd,fx,List.take_length]
theorem PU (l:List T2):0<=vj l/\vj l<=3:=by
 unfold vj
 suffices h:∀(l:List T2) (d:Int),(d=0∨d=1∨d=2∨d=3)->0<=l.foldl (fun d t=>IntKind.wrap .u8 ((BitVec.ofInt 8 d ||| BitVec.ofInt 8 (ve t.a t.b)).toNat)) d/\l.foldl (fun d t=>IntKind.wrap .u8 ((BitVec.ofInt 8 d ||| BitVec.ofInt 8 (ve t.a t.b)).toNat)) d<=3 from h l 0 (Or.inl rfl)
 intro l
 induction l with
 | nil=>intro d h;simp only[List.foldl_nil];omega
 | cons t l ih=>
  intro d h;rw[List.foldl_cons];apply ih;have hs:ve t.a t.b=0∨ve t.a t.b=1∨ve t.a t.b=2∨ve t.a t.b=3:=by
   unfold ve
   by_cases h1:0<t.a<;>by_cases h2:0<t.b<;>simp[h1,h2]
  rcases h with rfl|rfl|rfl|rfl<;>rcases hs with hs|hs|hs|hs<;>rw[hs]<;>decide
structure VP (p:List T2) (d:Int):Prop where
 ok:∀t∈p,t.ok 100 1000
 len:p.length<=100
 vd:Vd p
 Wz:ju p<=d
theorem VP.mono {p:List T2} {d e:Int} (h:VP p d) (hd:d<=e):VP p e:=⟨h.ok,h.len,h.vd,by have:=h.Wz;omega⟩
theorem VP.bp {p:List T2} {d:Int} (h:VP p d):BP p:=⟨h.ok,h.len⟩
theorem VP.tY {p:List T2} {d:Int} (h:VP p d):∀t∈p,t.ok 1000 30000:=fun t ht=>(h.ok t ht).mono (by omega) (by omega)
theorem gY (p:List T2) (n d:Int) (hn:1<=n/\n<=4) (hd:VP p d) :
  aH 109 [.val (tl (aP p)),.val (ti .i64 n),.val (ti .i64 d)] ⟨[.val (tb (decide (2<=n∨vj p<2)))],[none,none,none]⟩:=by
 have c1:=DC p hd.tY hd.vd (by have:=hd.len;omega);have c2:=KK p (by have:=hd.len;omega);have c3:=qO p hd.tY (by have:=hd.len;omega);have hu:=PU p;generalize vj p=u at *;have Yy:=hd.Wz;generalize ju p=e,aP p=X at *;generalize Cz:decide (2<=n∨u<2)=bb;refine an ai mixed [.val] Tryz.func109 rfl rfl (by kernel_rfl) fun zD _ _ _ _ _ zK _ _ _ _ _ _ _ zV zX _ _ _ _ _ _ _ _ _ _ _ _ _ _ _ _ _ _ _ _ _ _ _ _ _ _ _ _ _ _ _ _ _ _ _ A L F hS hF=>?_
 have wn:zD .u64 n=n:=by rw[hS.wrap];exact eS (by omega) (by omega)
 have wu:zD .i64 u=u:=by rw[hS.wrap];exact wrap_i64 (by omega) (by omega)
 have n0:zX 0 n=true:=dT (hS.le ..) (by omega);have zs:zV u (zK .i64 1 n)=bb:=by
  rw[<-Cz,hS.lt,hS.shl,decide_eq_decide];obtain rfl|rfl|rfl|rfl:n=1∨n=2∨n=3∨n=4:=by omega
  ·rw[show IntKind.wrap .i64 ((1:Int)*2^(Min.min (1:Int).toNat (IntKind.i64).bits))=2 by decide];omega
  ·rw[show IntKind.wrap .i64 ((1:Int)*2^(Min.min (2:Int).toNat (IntKind.i64).bits))=4 by decide];omega
  ·rw[show IntKind.wrap .i64 ((1:Int)*2^(Min.min (3:Int).toNat (IntKind.i64).bits))=8 by decide];omega
  ·rw[show IntKind.wrap .i64 ((1:Int)*2^(Min.min (4:Int).toNat (IntKind.i64).bits))=16 by decide];omega
 have zd:zX e d=true:=dT (hS.le ..) Yy;cbv;refine hS.cl c1 ?_;cbv;apply bT rfl;refine hS.cl c2 ?_;cbv;simp only[wn,wu];apply nd n0;clear Cz;cases bb with
 | true=>
  apply bT zs;refine hS.cl c3 ?_;cbv;exact bc hF (jf zd)
 | false=>
  apply bF zs;exact aC hF
theorem DJ {x:Rat} {s v:Bool} {r p:Abs.Rows} (h:(qc x).row=[.v (.bool s),.aa false r,.v (.bool v),.aa false p]):xq x s r v p:=by
 have h2:=fP x;have e:(qc x).row=[.v (.bool (qc x).s),.aa false (W .u32 (qc x).l),.v (.bool (qc x).t),.aa false (W .u32 (qc x).m)]:=rfl;rw[e]at h;simp only[List.cons.injEq,Tree.v.injEq,Value.bool.injEq,Tree.aa.injEq]at h;obtain⟨h1,⟨_,h3⟩,h4,⟨_,h5⟩,_⟩:=h;rw[h1,h3,h4,h5]at h2;exact h2
theorem Jf {z:Int} (h:z.natAbs<=1000000):nl z.natAbs<=274877906944:=by
 have:=(Qs.whole (n:=z) (k:=1) (by omega) (Nat.le_refl 1)).1;rw[Rat.num_intCast]at this;omega
theorem DK {l:List T2} (hl:l≠[]) (hz:Zs l) (hv:Vd l):Qs (DA l) 1/\lh l<=1000000:=by
 have Fv:=lj hl hz hv;have hg:lh l<=1000000:=by
  cases l with
  | nil=>exact absurd rfl hl
  | cons t l=>
   have h1:=(nY (t::l) 0).2 t List.mem_cons_self;have h2:t.c.num.natAbs≠0:=fun e=>hv.1 t List.mem_cons_self (Rat.num_eq_zero.1 (by omega))
   exact Nat.le_trans (Nat.le_of_dvd (by omega) h1) (hz t List.mem_cons_self).2
 refine⟨?_,hg⟩;have hq:Qs (((lh l:Nat):Int):Rat) 1:=Qs.whole (by omega) (Nat.le_refl 1);have hi:Qs (Rat.divInt 1 (lh l)) 1:=by
  rw[Rat.divInt_eq_div];have:((1:Int):Rat)/(((lh l:Nat):Int):Rat)=(((lh l:Nat):Int):Rat)⁻¹:=by rw[Rat.div_def];exact Rat.one_mul _
  rw[this];refine Bf ?_ hq;intro h;have:=Rat.intCast_inj.1 (show(((lh l:Nat):Int):Rat)=((0:Int):Rat) from h);omega
 unfold DA;split
 ·rw[show(-1:Rat)*Rat.divInt 1 (lh l)=-(Rat.divInt 1 (lh l)) by rw[Rat.neg_mul,Rat.one_mul]]
  exact hi.neg
 ·rw[Rat.one_mul];exact hi
def Bu (X:Abs.Rows) (s:Bool) (r:Abs.Rows) (s0:Bool) (r0:Abs.Rows) (I:Int):St:=ae 101 [.c (.t (.aa false X)),.af,.af,.c (.ptr 5 0 0),.c (.ptr 6 0 0),vi .i64 I] [none,none,none,none,none,some (.var [.t (.v (.bool s)),.t (.aa false r)]),some (.var [.t (.v (.bool s0)),.t (.aa false r0)])]
def Bv (X:Abs.Rows) (s:Bool) (r:Abs.Rows) (z:Bool×Abs.Rows) (I:Int):St:=ae 101 [.c (.t (.aa false X)),.af,.af,.c (.ptr 5 0 0),.c (.ptr 6 0 0),.af,.af,.af,.af,vi .i64 I] [none,none,none,none,none,some (.var [.t (.v (.bool s)),.t (.aa false r)]),some (.var [.t (.v (.bool z.1)),.t (.aa false z.2)])]
theorem sw (l:List T2) (hz:Zs l) (hv:Vd l) (ho:∀t∈l,t.ok 100 1000) (hn:l.length<=100) :
  aH 57 [.val (tl (aP l))] ⟨[.val (tl (aP (jP l)))],[none]⟩:=by
 by_cases hl:l=[]
 ·subst hl
  obtain⟨X,hX⟩:=aq (aP []);have hX0:X=[]:=hX;have hE:aP (jP [])=[]:=by simp[jP,aP]
  rw[hE,<-hX];refine an ai mixed [.val] Tryz.func57 rfl rfl (by kernel_rfl) ?_;intros;rename_i zT _ zV zX _ _ _ _ _ zu _ zz _ _ _ _ _ _ _ ab aB _ _ _ _ _ _ _ _ _ _ _ _ _ _ _ _ _ _ A L F hS hF;have z0:zT (zz (ab X)) 0=true:=by rw[hS.eq,hS.az,hS.len,hX0];rfl
  obtain⟨u1,u2⟩:=hS.whole (r:=[]) (len:=0) rfl;cbv;apply bT z0;simp only[u2];apply nd u1;exact aC hF
 obtain⟨X,hX⟩:=aq (aP l);obtain⟨n,fx⟩:=aq (l.length);have lX:X.length=n:=by rw[hX,pK,fx]
 have JH:0<n:=by rw[fx];exact List.length_pos_iff.2 hl
 obtain⟨s1,r1,h1,k1⟩:=fY 1 (by decide) (by decide);obtain⟨s0,r0,h0,k0⟩:=fY 0 (by decide) (by decide);have hnE:jP l=bM (DA l) 0 0 l:=by unfold jP;rw[if_neg hl]
 obtain⟨g,hg⟩:=aq (lh l);have Fv:0<g:=by rw[hg];exact lj hl hz hv
 have Ys:g<=1000000:=by rw[hg];exact(DK hl hz hv).2
 have ct:=mB (DA l) 0 0 l (n:=1000) ((DK hl hz hv).1.mono (by omega)) (by omega) (by omega) (fun t ht=>(ho t ht).mono (by omega) (by omega)) (by omega) (by omega);rw[hnE];rw[<-hX]at ct ⊢;generalize afJ:aP (bM (DA l) 0 0 l)=Y at *;unfold m2 at ct;have WA:∀t∈l,∀ {v:Bool} {q:Abs.Rows},eZ (t.c.den:Int) v q->eZ 1 v q:=fun t ht v q h=>by rw[(hz t ht).1]at h;exact h
 refine an ai mixed [.val] Tryz.func57 rfl rfl (by kernel_rfl) ?_;intros;rename_i zT _ zV zX _ _ _ _ _ zu _ zz _ _ _ _ _ _ _ ab aB _ _ _ _ _ _ _ _ _ _ _ _ _ _ _ _ _ _ A L F hS hF;have z0:zT (zz (ab X)) 0=false:=by rw[hS.eq,hS.az,hS.len,lX];exact decide_eq_false (by omega)
 have lE:=hS.fh lX;cbv;apply bF z0;refine hS.cl k1 ?_;cbv;refine hS.cl k0 ?_;cbv;refine fX ai mixed hS (n:=n) (fun i (z:Bool×Abs.Rows)=>Bu X z.1 z.2 s0 r0 (Int.ofNat i)) (fun i z=>eZ 1 z.1 z.2) (a0:=(s1,r1)) (fy ?_ ?_) rfl (by show 1<=7;omega) h1 ?_ ?_
 ·simp[dS,Bu,ae,vi,vb]
 ·simp[dU,Bu,ae]
 ·rintro i ⟨sd,rd⟩ hi hR
  simp only at hR;obtain⟨c1,i1,j1,n0⟩:=hS.ic lX hi (by omega);obtain⟨t,s,v,r,q,ht,gt,hq,hr,_,_,_⟩:=ig (l:=l) (i:=i) (by omega);have j2:aB X i=some (na s r v q t.a t.b):=by rw[hS.nth,hX];exact hr
  have hd:=WA t ht (DJ hq).d;obtain⟨w,hw,cg⟩:=oI hR hd (Jf (by decide)) (Jf (by decide));obtain⟨u2,w2,p2,yK,_,cd⟩:=ml hd hw (by decide) (Jf (by decide)) (Jf (by decide));obtain⟨u3,w3,UH,cm⟩:=Kk hR yK (Nat.le_trans (Jf (by decide)) (by omega)) (Nat.le_trans (Jf (by decide)) (by omega));have mY:eZ 1 (u3,w3).1 (u3,w3).2:=UH;generalize t.a=a,t.b=b at *;unfold iT at cg cd cm
  clear hq hr hw yK hd;refine⟨?_⟩;cbv;apply bT c1;simp only[j1,j2];cbv;apply nd n0;simp only[j1,j2];cbv;apply nd n0;refine hS.cl cg ?_;cbv;refine hS.cl cd ?_;cbv;refine hS.cl cm ?_;cbv;refine aU [(5,5),(6,6)] (u3,w3) ?_ ?_ ?_ ?_ rfl (by show 1<=7;omega) mY
  ·simp[bd,Bu,ae,vi,vb,AV.aw,AV.aJ,Cell.aw,ak]
   exact i1
  ·simp[bf,Bu,ae,Abs.look,ak,aA.aw,Cell.aw]
  ·simp[aF,Bu,ae,ak]
  ·simp
 ·rintro⟨sd,rd⟩ hR
  simp only at hR;refine⟨?_⟩;cbv;apply bF lE;refine fX ai mixed hS (n:=n) (fun i (z:Bool×Abs.Rows)=>Bv X sd rd z (Int.ofNat i)) (fun i z=>eZ (((l.take i).foldl (fun g t=>Nat.gcd g t.c.num.natAbs) 0:Nat):Int) z.1 z.2) (a0:=(s0,r0)) (fy ?_ ?_) rfl (by show 1<=7;omega) (by simpa using h0) ?_ ?_
  ·simp[dS,Bv,ae,vi,vb]
  ·simp[dU,Bv,ae]
  ·rintro i ⟨sm,rm⟩ hi hM
   simp only at hM;obtain⟨c1,i1,j1,n0⟩:=hS.ic lX hi (by omega);obtain⟨t,s,v,r,q,ht,gt,hq,hr,_,fc,_⟩:=ig (l:=l) (i:=i) (by omega);have j2:aB X i=some (na s r v q t.a t.b):=by rw[hS.nth,hX];exact hr
   have hd:=WA t ht (DJ hq).d;have Ee:=(DJ hq).n;obtain⟨gi,Ls⟩:=aq ((l.take i).foldl (fun g t=>Nat.gcd g t.c.num.natAbs) 0);rw[<-Ls]at hM;have WB:(l.take (i+1)).foldl (fun g t=>Nat.gcd g t.c.num.natAbs) 0=Nat.gcd gi t.c.num.natAbs:=by rw[fc,List.foldl_append,Ls];rfl
   have I3:gi<=1000000:=by
    rw[Ls]
    by_cases h:l.take i=[]
    ·rw[h];exact Nat.zero_le _
    ·exact(DK h (fun t ht=>hz t (List.mem_of_mem_take ht)) ⟨fun t ht=>hv.1 t (List.mem_of_mem_take ht),hv.2.sublist (List.take_sublist _ _)⟩).2
   obtain⟨u2,w2,p2,yK,_,cd⟩:=ml hR hd (by decide) (Jf (by decide)) (Jf (by decide));obtain⟨u3,w3,UH,cm⟩:=Kk Ee yK (Nat.le_trans (Jf (hz t ht).2) (by omega)) (Nat.le_trans (Jf (by decide)) (by omega));obtain⟨w,hw,cg⟩:=oI hM UH (Jf (by omega)) (Jf (by rw[show(1:Int)/1=1 from rfl,Int.mul_one];exact(hz t ht).2));have mY:eZ (((l.take (i+1)).foldl (fun g t=>Nat.gcd g t.c.num.natAbs) 0:Nat):Int) (false,w).1 (false,w).2:=by
    rw[WB];have e:Int.gcd (gi:Int) (t.c.num*(1/1))=Nat.gcd gi t.c.num.natAbs:=by rw[show(1:Int)/1=1 from rfl,Int.mul_one];rfl
    rw[e]at hw;exact hw
   generalize t.a=a,t.b=b at *;unfold iT at cg cd cm;clear hq hr hw yK hd hM UH Ee Ls WB fc;refine⟨?_⟩;cbv;apply bT c1;simp only[j1,j2];cbv;apply nd n0;refine hS.cl cd ?_;cbv;simp only[j1,j2];cbv;apply nd n0;refine hS.cl cm ?_;cbv;refine hS.cl cg ?_;cbv;refine aU [(5,5),(6,6)] (false,w) ?_ ?_ ?_ ?_ rfl (by show 1<=7;omega) mY
   ·simp[bd,Bv,ae,vi,vb,AV.aw,AV.aJ,Cell.aw,ak]
    exact i1
   ·simp[bf,Bv,ae,Abs.look,ak,aA.aw,Cell.aw]
   ·simp[aF,Bv,ae,ak]
   ·simp
  ·rintro⟨sm,rm⟩ hM
   simp only at hM;rw[List.take_of_length_le (by omega)]at hM;have hM:eZ (g:Int) sm rm:=by rw[hg];exact hM
   obtain⟨u,w,v,p,hc,cn⟩:=HQ hR hM (by omega) (Jf (by decide)) (Jf (by omega));obtain⟨t,s,v',r,q,ht,gt,hq,hr,_,_,_⟩:=ig (l:=l) (i:=0) (by omega);have Yz:l.headD ⟨0,0,0⟩=t:=by cases l with|nil=>exact absurd rfl hl|cons x l=>simpa using gt
   have j2:aB X 0=some (na s r v' q t.a t.b):=by rw[hS.nth,hX];exact hr
   have j1:zu 0=0:=by rw[hS.nat];rfl
   have n0:zX 0 0=true:=by rw[hS.le];rfl
   have cs:=ug t.c;rw[hq]at cs;obtain⟨C,hC⟩:=aq (bH t.c.num 0);rw[<-hC]at cs;have Tf:C<0↔t.c<0:=by
    have HE:t.c<0↔t.c.num<0:=by rw[<-Rat.not_le,<-Rat.num_nonneg];omega
    rw[HE,hC];unfold bH
    by_cases h:t.c.num<0
    ·rw[if_pos h];exact⟨fun _=>h,fun _=>by decide⟩
    ·rw[if_neg h]
     refine⟨fun h2=>?_,fun h2=>absurd h2 h⟩;split at h2<;>omega
   unfold iT at cn
   by_cases Dq:t.c<0
   ·have zC:zV C 0=true:=dT (hS.lt ..) (Tf.2 Dq)
    have hx:DA l=-(Rat.divInt 1 g):=by unfold DA;rw[Yz,if_pos Dq,hg,Rat.neg_mul,Rat.one_mul]
    have Wa:Qs (Rat.divInt 1 g) 1:=by have:=(DK hl hz hv).1;rw[hx]at this;have:=this.neg;rwa[Rat.neg_neg]at this
    obtain⟨u',w',LW,cng⟩:=HM hc (Wa.mono (by omega));rw[hx,<-tZ LW]at ct;unfold iT at cng ct;generalize t.a=a,t.b=b at *;clear hq hr Yz gt hc LW hM;refine⟨?_⟩;cbv;apply bF lE;refine hS.cl cn ?_;cbv;simp only[j1,j2];cbv;apply nd n0;refine hS.cl cs ?_;cbv;apply bT zC;refine hS.cl cng ?_;cbv;refine hS.cl ct ?_;cbv;exact aC hF
   ·have zC:zV C 0=false:=dF (hS.lt ..) fun h=>Dq (Tf.1 h)
    have hx:DA l=Rat.divInt 1 g:=by unfold DA;rw[Yz,if_neg Dq,hg,Rat.one_mul]
    rw[hx,<-tZ hc]at ct;unfold iT at ct;generalize t.a=a,t.b=b at *;clear hq hr Yz gt hc hM;refine⟨?_⟩;cbv;apply bF lE;refine hS.cl cn ?_;cbv;simp only[j1,j2];cbv;apply nd n0;refine hS.cl cs ?_;cbv;apply bF zC;refine hS.cl ct ?_;cbv;exact aC hF
def Bw (X:Abs.Rows) (n I:Int):St:=ae 19 [.c (.t (.aa false X)),vi .i64 n,.af,.af,vb false,vi .i64 I] [none,none]
theorem jL (l:aS) (n:Int) (hn:2<=n/\n<=4) (hl:∀p∈l,VP p 64) (hk:l.length<=1000) :
  aH 83 [.val (tl (aj l)),.val (ti .i64 n)] ⟨[.val (tb true)],[none,none]⟩:=by
 obtain⟨X,hX⟩:=aq (aj l);obtain⟨k,tw⟩:=aq (l.length);have lX:X.length=k:=by rw[hX,lB,tw]
 rw[<-hX];refine an ai mixed [.val] Tryz.func83 rfl rfl (by kernel_rfl) ?_;intros;rename_i zY _ _ _ _ _ _ _ _ _ _ _ _ _ _ _ aB _ _ _ _ _ _ _ _ _ _ _ _ _ _ _ _ _ _ A L F hS hF;have lE:=hS.fh lX;have y:zY true=false:=by rw[hS.not];rfl
 cbv;refine fX ai mixed hS (n:=k) (fun i (_:Unit)=>Bw X n (Int.ofNat i)) (fun i _=>True) (a0:=()) (fy ?_ ?_) rfl (by show 2<=2;omega) trivial ?_ ?_
 ·simp[dS,Bw,ae,vi,vb]
 ·simp[dU,Bw,ae]
 ·rintro i ⟨⟩ hi -
  obtain⟨c1,i1,j1,n0⟩:=hS.ic lX hi (by omega);obtain⟨p,hp,gp,hr,_,_⟩:=fq (l:=l) (i:=i) (by omega);have j2:aB X i=some [.aa false (aP p)]:=by rw[hS.nth,hX];exact hr
  have cw:=gY p n 64 (by omega) (hl p hp);rw[decide_eq_true (Or.inl hn.1)]at cw;generalize aP p=Z at *;refine⟨?_⟩;cbv;apply bT c1;simp only[j1,j2];cbv;apply nd n0;refine hS.cl cw ?_;cbv;apply bF y;refine aU [] () ?_ ?_ ?_ ?_ rfl (by show 2<=2;omega) trivial
  ·simp[bd,Bw,ae,vi,vb,AV.aw,AV.aJ,Cell.aw]
   exact i1
  ·simp[bf,Bw,ae]
  ·simp[aF,Bw,ae]
  ·simp
 ·rintro⟨⟩ -
  refine⟨?_⟩;cbv;apply bF lE;exact aC hF
structure CP (p:List T2):Prop where
 vp:VP p 12
 int:∀t∈p,t.int
 ne:p≠[]
 nm:Nm p
theorem CP.zs {p:List T2} (h:CP p):Zs p:=fun t ht=>⟨(h.int t ht).d,by have:=(h.int t ht).n.2;omega⟩
def sA (X:Abs.Rows) (n I:Int):St:=ae 60 [.c (.t (.aa false X)),vi .i64 n,.af,.af,vb false,vi .i64 I] [none,none]
def Ei (n:Int) (p:List T2):Bool:=decide (2<=n∨vj p<2)
theorem sB (l:aS) (n:Int) (hn:1<=n/\n<=4) (hl:∀p∈l,CP p) (hs:mW l) (hk:l.length<=12) :
  aH 74 [.val (tl (aj l)),.val (ti .i64 n)] ⟨[.val (tb (l.all (Ei n)))],[none,none]⟩:=by
 obtain⟨X,hX⟩:=aq (aj l);obtain⟨k,tw⟩:=aq (l.length);have lX:X.length=k:=by rw[hX,lB,tw]
 obtain⟨bb,Cz⟩:=aq (l.all (Ei n));rw[<-hX,<-Cz];refine an ai mixed [.val] Tryz.func74 rfl rfl (by kernel_rfl) fun zD _ zG _ _ _ _ _ _ _ _ _ zT _ zV zX zY _ _ _ _ zu _ zz _ _ _ _ _ _ _ ab aB _ _ _ _ _ _ _ _ _ _ _ _ _ _ _ _ _ _ A L F hS hF=>?_
 have lE:=hS.fh lX;have y:zY true=false:=by rw[hS.not];rfl
 have l12:zV 12 (zz (ab X))=false:=by rw[hS.lt,hS.az,hS.len,lX];exact decide_eq_false (by omega)
 cbv;apply bF l12;refine fX ai mixed hS (n:=k) (fun i (_:Unit)=>sA X n (Int.ofNat i)) (fun i _=>(l.take i).all (Ei n)=true) (a0:=()) (fy ?_ ?_) rfl (by show 2<=2;omega) (by simp) ?_ ?_
 ·simp[dS,sA,ae,vi,vb]
 ·simp[dU,sA,ae]
 ·rintro i ⟨⟩ hi hR
  obtain⟨c1,i1,j1,n0⟩:=hS.ic lX hi (by omega);obtain⟨p,hp,gp,hr,fc,_⟩:=fq (l:=l) (i:=i) (by omega);have j2:aB X i=some [.aa false (aP p)]:=by rw[hS.nth,hX];exact hr
  have cw:=gY p n 12 (by omega) (hl p hp).vp;have cn:=sw p (hl p hp).zs (hl p hp).vp.vd (hl p hp).vp.ok (hl p hp).vp.len;have cs:=nX (jP p) p (by rw[HU (hl p hp).nm];exact(hl p hp).vp.tY) (by rw[HU (hl p hp).nm];have:=(hl p hp).vp.len;omega) (by have:=(hl p hp).vp.len;omega);rw[HU (hl p hp).nm]at cn cs;rw[decide_eq_true rfl]at cs;have hz:zT (zz (ab (aP p))) 0=false:=by rw[hS.eq,hS.az,hS.len,pK];exact decide_eq_false (by have:=List.length_pos_iff.2 (hl p hp).ne;omega)
  obtain⟨b1,mZ⟩:=aq (Ei n p);rw[show decide (2<=n∨vj p<2)=b1 from mZ.symm]at cw;have mY:b1=true->(l.take (i+1)).all (Ei n)=true:=fun h=>by rw[fc,List.all_append,hR];simp[<-mZ,h]
  have I8:b1=false->bb=false:=fun h=>by
   rw[Cz,<-Bool.not_eq_true,List.all_eq_true];intro jA;have:=jA p hp;rw[<-mZ,h]at this;exact absurd this (by decide)
  cases b1 with
  | false=>
   have hb:=I8 rfl;have y2:zY false=true:=by rw[hS.not];rfl
   subst hb;generalize aP p=Z at *;refine⟨?_⟩;cbv;apply bT c1;simp only[j1,j2];cbv;apply nd n0;refine hS.cl cw ?_;cbv;apply bT y2;exact aC hF
  | true=>
   have QQ:=mY rfl;cases i with
   | zero=>
    have z0:zV 0 (Int.ofNat 0)=false:=by rw[hS.lt];rfl
    generalize aP p=Z at *;refine⟨?_⟩;cbv;apply bT c1;simp only[j1,j2];cbv;apply nd n0;refine hS.cl cw ?_;cbv;apply bF y;simp only[j1,j2];cbv;apply nd n0;apply bF hz;simp only[j1,j2];cbv;apply nd n0;refine hS.cl cn ?_;cbv;simp only[j1,j2];cbv;apply nd n0;refine hS.cl cs ?_;cbv;apply bF y;apply bF z0;refine aU [] () ?_ ?_ ?_ ?_ rfl (by show 2<=2;omega) QQ
    ·simp[bd,sA,ae,vi,vb,AV.aw,AV.aJ,Cell.aw]
     exact i1
    ·simp[bf,sA,ae]
    ·simp[aF,sA,ae]
    ·simp
   | succ i=>
    obtain⟨q,hq,gq,vx,_,_⟩:=fq (l:=l) (i:=i) (by omega);have j4:aB X i=some [.aa false (aP q)]:=by rw[hS.nth,hX];exact vx
    have z0:zV 0 (Int.ofNat (i+1))=true:=dT (hS.lt ..) (show(0:Int)<((i+1:Nat):Int) by omega);have w1:zD .i64 (zG (Int.ofNat (i+1)) 1)=(i:Int):=by rw[hS.sub,hS.wrap];exact(wrap_i64 (by show -9223372036854775808<=((i+1:Nat):Int)-1;omega) (by show((i+1:Nat):Int)-1<9223372036854775808;omega)).trans (by show((i+1:Nat):Int)-1=i;omega)
    have j3:zu (i:Int)=i:=by rw[hS.nat];rfl
    have n3:zX 0 (i:Int)=true:=dT (hS.le ..) (show(0:Int)<=(i:Int) by omega);have hc:iZ q p<0:=by
     unfold mW at hs;rw[List.pairwise_iff_getElem]at hs;have h1:l[i]'(by omega)=q:=by have:=gq;rw[List.getElem?_eq_getElem (by omega)]at this;simpa using this
     have h2:l[i+1]'(by omega)=p:=by have:=gp;rw[List.getElem?_eq_getElem (by omega)]at this;simpa using this
     have:=hs i (i+1) (by omega) (by omega) (by omega);rw[h1,h2]at this;exact DB.2 this
    have cc:=xA q p (hl q hq).vp.tY (hl p hp).vp.tY (by have:=(hl q hq).vp.len;omega) (by have:=(hl p hp).vp.len;omega);generalize iZ q p=m at *;have zc:zX 0 m=false:=dF (hS.le ..) (by omega);generalize aP p=Z,aP q=Z2 at *;refine⟨?_⟩;cbv;apply bT c1;simp only[j1,j2];cbv;apply nd n0;refine hS.cl cw ?_;cbv;apply bF y;simp only[j1,j2];cbv;apply nd n0;apply bF hz;simp only[j1,j2]
    cbv;apply nd n0;refine hS.cl cn ?_;cbv;simp only[j1,j2];cbv;apply nd n0;refine hS.cl cs ?_;cbv;apply bF y;apply bT z0;simp only[w1,j3,j4];cbv;apply nd n3;simp only[j1,j2];cbv;apply nd n0;refine hS.cl cc ?_;cbv;apply bF zc;refine aU [] () ?_ ?_ ?_ ?_ rfl (by show 2<=2;omega) QQ
    ·simp[bd,sA,ae,vi,vb,AV.aw,AV.aJ,Cell.aw]
     exact i1
    ·simp[bf,sA,ae]
    ·simp[aF,sA,ae]
    ·simp
 ·rintro⟨⟩ hR
  rw[List.take_of_length_le (by omega),<-Cz]at hR;subst hR;refine⟨?_⟩;cbv;apply bF lE;exact aC hF
structure Ov (N:Int) (E D:aS):Prop where
 n:1<=N/\N<=4
 pe:∀p∈E,CP p
 pd:∀p∈D,CP p/\ju p≠0
 se:mW E
 sd:mW D
 le:E.length<=6
 ld:D.length<=6
def By (N:Int) (X Y:Abs.Rows) (I:Int):St:=ae 42 [.af,.c (.ptr 1 0 0),vb false,vi .i64 I] [none,some (.var [.t (.v (.int .i64 N)),.t (.aa false X),.t (.aa false Y)])]
theorem sD (N:Int) (E D:aS) (h:Ov N E D) :
  aH 34 [.val (.agg [.v (.int .i64 N),.aa false (aj E),.aa false (aj D)])] ⟨[.val (tb (E.all (Ei N)&&D.all (Ei N)))],[none]⟩:=by
 have c1:=sB E N h.n h.pe h.se (by have:=h.le;omega);have c2:=sB D N h.n (fun p hp=>(h.pd p hp).1) h.sd (by have:=h.ld;omega);generalize E.all (Ei N)=b1,D.all (Ei N)=b2,aj E=X at *;obtain⟨Y,hY⟩:=aq (aj D);obtain⟨k,tw⟩:=aq (D.length);have lY:Y.length=k:=by rw[hY,lB,tw]
 have hk6:k<=6:=by rw[tw];exact h.ld
 rw[<-hY]at c2 ⊢;have hN:=h.n;refine an ai mixed [.val] Tryz.func34 rfl rfl (by kernel_rfl) ?_;intros;rename_i zT _ zV _ zY _ _ _ _ _ _ _ _ _ _ _ _ _ _ _ aB _ _ _ _ _ _ _ _ _ _ _ _ _ _ _ _ _ _ A L F hS hF;have lE:=hS.fh lY;have zN1:zV N 1=false:=dF (hS.lt ..) (by omega);have zN4:zV 4 N=false:=dF (hS.lt ..) (by omega);have y1:zY true=false:=by rw[hS.not];rfl
 have y2:zY false=true:=by rw[hS.not];rfl
 cbv;refine bF zN1 (bF zN4 ?_);cases b1 with
 | false=>
  refine hS.cl c1 ?_;cbv;apply bT y2;exact aC hF
 | true=>
 cases b2 with
 | false=>
  refine hS.cl c1 ?_;cbv;apply bF y1;refine hS.cl c2 ?_;cbv;apply bT y2;exact aC hF
 | true=>
 refine hS.cl c1 ?_;cbv;apply bF y1;refine hS.cl c2 ?_;cbv;apply bF y1;refine fX ai mixed hS (n:=k) (fun i (_:Unit)=>By N X Y (Int.ofNat i)) (fun i _=>True) (a0:=()) (fy ?_ ?_) rfl (by show 1<=2;omega) trivial ?_ ?_
 ·simp[dS,By,ae,vi,vb]
 ·simp[dU,By,ae]
 ·rintro i ⟨⟩ hi -
  obtain⟨e1,i1,j1,n0⟩:=hS.ic lY hi (by omega);obtain⟨p,hp,gp,hr,_,_⟩:=fq (l:=D) (i:=i) (by omega);have j2:aB Y i=some [.aa false (aP p)]:=by rw[hS.nth,hY];exact hr
  have cd:=qO p (h.pd p hp).1.vp.tY (by have:=(h.pd p hp).1.vp.len;omega);have zd:zT (ju p) 0=false:=dF (hS.eq ..) (h.pd p hp).2;generalize ju p=d,aP p=Z at *;refine⟨?_⟩;cbv;apply bT e1;simp only[j1,j2];cbv;apply nd n0;refine hS.cl cd ?_;cbv;apply bF zd;refine aU [(1,1)] () ?_ ?_ ?_ ?_ rfl (by show 1<=2;omega) trivial
  ·simp[bd,By,ae,vi,vb,AV.aw,AV.aJ,Cell.aw,ak]
   exact i1
  ·simp[bf,By,ae,Abs.look,ak,aA.aw,Cell.aw]
  ·simp[aF,By,ae,ak]
  ·simp
 ·rintro⟨⟩ -
  refine⟨?_⟩;cbv;apply bF lE;exact aC hF
structure SP (p:List T2):Prop where
 int:∀t∈p,t.int
 vd:Vd p
 len:p.length<=5
 Wz:ju p<=12
theorem SP.zs {p:List T2} (h:SP p):Zs p:=fun t ht=>⟨(h.int t ht).d,by have:=(h.int t ht).n.2;omega⟩
theorem Tu {t:T2} (h:t.int):t.ok 100 1000:=
 ⟨by rw[oL h.d];exact Qs.whole (by have:=h.n.2;omega) (by omega),by have:=h.a;omega,by have:=h.b;omega⟩
theorem SP.vp {p:List T2} (h:SP p):VP p 12:=⟨fun t ht=>Tu (h.int t ht),by have:=h.len;omega,h.vd,h.Wz⟩
theorem KL {p:List T2} (hz:Zs p) (hv:Vd p):∀u∈jP p,∃t∈p,u.a=t.a/\u.b=t.b/\u.c.num.natAbs<=t.c.num.natAbs:=by
 by_cases hp:p=[]
 ·subst hp;intro u hu;simp[jP]at hu
 intro u hu;have hE:jP p=p.map fun t:T2=>T2.mk (DA p*t.c) (0+t.a) (0+t.b):=by unfold jP;rw[if_neg hp];unfold bM;rw[if_neg (Nf hp hz hv)]
 rw[hE]at hu;obtain⟨t,ht,rfl⟩:=List.mem_map.1 hu;obtain⟨s,hs,_,e⟩:=xB hp hz hv;obtain⟨z,h1,h2,_⟩:=FV hs (lj hp hz hv) (hz t ht).1 ((nY p 0).2 t ht);refine⟨t,ht,by simp,by simp,?_⟩;rw[<-e]at h1;simp only[h1,Rat.num_intCast];rw[h2];exact Nat.le_mul_of_pos_left _ (lj hp hz hv)
theorem Ns {p q:List T2} (h:p.map (fun t=>(t.a,t.b))=q.map (fun t=>(t.a,t.b))):ju p=ju q:=by
 have e:∀p:List T2,ju p=(p.map (fun t=>(t.a,t.b))).foldl (fun d t=>if t.1+t.2>d then t.1+t.2 else d) (-1):=fun p=>by rw[List.foldl_map];rfl
 rw[e,e,h]
theorem SP.jP {p:List T2} (h:SP p):SP (jP p)/\(p≠[]->CP (jP p))/\ju (jP p)=ju p:=by
 obtain⟨h1,h2,h3,h4,h5⟩:=KB h.zs h.vd;have hd:=Ns h5;have hi:∀t∈Go.Proofs.YtekefilngojelaaGreat.jP p,t.int:=fun u hu=>by
  obtain⟨t,ht,ea,eb,hn⟩:=KL h.zs h.vd u hu;have it:=h.int t ht;exact⟨(h1 u hu).1,⟨fun e=>h2.1 u hu (Rat.num_eq_zero.1 e),by have:=it.n.2;omega⟩,by rw[ea];exact it.a,by rw[eb];exact it.b⟩
 have hs:SP (Go.Proofs.YtekefilngojelaaGreat.jP p):=⟨hi,h2,by rw[h4];exact h.len,by rw[hd];exact h.Wz⟩;refine⟨hs,fun hp=>⟨hs.vp,hi,?_,h3⟩,hd⟩;intro e;rw[e]at h4;exact hp (List.length_eq_zero_iff.1 h4.symm)
theorem iD {plain:Bool}:∀ {l:aS},(∀p∈l,SP p) ->
  mW (iC plain l)/\(∀p∈iC plain l,CP p/\SP p/\(plain=true->ju p≠0))/\(iC plain l).length<=l.length:=by
 intro l
 suffices h:∀(k o:aS),(∀p∈k,SP p)->mW o->(∀p∈o,CP p/\SP p/\(plain=true->ju p≠0)) ->
   mW (k.foldl (yU plain) o)/\(∀p∈k.foldl (yU plain) o,CP p/\SP p/\(plain=true->ju p≠0))/\(k.foldl (yU plain) o).length<=o.length+k.length from
  fun hl=>by
   have:=h l [] hl List.Pairwise.nil (fun p hp=>absurd hp (by simp));simpa[iC]using this
 intro k
 induction k with
 | nil=>intro o _ h1 h2;exact⟨h1,h2,by simp⟩
 | cons x k ih=>
  intro o hk h1 h2;rw[List.foldl_cons];have hx:=hk x List.mem_cons_self;have yr:=fun p hp=>hk p (List.mem_cons_of_mem x hp)
  unfold yU;split
  ·obtain⟨g1,g2,g3⟩:=ih o yr h1 h2
   exact⟨g1,g2,by rw[List.length_cons];unfold yU at g3;omega⟩
  ·rename_i hc
   have dh:x≠[]:=fun e=>hc (Or.inl (by rw[e];simp[Go.Proofs.YtekefilngojelaaGreat.jP]))
   obtain⟨g1,g2,g3⟩:=ih (lk (Go.Proofs.YtekefilngojelaaGreat.jP x) o) yr (FY h1) (fun p hp=>by
    rcases xD.1 hp with rfl|hp
    ·exact⟨hx.jP.2.1 dh,hx.jP.1,fun Oi hd=>hc (Or.inr ⟨Oi,hd⟩)⟩
    ·exact h2 p hp)
   refine⟨g1,g2,?_⟩;have:=Nj (Go.Proofs.YtekefilngojelaaGreat.jP x) o;rw[List.length_cons];unfold yU at g3;omega
def eh (X:Abs.Rows) (pl:Bool) (len:Nat) (O:Abs.Rows) (I:Int):St:=ae 75 [.c (.t (.aa false X)),vb pl,.af,.af,.af,.c (.sl 2 0 len false),vi .i64 I] [none,none,some (.rows 1 O true false)]
def Bz (X:Abs.Rows) (pl:Bool) (len:Nat) (O:Abs.Rows) (I:Int) (P:Abs.Rows) (J:Int):St:=ae 75 [.c (.t (.aa false X)),vb pl,.af,.af,.af,.c (.sl 2 0 len false),vi .i64 I,.c (.t (.aa false P)),vi .i64 J] [none,none,some (.rows 1 O true false)]
theorem WC (l:aS) (plain:Bool) (hl:∀p∈l,SP p) (hk:l.length<=50) :
  aH 26 [.val (tl (aj l)),.val (tb plain)] ⟨[.val (tl (aj (iC plain l)))],[none,none]⟩:=by
 obtain⟨X,hX⟩:=aq (aj l);obtain⟨k,tw⟩:=aq (l.length);have lX:X.length=k:=by rw[hX,lB,tw]
 obtain⟨Y,hY⟩:=aq (aj (iC plain l));rw[<-hX,<-hY];refine an ai mixed [.val] Tryz.func26 rfl rfl (by kernel_rfl) fun zD zE _ _ _ _ _ _ _ _ _ _ zT _ zV _ zY _ _ _ _ zu zy zz bg ay aK bO bI aQ _ ab aB _ _ _ _ a9 aD bV _ _ aM _ _ _ _ _ _ _ _ A L F hS hF=>?_
 have lE:=hS.fh lX;cbv;refine fX ai mixed hS (n:=k) (fun i (z:Nat×Abs.Rows)=>eh X plain z.1 z.2 (Int.ofNat i)) (fun i z=>z.1=z.2.length/\z.2=aj (iC plain (l.take i))) (a0:=(0,[])) (fy ?_ ?_) rfl (by show 2<=3;omega) ⟨rfl,by simp[iC,aj]⟩ ?_ ?_
 ·simp[dS,eh,ae,vi,vb]
 ·simp[dU,eh,ae]
 ·rintro i ⟨len,O⟩ hi ⟨hlen,hO⟩
  simp only at hlen hO;obtain⟨c1,i1,j1,n0⟩:=hS.ic lX hi (by omega);obtain⟨x,hx,gx,hr,fc,_⟩:=fq (l:=l) (i:=i) (by omega);have j2:aB X i=some [.aa false (aP x)]:=by rw[hS.nth,hX];exact hr
  have sx:=hl x hx;have cn:=sw x sx.zs sx.vd sx.vp.ok sx.vp.len;obtain⟨o,ho⟩:=aq (iC plain (l.take i));obtain⟨f1,f2,f3⟩:=iD (plain:=plain) (l:=l.take i) (fun p hp=>hl p (List.mem_of_mem_take hp));rw[<-ho]at hO f1 f2 f3;have f4:o.length<=50:=by rw[List.length_take]at f3;omega
  have lO:len=o.length:=by rw[hlen,hO,lB]
  have j7:iC plain (l.take (i+1))=yU plain o x:=by rw[fc,Nk,ho]
  have sp:=sx.jP.1;obtain⟨p,hp⟩:=aq (Go.Proofs.YtekefilngojelaaGreat.jP x);have ji:yU plain o x=if p=[]∨plain=true/\ju p=0 then o else lk p o:=by rw[hp];rfl
  rw[<-hp]at cn sp;rw[ji]at j7;clear hp ji;have cd:=qO p sp.vp.tY (by have:=sp.len;omega);obtain⟨dg,Yy⟩:=aq (ju p);rw[<-Yy]at cd j7;clear Yy;obtain⟨m,hm⟩:=aq (GP p o);have hmo:m<=o.length:=by rw[hm];exact Ng p o
  obtain⟨P,hP⟩:=aq (aP p);rw[<-hP]at cn cd;have lOO:O.length=o.length:=by rw[hO,lB]
  have cc:∀ {j:Nat} (hj:j<o.length),∃q,o[j]?=some q/\O[j]?=some [.aa false (aP q)]/\aH 58 [.val (tl (aP q)),.val (tl P)] ⟨[.val (ti .i64 (iZ q p))],[none,none]⟩/\aH 56 [.val (tl (aP q)),.val (tl P)] ⟨[.val (tb (decide (q=p)))],[none,none]⟩:=fun {j} hj=>by
   obtain⟨q,hq,gq,vx,_,_⟩:=fq (l:=o) (i:=j) hj;have sq:=(f2 q hq).2.1;refine⟨q,gq,by rw[hO];exact vx,?_,?_⟩
   ·rw[hP];exact xA q p sq.vp.tY sp.vp.tY (by have:=sq.len;omega) (by have:=sp.len;omega)
   ·rw[hP];exact nX q p sq.vp.tY (by have:=sq.len;omega) (by have:=sp.len;omega)
  generalize aP x=Z at *;refine⟨?_⟩;cbv;apply bT c1;simp only[j1,j2];cbv;apply nd n0;refine hS.cl cn ?_;cbv;refine fX ai mixed hS (n:=m) (fun j (_:Unit)=>Bz X plain len O (Int.ofNat i) P (Int.ofNat j)) (fun _ _=>True) (a0:=()) (fy ?_ ?_) rfl (by show 2<=3;omega) trivial ?_ ?_
  ·simp[dS,Bz,ae,vi,vb]
  ·simp[dU,Bz,ae]
  ·rintro j ⟨⟩ hj -
   obtain⟨q,gq,hOj,cq,_⟩:=cc (j:=j) (by omega);have bJ:iZ q p<0:=Nh p o j q (by omega) gq;generalize iZ q p=e at *;have ze:zV e 0=true:=dT (hS.lt ..) bJ;have l1:zV (Int.ofNat j) (zz len)=true:=by rw[hS.lt,hS.az,lO];exact decide_eq_true (show(j:Int)<(o.length:Int) by omega)
   have w1:zD .i64 (zE (Int.ofNat j) 1)=(j:Int)+1:=by rw[hS.add,hS.wrap];exact wrap_i64 (by show -9223372036854775808<=(j:Int)+1;omega) (by show(j:Int)+1<9223372036854775808;omega)
   have j3:aB O j=some [.aa false (aP q)]:=by rw[hS.nth];exact hOj
   have d1:zy (Int.ofNat j) len=true:=by rw[hS.yC];exact decide_eq_true (show 0<=(j:Int)/\(j:Int)<len by omega)
   have d2:bg 0 (Int.ofNat j)=j:=by rw[hS.idx];show 0+(j:Int).toNat=j;omega
   generalize aP q=Z2 at *;refine⟨?_⟩;cbv;refine bT l1 (nd d1 ?_);simp only[d2,j3];cbv;refine hS.cl cq ?_;cbv;apply bT ze;refine aU [(2,2)] () ?_ ?_ ?_ ?_ rfl (by show 2<=3;omega) trivial
   ·simp[bd,Bz,ae,vi,vb,AV.aw,AV.aJ,Cell.aw,ak]
    exact w1
   ·simp[bf,Bz,ae,Abs.look,ak,aA.aw,Cell.aw]
   ·simp[aF,Bz,ae,ak]
   ·simp
  ·rintro⟨⟩ -
   have d2:bg 0 (Int.ofNat m)=m:=by rw[hS.idx];show 0+(m:Int).toNat=m;omega
   rcases Nat.lt_or_ge m o.length with SV|afN
   ·obtain⟨q,gq,hOj,cq,cs⟩:=cc SV
    have Gx:¬iZ q p<0:=Ni p o q (by rw[<-hm];exact gq);have KM:lk p o=if q=p then o else o.take m++p::o.drop m:=by
     unfold lk;rw[<-hm,gq];simp only[Option.some.injEq]
    generalize iZ q p=e at *;have ze:zV e 0=false:=dF (hS.lt ..) Gx;have l1:zV (Int.ofNat m) (zz len)=true:=by rw[hS.lt,hS.az,lO];exact decide_eq_true (show(m:Int)<(o.length:Int) by omega)
    have j3:aB O m=some [.aa false (aP q)]:=by rw[hS.nth];exact hOj
    have k1:bI (Int.ofNat m) (zz len) len=true:=by rw[hS.cut,hS.az];exact decide_eq_true (show 0<=(m:Int)/\(m:Int)<=(len:Int)/\(len:Int)<=(len:Int) by omega)
    have k0:bO (zz len) (Int.ofNat m)=len-m:=by rw[hS.J7,hS.az];show(len:Int).toNat-(m:Int).toNat=_;omega
    obtain⟨T,hT⟩:=aq (O.drop m);have lT:T.length=len-m:=by rw[hT,List.length_drop];omega
    have kT:aD O (bg 0 (Int.ofNat m)) (bO (zz len) (Int.ofNat m))=T:=by rw[d2,k0,hS.part,hT,List.take_of_length_le (by rw[List.length_drop];omega)]
    have k3:a9 (bg 0 (Int.ofNat m)) (bO (zz len) (Int.ofNat m)) O=true:=by rw[d2,k0,hS.fit];exact decide_eq_true (show m+(len-m)<=O.length by omega)
    have k4:bI 0 (Int.ofNat m) len=true:=by rw[hS.cut];exact decide_eq_true (show(0:Int)<=(0:Int)/\(0:Int)<=(m:Int)/\(m:Int)<=(len:Int) by omega)
    have k5:zT (Int.ofNat m) (Int.ofNat m)=true:=dT (hS.eq ..) rfl;obtain⟨R,hR⟩:=aq ([Tree.aa false P]::T);have lR:R.length=1+T.length:=by rw[hR,List.length_cons];omega
    have kR:bV [[Tree.aa false P]] 0 T=R:=by rw[hS.ext,hR];rfl
    have hE:O.take m++R=aj (o.take m++p::o.drop m):=by rw[hR,hT,hO,hP];simp[aj,List.map_take,List.map_drop]
    have nm:zu (Int.ofNat m)=m:=by rw[hS.nat];rfl
    have k8:zY (ay (ab R) 0)=true:=by rw[hS.neq,hS.len,lR,hS.not,decide_eq_false (by omega)];rfl
    have k9:aM 1 R=true:=by rw[hS.wide,hR,hT,hO];simp[aj,List.all_eq_true];intro a ha;have:=List.mem_of_mem_drop ha;simp at this;obtain⟨_,_,rfl⟩:=this;rfl
    have KN:aQ m (ab R) 24=true:=by rw[hS.room,hS.len];exact decide_eq_true (by unfold au;omega)
    have Ow:a9 0 m O=true:=by rw[hS.fit];exact decide_eq_true (show 0+m<=O.length by omega)
    obtain⟨O2,BA⟩:=aq (O.take m++R);have zx:bV (aD O 0 m) 0 R=O2:=by rw[hS.ext,hS.part,BA];rfl
    obtain⟨L2,WD⟩:=aq (m+R.length);have WE:L2=O2.length:=by rw[WD,BA,List.length_append,List.length_take];omega
    have nR:aK m (ab R)=L2:=by rw[hS.fN,hS.len,WD]
    have k2:ay (ab T) 0=false:=by rw[hS.neq,hS.len,lT];exact decide_eq_false (by omega)
    have k2b:zY (ay (ab T) 0)=true:=by rw[k2,hS.not];rfl
    have k2c:aM 1 T=true:=by rw[hS.wide,hT,hO];simp[aj,List.all_eq_true];intro a ha;have:=List.mem_of_mem_drop ha;simp at this;obtain⟨_,_,rfl⟩:=this;rfl
    have k2d:aQ 1 (ab T) 24=true:=by rw[hS.room,hS.len];exact decide_eq_true (by unfold au;omega)
    have k2e:ay (aK 0 1) (ab [[Tree.aa false P]])=true:=by rw[hS.neq,hS.fN,hS.len];rfl
    have kRp:aD R 0 (aK 1 (ab T))=R:=by rw[hS.part,hS.fN,hS.len,List.drop_zero,List.take_of_length_le (by omega)]
    have k6:ay (ab R) 0=false:=by rw[hS.neq,hS.len,lR];exact decide_eq_false (by omega)
    have k7:a9 0 (aK 1 (ab T)) R=true:=by rw[hS.fit,hS.fN,hS.len];exact decide_eq_true (show 0+(1+T.length)<=R.length by omega)
    have d1:zy (Int.ofNat m) len=true:=by rw[hS.yC];exact decide_eq_true (show 0<=(m:Int)/\(m:Int)<len by omega)
    generalize aP q=Z2 at *;refine⟨?_⟩;cbv;refine bT l1 (nd d1 ?_);simp only[d2,j3];cbv;refine hS.cl cq ?_;cbv;apply bF ze
    by_cases A7:p=[]
    ·have zP:zT (zz (ab P)) 0=true:=by rw[hS.eq,hS.az,hS.len,hP,pK,A7];rfl
     have oa:len=O.length/\O=aj (iC plain (l.take (i+1))):=⟨hlen,by rw[j7,if_pos (Or.inl A7)];exact hO⟩;apply bT zP;refine aU [(2,2)] (len,O) ?_ ?_ ?_ ?_ rfl (by show 2<=3;omega) oa
     ·simp[bd,eh,ae,vi,vb,AV.aw,AV.aJ,Cell.aw,ak]
      exact i1
     ·simp[bf,eh,ae,Abs.look,ak,aA.aw,Cell.aw]
     ·simp[aF,eh,ae,ak]
     ·simp
    have zP:zT (zz (ab P)) 0=false:=by rw[hS.eq,hS.az,hS.len,hP,pK];exact decide_eq_false (by have:=List.length_pos_iff.2 A7;omega)
    apply bF zP;cases plain with
    | true=>
     apply bT rfl
     by_cases DL:dg=0
     ·have oa:len=O.length/\O=aj (iC true (l.take (i+1))):=⟨hlen,by rw[j7,if_pos (Or.inr ⟨rfl,DL⟩)];exact hO⟩
      have zd:zT dg 0=true:=dT (hS.eq ..) DL;refine hS.cl cd ?_;cbv;apply bT zd;refine aU [(2,2)] (len,O) ?_ ?_ ?_ ?_ rfl (by show 2<=3;omega) oa
      ·simp[bd,eh,ae,vi,vb,AV.aw,AV.aJ,Cell.aw,ak]
       exact i1
      ·simp[bf,eh,ae,Abs.look,ak,aA.aw,Cell.aw]
      ·simp[aF,eh,ae,ak]
      ·simp
     ·have zd:zT dg 0=false:=dF (hS.eq ..) DL
      rw[if_neg (by rintro(h|⟨_,h⟩);exact A7 h;exact DL h)]at j7;refine hS.cl cd ?_;cbv;apply bF zd;refine bT l1 (nd d1 ?_);simp only[d2,j3];cbv
      by_cases PV:q=p
      ·rw[decide_eq_true PV]at cs
       have oa:len=O.length/\O=aj (iC _ (l.take (i+1))):=⟨hlen,by rw[j7,KM,if_pos PV];exact hO⟩;refine hS.cl cs ?_;cbv;apply bT rfl;refine aU [(2,2)] (len,O) ?_ ?_ ?_ ?_ rfl (by show 2<=3;omega) oa
       ·simp[bd,eh,ae,vi,vb,AV.aw,AV.aJ,Cell.aw,ak]
        exact i1
       ·simp[bf,eh,ae,Abs.look,ak,aA.aw,Cell.aw]
       ·simp[aF,eh,ae,ak]
       ·simp
      ·rw[decide_eq_false PV]at cs
       have KI:O.take m++R=aj (lk p o):=by rw[KM,if_neg PV];exact hE
       refine hS.cl cs ?_;cbv;apply bF rfl;apply nd k1;simp only[kT];refine bF k2 (nd k3 (nd k2b (nd k2c (nd k2d (bT k2e ?_)))));simp only[kR,kRp];refine nd k4 (nd k5 (bF k6 (nd k7 ?_)));simp only[nm];refine nd k8 (nd k9 (nd KN (nd Ow ?_)));simp only[nR,zx];have F3:L2=O2.length/\O2=aj (iC _ (l.take (i+1))):=⟨WE,by rw[j7,BA];exact KI⟩;refine aU [(2,11)] (L2,O2) ?_ ?_ ?_ ?_ rfl (by show 2<=3;omega) F3
       ·simp[bd,eh,ae,vi,vb,AV.aw,AV.aJ,Cell.aw,ak]
        exact i1
       ·simp[bf,eh,ae,Abs.look,ak,aA.aw,Cell.aw]
       ·simp[aF,eh,ae,ak]
       ·simp
    | false=>
     rw[if_neg (by rintro(h|⟨h,_⟩);exact A7 h;exact absurd h (by decide))]at j7;apply bF rfl;refine bT l1 (nd d1 ?_);simp only[d2,j3];cbv
     by_cases PV:q=p
     ·rw[decide_eq_true PV]at cs
      have oa:len=O.length/\O=aj (iC _ (l.take (i+1))):=⟨hlen,by rw[j7,KM,if_pos PV];exact hO⟩;refine hS.cl cs ?_;cbv;apply bT rfl;refine aU [(2,2)] (len,O) ?_ ?_ ?_ ?_ rfl (by show 2<=3;omega) oa
      ·simp[bd,eh,ae,vi,vb,AV.aw,AV.aJ,Cell.aw,ak]
       exact i1
      ·simp[bf,eh,ae,Abs.look,ak,aA.aw,Cell.aw]
      ·simp[aF,eh,ae,ak]
      ·simp
     ·rw[decide_eq_false PV]at cs
      have KI:O.take m++R=aj (lk p o):=by rw[KM,if_neg PV];exact hE
      refine hS.cl cs ?_;cbv;apply bF rfl;apply nd k1;simp only[kT];refine bF k2 (nd k3 (nd k2b (nd k2c (nd k2d (bT k2e ?_)))));simp only[kR,kRp];refine nd k4 (nd k5 (bF k6 (nd k7 ?_)));simp only[nm];refine nd k8 (nd k9 (nd KN (nd Ow ?_)));simp only[nR,zx];have F3:L2=O2.length/\O2=aj (iC _ (l.take (i+1))):=⟨WE,by rw[j7,BA];exact KI⟩;refine aU [(2,11)] (L2,O2) ?_ ?_ ?_ ?_ rfl (by show 2<=3;omega) F3
      ·simp[bd,eh,ae,vi,vb,AV.aw,AV.aJ,Cell.aw,ak]
       exact i1
      ·simp[bf,eh,ae,Abs.look,ak,aA.aw,Cell.aw]
      ·simp[aF,eh,ae,ak]
      ·simp
   ·have l1:zV (Int.ofNat m) (zz len)=false:=by rw[hS.lt,hS.az,lO];exact decide_eq_false (show ¬(m:Int)<(o.length:Int) by omega)
    have k1:bI (Int.ofNat m) (zz len) len=true:=by rw[hS.cut,hS.az];exact decide_eq_true (show 0<=(m:Int)/\(m:Int)<=(len:Int)/\(len:Int)<=(len:Int) by omega)
    have k0:bO (zz len) (Int.ofNat m)=len-m:=by rw[hS.J7,hS.az];show(len:Int).toNat-(m:Int).toNat=_;omega
    obtain⟨T,hT⟩:=aq (O.drop m);have lT:T.length=len-m:=by rw[hT,List.length_drop];omega
    have kT:aD O (bg 0 (Int.ofNat m)) (bO (zz len) (Int.ofNat m))=T:=by rw[d2,k0,hS.part,hT,List.take_of_length_le (by rw[List.length_drop];omega)]
    have k3:a9 (bg 0 (Int.ofNat m)) (bO (zz len) (Int.ofNat m)) O=true:=by rw[d2,k0,hS.fit];exact decide_eq_true (show m+(len-m)<=O.length by omega)
    have k4:bI 0 (Int.ofNat m) len=true:=by rw[hS.cut];exact decide_eq_true (show(0:Int)<=(0:Int)/\(0:Int)<=(m:Int)/\(m:Int)<=(len:Int) by omega)
    have k5:zT (Int.ofNat m) (Int.ofNat m)=true:=dT (hS.eq ..) rfl;obtain⟨R,hR⟩:=aq ([Tree.aa false P]::T);have lR:R.length=1+T.length:=by rw[hR,List.length_cons];omega
    have kR:bV [[Tree.aa false P]] 0 T=R:=by rw[hS.ext,hR];rfl
    have hE:O.take m++R=aj (o.take m++p::o.drop m):=by rw[hR,hT,hO,hP];simp[aj,List.map_take,List.map_drop]
    have nm:zu (Int.ofNat m)=m:=by rw[hS.nat];rfl
    have k8:zY (ay (ab R) 0)=true:=by rw[hS.neq,hS.len,lR,hS.not,decide_eq_false (by omega)];rfl
    have k9:aM 1 R=true:=by rw[hS.wide,hR,hT,hO];simp[aj,List.all_eq_true];intro a ha;have:=List.mem_of_mem_drop ha;simp at this;obtain⟨_,_,rfl⟩:=this;rfl
    have KN:aQ m (ab R) 24=true:=by rw[hS.room,hS.len];exact decide_eq_true (by unfold au;omega)
    have Ow:a9 0 m O=true:=by rw[hS.fit];exact decide_eq_true (show 0+m<=O.length by omega)
    obtain⟨O2,BA⟩:=aq (O.take m++R);have zx:bV (aD O 0 m) 0 R=O2:=by rw[hS.ext,hS.part,BA];rfl
    obtain⟨L2,WD⟩:=aq (m+R.length);have WE:L2=O2.length:=by rw[WD,BA,List.length_append,List.length_take];omega
    have nR:aK m (ab R)=L2:=by rw[hS.fN,hS.len,WD]
    have kq:aD [[Tree.aa false P]] 0 1=R:=by rw[hS.part,hR,List.length_eq_zero_iff.1 (show T.length=0 by omega)];rfl
    have k2:ay (ab T) 0=true:=by rw[hS.neq,hS.len,lT];exact decide_eq_true (by omega)
    have k6:ay (ab (aD [[Tree.aa false P]] 0 1)) 0=false:=by rw[hS.neq,hS.len,hS.part];rfl
    have k7:a9 0 1 [[Tree.aa false P]]=true:=by rw[hS.fit];rfl
    have KM:lk p o=o.take m++p::o.drop m:=by unfold lk;rw[<-hm,List.getElem?_eq_none (by omega),if_neg (by simp)]
    rw[<-KM]at hE;refine⟨?_⟩;cbv;apply bF l1
    by_cases A7:p=[]
    ·have zP:zT (zz (ab P)) 0=true:=by rw[hS.eq,hS.az,hS.len,hP,pK,A7];rfl
     have oa:len=O.length/\O=aj (iC plain (l.take (i+1))):=⟨hlen,by rw[j7,if_pos (Or.inl A7)];exact hO⟩;apply bT zP;refine aU [(2,2)] (len,O) ?_ ?_ ?_ ?_ rfl (by show 2<=3;omega) oa
     ·simp[bd,eh,ae,vi,vb,AV.aw,AV.aJ,Cell.aw,ak]
      exact i1
     ·simp[bf,eh,ae,Abs.look,ak,aA.aw,Cell.aw]
     ·simp[aF,eh,ae,ak]
     ·simp
    have zP:zT (zz (ab P)) 0=false:=by rw[hS.eq,hS.az,hS.len,hP,pK];exact decide_eq_false (by have:=List.length_pos_iff.2 A7;omega)
    apply bF zP;cases plain with
    | true=>
     apply bT rfl
     by_cases DL:dg=0
     ·have oa:len=O.length/\O=aj (iC true (l.take (i+1))):=⟨hlen,by rw[j7,if_pos (Or.inr ⟨rfl,DL⟩)];exact hO⟩
      have zd:zT dg 0=true:=dT (hS.eq ..) DL;refine hS.cl cd ?_;cbv;apply bT zd;refine aU [(2,2)] (len,O) ?_ ?_ ?_ ?_ rfl (by show 2<=3;omega) oa
      ·simp[bd,eh,ae,vi,vb,AV.aw,AV.aJ,Cell.aw,ak]
       exact i1
      ·simp[bf,eh,ae,Abs.look,ak,aA.aw,Cell.aw]
      ·simp[aF,eh,ae,ak]
      ·simp
     ·have zd:zT dg 0=false:=dF (hS.eq ..) DL
      rw[if_neg (by rintro(h|⟨_,h⟩);exact A7 h;exact DL h)]at j7;refine hS.cl cd ?_;cbv;apply bF zd;have KI:O.take m++R=aj (lk p o):=hE;apply bF l1;apply nd k1;simp only[kT];refine bT k2 (nd k3 (nd k4 (nd k5 (bF k6 (nd k7 ?_)))));simp only[kq];simp only[nm];refine nd k8 (nd k9 (nd KN (nd Ow ?_)));simp only[nR,zx];have F3:L2=O2.length/\O2=aj (iC _ (l.take (i+1))):=⟨WE,by rw[j7,BA];exact KI⟩
      refine aU [(2,11)] (L2,O2) ?_ ?_ ?_ ?_ rfl (by show 2<=3;omega) F3
      ·simp[bd,eh,ae,vi,vb,AV.aw,AV.aJ,Cell.aw,ak]
       exact i1
      ·simp[bf,eh,ae,Abs.look,ak,aA.aw,Cell.aw]
      ·simp[aF,eh,ae,ak]
      ·simp
    | false=>
     rw[if_neg (by rintro(h|⟨h,_⟩);exact A7 h;exact absurd h (by decide))]at j7;apply bF rfl;have KI:O.take m++R=aj (lk p o):=hE;apply bF l1;apply nd k1;simp only[kT];refine bT k2 (nd k3 (nd k4 (nd k5 (bF k6 (nd k7 ?_)))));simp only[kq];simp only[nm];refine nd k8 (nd k9 (nd KN (nd Ow ?_)));simp only[nR,zx];have F3:L2=O2.length/\O2=aj (iC _ (l.take (i+1))):=⟨WE,by rw[j7,BA];exact KI⟩
     refine aU [(2,11)] (L2,O2) ?_ ?_ ?_ ?_ rfl (by show 2<=3;omega) F3
     ·simp[bd,eh,ae,vi,vb,AV.aw,AV.aJ,Cell.aw,ak]
      exact i1
     ·simp[bf,eh,ae,Abs.look,ak,aA.aw,Cell.aw]
     ·simp[aF,eh,ae,ak]
     ·simp
 ·rintro⟨len,O⟩ ⟨hlen,hO⟩
  simp only at hlen hO;rw[List.take_of_length_le (by omega),<-hY]at hO;obtain⟨u1,u2⟩:=hS.whole (r:=O) (len:=len) hlen;refine⟨?_⟩;cbv;apply bF lE;rw[u2];apply nd u1;rw[hO];exact aC hF
def Tv (n:Int):Int:=if n<0 then -(n+1)*2+1 else n*2
def iO (n:Int):Abs.Rows:=nB (Tv n)
theorem Nt {n:Int} (h0:-8000<=n) (h1:n<=8000):0<=Tv n/\Tv n<16384:=by unfold Tv;split<;>omega
theorem Jg (n:Int) (h0:-8000<=n) (h1:n<=8000) (B:Abs.Rows) (hB:B.length<=1000000000) :
  aH 51 [.own 1 B,.val (ti .i64 n)] ⟨[.own 1 (B++iO n)],[none,none]⟩:=by
 obtain⟨m0,m1⟩:=Nt h0 h1;have c:=H3 (Tv n) m0 m1 B hB;unfold iO;obtain⟨m,hm⟩:=aq (Tv n);rw[<-hm]at c m0 m1 ⊢;unfold Tv at hm;generalize B++nB m=B2 at *
 by_cases h:n<0
 ·rw[if_pos h]at hm
  refine an ai mixed [.own 1] Tryz.func51 rfl rfl (by kernel_rfl) fun zD zE zG zH _ _ _ _ _ _ _ _ _ _ zV _ _ _ _ _ _ _ _ _ _ ay _ _ _ _ _ ab _ _ _ _ _ _ _ _ _ _ _ _ _ _ _ _ _ _ _ A L F hS hF=>?_
  have l1:zV n 0=true:=dT (hS.lt ..) h;have hz:ay (ab B) (ab B)=true:=by rw[hS.neq];exact decide_eq_true rfl
  have Uj:ay (ab B2) (ab B2)=true:=by rw[hS.neq];exact decide_eq_true rfl
  cbv;refine bT l1 (nd hz ?_);have e:zD .u64 (zE (zD .u64 (zH (zD .u64 (zD .i64 (zG 0 (zD .i64 (zE n 1))))) 2)) 1)=m:=by
   have a1:zD .i64 (zE n 1)=n+1:=by rw[hS.add,hS.wrap];exact wrap_i64 (by omega) (by omega)
   have a2:zD .i64 (zG 0 (n+1))=0-(n+1):=by rw[hS.sub,hS.wrap];exact wrap_i64 (by omega) (by omega)
   have a3:zD .u64 (0-(n+1))=0-(n+1):=by rw[hS.wrap];exact eS (by omega) (by omega)
   have a4:zD .u64 (zH (0-(n+1)) 2)=(0-(n+1))*2:=by rw[hS.mul,hS.wrap];exact eS (by omega) (by omega)
   have a5:zD .u64 (zE ((0-(n+1))*2) 1)=(0-(n+1))*2+1:=by rw[hS.add,hS.wrap];exact eS (by omega) (by omega)
   rw[a1,a2,a3,a4,a5];omega
  simp only[e];refine hS.cl c ?_;cbv;exact nd Uj (aC hF)
 ·rw[if_neg h]at hm
  refine an ai mixed [.own 1] Tryz.func51 rfl rfl (by kernel_rfl) fun zD zE zG zH _ _ _ _ _ _ _ _ _ _ zV _ _ _ _ _ _ _ _ _ _ ay _ _ _ _ _ ab _ _ _ _ _ _ _ _ _ _ _ _ _ _ _ _ _ _ _ A L F hS hF=>?_
  have l1:zV n 0=false:=dF (hS.lt ..) h;have hz:ay (ab B) (ab B)=true:=by rw[hS.neq];exact decide_eq_true rfl
  have Uj:ay (ab B2) (ab B2)=true:=by rw[hS.neq];exact decide_eq_true rfl
  have e:zD .u64 (zH (zD .u64 n) 2)=m:=by rw[hS.wrap,hS.wrap,hS.mul,eS (x:=n) (by omega) (by omega),eS (by omega) (by omega),hm]
  cbv;refine bF l1 (nd hz ?_);simp only[e];refine hS.cl c ?_;cbv;exact nd Uj (aC hF)
def uB (l:List Rat):Abs.Rows:=nB l.length++l.flatMap qB
structure R8 where
 a0:Int
 a1:Int
 a2:Int
 a3:Int
 a4:Int
 a5:Int
 a6:Int
 a7:Int
def R8.ok (x:R8):Prop:=(-8000<=x.a0/\x.a0<=8000)/\(-8000<=x.a1/\x.a1<=8000)/\(-8000<=x.a2/\x.a2<=8000)/\(-8000<=x.a3/\x.a3<=8000)/\(-8000<=x.a4/\x.a4<=8000)/\(-8000<=x.a5/\x.a5<=8000)/\(-8000<=x.a6/\x.a6<=8000)/\(-8000<=x.a7/\x.a7<=8000)
def YA (x:R8):List Tree:=[.v (.int .i64 x.a0),.v (.int .i64 x.a1),.v (.int .i64 x.a2),.v (.int .i64 x.a3),.v (.int .i64 x.a4),.v (.int .i64 x.a5),.v (.int .i64 x.a6),.v (.int .i64 x.a7)]
def iE (l:List R8):Abs.Rows:=l.map YA
def LG (x:R8):Abs.Rows:=iO x.a0++iO x.a1++iO x.a2++iO x.a3++iO x.a4++iO x.a5++iO x.a6++iO x.a7
def Rg (l:List R8):Abs.Rows:=nB l.length++l.flatMap LG
theorem yp (n:Int):(iO n).length<=2:=yV _
theorem Jh (x:R8):(LG x).length<=16:=by
 unfold LG;have:=yp x.a0;have:=yp x.a1;have:=yp x.a2;have:=yp x.a3;have:=yp x.a4;have:=yp x.a5;have:=yp x.a6;have:=yp x.a7;simp only[List.length_append];omega
theorem PW {l:List R8} {k:Nat} (h:l.length<=k):(Rg l).length<=2+k*16:=by
 unfold Rg;rw[List.length_append];have h1:=yV (l.length:Int);have h2:(l.flatMap LG).length<=k*16:=Nat.le_trans (jK (k:=16) fun x _=>Jh x) (Nat.mul_le_mul h (by omega));omega
theorem PX (l:List R8):(iE l).length=l.length:=by simp[iE]
theorem WG {l:List R8} {i:Nat} (h:i<l.length):∃x,x∈l/\l[i]?=some x/\(iE l)[i]?=some (YA x)/\l.take (i+1)=l.take i ++ [x]:=by
 refine⟨l[i],List.getElem_mem h,List.getElem?_eq_getElem h,?_,?_⟩
 ·simp[iE,List.getElem?_eq_getElem h]
 ·rw[List.take_add_one,List.getElem?_eq_getElem h];rfl
def BB (X:Abs.Rows) (len:Nat) (B:Abs.Rows) (I:Int):St:=ae 31 [.c (.sl 2 0 len false),.c (.t (.aa false X)),.af,.af,.af,vi .i64 I] [none,none,some (.rows 1 B true false)]
theorem F6 (l:List R8) (hp:∀x∈l,x.ok) (hn:l.length<=100) (B:Abs.Rows) (hB:B.length<=600000000) :
  aH 53 [.own 1 B,.val (tl (iE l))] ⟨[.own 1 (B++Rg l)],[none,none]⟩:=by
 have c0:=H3 (l.length:Int) (by omega) (by omega) B (by omega);obtain⟨X,hX⟩:=aq (iE l);obtain⟨n,fx⟩:=aq (l.length);have lX:X.length=n:=by rw[hX,PX,fx]
 obtain⟨N,hN⟩:=aq (l.length:Int);have UG:=yV N;unfold Rg;rw[<-hN]at c0 ⊢;obtain⟨B1,fQ⟩:=aq (B++nB N);rw[<-fQ]at c0;rw[<-hX,show B++(nB N++l.flatMap LG)=B1++l.flatMap LG by rw[fQ,List.append_assoc]];have GQ:B1.length<=600000002:=by rw[fQ,List.length_append];omega
 obtain⟨l1,oT⟩:=aq (B1.length);refine dE ai mixed [.own 1] Tryz.func53 rfl rfl (by kernel_rfl) fun zD zE _ _ _ _ _ _ _ _ _ _ _ _ _ _ _ _ _ _ _ _ _ zz _ ay _ _ _ _ _ ab aB _ _ _ _ _ _ _ _ _ _ _ _ _ _ _ _ _ _ A L F hS hF=>?_
 have hz:ay (ab B) (ab B)=true:=by rw[hS.neq];exact decide_eq_true rfl
 have Cu:ab B1=l1:=by rw[hS.len,oT]
 have ec:aE zD .u64 (zz (ab X))=N:=by rw[hS.az,hS.len,lX,hS.wrap,eS (by omega) (by omega),hN,fx]
 have lE:=hS.fh lX;cbv at ec;cbv;apply nd hz;simp only[ec];refine hS.cl c0 ?_;cbv;simp only[Cu];refine fX ai mixed hS (n:=n) (fun i (z:Nat×Abs.Rows)=>BB X z.1 z.2 (Int.ofNat i)) (fun i z=>z.1=z.2.length/\z.2=B1++(l.take i).flatMap LG) (a0:=(l1,B1)) (fy ?_ ?_) rfl (by show 2<=3;omega) ⟨oT,by simp⟩ ?_ ?_
 ·simp[dS,BB,ae,vi,vb]
 ·simp[dU,BB,ae]
 ·rintro i ⟨l2,B2⟩ hi ⟨fM,dW⟩
  simp only at fM dW;have c1:=(hS.ic lX hi (by omega)).1;have i1:aE zD .i64 (eE zE (Int.ofNat i) 1)=(i:Int)+1:=(hS.ic lX hi (by omega)).2.1;obtain⟨x,vn,gx,hr,fc⟩:=WG (l:=l) (i:=i) (by omega);obtain⟨o0,o1,o2,o3,o4,o5,o6,o7⟩:=hp x vn;have hlen:((l.take i).flatMap LG).length<=100*16:=Nat.le_trans (jK (k:=16) fun x _=>Jh x) (Nat.mul_le_mul (by rw[List.length_take];omega) (by omega))
  have Bo:B2.length<=600001602:=by rw[dW,List.length_append];omega
  have d0:=Jg x.a0 o0.1 o0.2 B2 (by omega);obtain⟨B3,sn⟩:=aq (B2++iO x.a0);have b3:B3.length<=B2.length+2:=by have:=yp x.a0;rw[sn,List.length_append];omega
  rw[<-sn]at d0;have d1:=Jg x.a1 o1.1 o1.2 B3 (by omega);obtain⟨B4,yk⟩:=aq (B3++iO x.a1);have b4:B4.length<=B2.length+4:=by have:=yp x.a1;rw[yk,List.length_append];omega
  rw[<-yk]at d1;have d2:=Jg x.a2 o2.1 o2.2 B4 (by omega);obtain⟨B5,yl⟩:=aq (B4++iO x.a2);have b5:B5.length<=B2.length+6:=by have:=yp x.a2;rw[yl,List.length_append];omega
  rw[<-yl]at d2;have d3:=Jg x.a3 o3.1 o3.2 B5 (by omega);obtain⟨B6,ym⟩:=aq (B5++iO x.a3);have b6:B6.length<=B2.length+8:=by have:=yp x.a3;rw[ym,List.length_append];omega
  rw[<-ym]at d3;have d4:=Jg x.a4 o4.1 o4.2 B6 (by omega);obtain⟨B7,yn⟩:=aq (B6++iO x.a4);have b7:B7.length<=B2.length+10:=by have:=yp x.a4;rw[yn,List.length_append];omega
  rw[<-yn]at d4;have d5:=Jg x.a5 o5.1 o5.2 B7 (by omega);obtain⟨B8,yo⟩:=aq (B7++iO x.a5);have b8:B8.length<=B2.length+12:=by have:=yp x.a5;rw[yo,List.length_append];omega
  rw[<-yo]at d5;have d6:=Jg x.a6 o6.1 o6.2 B8 (by omega);obtain⟨B9,DD⟩:=aq (B8++iO x.a6);have b9:B9.length<=B2.length+14:=by have:=yp x.a6;rw[DD,List.length_append];omega
  rw[<-DD]at d6;have d7:=Jg x.a7 o7.1 o7.2 B9 (by omega);obtain⟨DF,su⟩:=aq (B9++iO x.a7);have PS:DF.length<=B2.length+16:=by have:=yp x.a7;rw[su,List.length_append];omega
  rw[<-su]at d7;have hR:DF=B1++(l.take (i+1)).flatMap LG:=by
   rw[su,DD,yo,yn,ym,yl,yk,sn,dW,fc,List.flatMap_append];simp[LG]
  obtain⟨Tw,H6⟩:=aq (DF.length);have F3:Tw=DF.length/\DF=B1++(l.take (i+1)).flatMap LG:=⟨H6,hR⟩;have j2:aB X i=some (YA x):=by rw[hS.nth,hX];exact hr
  have y2:ay l2 (ab B2)=true:=by rw[hS.neq,hS.len];exact decide_eq_true fM
  have y3:ay (ab B3) (ab B3)=true:=by rw[hS.neq];exact decide_eq_true rfl
  have y4:ay (ab B4) (ab B4)=true:=by rw[hS.neq];exact decide_eq_true rfl
  have y5:ay (ab B5) (ab B5)=true:=by rw[hS.neq];exact decide_eq_true rfl
  have y6:ay (ab B6) (ab B6)=true:=by rw[hS.neq];exact decide_eq_true rfl
  have y7:ay (ab B7) (ab B7)=true:=by rw[hS.neq];exact decide_eq_true rfl
  have y8:ay (ab B8) (ab B8)=true:=by rw[hS.neq];exact decide_eq_true rfl
  have y9:ay (ab B9) (ab B9)=true:=by rw[hS.neq];exact decide_eq_true rfl
  have zL:ab DF=Tw:=by rw[hS.len,H6]
  unfold YA at j2;generalize x.a0=a0,x.a1=a1,x.a2=a2,x.a3=a3,x.a4=a4,x.a5=a5,x.a6=a6,x.a7=a7 at *;clear hR sn yk yl ym yn yo DD su dW fc H6 b3 b4 b5 b6 b7 b8 b9 PS;cbv at i1;refine⟨?_⟩;cbv;apply bT c1;refine bz ai mixed hS (9) ?_;cbv;repeat (first|apply bT rfl|apply bF rfl|apply nd rfl|(simp only[j2];cbv)|apply nd y2|(refine hS.cl d0 ?_;cbv)|apply nd y3|(refine hS.cl d1 ?_;cbv)|apply nd y4|(refine hS.cl d2 ?_;cbv)|apply nd y5|(refine hS.cl d3 ?_;cbv)|apply nd y6|(refine hS.cl d4 ?_;cbv)|apply nd y7|(refine hS.cl d5 ?_;cbv)|apply nd y8|(refine hS.cl d6 ?_;cbv)|apply nd y9|(refine hS.cl d7 ?_;cbv)|(simp only[zL,i1];cbv))
  refine aU [(2,17)] (Tw,DF) ?_ ?_ ?_ ?_ rfl (by show 2<=3;omega) F3
  ·simp[bd,BB,ae,vi,vb,AV.aw,AV.aJ,Cell.aw,ak]
  ·simp[bf,BB,ae,Abs.look,ak,aA.aw,Cell.aw]
  ·simp[aF,BB,ae,ak]
  ·simp
 ·rintro⟨l2,B2⟩ ⟨fM,dW⟩
  simp only at fM dW;rw[List.take_of_length_le (by omega)]at dW;have u9:ay l2 (ab B2)=true:=by rw[hS.len,hS.neq,fM];exact decide_eq_true rfl
  rw[<-dW]at hF;refine⟨?_⟩;cbv;refine bF lE (nd u9 ?_);exact aC hF
def YB (N:Int) (E D:aS):Abs.Rows:=iO N++GS E++GS D
theorem F7 (N:Int) (h0:-8000<=N) (h1:N<=8000) (E D:aS) (hE:BL E) (hD:BL D) (B:Abs.Rows) (hB:B.length<=500000000) :
  aH 22 [.own 1 B,.val (.agg [.v (.int .i64 N),.aa false (aj E),.aa false (aj D)])] ⟨[.own 1 (B++YB N E D)],[none,none]⟩:=by
 have c0:=Jg N h0 h1 B (by omega);have m0:=yp N;obtain⟨B1,fQ⟩:=aq (B++iO N);rw[<-fQ]at c0;have b1:B1.length<=500000002:=by rw[fQ,List.length_append];omega
 have c1:=uj E hE.1 hE.2 B1 (by omega);have m1:=Je hE;obtain⟨B2,dW⟩:=aq (B1++GS E);rw[<-dW]at c1;have b2:B2.length<=502000002:=by rw[dW,List.length_append];omega
 have c2:=uj D hD.1 hD.2 B2 (by omega);rw[show B++YB N E D=B2++GS D by rw[dW,fQ];simp[YB]];generalize B2++GS D=B3 at *;refine an ai mixed [.own 1] Tryz.func22 rfl rfl (by kernel_rfl) ?_;intros;rename_i ay _ _ _ _ _ ab _ _ _ _ _ _ _ _ _ _ _ _ _ _ _ _ _ _ _ A L F hS hF;have y0:ay (ab B) (ab B)=true:=by rw[hS.neq];exact decide_eq_true rfl
 have y1:ay (ab B1) (ab B1)=true:=by rw[hS.neq];exact decide_eq_true rfl
 have y2:ay (ab B2) (ab B2)=true:=by rw[hS.neq];exact decide_eq_true rfl
 have y3:ay (ab B3) (ab B3)=true:=by rw[hS.neq];exact decide_eq_true rfl
 generalize aj E=X,aj D=Y at *;clear fQ dW b1 b2 m0 m1;cbv;apply nd y0;refine hS.cl c0 ?_;cbv;apply nd y1;refine hS.cl c1 ?_;cbv;apply nd y2;refine hS.cl c2 ?_;cbv;exact nd y3 (aC hF)
structure Bx where
 u0:Rat
 v0:Rat
 u1:Rat
 v1:Rat
 u2:Rat
 v2:Rat
 u3:Rat
 v3:Rat
 u4:Rat
 v4:Rat
 u5:Rat
 v5:Rat
 u6:Rat
 v6:Rat
 u7:Rat
 v7:Rat
def Bx.ok (x:Bx):Prop:=Qs x.u0 100/\Qs x.v0 100/\Qs x.u1 100/\Qs x.v1 100/\Qs x.u2 100/\Qs x.v2 100/\Qs x.u3 100/\Qs x.v3 100/\Qs x.u4 100/\Qs x.v4 100/\Qs x.u5 100/\Qs x.v5 100/\Qs x.u6 100/\Qs x.v6 100/\Qs x.u7 100/\Qs x.v7 100
def BD (x:Bx):List Tree:=(qc x.u0).row++(qc x.v0).row++(qc x.u1).row++(qc x.v1).row++(qc x.u2).row++(qc x.v2).row++(qc x.u3).row++(qc x.v3).row++(qc x.u4).row++(qc x.v4).row++(qc x.u5).row++(qc x.v5).row++(qc x.u6).row++(qc x.v6).row++(qc x.u7).row++(qc x.v7).row
def uk (l:List Bx):Abs.Rows:=l.map BD
def Ox (x:Bx):Abs.Rows:=qB x.u0++qB x.v0++qB x.u1++qB x.v1++qB x.u2++qB x.v2++qB x.u3++qB x.v3++qB x.u4++qB x.v4++qB x.u5++qB x.v5++qB x.u6++qB x.v6++qB x.u7++qB x.v7
def Rh (l:List Bx):Abs.Rows:=nB l.length++l.flatMap Ox
theorem PY {x:Bx} (h:x.ok):(Ox x).length<=12864:=by
 obtain⟨Yl,OP,Hb,Al,yK,EE,UH,hv3,hu4,hv4,hu5,hv5,hu6,hv6,hu7,hv7⟩:=h;unfold Ox;have:=oN Yl;have:=oN OP;have:=oN Hb;have:=oN Al;have:=oN yK;have:=oN EE;have:=oN UH;have:=oN hv3;have:=oN hu4;have:=oN hv4;have:=oN hu5;have:=oN hv5;have:=oN hu6;have:=oN hv6;have:=oN hu7;have:=oN hv7;simp only[List.length_append];omega
theorem DM (l:List Bx):(uk l).length=l.length:=by simp[uk]
theorem Ji {l:List Bx} {i:Nat} (h:i<l.length):∃x,x∈l/\l[i]?=some x/\(uk l)[i]?=some (BD x)/\l.take (i+1)=l.take i ++ [x]:=by
 refine⟨l[i],List.getElem_mem h,List.getElem?_eq_getElem h,?_,?_⟩
 ·simp[uk,List.getElem?_eq_getElem h]
 ·rw[List.take_add_one,List.getElem?_eq_getElem h];rfl
def BF (X:Abs.Rows) (len:Nat) (B:Abs.Rows) (I:Int):St:=ae 40 [.c (.sl 2 0 len false),.c (.t (.aa false X)),.af,.af,.af,vi .i64 I] [none,none,some (.rows 1 B true false)]
theorem F8 (l:List Bx) (hp:∀x∈l,x.ok) (hn:l.length<=100) (B:Abs.Rows) (hB:B.length<=600000000) :
  aH 55 [.own 1 B,.val (tl (uk l))] ⟨[.own 1 (B++Rh l)],[none,none]⟩:=by
 have c0:=H3 (l.length:Int) (by omega) (by omega) B (by omega);obtain⟨X,hX⟩:=aq (uk l);obtain⟨n,fx⟩:=aq (l.length);have lX:X.length=n:=by rw[hX,DM,fx]
 obtain⟨N,hN⟩:=aq (l.length:Int);have UG:=yV N;unfold Rh;rw[<-hN]at c0 ⊢;obtain⟨B1,fQ⟩:=aq (B++nB N);rw[<-fQ]at c0;rw[<-hX,show B++(nB N++l.flatMap Ox)=B1++l.flatMap Ox by rw[fQ,List.append_assoc]];have GQ:B1.length<=600000002:=by rw[fQ,List.length_append];omega
 obtain⟨l1,oT⟩:=aq (B1.length);refine dE ai mixed [.own 1] Tryz.func55 rfl rfl (by kernel_rfl) fun zD zE _ _ _ _ _ _ _ _ _ _ _ _ _ _ _ _ _ _ _ _ _ zz _ ay _ _ _ _ _ ab aB _ _ _ _ _ _ _ _ _ _ _ _ _ _ _ _ _ _ A L F hS hF=>?_
 have hz:ay (ab B) (ab B)=true:=by rw[hS.neq];exact decide_eq_true rfl
 have Cu:ab B1=l1:=by rw[hS.len,oT]
 have ec:aE zD .u64 (zz (ab X))=N:=by rw[hS.az,hS.len,lX,hS.wrap,eS (by omega) (by omega),hN,fx]
 have lE:=hS.fh lX;cbv at ec;cbv;apply nd hz;simp only[ec];refine hS.cl c0 ?_;cbv;simp only[Cu];refine fX ai mixed hS (n:=n) (fun i (z:Nat×Abs.Rows)=>BF X z.1 z.2 (Int.ofNat i)) (fun i z=>z.1=z.2.length/\z.2=B1++(l.take i).flatMap Ox) (a0:=(l1,B1)) (fy ?_ ?_) rfl (by show 2<=3;omega) ⟨oT,by simp⟩ ?_ ?_
 ·simp[dS,BF,ae,vi,vb]
 ·simp[dU,BF,ae]
 ·rintro i ⟨l2,B2⟩ hi ⟨fM,dW⟩
  simp only at fM dW;have c1:=(hS.ic lX hi (by omega)).1;have i1:aE zD .i64 (eE zE (Int.ofNat i) 1)=(i:Int)+1:=(hS.ic lX hi (by omega)).2.1;obtain⟨x,vn,gx,hr,fc⟩:=Ji (l:=l) (i:=i) (by omega);obtain⟨Nu,Nv,Nw,Nx,ou2,ov2,ou3,ov3,ou4,ov4,ou5,ov5,ou6,ov6,ou7,ov7⟩:=hp x vn;have hlen:((l.take i).flatMap Ox).length<=100*12864:=Nat.le_trans (jK (k:=12864) fun x hx=>PY (hp x (List.mem_of_mem_take hx))) (Nat.mul_le_mul (by rw[List.length_take];omega) (by omega))
  have Bo:B2.length<=601286402:=by rw[dW,List.length_append];omega
  have d0:=F1 x.u0 (Nu.mono (by omega)) B2 (by omega);obtain⟨B3,sn⟩:=aq (B2++qB x.u0);have b3:B3.length<=B2.length+804:=by have:=oN Nu;rw[sn,List.length_append];omega
  rw[<-sn]at d0;have d1:=F1 x.v0 (Nv.mono (by omega)) B3 (by omega);obtain⟨B4,yk⟩:=aq (B3++qB x.v0);have b4:B4.length<=B2.length+1608:=by have:=oN Nv;rw[yk,List.length_append];omega
  rw[<-yk]at d1;have d2:=F1 x.u1 (Nw.mono (by omega)) B4 (by omega);obtain⟨B5,yl⟩:=aq (B4++qB x.u1);have b5:B5.length<=B2.length+2412:=by have:=oN Nw;rw[yl,List.length_append];omega
  rw[<-yl]at d2;have d3:=F1 x.v1 (Nx.mono (by omega)) B5 (by omega);obtain⟨B6,ym⟩:=aq (B5++qB x.v1);have b6:B6.length<=B2.length+3216:=by have:=oN Nx;rw[ym,List.length_append];omega
  rw[<-ym]at d3;have d4:=F1 x.u2 (ou2.mono (by omega)) B6 (by omega);obtain⟨B7,yn⟩:=aq (B6++qB x.u2);have b7:B7.length<=B2.length+4020:=by have:=oN ou2;rw[yn,List.length_append];omega
  rw[<-yn]at d4;have d5:=F1 x.v2 (ov2.mono (by omega)) B7 (by omega);obtain⟨B8,yo⟩:=aq (B7++qB x.v2);have b8:B8.length<=B2.length+4824:=by have:=oN ov2;rw[yo,List.length_append];omega
  rw[<-yo]at d5;have d6:=F1 x.u3 (ou3.mono (by omega)) B8 (by omega);obtain⟨B9,DD⟩:=aq (B8++qB x.u3);have b9:B9.length<=B2.length+5628:=by have:=oN ou3;rw[DD,List.length_append];omega
  rw[<-DD]at d6;have d7:=F1 x.v3 (ov3.mono (by omega)) B9 (by omega);obtain⟨DF,su⟩:=aq (B9++qB x.v3);have PS:DF.length<=B2.length+6432:=by have:=oN ov3;rw[su,List.length_append];omega
  rw[<-su]at d7;have d8:=F1 x.u4 (ou4.mono (by omega)) DF (by omega);obtain⟨KH,DG⟩:=aq (DF++qB x.u4);have LF:KH.length<=B2.length+7236:=by have:=oN ou4;rw[DG,List.length_append];omega
  rw[<-DG]at d8;have d9:=F1 x.v4 (ov4.mono (by omega)) KH (by omega);obtain⟨WH,PZ⟩:=aq (KH++qB x.v4);have UI:WH.length<=B2.length+8040:=by have:=oN ov4;rw[PZ,List.length_append];omega
  rw[<-PZ]at d9;have d10:=F1 x.u5 (ou5.mono (by omega)) WH (by omega);obtain⟨WI,P4⟩:=aq (WH++qB x.u5);have b13:WI.length<=B2.length+8844:=by have:=oN ou5;rw[P4,List.length_append];omega
  rw[<-P4]at d10;have d11:=F1 x.v5 (ov5.mono (by omega)) WI (by omega);obtain⟨WJ,P5⟩:=aq (WI++qB x.v5);have b14:WJ.length<=B2.length+9648:=by have:=oN ov5;rw[P5,List.length_append];omega
  rw[<-P5]at d11;have d12:=F1 x.u6 (ou6.mono (by omega)) WJ (by omega);obtain⟨WK,P6⟩:=aq (WJ++qB x.u6);have b15:WK.length<=B2.length+10452:=by have:=oN ou6;rw[P6,List.length_append];omega
  rw[<-P6]at d12;have d13:=F1 x.v6 (ov6.mono (by omega)) WK (by omega);obtain⟨WL,P7⟩:=aq (WK++qB x.v6);have b16:WL.length<=B2.length+11256:=by have:=oN ov6;rw[P7,List.length_append];omega
  rw[<-P7]at d13;have d14:=F1 x.u7 (ou7.mono (by omega)) WL (by omega);obtain⟨WM,P8⟩:=aq (WL++qB x.u7);have b17:WM.length<=B2.length+12060:=by have:=oN ou7;rw[P8,List.length_append];omega
  rw[<-P8]at d14;have d15:=F1 x.v7 (ov7.mono (by omega)) WM (by omega);obtain⟨Tx,P9⟩:=aq (WM++qB x.v7);have b18:Tx.length<=B2.length+12864:=by have:=oN ov7;rw[P9,List.length_append];omega
  rw[<-P9]at d15;have hR:Tx=B1++(l.take (i+1)).flatMap Ox:=by
   rw[P9,P8,P7,P6,P5,P4,PZ,DG,su,DD,yo,yn,ym,yl,yk,sn,dW,fc,List.flatMap_append];simp[Ox]
  obtain⟨Tw,H6⟩:=aq (Tx.length);have F3:Tw=Tx.length/\Tx=B1++(l.take (i+1)).flatMap Ox:=⟨H6,hR⟩;have j2:aB X i=some (BD x):=by rw[hS.nth,hX];exact hr
  have y2:ay l2 (ab B2)=true:=by rw[hS.neq,hS.len];exact decide_eq_true fM
  have y3:ay (ab B3) (ab B3)=true:=by rw[hS.neq];exact decide_eq_true rfl
  have y4:ay (ab B4) (ab B4)=true:=by rw[hS.neq];exact decide_eq_true rfl
  have y5:ay (ab B5) (ab B5)=true:=by rw[hS.neq];exact decide_eq_true rfl
  have y6:ay (ab B6) (ab B6)=true:=by rw[hS.neq];exact decide_eq_true rfl
  have y7:ay (ab B7) (ab B7)=true:=by rw[hS.neq];exact decide_eq_true rfl
  have y8:ay (ab B8) (ab B8)=true:=by rw[hS.neq];exact decide_eq_true rfl
  have y9:ay (ab B9) (ab B9)=true:=by rw[hS.neq];exact decide_eq_true rfl
  have We:ay (ab DF) (ab DF)=true:=by rw[hS.neq];exact decide_eq_true rfl
  have y11:ay (ab KH) (ab KH)=true:=by rw[hS.neq];exact decide_eq_true rfl
  have y12:ay (ab WH) (ab WH)=true:=by rw[hS.neq];exact decide_eq_true rfl
  have Ym:ay (ab WI) (ab WI)=true:=by rw[hS.neq];exact decide_eq_true rfl
  have Yn:ay (ab WJ) (ab WJ)=true:=by rw[hS.neq];exact decide_eq_true rfl
  have Yo:ay (ab WK) (ab WK)=true:=by rw[hS.neq];exact decide_eq_true rfl
  have Yp:ay (ab WL) (ab WL)=true:=by rw[hS.neq];exact decide_eq_true rfl
  have y17:ay (ab WM) (ab WM)=true:=by rw[hS.neq];exact decide_eq_true rfl
  have zL:ab Tx=Tw:=by rw[hS.len,H6]
  clear hR dW fc H6 hr sn yk yl ym yn yo DD su DG PZ P4 P5 P6 P7 P8 P9 b3 b4 b5 b6 b7 b8 b9 PS LF UI b13 b14 b15 b16 b17 b18;unfold BD at j2;obtain⟨s0,t0,r0,q0,w0,_⟩:=bX x.u0;rw[w0]at d0 j2;clear w0;obtain⟨s1,t1,r1,q1,w1,_⟩:=bX x.v0;rw[w1]at d1 j2;clear w1;obtain⟨s2,t2,r2,q2,w2,_⟩:=bX x.u1;rw[w2]at d2 j2;clear w2;obtain⟨s3,t3,r3,q3,w3,_⟩:=bX x.v1
  rw[w3]at d3 j2;clear w3;obtain⟨s4,t4,r4,q4,w4,_⟩:=bX x.u2;rw[w4]at d4 j2;clear w4;obtain⟨s5,t5,r5,q5,w5,_⟩:=bX x.v2;rw[w5]at d5 j2;clear w5;obtain⟨s6,t6,r6,q6,w6,_⟩:=bX x.u3;rw[w6]at d6 j2;clear w6;obtain⟨s7,t7,r7,q7,w7,_⟩:=bX x.v3;rw[w7]at d7 j2;clear w7;obtain⟨s8,t8,r8,q8,w8,_⟩:=bX x.u4;rw[w8]at d8 j2;clear w8;obtain⟨s9,t9,r9,q9,w9,_⟩:=bX x.v4;rw[w9]at d9 j2;clear w9
  obtain⟨s10,t10,Ts,q10,w10,_⟩:=bX x.u5;rw[w10]at d10 j2;clear w10;obtain⟨s11,t11,Wu,q11,w11,_⟩:=bX x.v5;rw[w11]at d11 j2;clear w11;obtain⟨s12,t12,Wv,q12,w12,_⟩:=bX x.u6;rw[w12]at d12 j2;clear w12;obtain⟨s13,t13,Ww,q13,w13,_⟩:=bX x.v6;rw[w13]at d13 j2;clear w13;obtain⟨s14,t14,Wx,q14,w14,_⟩:=bX x.u7;rw[w14]at d14 j2;clear w14;obtain⟨s15,t15,Wy,q15,w15,_⟩:=bX x.v7;rw[w15]at d15 j2
  clear w15;cbv at j2;cbv at i1;refine⟨?_⟩;cbv;apply bT c1;refine bz ai mixed hS (9) ?_;cbv;repeat (first|apply bT rfl|apply bF rfl|apply nd rfl|(simp only[j2];cbv)|apply nd y2|(refine hS.cl d0 ?_;cbv)|apply nd y3|(refine hS.cl d1 ?_;cbv)|apply nd y4|(refine hS.cl d2 ?_;cbv)|apply nd y5|(refine hS.cl d3 ?_;cbv)|apply nd y6|(refine hS.cl d4 ?_;cbv)|apply nd y7|(refine hS.cl d5 ?_;cbv)|apply nd y8|(refine hS.cl d6 ?_;cbv)|apply nd y9|(refine hS.cl d7 ?_;cbv)|apply nd We|(refine hS.cl d8 ?_;cbv)|apply nd y11|(refine hS.cl d9 ?_;cbv)|apply nd y12|(refine hS.cl d10 ?_;cbv)|apply nd Ym|(refine hS.cl d11 ?_;cbv)|apply nd Yn|(refine hS.cl d12 ?_;cbv)|apply nd Yo|(refine hS.cl d13 ?_;cbv)|apply nd Yp|(refine hS.cl d14 ?_;cbv)|apply nd y17|(refine hS.cl d15 ?_;cbv)|(simp only[zL,i1];cbv))
  refine aU [(2,33)] (Tw,Tx) ?_ ?_ ?_ ?_ rfl (by show 2<=3;omega) F3
  ·simp[bd,BF,ae,vi,vb,AV.aw,AV.aJ,Cell.aw,ak]
  ·simp[bf,BF,ae,Abs.look,ak,aA.aw,Cell.aw]
  ·simp[aF,BF,ae,ak]
  ·simp
 ·rintro⟨l2,B2⟩ ⟨fM,dW⟩
  simp only at fM dW;rw[List.take_of_length_le (by omega)]at dW;have u9:ay l2 (ab B2)=true:=by rw[hS.len,hS.neq,fM];exact decide_eq_true rfl
  rw[<-dW]at hF;refine⟨?_⟩;cbv;refine bF lE (nd u9 ?_);exact aC hF
def F9 (l:List Int):Abs.Rows:=W .i64 l
theorem DN (l:List Int):(F9 l).length=l.length:=by unfold F9 W;exact List.length_map ..
theorem Rj {l:List Int} {i:Nat} (h:i<l.length):∃x,x∈l/\l[i]?=some x/\l.getD i 0=x/\l.take (i+1)=l.take i ++ [x]:=
 ⟨l[i],List.getElem_mem h,List.getElem?_eq_getElem h,by rw[List.getD_eq_getElem?_getD,List.getElem?_eq_getElem h];rfl,by rw[List.take_add_one,List.getElem?_eq_getElem h];rfl⟩
structure Cl where
 k:Int
 P:List T2
 cn:Int
 cd:Int
 cr:Int
 O:List R8
 L:aS
 S:List Int
 B:List Bx
def DO (n:Int):Prop:=-8000<=n/\n<=8000
structure Cl.ok (c:Cl):Prop where
 k:DO c.k
 P:BP c.P
 cn:DO c.cn
 cd:DO c.cd
 cr:DO c.cr
 O:(∀x∈c.O,x.ok)/\c.O.length<=100
 L:BL c.L
 S:(∀x∈c.S,DO x)/\c.S.length<=100
 B:(∀x∈c.B,x.ok)/\c.B.length<=100
def Cl.tree (c:Cl):List Tree:=[.v (.int .i64 c.k),.aa false (aP c.P),.v (.int .i64 c.cn),.v (.int .i64 c.cd),.v (.int .i64 c.cr),.aa false (iE c.O),.aa false (aj c.L),.aa false (F9 c.S),.aa false (uk c.B)]
def YF (c:Cl):Abs.Rows:=iO c.k++GR c.P++iO c.cn++iO c.cd++iO c.cr++Rg c.O++GS c.L++nB c.S.length++c.S.flatMap iO++Rh c.B
theorem Jj {l:List Int} {k:Nat} (h:l.length<=k):(l.flatMap iO).length<=k*2:=Nat.le_trans (jK (k:=2) fun x _=>yp x) (Nat.mul_le_mul h (by omega))
def BG (k cn cd cr:Int) (X1 X2 X3 X4 X5:Abs.Rows) (len:Nat) (B:Abs.Rows) (I:Int):St:=ae 53 [.c (.sl 17 0 len false),.af,.af,.c (.ptr 2 0 0),.af,vi .i64 I] [none,none,some (.var [.t (.v (.int .i64 k)),.t (.aa false X1),.t (.v (.int .i64 cn)),.t (.v (.int .i64 cd)),.t (.v (.int .i64 cr)),.t (.aa false X2),.t (.aa false X3),.t (.aa false X4),.t (.aa false X5)]),none,none,none,none,none,none,none,none,none,none,none,none,none,none,some (.rows 1 B true false)]
theorem GO {f:FuncId} {a:Arg} {B x:Abs.Rows} {k d:Nat} (hx:x.length<=d) (hB:B.length<=k) (c:aH f [.own 1 B,a] ⟨[.own 1 (B++x)],[none,none]⟩) :
  ∃Z,Z=B++x/\Z.length<=k+d/\aH f [.own 1 B,a] ⟨[.own 1 Z],[none,none]⟩:=⟨_,rfl,by rw[List.length_append];omega,c⟩
theorem Ga (c:Cl) (hc:c.ok) (B:Abs.Rows) (hB:B.length<=450000000) :
  aH 23 [.own 1 B,.val (.agg c.tree)] ⟨[.own 1 (B++YF c)],[none,none]⟩:=by
 obtain⟨k,P,cn,cd,cr,O,Lc,Sg,Z⟩:=c;obtain⟨hk,hP,hcn,WN,hcr,hO,WO,Ty,hZ⟩:=hc;simp only at hk hP hcn WN hcr hO WO Ty hZ;obtain⟨B1,fQ,b1,c0⟩:=GO (yp k) hB (Jg k hk.1 hk.2 B (by omega));obtain⟨B2,dW,b2,c1⟩:=GO (DI hP) b1 (uW P hP.1 hP.2 B1 (by omega));obtain⟨B3,sn,b3,c2⟩:=GO (yp cn) b2 (Jg cn hcn.1 hcn.2 B2 (by omega));obtain⟨B4,yk,b4,c3⟩:=GO (yp cd) b3 (Jg cd WN.1 WN.2 B3 (by omega))
 obtain⟨B5,yl,b5,c4⟩:=GO (yp cr) b4 (Jg cr hcr.1 hcr.2 B4 (by omega));obtain⟨B6,ym,b6,c5⟩:=GO (PW hO.2) b5 (F6 O hO.1 hO.2 B5 (by omega));obtain⟨B7,yn,b7,c6⟩:=GO (Je WO) b6 (uj Lc WO.1 WO.2 B6 (by omega));obtain⟨B8,yo,b8,c7⟩:=GO (yV (Sg.length:Int)) b7 (H3 (Sg.length:Int) (by have:=Ty.2;omega) (by have:=Ty.2;omega) B7 (by omega));rw[show B++YF ⟨k,P,cn,cd,cr,O,Lc,Sg,Z⟩=(B8++Sg.flatMap iO)++Rh Z by rw[yo,yn,ym,yl,yk,sn,dW,fQ];simp[YF]]
 rw[show Cl.tree ⟨k,P,cn,cd,cr,O,Lc,Sg,Z⟩=[.v (.int .i64 k),.aa false (aP P),.v (.int .i64 cn),.v (.int .i64 cd),.v (.int .i64 cr),.aa false (iE O),.aa false (aj Lc),.aa false (F9 Sg),.aa false (uk Z)] from rfl];obtain⟨X,hX⟩:=aq (F9 Sg);obtain⟨n,fx⟩:=aq (Sg.length);have hn:n<=100:=by rw[fx];exact Ty.2
 have lX:X.length=n:=by rw[hX,DN,fx]
 obtain⟨N,hN⟩:=aq (Sg.length:Int);rw[<-hX];rw[<-hN]at c7;have hSf:(Sg.flatMap iO).length<=200:=Jj Ty.2;have c8:=fun hb=>F8 Z hZ.1 hZ.2 (B8++Sg.flatMap iO) hb
 have c8:=c8 (by rw[List.length_append];omega);obtain⟨l1,oT⟩:=aq (B8.length);generalize aP P=X1,iE O=X2,aj Lc=X3,uk Z=X5 at *;generalize af4:B8++Sg.flatMap iO++Rh Z=BE at *;refine dE ai mixed [.own 1] Tryz.func23 rfl rfl (by kernel_rfl) fun zD zE _ _ _ _ _ _ _ _ _ _ _ _ _ _ _ _ _ _ _ _ _ zz _ ay _ _ _ _ _ ab _ _ aL ar _ _ _ _ _ _ _ _ _ _ _ _ _ _ _ A L F hS hF=>?_
 have yB:ay (ab B) (ab B)=true:=by rw[hS.neq];exact decide_eq_true rfl
 have yB1:ay (ab B1) (ab B1)=true:=by rw[hS.neq];exact decide_eq_true rfl
 have yB2:ay (ab B2) (ab B2)=true:=by rw[hS.neq];exact decide_eq_true rfl
 have yB3:ay (ab B3) (ab B3)=true:=by rw[hS.neq];exact decide_eq_true rfl
 have yB4:ay (ab B4) (ab B4)=true:=by rw[hS.neq];exact decide_eq_true rfl
 have yB5:ay (ab B5) (ab B5)=true:=by rw[hS.neq];exact decide_eq_true rfl
 have yB6:ay (ab B6) (ab B6)=true:=by rw[hS.neq];exact decide_eq_true rfl
 have yB7:ay (ab B7) (ab B7)=true:=by rw[hS.neq];exact decide_eq_true rfl
 have Cu:ab B8=l1:=by rw[hS.len,oT]
 have hzE:ay (ab BE) (ab BE)=true:=by rw[hS.neq];exact decide_eq_true rfl
 have ec:aE zD .u64 (zz (ab X))=N:=by rw[hS.az,hS.len,lX,hS.wrap,eS (by omega) (by omega),hN,fx]
 have lE:=hS.fh lX;cbv at ec;clear fQ dW sn yk yl ym yn b1 b2 b3 b4 b5 b6 b7 yo;cbv;apply nd yB;refine hS.cl c0 ?_;cbv;apply nd yB1;refine hS.cl c1 ?_;cbv;apply nd yB2;refine hS.cl c2 ?_;cbv;apply nd yB3;refine hS.cl c3 ?_;cbv;apply nd yB4;refine hS.cl c4 ?_;cbv;apply nd yB5;refine hS.cl c5 ?_;cbv;apply nd yB6;refine hS.cl c6 ?_;cbv;apply nd yB7;simp only[ec];refine hS.cl c7 ?_
 cbv;simp only[Cu];refine fX ai mixed hS (n:=n) (fun i (z:Nat×Abs.Rows)=>BG k cn cd cr X1 X2 X3 X X5 z.1 z.2 (Int.ofNat i)) (fun i z=>z.1=z.2.length/\z.2=B8++(Sg.take i).flatMap iO) (a0:=(l1,B8)) (fy ?_ ?_) rfl (by show 2<=18;omega) ⟨oT,by simp⟩ ?_ ?_
 ·simp[dS,BG,ae,vi,vb]
 ·simp[dU,BG,ae]
 ·rintro i ⟨l2,D2⟩ hi ⟨fM,Ly⟩
  simp only at fM Ly;have e1:=(hS.ic lX hi (by omega)).1;have i1:aE zD .i64 (eE zE (Int.ofNat i) 1)=(i:Int)+1:=(hS.ic lX hi (by omega)).2.1;obtain⟨x,vn,_,hr,fc⟩:=Rj (l:=Sg) (i:=i) (by omega);have hlen:((Sg.take i).flatMap iO).length<=200:=Jj (k:=100) (by rw[List.length_take];omega);have cq:=Jg x (Ty.1 x vn).1 (Ty.1 x vn).2 D2 (by rw[Ly,List.length_append];omega);obtain⟨D3,hD3⟩:=aq (D2++iO x)
  rw[<-hD3]at cq;obtain⟨l3,Ou⟩:=aq (D3.length);have F3:l3=D3.length/\D3=B8++(Sg.take (i+1)).flatMap iO:=⟨Ou,by rw[fc,hD3,Ly,List.flatMap_append];simp⟩;have j2:ar X i=x:=by rw[hS.dK,hX];unfold F9;rw[m8];exact hr
  have j3:aL .i64 X i=true:=by rw[hS.gM,hX];unfold F9;rw[kY];exact decide_eq_true (by omega)
  have y2:ay l2 (ab D2)=true:=by rw[hS.neq,hS.len];exact decide_eq_true fM
  have zL:ab D3=l3:=by rw[hS.len,Ou]
  clear hD3 Ly fc Ou hr;cbv at i1;refine⟨?_⟩;cbv;apply bT e1;simp only[j2];cbv;repeat (first|apply bT rfl|apply bF rfl|apply nd rfl)
  refine nd j3 (nd y2 ?_);refine hS.cl cq ?_;cbv;simp only[zL,i1];refine aU [(2,2),(17,18)] (l3,D3) ?_ ?_ ?_ ?_ rfl (by show 2<=18;omega) F3
  ·simp[bd,BG,ae,vi,vb,AV.aw,AV.aJ,Cell.aw,ak]
  ·simp[bf,BG,ae,Abs.look,ak,aA.aw,Cell.aw]
  ·simp[aF,BG,ae,ak]
  ·simp
 ·rintro⟨l2,D2⟩ ⟨fM,Ly⟩
  simp only at fM Ly;rw[List.take_of_length_le (by omega)]at Ly;have y2:ay l2 (ab D2)=true:=by rw[hS.neq,hS.len];exact decide_eq_true fM
  rw[<-Ly]at c8;refine⟨?_⟩;cbv;refine bF lE (nd y2 ?_);refine hS.cl c8 ?_;cbv;exact nd hzE (aC hF)
def KO (l:List (Rat×Rat)):Abs.Rows:=l.map fun x=>(qc x.1).row++(qc x.2).row
def KQ (l:List (Rat×List T2)):Abs.Rows:=l.map fun x=>(qc x.1).row ++ [.aa false (aP x.2)]
structure Q8 where
 a0:Rat
 a1:Rat
 a2:Rat
 a3:Rat
 a4:Rat
 a5:Rat
 a6:Rat
 a7:Rat
def Q8.ok (x:Q8):Prop:=Qs x.a0 100/\Qs x.a1 100/\Qs x.a2 100/\Qs x.a3 100/\Qs x.a4 100/\Qs x.a5 100/\Qs x.a6 100/\Qs x.a7 100
def Rl (x:Q8):List Tree:=(qc x.a0).row++(qc x.a1).row++(qc x.a2).row++(qc x.a3).row++(qc x.a4).row++(qc x.a5).row++(qc x.a6).row++(qc x.a7).row
def Jk (l:List Q8):Abs.Rows:=l.map Rl
def WQ (x:Rat×Rat):Abs.Rows:=qB x.1++qB x.2
def WR (x:Rat×List T2):Abs.Rows:=qB x.1++GR x.2
def q8B (x:Q8):Abs.Rows:=qB x.a0++qB x.a1++qB x.a2++qB x.a3++qB x.a4++qB x.a5++qB x.a6++qB x.a7
theorem Qa (l:List (Rat×Rat)):(KO l).length=l.length:=by simp[KO]
theorem Qb (l:List (Rat×List T2)):(KQ l).length=l.length:=by simp[KQ]
theorem Qc (l:List Q8):(Jk l).length=l.length:=by simp[Jk]
theorem WS {l:List (Rat×Rat)} {i:Nat} (h:i<l.length):∃x,x∈l/\(KO l)[i]?=some ((qc x.1).row++(qc x.2).row)/\l.take (i+1)=l.take i ++ [x]:=
 ⟨l[i],List.getElem_mem h,by simp[KO,List.getElem?_eq_getElem h],by rw[List.take_add_one,List.getElem?_eq_getElem h];rfl⟩
theorem WT {l:List (Rat×List T2)} {i:Nat} (h:i<l.length):∃x,x∈l/\(KQ l)[i]?=some ((qc x.1).row ++ [.aa false (aP x.2)])/\l.take (i+1)=l.take i ++ [x]:=
 ⟨l[i],List.getElem_mem h,by simp[KQ,List.getElem?_eq_getElem h],by rw[List.take_add_one,List.getElem?_eq_getElem h];rfl⟩
theorem Ny {l:List Q8} {i:Nat} (h:i<l.length):∃x,x∈l/\(Jk l)[i]?=some (Rl x)/\l.take (i+1)=l.take i ++ [x]:=
 ⟨l[i],List.getElem_mem h,by simp[Jk,List.getElem?_eq_getElem h],by rw[List.take_add_one,List.getElem?_eq_getElem h];rfl⟩
def BU (l:List Rat):Prop:=(∀x∈l,Qs x 100)/\l.length<=100
def BT (l:fi):Prop:=(∀p∈l,BL p)/\l.length<=10
structure Ce where
 N:Int
 sF:aS
 G:aS
 O:List R8
 C:fi
 Q:fi
 Sx:fi
 R:R8
 U:List Rat
 U0:List Rat
 U1:List Rat
 U2:List Rat
 U3:List Rat
 U4:List Rat
 U5:List Rat
 U6:List Rat
 U7:List Rat
 At:List (Rat×Rat)
 Sq:List (Rat×List T2)
 X:List Q8
 B:List Bx
structure Ce.ok (e:Ce):Prop where
 N:DO e.N
 sF:BL e.sF
 G:BL e.G
 O:(∀x∈e.O,x.ok)/\e.O.length<=100
 C:BT e.C
 Q:BT e.Q
 Sx:BT e.Sx
 R:e.R.ok
 U:BU e.U
 U0:BU e.U0
 U1:BU e.U1
 U2:BU e.U2
 U3:BU e.U3
 U4:BU e.U4
 U5:BU e.U5
 U6:BU e.U6
 U7:BU e.U7
 At:(∀x∈e.At,Qs x.1 100/\Qs x.2 100)/\e.At.length<=100
 Sq:(∀x∈e.Sq,Qs x.1 100/\BP x.2)/\e.Sq.length<=100
 X:(∀x∈e.X,x.ok)/\e.X.length<=100
 B:(∀x∈e.B,x.ok)/\e.B.length<=100
def Ce.tree (e:Ce):List Tree:=[.v (.int .i64 e.N),.aa false (aj e.sF),.aa false (aj e.G),.aa false (iE e.O),.aa false (dL e.C),.aa false (dL e.Q),.aa false (dL e.Sx),.v (.int .i64 e.R.a0),.v (.int .i64 e.R.a1),.v (.int .i64 e.R.a2),.v (.int .i64 e.R.a3),.v (.int .i64 e.R.a4),.v (.int .i64 e.R.a5),.v (.int .i64 e.R.a6),.v (.int .i64 e.R.a7),.aa false (ur e.U),.aa false (ur e.U0),.aa false (ur e.U1),.aa false (ur e.U2),.aa false (ur e.U3),.aa false (ur e.U4),.aa false (ur e.U5),.aa false (ur e.U6),.aa false (ur e.U7),.aa false (KO e.At),.aa false (KQ e.Sq),.aa false (Jk e.X),.aa false (uk e.B)]
def ceB (e:Ce):Abs.Rows:=iO e.N++GS e.sF++GS e.G++Rg e.O++Tt e.C++Tt e.Q++Tt e.Sx++iO e.R.a0++iO e.R.a1++iO e.R.a2++iO e.R.a3++iO e.R.a4++iO e.R.a5++iO e.R.a6++iO e.R.a7++uB e.U++uB e.U0++uB e.U1++uB e.U2++uB e.U3++uB e.U4++uB e.U5++uB e.U6++uB e.U7++nB e.At.length++e.At.flatMap WQ++nB e.Sq.length++e.Sq.flatMap WR++nB e.X.length++e.X.flatMap q8B++Rh e.B
structure Fa where
 N:Int
 E:aS
 D:aS
 c:Cl
 e:Ce
structure Fa.ok (f:Fa):Prop where
 N:DO f.N
 E:BL f.E
 D:BL f.D
 c:f.c.ok
 e:f.e.ok
def Fa.tree (f:Fa):List Tree:=.v (.int .i64 f.N) :: .aa false (aj f.E) :: .aa false (aj f.D)::(f.c.tree++f.e.tree)
def AB (R:Abs.Rows):Prop:=∀r∈R,PQ r
theorem AB.app {a b:Abs.Rows} (h:AB a) (g:AB b):AB (a++b):=fun r hr=>(List.mem_append.1 hr).elim (h r) (g r)
theorem AB.flat {α:Type} {f:α->Abs.Rows} {l:List α} (h:∀x∈l,AB (f x)):AB (l.flatMap f):=fun r hr=>by
 obtain⟨x,hx,hr⟩:=List.mem_flatMap.1 hr;exact h x hx r hr
theorem AB.nat {n:Int} (h0:0<=n) (h1:n<16384):AB (nB n):=DE h0 h1
theorem AB.len {n:Nat} (h1:n<=1000):AB (nB n):=DE (by omega) (by omega)
theorem AB.mu {n:Int} (h:DO n):AB (iO n):=by
 obtain⟨h0,h1⟩:=Nt h.1 h.2;exact DE h0 h1
theorem AB.q {x:Rat} (h:Qs x 100):AB (qB x):=Tp (h.mono (by omega))
theorem AB.po {p:List T2} (h:BP p):AB (GR p):=by
 unfold GR;refine AB.app (AB.len (by have:=h.2;omega)) (AB.flat fun t ht=>?_);have ot:=h.1 t ht;unfold KG;refine AB.app (AB.q (ot.c.mono (by omega))) (AB.app (AB.nat ot.a.1 (by have:=ot.a.2;omega)) (AB.app (AB.nat ot.b.1 (by have:=ot.b.2;omega)) ?_));intro r hr;have e:∀x∈[fj 0,fj 0,fj 0,fj 0,fj 0,fj 0],x=fj 0:=by simp
 rw[e r hr];exact⟨0,by decide,by decide,rfl⟩
theorem AB.pl {l:aS} (h:BL l):AB (GS l):=AB.app (AB.len (by have:=h.2;omega)) (AB.flat fun p hp=>AB.po (h.1 p hp))
theorem AB.tb {l:fi} (h:BT l):AB (Tt l):=AB.app (AB.len (by have:=h.2;omega)) (AB.flat fun p hp=>AB.pl (h.1 p hp))
theorem AB.r8 {x:R8} (h:x.ok):AB (LG x):=by
 obtain⟨h0,h1,h2,h3,h4,h5,h6,h7⟩:=h;exact(((((((AB.mu h0).app (AB.mu h1)).app (AB.mu h2)).app (AB.mu h3)).app (AB.mu h4)).app (AB.mu h5)).app (AB.mu h6)).app (AB.mu h7)
theorem AB.or {l:List R8} (h:(∀x∈l,x.ok)/\l.length<=100):AB (Rg l):=AB.app (AB.len (by have:=h.2;omega)) (AB.flat fun p hp=>AB.r8 (h.1 p hp))
theorem AB.u {l:List Rat} (h:BU l):AB (uB l):=AB.app (AB.len (by have:=h.2;omega)) (AB.flat fun p hp=>AB.q (h.1 p hp))
theorem AB.bx {l:List Bx} (h:(∀x∈l,x.ok)/\l.length<=100):AB (Rh l):=by
 refine AB.app (AB.len (by have:=h.2;omega)) (AB.flat fun p hp=>?_);obtain⟨h0,h1,h2,h3,h4,h5,h6,h7,h8,h9,Ev,QN,iH,XM,h14,h15⟩:=h.1 p hp;exact(((((((((((((((AB.q h0).app (AB.q h1)).app (AB.q h2)).app (AB.q h3)).app (AB.q h4)).app (AB.q h5)).app (AB.q h6)).app (AB.q h7)).app (AB.q h8)).app (AB.q h9)).app (AB.q Ev)).app (AB.q QN)).app (AB.q iH)).app (AB.q XM)).app (AB.q h14)).app (AB.q h15)
theorem AB.q8 {x:Q8} (h:x.ok):AB (q8B x):=by
 obtain⟨h0,h1,h2,h3,h4,h5,h6,h7⟩:=h;exact(((((((AB.q h0).app (AB.q h1)).app (AB.q h2)).app (AB.q h3)).app (AB.q h4)).app (AB.q h5)).app (AB.q h6)).app (AB.q h7)
theorem AB.cl {c:Cl} (h:c.ok):AB (YF c):=
 (((((((((AB.mu h.k).app (AB.po h.P)).app (AB.mu h.cn)).app (AB.mu h.cd)).app (AB.mu h.cr)).app (AB.or h.O)).app (AB.pl h.L)).app (AB.len (by have:=h.S.2;omega))).app (AB.flat fun x hx=>AB.mu (h.S.1 x hx))).app (AB.bx h.B)
theorem AB.ce {e:Ce} (h:e.ok):AB (ceB e):=by
 obtain⟨o0,o1,o2,o3,o4,o5,o6,o7⟩:=h.R;have p0:AB (iO e.N):=AB.mu h.N;have p1:AB (GS e.sF):=AB.pl h.sF;have p2:AB (GS e.G):=AB.pl h.G;have p3:AB (Rg e.O):=AB.or h.O;have p4:AB (Tt e.C):=AB.tb h.C;have p5:AB (Tt e.Q):=AB.tb h.Q;have p6:AB (Tt e.Sx):=AB.tb h.Sx;have p7:AB (iO e.R.a0):=AB.mu o0;have p8:AB (iO e.R.a1):=AB.mu o1;have p9:AB (iO e.R.a2):=AB.mu o2;have p10:AB (iO e.R.a3):=AB.mu o3
 have p11:AB (iO e.R.a4):=AB.mu o4;have p12:AB (iO e.R.a5):=AB.mu o5;have p13:AB (iO e.R.a6):=AB.mu o6;have p14:AB (iO e.R.a7):=AB.mu o7;have p15:AB (uB e.U):=AB.u h.U;have p16:AB (uB e.U0):=AB.u h.U0;have p17:AB (uB e.U1):=AB.u h.U1;have p18:AB (uB e.U2):=AB.u h.U2;have p19:AB (uB e.U3):=AB.u h.U3;have p20:AB (uB e.U4):=AB.u h.U4;have p21:AB (uB e.U5):=AB.u h.U5;have p22:AB (uB e.U6):=AB.u h.U6
 have p23:AB (uB e.U7):=AB.u h.U7;have p24:AB (nB e.At.length):=AB.len (by have:=h.At.2;omega);have p25:AB ((e.At.flatMap WQ)):=AB.flat fun x hx=>(AB.q (h.At.1 x hx).1).app (AB.q (h.At.1 x hx).2)
 have p26:AB (nB e.Sq.length):=AB.len (by have:=h.Sq.2;omega);have p27:AB ((e.Sq.flatMap WR)):=AB.flat fun x hx=>(AB.q (h.Sq.1 x hx).1).app (AB.po (h.Sq.1 x hx).2)
 have p28:AB (nB e.X.length):=AB.len (by have:=h.X.2;omega);have p29:AB ((e.X.flatMap q8B)):=AB.flat fun x hx=>AB.q8 (h.X.1 x hx)
 have p30:AB (Rh e.B):=AB.bx h.B;exact AB.app (AB.app (AB.app (AB.app (AB.app (AB.app (AB.app (AB.app (AB.app (AB.app (AB.app (AB.app (AB.app (AB.app (AB.app (AB.app (AB.app (AB.app (AB.app (AB.app (AB.app (AB.app (AB.app (AB.app (AB.app (AB.app (AB.app (AB.app (AB.app (AB.app (p0) p1) p2) p3) p4) p5) p6) p7) p8) p9) p10) p11) p12) p13) p14) p15) p16) p17) p18) p19) p20) p21) p22) p23) p24) p25) p26) p27) p28) p29) p30
theorem xG (C:eA) (slot:Nat) (σ:Operand->AV) (h:Hp) (t:TypeId) (x y:Operand) (t':TypeId) (s:ByteArray) (hx:σ x=.c (.t (.v (.string s)))) (hy:σ y=.c (.t (.v (.string s)))) :
  evalOp C slot σ h (.binOp .eql t x y t')=some { val:=ep (.bool true) }:=by
 unfold evalOp;simp only[hx,hy,JF,beq_self_eq_true,Option.map_some]
theorem Rm (x y:Rat) (hx:Qs x 100) (hy:Qs y 100) (h:x<=y):aH 124 [.val (.agg ((qc x).row++(qc y).row))] ⟨[.val (tb true)],[none]⟩:=by
 have c1:=Re (hx.mono (by omega):Qs x 1000000);have c2:=Re (hy.mono (by omega):Qs y 1000000);have c3:=FT (x:=x) (y:=y) (hx.mono (by omega)) (hy.mono (by omega));have hc:jt x y<=0:=by
  rcases FW x y with⟨e,_⟩|⟨e,_⟩|⟨_,g⟩
  ·omega
  ·omega
  ·exact absurd h (Rat.not_le.2 g)
 generalize jt x y=c at *;obtain⟨s1,t1,r1,q1,w1,_⟩:=bX x;obtain⟨s2,t2,r2,q2,w2,_⟩:=bX y;rw[w1]at c1 c3 ⊢;rw[w2]at c2 c3 ⊢;simp only[List.cons_append,List.nil_append];clear w1 w2;refine an ai mixed [.val] Tryz.func124 rfl rfl (by kernel_rfl) ?_;intros;rename_i zX _ _ _ _ _ _ _ _ _ _ _ _ _ _ _ _ _ _ _ _ _ _ _ _ _ _ _ _ _ _ _ _ _ _ _ A L F hS hF;have z:zX c 0=true:=dT (hS.le ..) hc
 cbv;refine hS.cl c1 ?_;cbv;apply bT rfl;refine hS.cl c2 ?_;cbv;apply bT rfl;refine hS.cl c3 ?_;cbv;exact bc hF (jf z)
theorem xH:aH 123 [.val (.agg (qc 0).row)] ⟨[.val (tb true)],[none]⟩:=by
 have c1:=PG 0 (by decide) (by decide);have c2:=Bh (x:=0) (y:=0) (by have:=Qs.whole (n:=0) (k:=1000000) (by decide) (by omega);exact this);rw[decide_eq_true rfl]at c2;rw[show(((0:Int)):Rat)=0 from rfl]at c1;obtain⟨s1,t1,r1,q1,w1,_⟩:=bX 0;rw[w1]at c1 c2 ⊢;refine an ai mixed [.val] Tryz.func123 rfl rfl (by kernel_rfl) ?_;intros;rename_i A L F hS hF;cbv;refine hS.cl c1 ?_;cbv;refine hS.cl c2 ?_
 cbv;exact aC hF
theorem KR (n:Int) (h0:0<=n) (h1:n<=1000000):aH 119 [.val (ti .i64 n)] ⟨[.val (tb true)],[none]⟩:=by
 refine an ai mixed [.val] Tryz.func119 rfl rfl (by kernel_rfl) ?_;intros;rename_i zX _ _ _ _ _ _ _ _ _ _ _ _ _ _ _ _ _ _ _ _ _ _ _ _ _ _ _ _ _ _ _ _ _ _ _ A L F hS hF;have z0:zX 0 n=true:=dT (hS.le ..) h0;have z1:zX n 1000000=true:=dT (hS.le ..) h1;cbv;apply bT z0;exact bc hF (jf z1)
def BH (X:Abs.Rows) (I:Int):St:=ae 22 [.c (.t (.aa false X)),.af,vb false,vi .i64 I] [none]
theorem Gb (l:List Int) (hl:∀x∈l,-1<=x/\x<=1) (hk:l.length<=1000):aH 120 [.val (tl (F9 l))] ⟨[.val (tb true)],[none]⟩:=by
 obtain⟨X,hX⟩:=aq (F9 l);obtain⟨n,fx⟩:=aq (l.length);have lX:X.length=n:=by rw[hX,DN,fx]
 rw[<-hX];refine an ai mixed [.val] Tryz.func120 rfl rfl (by kernel_rfl) ?_;intros;rename_i zV _ _ _ _ _ _ _ _ _ _ _ _ _ _ _ _ _ _ _ aL ar _ _ _ _ _ _ _ _ _ _ _ _ _ _ _ A L F hS hF;have lE:=hS.fh lX;cbv;refine fX ai mixed hS (n:=n) (fun i (_:Unit)=>BH X (Int.ofNat i)) (fun i _=>True) (a0:=()) (fy ?_ ?_) rfl (Nat.le_refl 1) trivial ?_ ?_
 ·simp[dS,BH,ae,vi,vb]
 ·simp[dU,BH,ae]
 ·rintro i ⟨⟩ hi -
  obtain⟨c1,i1,j1,n0⟩:=hS.ic lX hi (by omega);obtain⟨x,vn,_,hr,fc⟩:=Rj (l:=l) (i:=i) (by omega);have j2:ar X i=x:=by rw[hS.dK,hX];unfold F9;rw[m8];exact hr
  have j3:aL .i64 X i=true:=by rw[hS.gM,hX];unfold F9;rw[kY];exact decide_eq_true (by omega)
  have z1:zV x (-1)=false:=dF (hS.lt ..) (by have:=hl x vn;omega);have z2:zV 1 x=false:=dF (hS.lt ..) (by have:=hl x vn;omega);refine⟨?_⟩;cbv;apply bT c1;simp only[j1,j2];refine nd n0 (nd j3 ?_);apply bF z1;refine nd n0 (nd j3 ?_);apply bF z2;refine aU [] () ?_ ?_ ?_ ?_ rfl (Nat.le_refl 1) trivial
  ·simp[bd,BH,ae,vi,vb,AV.aw,AV.aJ,Cell.aw]
   exact i1
  ·simp[bf,BH,ae]
  ·simp[aF,BH,ae]
  ·simp
 ·rintro⟨⟩ -
  refine⟨?_⟩;cbv;apply bF lE;exact aC hF
end Go.Proofs.YtekefilngojelaaGreat
end
section
namespace Go.Abs
structure UJ (b:Bool) (p q:Unit->Prop):Prop where
 t:b=true->p ()
 f:b=false->q ()
theorem Nz (b:Bool) (p q:Unit->Prop):UJ b p q=Br b (p ()) (q ()):=propext ⟨fun h=>⟨h.t,h.f⟩,fun h=>⟨h.t,h.f⟩⟩
theorem tT {b:Bool} {p q:Unit->Prop} (h:b=true) (hp:p ()):UJ b p q:=⟨fun _=>hp,fun h'=>absurd (h.symm.trans h') (by decide)⟩
theorem tF {b:Bool} {p q:Unit->Prop} (h:b=false) (hq:q ()):UJ b p q:=⟨fun h'=>absurd (h.symm.trans h') (by decide),fun _=>hq⟩
section
variable (Z:ZI) (C:eA)
def DP (gs:List Nat) (lit:Bool) (o:Oper) (e:cR) (k:Bool->cR->Prop):Prop:=
 match gs with
 | []=>k lit e
 | g::gs=>match o.dst with
  | none=>k lit e
  | some d=>match(g::gs).contains d with
   | true=>match lit with
    | true=>k true e
    | false=>match e.val.bool? with
     | some b=>UJ b (fun _=>k true { e with val:=ep (.bool true) }) (fun _=>k true { e with val:=ep (.bool false) })
     | none=>k false e
   | false=>k lit e
theorem KS (gs:List Nat) (lit:Bool) (o:Oper) (e:cR) (k:Bool->cR->Prop):DP gs lit o e k=tO gs lit o e k:=by
 unfold DP tO;cases gs with
 | nil=>rfl
 | cons g gs=>
  cases o.dst with
  | none=>rfl
  | some d=>
   simp only;cases(g::gs).contains d with
   | false=>rfl
   | true=>
    cases lit with
    | true=>rfl
    | false=>
     simp only;cases e.val.bool? with
     | none=>rfl
     | some b=>exact Nz _ _ _
def Gc (A:FuncId->Ask->oV->Prop) (ops:List Oper) (gs:List Nat):List Oper->Nat->ST->List cR->(List cR->ST->Prop)->Prop
 | [],_,st,tr,Q=>Q tr st
 | o::os,slot,st,tr,Q=>De Z C A ops slot o st fun e=>DP gs (IX st o.op) o e fun b e=>Gc A ops gs os (slot+slotsOf C o.op) ((st.app o e).addLit b o) (tr ++ [e]) Q
theorem Gd (A:FuncId->Ask->oV->Prop) (ops:List Oper) (gs:List Nat):∀(os:List Oper) (slot:Nat) (st:ST) (tr:List cR) (Q:List cR->ST->Prop),Gc Z C A ops gs os slot st tr Q=AN Z C A ops gs os slot st tr Q
 | [],_,_,_,_=>rfl
 | o::os,slot,st,tr,Q=>by
  unfold Gc AN;have:(fun e=>DP gs (IX st o.op) o e fun b e=>Gc Z C A ops gs os (slot+slotsOf C o.op) ((st.app o e).addLit b o) (tr ++ [e]) Q)=(fun e=>tO gs (IX st o.op) o e fun b e=>AN Z C A ops gs os (slot+slotsOf C o.op) ((st.app o e).addLit b o) (tr ++ [e]) Q):=by
   funext e;rw[KS];congr 1;funext b e;exact Gd A ops gs os _ _ _ _
  rw[this]
def eF (A:FuncId->Ask->oV->Prop) (L:Code->St->(bq->ST->Prop)->Prop):Code->ST->(bq->ST->Prop)->Prop
 | .skip,st,Q=>Q .normal st
 | .ret,st,Q=>Q .ret st
 | .exit id,st,Q=>Q (.exit id) st
 | .seq x y,st,Q=>eF A L x st fun e s=>match e with
  | .normal=>eF A L y s Q
  | .exit id=>Q (.exit id) s
  | .ret=>Q .ret s
 | .region _ ops draw,st,Q=>Gc Z C A ops.toList (oE ops.toList ops.toList []) ops.toList st.heap.length (st.ext (bG C ops.toList)) [] fun aV tE=>match draw with
  | false=>Q .normal tE
  | true=>match AL ops.toList aV with
   | true=>Q .normal tE
   | false=>False
 | .cond c x y,st,Q=>match(st.get c).bool? with
  | some b=>match yF st.lit c with
   | true=>match b with
    | true=>eF A L x st Q
    | false=>eF A L y st Q
   | false=>UJ b (fun _=>eF A L x st Q) (fun _=>eF A L y st Q)
  | none=>False
 | .block id c,st,Q=>eF A L c st fun e s=>match e with
  | .normal=>Q .normal s
  | .exit Ef=>if Ef=id then Q .normal s else Q (.exit Ef) s
  | .ret=>Q .ret s
 | .loop c,st,Q=>match st.fO with
  | ⟨t,h⟩=>L c ⟨t,h⟩ Q
 | _,_,_=>False
theorem BI (A:FuncId->Ask->oV->Prop) (L:Code->St->(bq->ST->Prop)->Prop):∀(c:Code) (st:ST) (Q:bq->ST->Prop),eF Z C A L c st Q=dO Z C A L c st Q:=by
 intro c
 induction c with
 | seq x y E5 E6=>
  intro st Q;unfold eF dO;rw[E5];congr 1;funext e s;cases e with
  | normal=>exact E6 s Q
  | exit id=>rfl
  | ret=>rfl
 | region id ops draw=>
  intro st Q;unfold eF dO;exact Gd Z C A _ _ _ _ _ _ _
 | cond c x y E5 E6=>
  intro st Q;unfold eF dO;cases(st.get c).bool? with
  | none=>rfl
  | some b=>
   simp only;cases yF st.lit c with
   | true=>cases b with
    | true=>exact E5 st Q
    | false=>exact E6 st Q
   | false=>
    simp only;rw[Nz,E5,E6]
 | block id c ih=>
  intro st Q;unfold eF dO;rw[ih];congr 1
 | _=>intro st Q;rfl
theorem dJ {Z:ZI} {C:eA} {A:FuncId->Ask->oV->Prop} {L:Code->St->(bq->ST->Prop)->Prop} {c:Code} {st:ST} {Q:bq->ST->Prop} (h:eF Z C A L c st Q):dO Z C A L c st Q:=by
 rw[<-BI];exact h
end
end Go.Abs
end
section
namespace Go.Proofs.YtekefilngojelaaGreat
open Go Go.Abs Go.Abs.M Go.Proofs
theorem Ge:aH 121 [.val (.agg [.v (.int .i64 0),.v (.int .i64 0),.v (.int .i64 0),.v (.int .i64 0),.v (.int .i64 0),.v (.int .i64 0),.v (.int .i64 0),.v (.int .i64 0),.aa false [],.aa false [],.aa false [],.aa false [],.aa false [],.aa false [],.aa false [],.aa false [],.aa false []])] ⟨[.val (tb true)],[none]⟩:=by
 refine dE ai mixed [.val] Tryz.func121 rfl rfl (by kernel_rfl) ?_;intros;rename_i zz _ _ _ _ _ _ _ ab _ _ _ _ _ _ _ _ _ _ _ _ _ _ _ _ _ _ _ A L F hS hF;have z0:zz (ab [])=0:=by rw[hS.az,hS.len];rfl
 refine dJ ?_;cbv;refine bz ai mixed hS (9) ?_;simp only[z0];cbv;repeat (first|apply bT rfl|apply bF rfl|apply nd rfl)
 simp only[z0];cbv;repeat (first|(apply tT rfl;cbv)|(apply tF rfl;cbv)|(apply nd rfl;cbv))
 exact aC hF
theorem Gf (a1:Int) (U U1:Abs.Rows):aH 121 [.val (.agg [.v (.int .i64 1),.v (.int .i64 a1),.v (.int .i64 0),.v (.int .i64 0),.v (.int .i64 0),.v (.int .i64 0),.v (.int .i64 0),.v (.int .i64 0),.aa false U,.aa false [],.aa false U1,.aa false [],.aa false [],.aa false [],.aa false [],.aa false [],.aa false []])] ⟨[.val (tb false)],[none]⟩:=by
 refine dE ai mixed [.val] Tryz.func121 rfl rfl (by kernel_rfl) ?_;intros;rename_i A L F hS hF;refine dJ ?_;cbv;refine bz ai mixed hS (9) ?_;cbv;repeat (first|apply bT rfl|apply bF rfl|apply nd rfl)
 refine⟨fun _=>?_,fun _=>?_⟩
 ·cbv
  repeat (first|(apply tT rfl;cbv)|(apply tF rfl;cbv)|(apply nd rfl;cbv))
  exact aC hF
 ·cbv
  repeat (first|(apply tT rfl;cbv)|(apply tF rfl;cbv)|(apply nd rfl;cbv))
  exact aC hF
theorem xI (N r0 r1 r2 r3 r4 r5 r6 r7:Int) (X1 X2 X3 X4 X5 X6 Y0 Y1 Y2 Y3 Y4 Y5 Y6 Y7 Y8 Z1 Z2 Z3 Z4:Abs.Rows) (b0 b1 b2 b3 b4 b5 b6 b7 b8 b9 PS LF:Bool)
  (h0:b0=decide (N≠0)) (h1:b1=decide (0<X1.length)) (h2:b2=decide (0<X2.length)) (h3:b3=decide (0<X3.length)) (h4:b4=decide (0<X4.length)) (h5:b5=decide (0<X5.length)) (h6:b6=decide (0<X6.length)) (h8:b8=decide (0<Z1.length)) (h9:b9=decide (0<Z2.length)) (Ev:PS=decide (0<Z3.length)) (QN:LF=decide (0<Z4.length)) (hn:aH 121 [.val (.agg [.v (.int .i64 r0),.v (.int .i64 r1),.v (.int .i64 r2),.v (.int .i64 r3),.v (.int .i64 r4),.v (.int .i64 r5),.v (.int .i64 r6),.v (.int .i64 r7),.aa false Y0,.aa false Y1,.aa false Y2,.aa false Y3,.aa false Y4,.aa false Y5,.aa false Y6,.aa false Y7,.aa false Y8])] ⟨[.val (tb b7)],[none]⟩) :
  aH 82 [.val (.agg [.v (.int .i64 N),.aa false X1,.aa false X2,.aa false X3,.aa false X4,.aa false X5,.aa false X6,.v (.int .i64 r0),.v (.int .i64 r1),.v (.int .i64 r2),.v (.int .i64 r3),.v (.int .i64 r4),.v (.int .i64 r5),.v (.int .i64 r6),.v (.int .i64 r7),.aa false Y0,.aa false Y1,.aa false Y2,.aa false Y3,.aa false Y4,.aa false Y5,.aa false Y6,.aa false Y7,.aa false Y8,.aa false Z1,.aa false Z2,.aa false Z3,.aa false Z4])] ⟨[.val (.agg [.v (.bool b0),.v (.bool b1),.v (.bool b2),.v (.bool b3),.v (.bool b4),.v (.bool b5),.v (.bool b6),.v (.bool (!b7)),.v (.bool b8),.v (.bool b9),.v (.bool PS),.v (.bool LF)])],[none]⟩:=by
 refine an ai mixed [.val] Tryz.func82 rfl rfl (by kernel_rfl) ?_;intros;rename_i zU zV _ zY _ _ _ _ _ _ zz _ _ _ _ _ _ _ ab _ _ _ _ _ _ _ _ _ _ _ _ _ _ _ _ _ _ _ A L F hS hF;have e0:zU N 0=b0:=by rw[hS.ne,h0]
 have e1:zV 0 (zz (ab X1))=b1:=by rw[hS.lt,hS.az,hS.len,h1,decide_eq_decide];omega
 have e2:zV 0 (zz (ab X2))=b2:=by rw[hS.lt,hS.az,hS.len,h2,decide_eq_decide];omega
 have e3:zV 0 (zz (ab X3))=b3:=by rw[hS.lt,hS.az,hS.len,h3,decide_eq_decide];omega
 have e4:zV 0 (zz (ab X4))=b4:=by rw[hS.lt,hS.az,hS.len,h4,decide_eq_decide];omega
 have e5:zV 0 (zz (ab X5))=b5:=by rw[hS.lt,hS.az,hS.len,h5,decide_eq_decide];omega
 have e6:zV 0 (zz (ab X6))=b6:=by rw[hS.lt,hS.az,hS.len,h6,decide_eq_decide];omega
 have e8:zV 0 (zz (ab Z1))=b8:=by rw[hS.lt,hS.az,hS.len,h8,decide_eq_decide];omega
 have e9:zV 0 (zz (ab Z2))=b9:=by rw[hS.lt,hS.az,hS.len,h9,decide_eq_decide];omega
 have yJ:zV 0 (zz (ab Z3))=PS:=by rw[hS.lt,hS.az,hS.len,Ev,decide_eq_decide];omega
 have Kj:zV 0 (zz (ab Z4))=LF:=by rw[hS.lt,hS.az,hS.len,QN,decide_eq_decide];omega
 have e7:zY b7=!b7:=by rw[hS.not]
 clear h0 h1 h2 h3 h4 h5 h6 h8 h9 Ev QN;cbv;refine hS.cl hn ?_;cbv;simp only[e0,e1,e2,e3,e4,e5,e6,e7,e8,e9,yJ,Kj];exact aC hF
end Go.Proofs.YtekefilngojelaaGreat
end
