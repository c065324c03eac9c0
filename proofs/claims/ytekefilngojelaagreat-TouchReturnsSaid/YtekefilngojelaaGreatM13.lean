/- A part of the proof. -/
import Derived.Test.YtekefilngojelaaGreatM9
import Derived.Test.YtekefilngojelaaGreatM11
import Derived.Test.YtekefilngojelaaGreatM12
set_option maxHeartbeats 0
set_option maxRecDepth 100000
set_option linter.unusedVariables false
set_option linter.unusedSimpArgs false
set_option linter.unusedSectionVars false
section
namespace Go.Proofs.YtekefilngojelaaGreat
open Go Go.Abs Go.Abs.M Go.Proofs
theorem P4 (s:Bool) (r:Abs.Rows) (v:Bool) (p:Abs.Rows) (a b:Int):(nO s r v p a b).length=12:=rfl
def df (x:Rat) (c d:Int) (l:List T2):List T2:=if x=0 then [] else l.map fun t:T2=>T2.mk (x*t.c) (c+t.a) (d+t.b)
def Bm (X:Abs.Rows) (s:Bool) (r:Abs.Rows) (t:Bool) (p:Abs.Rows) (a b:Int) (len:Nat) (R:Abs.Rows) (I:Int):St:=ae 47 [.af,.af,.c (.t (.aa false X)),.c (.ptr 3 0 0),.c (.ptr 4 0 0),.af,.af,.af,.c (.sl 5 0 len false),vi .i64 I] [none,none,none,some (.var [.t (.v (.bool s)),.t (.aa false r),.t (.v (.bool t)),.t (.aa false p)]),some (.var [.t (.v (.int .i64 a)),.t (.v (.int .i64 b)),.t (.v (.int .i64 0)),.t (.v (.int .i64 0)),.t (.v (.int .i64 0)),.t (.v (.int .i64 0)),.t (.v (.int .i64 0)),.t (.v (.int .i64 0))]),some (.rows 12 R true false)]
theorem rV (x:Rat) (c d:Int) (l:List T2) {n:Nat} (hx:Qs x n) (hc:0<=c/\c<=30000) (hd:0<=d/\d<=30000) (hl:∀t∈l,t.ok n 30000) (hn:n<=100000) (UZ:l.length<=1000) :
  ah Tryz.prog 75 [.val (.agg (qc x).row),.val (.agg (m2 c d)),.val (tl (aV l))] ⟨[.val (tl (aV (df x c d l))),.val (ti .i64 0)],[none,none,none]⟩:=by
 have cs:=tX x;obtain⟨C,hC⟩:∃C,C=bC x.num 0:=⟨_,rfl⟩;have TB:C=0↔x=0:=by
  rw[hC,<-Rat.num_eq_zero];unfold bC
  by_cases h1:x.num<0
  ·rw[if_pos h1];omega
  ·rw[if_neg h1];by_cases h2:0<x.num
   ·rw[if_pos h2];omega
   ·rw[if_neg h2];omega
 rw[<-hC]at cs;obtain⟨X,hX⟩:∃X,X=aV l:=⟨_,rfl⟩;obtain⟨k,hk⟩:∃n,n=l.length:=⟨_,rfl⟩;have lX:X.length=k:=by rw[hX,qE,hk]
 obtain⟨s1,v1,r1,p1,e1,_⟩:=bD x;rw[e1]at cs ⊢
 by_cases h:x=0
 ·have hE:aV (df x c d l)=[]:=by unfold df;rw[if_pos h];rfl
  rw[hE,<-hX];unfold m2;refine ar aj mixed [.val,.val] Tryz.func75 rfl rfl (by kernel_rfl) ?_;intros;rename_i zT zU _ _ _ _ _ _ _ _ _ _ _ _ _ _ _ _ _ _ aD _ _ _ _ _ _ _ _ _ _ _ _ _ _ _ _ _ _ A L F hS hF;have q:zT C 0=true:=by rw[hS.eq];exact decide_eq_true (TB.2 h)
  cbv;refine⟨_,hS.call cs,?_⟩;cbv;refine bT q ?_;exact Fy hF (aW.drop _ _) (je.refl _)
 ·obtain⟨g,hg⟩:∃g:List T2,g=l.map fun t:T2=>T2.mk (x*t.c) (c+t.a) (d+t.b):=⟨_,rfl⟩
  have hE:df x c d l=g:=by unfold df;rw[if_neg h,hg]
  rw[hE,<-hX];have lg:g.length=k:=by rw[hg,List.length_map,hk]
  have Ny:∀(i:Nat) (t:T2),l[i]?=some t->g[i]?=some (T2.mk (x*t.c) (c+t.a) (d+t.b)):=fun i t ht=>by rw[hg,List.getElem?_map,ht];rfl
  clear hg hE;unfold m2;refine ar aj mixed [.val,.val] Tryz.func75 rfl rfl (by kernel_rfl) ?_;intros;rename_i zT zU _ _ _ _ _ _ _ _ _ _ _ _ _ _ _ _ _ _ aD _ _ _ _ _ _ _ _ _ _ _ _ _ _ _ _ _ _ A L F hS hF;have q:zT C 0=false:=by rw[hS.eq];exact decide_eq_false fun e=>h (TB.1 e)
  have lE:=hS.eU lX;have e0:zU 0 0=false:=by rw[hS.ne];rfl
  cbv;refine⟨_,hS.call cs,?_⟩;cbv;refine bF q ?_;refine nA aj mixed hS (n:=k) (fun i (R:Abs.Rows)=>Bm X s1 r1 v1 p1 c d i R (Int.ofNat i)) (fun i R=>R=aV (g.take i)) (a0:=[]) (fi ?_ ?_) rfl (by show 3<=6;omega) rfl ?_ ?_
  ·simp[dO,Bm,ae,vi,vb]
  ·simp[dP,Bm,ae]
  ·intro i R hi hR
   obtain⟨l1,i1,j1,n0⟩:=hS.gC lX hi (by omega);obtain⟨t,s,v,r,p,ht,gt,qt,hr,_,_,_⟩:=iN (l:=l) (i:=i) (by omega);obtain⟨u,s3,v3,r3,p3,hu,gu,qu,_,wu,eC,_⟩:=iN (l:=g) (i:=i) (by omega);have ot:=hl t ht;have Zg:u=T2.mk (x*t.c) (c+t.a) (d+t.b):=by rw[Ny i t gt]at gu;exact(Option.some.inj gu).symm
   have j2:aD X i=some (nO s r v p t.a t.b):=by rw[hS.nth,hX];exact hr
   have cn:=KF c d t.a t.b hc hd ot.a ot.b;have cm:=(KY hx ot.c (by omega)).2;rw[show x*t.c=u.c by rw[Zg],qu,qt,e1]at cm;rw[show c+t.a=u.a by rw[Zg],show d+t.b=u.b by rw[Zg]]at cn;have qK:R ++ [nO s3 r3 v3 p3 u.a u.b]=aV (g.take (i+1)):=by rw[eC,tW,<-hR,wu]
   obtain⟨u0,u1,u2,u3,u4,u5,u6,u7⟩:=hS.ve (P4 s3 r3 v3 p3 u.a u.b) (r:=R) (len:=i) (b:=128) (by rw[hR,qE,List.length_take];omega) (by unfold az;omega);obtain⟨row,pI⟩:∃row,row=nO s3 r3 v3 p3 u.a u.b:=⟨_,rfl⟩;rw[<-pI]at qK u0 u1 u2 u3 u4 u6 u7;generalize t.a=a,t.b=b,u.a=a2,u.b=b2 at *;unfold m2 at cn;unfold nO at pI;clear Ny hl ot Zg;cbv;refine bT l1 ?_;rw[j1,j2];cbv;refine nd n0 ?_
   refine⟨_,hS.call cn,?_⟩;cbv;refine bF e0 ?_;rw[j1,j2];cbv;refine nd n0 ?_;refine⟨_,hS.call cm,?_⟩;cbv;rw[<-pI,u0];refine nd u1 ?_;refine nd u2 ?_;refine nd u3 ?_;refine nd u4 ?_;refine nd u5 ?_;refine aQ [(3,3),(4,4),(5,12)] (R ++ [row]) ?_ ?_ ?_ ?_ rfl (by show 3<=6;omega) qK
   ·simp[aZ,Bm,ae,vi,AV.ay,AV.aI,Cell.ay,aq,i1,u6]
   ·simp[a8,Bm,ae,Abs.look,aq,aC.ay,u7,Cell.ay]
   ·simp[aF,Bm,ae,aq]
   ·simp
  ·intro R hR
   rw[List.take_of_length_le (by omega)]at hR;obtain⟨f1,f2⟩:=hS.whole (r:=R) (len:=k) (by rw[hR,qE,lg]);rw[<-hR]at hF;cbv;refine bF lE (nd f1 ?_);rw[f2];exact hF _ (ak.refl _)
open Go Go.Abs Go.Abs.M Go.Proofs
def Vd (p:List T2):Prop:=(∀t∈p,t.c≠0)/\p.Pairwise fun t u=>mL t.a t.b u.a u.b=1
def Zs (p:List T2):Prop:=∀t∈p,t.c.den=1/\t.c.num.natAbs<=1000000
def kQ (p:List T2):Nat:=p.foldl (fun g t=>Nat.gcd g t.c.num.natAbs) 0
def DB (p:List T2):Rat:=(if(p.headD ⟨0,0,0⟩).c<0 then -1 else 1)*(Rat.divInt 1 (kQ p))
def jI (p:List T2):List T2:=if p=[] then [] else df (DB p) 0 0 p
def Nm (p:List T2):Prop:=p≠[]->kQ p=1/\0<(p.headD ⟨0,0,0⟩).c
theorem nP:∀(p:List T2) (g:Nat),p.foldl (fun g t=>Nat.gcd g t.c.num.natAbs) g∣g/\∀t∈p,p.foldl (fun g t=>Nat.gcd g t.c.num.natAbs) g∣t.c.num.natAbs
 | [],g=>⟨Nat.dvd_refl _,fun t h=>absurd h (by simp)⟩
 | u::p,g=>by
  obtain⟨h1,h2⟩:=nP p (Nat.gcd g u.c.num.natAbs);refine⟨Nat.dvd_trans h1 (Nat.gcd_dvd_left _ _),fun t ht=>?_⟩;rcases List.mem_cons.1 ht with rfl|ht
  ·exact Nat.dvd_trans h1 (Nat.gcd_dvd_right _ _)
  ·exact h2 t ht
theorem Ga (k:Nat) (hk:0<k):∀(p q:List T2) (g:Nat),p.map (fun t=>t.c.num.natAbs)=q.map (fun t=>k*t.c.num.natAbs)->p.foldl (fun g t=>Nat.gcd g t.c.num.natAbs) (k*g)=k*q.foldl (fun g t=>Nat.gcd g t.c.num.natAbs) g
 | [],[],g,_=>rfl
 | [],_::_,g,h=>by simp at h
 | _::_,[],g,h=>by simp at h
 | t::p,u::q,g,h=>by
  simp only[List.map_cons,List.cons.injEq]at h;simp only[List.foldl_cons];rw[h.1,Nat.gcd_mul_left];exact Ga k hk p q _ h.2
theorem kU {p:List T2} (hp:p≠[]) (hz:Zs p) (hv:Vd p):0<kQ p:=by
 cases p with
 | nil=>exact absurd rfl hp
 | cons t p=>
  have h:=(nP (t::p) 0).2 t List.mem_cons_self;refine Nat.pos_of_dvd_of_pos h ?_;have h0:=hv.1 t List.mem_cons_self;have:t.c.num≠0:=fun e=>h0 (Rat.num_eq_zero.1 e)
  omega
theorem rW {x:Rat} (h:x.den=1):x=(x.num:Rat):=Rat.ext (by simp) (by simp[h])
theorem H3 (p:List T2):df 1 0 0 p=p:=by
 unfold df;rw[if_neg (by decide)];have:(fun t:T2=>T2.mk (1*t.c) (0+t.a) (0+t.b))=id:=by funext t;simp[Rat.one_mul]
 rw[this,List.map_id]
theorem H4 {p:List T2} (h:Nm p):jI p=p:=by
 unfold jI
 by_cases hp:p=[]
 ·rw[if_pos hp,hp]
 ·rw[if_neg hp]
  obtain⟨h1,h2⟩:=h hp;have:DB p=1:=by
   unfold DB;rw[if_neg (by rw[Rat.not_lt];exact Rat.le_of_lt h2),h1];rw[Rat.one_mul];rfl
  rw[this,H3]
theorem Gb {s:Int} (hs:s=1∨s=-1) {g:Nat} (hg:0<g) {x:Rat} (hx:x.den=1) (hd:g∣x.num.natAbs) :
  ∃z:Int,((s:Rat)*Rat.divInt 1 g)*x=(z:Rat)/\x.num.natAbs=g*z.natAbs/\x.num=s*(g*z):=by
 obtain⟨c,hc⟩:=Int.ofNat_dvd_left.2 hd;have AM:s*s=1:=by rcases hs with rfl|rfl<;>rfl
 refine⟨s*c,?_,?_,?_⟩
 ·rw[rW hx,hc]
  have FH:(g:Rat)≠0:=by
   intro h;have h2:((g:Int):Rat)=((0:Int):Rat):=by exact_mod_cast h
   have:=Rat.intCast_inj.1 h2;omega
  have e:Rat.divInt 1 (g:Int)*(g:Rat)=1:=by
   rw[Rat.divInt_eq_div];have:((1:Int):Rat)=1:=rfl;rw[this];exact Rat.div_mul_cancel FH
  have:(((g:Int)*c:Int):Rat)=(g:Rat)*(c:Rat):=by rw[Rat.intCast_mul];rfl
  rw[this,Rat.intCast_mul];rw[show((s:Rat)*Rat.divInt 1 (g:Int))*((g:Rat)*(c:Rat))=(s:Rat)*(Rat.divInt 1 (g:Int)*(g:Rat))*(c:Rat) by simp only[Rat.mul_assoc],e,Rat.mul_one]
 ·rw[hc,Int.natAbs_mul,Int.natAbs_mul]
  rcases hs with rfl|rfl<;>simp
 ·rw[hc]
  rw[show s*((g:Int)*(s*c))=(s*s)*((g:Int)*c) by ac_rfl,AM,Int.one_mul]
theorem xD {p:List T2} (hp:p≠[]) (hz:Zs p) (hv:Vd p) :
  ∃s:Int,(s=1∨s=-1)/\(s=-1↔(p.headD ⟨0,0,0⟩).c<0)/\DB p=(s:Rat)*Rat.divInt 1 (kQ p):=by
 unfold DB
 by_cases h:(p.headD ⟨0,0,0⟩).c<0
 ·refine⟨-1,Or.inr rfl,⟨fun _=>h,fun _=>rfl⟩,?_⟩
  rw[if_pos h];rfl
 ·refine⟨1,Or.inl rfl,⟨fun e=>absurd e (by decide),fun e=>absurd e h⟩,?_⟩
  rw[if_neg h];rfl
theorem Nz {p:List T2} (hp:p≠[]) (hz:Zs p) (hv:Vd p):DB p≠0:=by
 obtain⟨s,hs,_,e⟩:=xD hp hz hv;have hg:=kU hp hz hv;rw[e];intro h;rcases Rat.mul_eq_zero.1 h with h|h
 ·have:=Rat.intCast_inj.1 (show((s:Int):Rat)=((0:Int):Rat) from h)
  omega
 ·have e:Rat.divInt 1 ((kQ p:Nat):Int)*((kQ p:Nat):Rat)=1:=by
   rw[Rat.divInt_eq_div];have FH:((kQ p:Nat):Rat)≠0:=by
    intro h;have h2:(((kQ p:Nat):Int):Rat)=((0:Int):Rat):=by exact_mod_cast h
    have:=Rat.intCast_inj.1 h2;omega
   exact Rat.div_mul_cancel FH
  rw[h,Rat.zero_mul]at e;exact absurd e (by decide)
theorem K1 {p:List T2} (hz:Zs p) (hv:Vd p) :
  Zs (jI p)/\Vd (jI p)/\Nm (jI p)/\(jI p).length=p.length/\(jI p).map (fun t=>(t.a,t.b))=p.map (fun t=>(t.a,t.b)):=by
 by_cases hp:p=[]
 ·subst hp
  refine⟨fun t h=>absurd h (by simp[jI]),⟨fun t h=>absurd h (by simp[jI]),by simp[jI]⟩,fun h=>absurd (by simp[jI]) h,by simp[jI],by simp[jI]⟩
 ·have hn:=Nz hp hz hv
  have hE:jI p=p.map fun t:T2=>T2.mk (DB p*t.c) (0+t.a) (0+t.b):=by unfold jI;rw[if_neg hp];unfold df;rw[if_neg hn]
  obtain⟨s,hs,iW,e⟩:=xD hp hz hv;have hg:=kU hp hz hv;obtain⟨g,Zh⟩:∃g,g=kQ p:=⟨_,rfl⟩;rw[<-Zh]at hg e;have hdv:∀t∈p,g∣t.c.num.natAbs:=fun t ht=>by rw[Zh];exact(nP p 0).2 t ht
  have hq:∀t∈p,∃z:Int,DB p*t.c=(z:Rat)/\t.c.num.natAbs=g*z.natAbs/\t.c.num=s*(g*z):=fun t ht=>by
   rw[e];exact Gb hs hg (hz t ht).1 (hdv t ht)
  have hZ:Zs (jI p):=by
   intro u hu;rw[hE]at hu;obtain⟨t,ht,rfl⟩:=List.mem_map.1 hu;obtain⟨z,h1,h2,_⟩:=hq t ht;simp only[h1];refine⟨Rat.den_intCast z,?_⟩;have h3:z.natAbs<=g*z.natAbs:=Nat.le_mul_of_pos_left _ hg;have h4:=(hz t ht).2;rw[Rat.num_intCast];omega
  have TC:∀t∈p,(T2.mk (DB p*t.c) (0+t.a) (0+t.b)).c.num.natAbs*g=t.c.num.natAbs:=fun t ht=>by
   obtain⟨z,h1,h2,_⟩:=hq t ht;simp only[h1,Rat.num_intCast];rw[h2,Nat.mul_comm]
  refine⟨hZ,⟨?_,?_⟩,?_,by rw[hE,List.length_map],by rw[hE,List.map_map];exact List.map_congr_left fun t _=>by simp⟩
  ·intro u hu
   rw[hE]at hu;obtain⟨t,ht,rfl⟩:=List.mem_map.1 hu;exact fun h=>(Rat.mul_eq_zero.1 h).elim hn (hv.1 t ht)
  ·rw[hE,List.pairwise_map]
   exact hv.2.imp fun h=>by simp only[Int.zero_add];exact h
  ·intro _
   refine⟨?_,?_⟩
   ·have Md:p.map (fun t=>t.c.num.natAbs)=(jI p).map (fun t=>g*t.c.num.natAbs):=by
     rw[hE,List.map_map];exact List.map_congr_left fun t ht=>by simp only[Function.comp];rw[<-TC t ht,Nat.mul_comm]
    have h:=Ga g hg p (jI p) 0 Md;rw[Nat.mul_zero]at h;have h2:g=g*kQ (jI p):=by rw[Zh];rw[Zh]at h;exact h
    exact Nat.eq_of_mul_eq_mul_left hg (by rw[Nat.mul_one];exact h2.symm)
   ·cases p with
    | nil=>exact absurd rfl hp
    | cons t p=>
     rw[hE];simp only[List.map_cons,List.headD_cons];obtain⟨z,h1,h2,h3⟩:=hq t List.mem_cons_self;rw[h1];simp only[List.headD_cons]at iW;have h0:=hv.1 t List.mem_cons_self;have Kf:z≠0:=by
      intro h;rw[h]at h3;exact h0 (Rat.num_eq_zero.1 (by rw[h3];simp))
     have hgz:(0:Int)<g:=by omega
     have HO:t.c<0↔t.c.num<0:=by rw[<-Rat.not_le,<-Rat.num_nonneg];omega
     have:0<z:=by
      rcases hs with rfl|rfl
      ·have:¬t.c.num<0:=fun h=>absurd (iW.2 (HO.2 h)) (by decide)
       rw[Int.one_mul]at h3;rw[h3]at this;rcases Int.lt_trichotomy z 0 with h|h|h
       ·exact absurd (Int.mul_neg_of_pos_of_neg hgz h) this
       ·exact absurd h Kf
       ·exact h
      ·have h4:t.c.num<0:=HO.1 (iW.1 rfl)
       rw[h3]at h4;rcases Int.lt_trichotomy z 0 with h|h|h
       ·have:=Int.mul_neg_of_pos_of_neg hgz h
        omega
       ·exact absurd h Kf
       ·exact h
     exact Rat.intCast_pos.2 this
open Go Go.Abs Go.Abs.M Go.Proofs
def TD (t u:T2):Int:=if mL t.a t.b u.a u.b≠0 then mL t.a t.b u.a u.b else jh t.c u.c
theorem rX (a b c d:Int):(mL a b c d=-1/\(a<c∨a=c/\b<d))∨(mL a b c d=0/\a=c/\b=d)∨(mL a b c d=1/\(c<a∨a=c/\d<b)):=by
 unfold mL
 by_cases h1:a<c
 ·rw[if_pos h1];exact Or.inl ⟨rfl,Or.inl h1⟩
 ·rw[if_neg h1]
  by_cases h2:c<a
  ·rw[if_pos h2];exact Or.inr (Or.inr ⟨rfl,Or.inl h2⟩)
  ·rw[if_neg h2]
   by_cases h3:b<d
   ·rw[if_pos h3];exact Or.inl ⟨rfl,Or.inr ⟨by omega,h3⟩⟩
   ·rw[if_neg h3]
    by_cases h4:d<b
    ·rw[if_pos h4];exact Or.inr (Or.inr ⟨rfl,Or.inr ⟨by omega,h4⟩⟩)
    ·rw[if_neg h4];exact Or.inr (Or.inl ⟨rfl,by omega,by omega⟩)
theorem Bn {x y z:Rat} (h1:x<y) (h2:y<z):x<z:=Std.lt_trans h1 h2
theorem vU {x:Rat} (h:x<x):False:=Rat.lt_irrefl h
theorem P5 (x y:Rat):x<y∨x=y∨y<x:=by
 rcases Rat.le_total (a:=x) (b:=y) with h|h
 ·by_cases e:x=y
  ·exact Or.inr (Or.inl e)
  ·exact Or.inl (Rat.lt_of_le_of_ne h e)
 ·by_cases e:x=y
  ·exact Or.inr (Or.inl e)
  ·exact Or.inr (Or.inr (Rat.lt_of_le_of_ne h (Ne.symm e)))
theorem Gc (x y:Rat):(jh x y=-1/\x<y)∨(jh x y=0/\x=y)∨(jh x y=1/\y<x):=by
 unfold jh;rcases P5 x y with h|h|h
 ·rw[if_pos h];exact Or.inl ⟨rfl,h⟩
 ·subst h
  rw[if_neg vU,if_neg vU];exact Or.inr (Or.inl ⟨rfl,rfl⟩)
 ·rw[if_neg fun h2=>vU (Bn h h2),if_pos h];exact Or.inr (Or.inr ⟨rfl,h⟩)
def ON (t u:T2):Prop:=(t.a<u.a∨t.a=u.a/\t.b<u.b)∨(t.a=u.a/\t.b=u.b/\t.c<u.c)
theorem P6 (t u:T2):(TD t u=-1/\ON t u)∨(TD t u=0/\t=u)∨(TD t u=1/\ON u t):=by
 unfold TD ON;rcases rX t.a t.b u.a u.b with⟨h,g⟩|⟨h,g1,g2⟩|⟨h,g⟩
 ·rw[h,if_pos (by decide)];exact Or.inl ⟨rfl,Or.inl g⟩
 ·rw[h,if_neg (by decide)]
  rcases Gc t.c u.c with⟨k,l⟩|⟨k,l⟩|⟨k,l⟩
  ·exact Or.inl ⟨k,Or.inr ⟨g1,g2,l⟩⟩
  ·exact Or.inr (Or.inl ⟨k,tY.2 ⟨l,g1,g2⟩⟩)
  ·exact Or.inr (Or.inr ⟨k,Or.inr ⟨g1.symm,g2.symm,l⟩⟩)
 ·rw[h,if_pos (by decide)];exact Or.inr (Or.inr ⟨rfl,Or.inl (by omega)⟩)
theorem K2 {t u v:T2} (h1:ON t u) (h2:ON u v):ON t v:=by
 unfold ON at *;rcases h1 with h1|⟨a1,b1,c1⟩
 ·rcases h2 with h2|⟨a2,b2,c2⟩
  ·left;omega
  ·left;omega
 ·rcases h2 with h2|⟨a2,b2,c2⟩
  ·left;omega
  ·right;exact⟨by omega,by omega,Bn c1 c2⟩
theorem P7 {t:T2} (h:ON t t):False:=by
 unfold ON at h;rcases h with h|⟨_,_,c⟩
 ·omega
 ·exact vU c
theorem K3 (t u:T2) (l k:List T2):iO (t::l) (u::k)=if TD t u≠0 then TD t u else iO l k:=by
 unfold TD;show(if mL t.a t.b u.a u.b≠0 then mL t.a t.b u.a u.b else if jh t.c u.c≠0 then jh t.c u.c else iO l k)=_
 by_cases h:mL t.a t.b u.a u.b≠0
 ·rw[if_pos h,if_pos h,if_pos h]
 ·rw[if_neg h,if_neg h]
def LZ:List T2->List T2->Prop
 | [],[]=>False
 | [],_::_=>True
 | _::_,[]=>False
 | t::l,u::k=>ON t u∨(t=u/\LZ l k)
theorem xE:∀p q:List T2,(iO p q=-1/\LZ p q)∨(iO p q=0/\p=q)∨(iO p q=1/\LZ q p)
 | [],[]=>Or.inr (Or.inl ⟨rfl,rfl⟩)
 | [],_::_=>Or.inl ⟨rfl,trivial⟩
 | _::_,[]=>Or.inr (Or.inr ⟨rfl,trivial⟩)
 | t::l,u::k=>by
  rw[K3];rcases P6 t u with⟨h,g⟩|⟨h,g⟩|⟨h,g⟩
  ·rw[h,if_pos (by decide)];exact Or.inl ⟨rfl,Or.inl g⟩
  ·rw[h,if_neg (by decide)]
   subst g;rcases xE l k with⟨h,g⟩|⟨h,g⟩|⟨h,g⟩
   ·exact Or.inl ⟨h,Or.inr ⟨rfl,g⟩⟩
   ·exact Or.inr (Or.inl ⟨h,by rw[g]⟩)
   ·exact Or.inr (Or.inr ⟨h,Or.inr ⟨rfl,g⟩⟩)
  ·rw[h,if_pos (by decide)];exact Or.inr (Or.inr ⟨rfl,Or.inl g⟩)
theorem tZ:∀ {p q r:List T2},LZ p q->LZ q r->LZ p r
 | [],[],_,h,_=>absurd h id
 | [],_::_,[],_,h=>absurd h id
 | [],_::_,_::_,_,_=>trivial
 | _::_,[],_,h,_=>absurd h id
 | _::_,_::_,[],_,h=>absurd h id
 | t::p,u::q,v::r,h1,h2=>by
  rcases h1 with h1|⟨rfl,h1⟩
  ·rcases h2 with h2|⟨rfl,h2⟩
   ·exact Or.inl (K2 h1 h2)
   ·exact Or.inl h1
  ·rcases h2 with h2|⟨rfl,h2⟩
   ·exact Or.inl h2
   ·exact Or.inr ⟨rfl,tZ h1 h2⟩
theorem vV:∀ {p:List T2},LZ p p->False
 | [],h=>h
 | t::p,h=>by
  rcases h with h|⟨_,h⟩
  ·exact P7 h
  ·exact vV h
theorem DC {p q:List T2}:iO p q<0↔LZ p q:=by
 rcases xE p q with⟨h,g⟩|⟨h,g⟩|⟨h,g⟩
 ·rw[h];exact⟨fun _=>g,fun _=>by decide⟩
 ·subst g;rw[h];exact⟨fun k=>absurd k (by decide),fun k=>absurd k vV⟩
 ·rw[h];exact⟨fun k=>absurd k (by decide),fun k=>absurd (tZ k g) vV⟩
theorem P8 {p q:List T2} (h:¬LZ p q) (h2:p≠q):LZ q p:=by
 rcases xE p q with⟨_,g⟩|⟨_,g⟩|⟨_,g⟩
 ·exact absurd g h
 ·exact absurd g h2
 ·exact g
def vj (l:List (List T2)):Prop:=l.Pairwise LZ
theorem vj.nodup {l:List (List T2)} (h:vj l):l.Pairwise (· ≠ ·):=by
 refine List.Pairwise.imp ?_ h;intro a b h e;subst e;exact vV h
def G5 (p:List T2):List (List T2)->Nat
 | []=>0
 | q::l=>if iO q p<0 then G5 p l+1 else 0
theorem NA (p:List T2):∀l:List (List T2),G5 p l<=l.length
 | []=>Nat.le_refl 0
 | q::l=>by
  unfold G5;split
  ·have:=NA p l
   rw[List.length_cons];omega
  ·exact Nat.zero_le _
theorem NB (p:List T2):∀(l:List (List T2)) (i:Nat) (q:List T2),i<G5 p l->l[i]?=some q->iO q p<0
 | [],i,q,h,_=>by simp[G5]at h
 | x::l,i,q,h,g=>by
  unfold G5 at h;split at h
  ·cases i with
   | zero=>simp at g;subst g;assumption
   | succ i=>exact NB p l i q (by omega) (by simpa using g)
  ·omega
theorem NC (p:List T2):∀(l:List (List T2)) (q:List T2),l[G5 p l]?=some q->¬iO q p<0
 | [],q,g=>by simp at g
 | x::l,q,g=>by
  unfold G5 at g;split at g
  ·exact NC p l q (by simpa using g)
  ·rename_i h;simp at g;subst g;exact h
def kV (p:List T2) (l:List (List T2)):List (List T2):=if l[G5 p l]?=some p then l else l.take (G5 p l)++p::l.drop (G5 p l)
theorem Bo (p q:List T2) (l:List (List T2)):kV p (q::l)=if iO q p<0 then q::kV p l else if q=p then q::l else p::q::l:=by
 unfold kV
 by_cases h:iO q p<0
 ·have e:G5 p (q::l)=G5 p l+1:=by show(if iO q p<0 then _ else _)=_;rw[if_pos h]
  rw[if_pos h,e];simp only[List.getElem?_cons_succ,List.take_succ_cons,List.drop_succ_cons,List.cons_append];split<;>rfl
 ·have e:G5 p (q::l)=0:=by show(if iO q p<0 then _ else _)=_;rw[if_neg h]
  rw[if_neg h,e];simp only[List.getElem?_cons_zero,List.take_zero,List.drop_zero,List.nil_append,Option.some.injEq]
theorem Gd (p:List T2):kV p []=[p]:=by simp[kV,G5]
theorem xF {p x:List T2}:∀ {l:List (List T2)},x∈kV p l↔x=p∨x∈l
 | []=>by rw[Gd];simp
 | q::l=>by
  rw[Bo];split
  ·rw[List.mem_cons,xF,List.mem_cons]
   constructor
   ·rintro(h|h|h)
    ·exact Or.inr (Or.inl h)
    ·exact Or.inl h
    ·exact Or.inr (Or.inr h)
   ·rintro(h|h|h)
    ·exact Or.inr (Or.inl h)
    ·exact Or.inl h
    ·exact Or.inr (Or.inr h)
  ·split
   ·rename_i h
    rw[List.mem_cons];constructor
    ·exact Or.inr
    ·rintro(h2|h2)
     ·exact Or.inl (h2.trans h.symm)
     ·exact h2
   ·rw[List.mem_cons]
theorem Ge {p:List T2}:∀ {l:List (List T2)},vj l->vj (kV p l)
 | [],_=>by rw[Gd];exact List.pairwise_singleton _ _
 | q::l,h=>by
  obtain⟨h1,h2⟩:=List.pairwise_cons.1 h;rw[Bo];split
  ·rename_i hq
   refine List.pairwise_cons.2 ⟨fun x hx=>?_,Ge h2⟩;rcases xF.1 hx with rfl|hx
   ·exact DC.1 hq
   ·exact h1 x hx
  ·split
   ·exact h
   ·rename_i hq cY
    have hpq:LZ p q:=P8 (fun g=>hq (DC.2 g)) cY;refine List.pairwise_cons.2 ⟨fun x hx=>?_,h⟩;rcases List.mem_cons.1 hx with rfl|hx
    ·exact hpq
    ·exact tZ hpq (h1 x hx)
theorem ND (p:List T2) (l:List (List T2)):(kV p l).length<=l.length+1:=by
 unfold kV;split
 ·omega
 ·rw[List.length_append,List.length_cons,List.length_take,List.length_drop];omega
def yX (plain:Bool) (out:List (List T2)) (x:List T2):List (List T2):=if jI x=[]∨plain=true/\ji (jI x)=0 then out else kV (jI x) out
def ig (plain:Bool) (l:List (List T2)):List (List T2):=l.foldl (yX plain) []
theorem NF (plain:Bool) (l:List (List T2)) (x:List T2):ig plain (l ++ [x])=yX plain (ig plain l) x:=by unfold ig;rw[List.foldl_append];rfl
open Go Go.Abs Go.Abs.M Go.Proofs
def rY (X:Abs.Rows) (I:Int):St:=ae 52 [.c (.t (.aa false X)),.af,vb false,vi .i64 I] [none]
theorem DD (l:List T2) (hl:∀t∈l,t.ok 1000 30000) (hv:Vd l) (hn:l.length<=1000):ah Tryz.prog 139 [.val (tl (aV l))] ⟨[.val (tb true)],[none]⟩:=by
 obtain⟨X,hX⟩:∃X,X=aV l:=⟨_,rfl⟩;obtain⟨n,fD⟩:∃n,n=l.length:=⟨_,rfl⟩;have lX:X.length=n:=by rw[hX,qE,fD]
 rw[<-hX];refine ar aj mixed [.val] Tryz.func139 rfl rfl (by kernel_rfl) fun zD _ zG _ _ _ _ _ _ _ _ _ zT _ zV zX zY _ _ _ _ zu _ _ _ _ _ _ _ _ _ _ aD _ _ _ _ _ _ _ _ _ _ _ _ _ _ _ _ _ _ A L F hS hF=>?_
 have lE:=hS.eU lX;cbv;refine fA aj mixed hS (n:=n) (fun i (_:Unit)=>rY X (Int.ofNat i)) (fun i _=>True) (a0:=()) (fi ?_ ?_) rfl (Nat.le_refl 1) trivial ?_ ?_
 ·simp[dO,rY,ae,vi,vb]
 ·simp[dP,rY,ae]
 ·rintro i ⟨⟩ hi -
  obtain⟨c1,i1,j1,n0⟩:=hS.gC lX hi (by omega);obtain⟨t,s,v,r,p,ht,gt,hq,hr,_,_,_⟩:=iN (l:=l) (i:=i) (by omega);have j2:aD X i=some (nO s r v p t.a t.b):=by rw[hS.nth,hX];exact hr
  have ot:=hl t ht;have cv:=RE (ot.c.mono (by omega));have cs:=tX t.c;have cm:=AX t.a t.b (by have:=ot.a;omega) (by have:=ot.b;omega);rw[hq]at cv cs;obtain⟨C,hC⟩:∃C,C=bC t.c.num 0:=⟨_,rfl⟩;have TB:C≠0:=by
   have h0:t.c.num≠0:=fun e=>hv.1 t ht (Rat.num_eq_zero.1 e)
   rw[hC];unfold bC
   by_cases h1:t.c.num<0
   ·rw[if_pos h1];omega
   ·rw[if_neg h1,if_pos (by omega)];omega
  rw[<-hC]at cs;have zC:zT C 0=false:=by rw[hS.eq];exact decide_eq_false TB
  have y:zY true=false:=by rw[hS.not];rfl
  cases i with
  | zero=>
   have z0:zV 0 (Int.ofNat 0)=false:=by rw[hS.lt];rfl
   generalize t.a=a,t.b=b at *;unfold m2 at cm;refine⟨?_⟩;cbv;refine bT c1 ?_;simp only[j1,j2];cbv;refine nd n0 ?_;refine⟨_,hS.call cv,?_⟩;cbv;refine bF y ?_;simp only[j1,j2];cbv;refine nd n0 ?_;refine⟨_,hS.call cs,?_⟩;cbv;refine bF zC ?_;simp only[j1,j2];cbv;refine nd n0 ?_;refine⟨_,hS.call cm,?_⟩;cbv;refine bF y ?_;refine bF z0 ?_;refine aQ [] () ?_ ?_ ?_ ?_ rfl (Nat.le_refl 1) trivial
   ·simp[aZ,rY,ae,vi,vb,AV.ay,AV.aI,Cell.ay]
    exact i1
   ·simp[a8,rY,ae]
   ·simp[aF,rY,ae]
   ·simp
  | succ i=>
   obtain⟨u,s',v',r',p',hu,gu,Ws,ym,_,_,_⟩:=iN (l:=l) (i:=i) (by omega);have j4:aD X i=some (nO s' r' v' p' u.a u.b):=by rw[hS.nth,hX];exact ym
   have z0:zV 0 (Int.ofNat (i+1))=true:=by rw[hS.lt];exact decide_eq_true (show(0:Int)<((i+1:Nat):Int) by omega)
   have w1:zD .i64 (zG (Int.ofNat (i+1)) 1)=(i:Int):=by rw[hS.sub,hS.wrap];exact(wrap_i64 (by show -9223372036854775808<=((i+1:Nat):Int)-1;omega) (by show((i+1:Nat):Int)-1<9223372036854775808;omega)).trans (by show((i+1:Nat):Int)-1=i;omega)
   have j3:zu (i:Int)=i:=by rw[hS.nat];rfl
   have n3:zX 0 (i:Int)=true:=by rw[hS.le];exact decide_eq_true (show(0:Int)<=(i:Int) by omega)
   have hc:mL u.a u.b t.a t.b=1:=by
    have hp:=hv.2;rw[List.pairwise_iff_getElem]at hp;have h1:l[i]'(by omega)=u:=by have:=gu;rw[List.getElem?_eq_getElem (by omega)]at this;simpa using this
    have h2:l[i+1]'(by omega)=t:=by have:=gt;rw[List.getElem?_eq_getElem (by omega)]at this;simpa using this
    have:=hp i (i+1) (by omega) (by omega) (by omega);rw[h1,h2]at this;exact this
   have cc:=tK u.a u.b t.a t.b;rw[hc]at cc;have zc:zX 1 0=false:=by rw[hS.le];rfl
   generalize t.a=a,t.b=b,u.a=a',u.b=b' at *;unfold m2 at cm cc;refine⟨?_⟩;cbv;refine bT c1 ?_;simp only[j1,j2];cbv;refine nd n0 ?_;refine⟨_,hS.call cv,?_⟩;cbv;refine bF y ?_;simp only[j1,j2];cbv;refine nd n0 ?_;refine⟨_,hS.call cs,?_⟩;cbv;refine bF zC ?_;simp only[j1,j2];cbv;refine nd n0 ?_;refine⟨_,hS.call cm,?_⟩;cbv;refine bF y ?_;refine bT z0 ?_;simp only[w1,j3,j4];cbv
   refine nd n3 ?_;simp only[j1,j2];cbv;refine nd n0 ?_;refine⟨_,hS.call cc,?_⟩;cbv;refine bF zc ?_;refine aQ [] () ?_ ?_ ?_ ?_ rfl (Nat.le_refl 1) trivial
   ·simp[aZ,rY,ae,vi,vb,AV.ay,AV.aI,Cell.ay]
    exact i1
   ·simp[a8,rY,ae]
   ·simp[aF,rY,ae]
   ·simp
 ·rintro⟨⟩ -
  refine⟨?_⟩;cbv;refine bF lE ?_;exact hF _ (ak.refl _)
end Go.Proofs.YtekefilngojelaaGreat
end
section
namespace Go.Abs
open Go
variable {P:Program} {C:eh} {n0:Nat} {zD:IntKind->Int->Int} {zE zG zH zI zJ:Int->Int->Int} {zK zM zN zO zR zS:IntKind->Int->Int->Int} {zT zU zV zX:Int->Int->Bool} {zY:Bool->Bool} {zZ zg:Bool->Bool->Bool} {zh zj:Int->Int->Int} {zu:Int->Nat} {zy:Int->Nat->Bool} {zz:Nat->Int} {bd:Nat->Int->Nat} {ao:Nat->Nat->Bool} {aJ:Nat->Nat->Nat} {bN:Int->Int->Nat} {bE:Int->Int->Nat->Bool} {aO:Nat->Nat->Nat->Bool} {aR:Int->Int->Nat->Bool} {ab:Rows->Nat} {aD:Rows->Nat->Option (List Tree)} {bz:Rows->Nat->List Tree->Rows} {aL:IntKind->Rows->Nat->Bool} {aw:Rows->Nat->Int} {aP:IntKind->Rows->Nat->Int->Rows} {a9:Nat->Nat->Rows->Bool} {aE:Rows->Nat->Nat->Rows} {bQ bA:Rows->Nat->Rows->Rows} {bO:Nat->List Tree->Rows} {aN:Nat->Rows->Bool} {dc:List Bool->Bool} {de bg:List (Value×Tree)->Value->Bool} {bc:List (Value×Tree)->Value->Tree->List (Value×Tree)} {bX:Rows->Option ByteArray} {aY:List (Value×Tree)->Value->Option (Option Tree)} {zW:IntKind->List Int->Rows} {lK:(α:Type)->(Unit->α)->α} {A:FuncId->Ask->pf->Prop} {L:Code->St->(bf->ST->Prop)->Prop}
theorem Std.bY (h:Std P n0 zD zE zG zH zI zJ zK zM zN zO zR zS zT zU zV zX zY zZ zg zh zj zu zy zz bd ao aJ bN bE aO aR ab aD bz aL aw aP a9 aE bQ bA bO aN dc de bg bc bX aY zW lK A L) {f:FuncId} {s s':St} (hc:eY P f s s'):A f (.h s) (.h s'):=by rw[h.a];exact hc
def LN (_:Nat):Prop:=True
def LN.v {n:Nat} (_:LN n):Nat:=n
end Go.Abs
end
section
namespace Go.Proofs.YtekefilngojelaaGreat
open Go Go.Abs Go.Proofs
def fc (n:Int):List Tree:=[.v (.int .u8 n)]
def uS (len:Nat) (B:Abs.Rows):List (Option aC):=[some (.var [.sl 1 0 len false]),some (.rows 1 B true false)]
def jJ (len:Nat) (B:Abs.Rows):List (Option aC):=[some (.var [.sl 2 0 len false]),none,some (.rows 1 B true false)]
theorem H5 (n:Int) (h0:0<=n) (h1:n<128):eY Tryz.prog 164 ⟨[.c (.ptr 0 0 0),vi .u64 n],[some (.var [.t (.aa true [])])]⟩ ⟨[],uS 1 [fc n]⟩:=by
 unfold uS fc;refine tI aj mixed Tryz.func164 rfl rfl (by kernel_rfl) rfl (by simp) fun zD _ _ _ _ _ _ _ _ _ _ _ _ _ _ zX _ _ _ _ _ _ _ _ _ _ aJ _ _ _ _ ab _ _ _ _ _ _ _ _ _ _ aN _ _ _ _ _ _ _ _ A L G hS hG=>?_
 have l1:zX 128 n=false:=by rw[hS.le];exact decide_eq_false (by omega)
 have e0:zD .u8 n=n:=by rw[hS.wrap];exact wrap_u8 h0 (by omega)
 have P9:aN 1 []=true:=by rw[hS.wide];rfl
 obtain⟨u0,u1,u2,u3,u4,u5,u6,u7⟩:=hS.ve (row:=[Tree.v (.int .u8 n)]) (w:=1) rfl (r:=[]) (len:=0) (b:=1) rfl (by unfold az;omega);have z0:ab []=0:=by rw[hS.len];rfl
 have u8:aJ (ab []) (ab [[Tree.v (.int .u8 n)]])=1:=by rw[z0];exact u6
 rw[<-z0]at u4;cbv;refine aU aj mixed hS (1) ?_;cbv;refine bF l1 ?_;simp only[e0,u0];refine nd u1 (nd u2 (nd u3 (nd P9 (nd u4 ?_))));refine xo hG [(1,2)] ?_ ?_ ?_ ?_
 ·simp[aZ]
 ·simp[a8,Abs.look,aq,aC.ay,Cell.ay,u8,u7]
 ·simp[aF,aq]
 ·simp
theorem NG (n:Int) (h0:0<=n) (h1:n<128) (len:Nat) (B:Abs.Rows) (hB:len=B.length) (hl:len<=1000000):eY Tryz.prog 164 ⟨[.c (.ptr 0 0 0),vi .u64 n],uS len B⟩ ⟨[],jJ (len+1) (B ++ [fc n])⟩:=by
 unfold uS jJ fc;refine tI aj mixed Tryz.func164 rfl rfl (by kernel_rfl) rfl (by simp) fun zD _ _ _ _ _ _ _ _ _ _ _ _ _ _ zX _ _ _ _ _ _ _ _ _ _ _ _ _ _ _ _ _ _ _ _ _ _ _ _ _ _ _ _ _ _ _ _ _ _ _ A L G hS hG=>?_
 have l1:zX 128 n=false:=by rw[hS.le];exact decide_eq_false (by omega)
 have e0:zD .u8 n=n:=by rw[hS.wrap];exact wrap_u8 h0 (by omega)
 obtain⟨u0,u1,u2,u3,u4,u5,u6,u7⟩:=hS.ve (row:=[Tree.v (.int .u8 n)]) (w:=1) rfl (r:=B) (len:=len) (b:=1) hB (by unfold az;omega);cbv;refine aU aj mixed hS (1) ?_;cbv;refine bF l1 ?_;simp only[e0,u0];refine nd u1 (nd u2 (nd u3 (nd u4 (nd u5 ?_))));refine xo hG [(2,3)] ?_ ?_ ?_ ?_
 ·simp[aZ]
 ·simp[a8,Abs.look,aq,aC.ay,Cell.ay,u6,u7]
 ·simp[aF,aq]
 ·simp
open Go Go.Abs Go.Proofs
theorem H6:eY Tryz.prog 146 ⟨[.c (.ptr 0 0 0),vi .i64 0],[some (.var [.t (.aa true [])])]⟩ ⟨[],uS 1 [fc 0]⟩:=by
 have c:=H5 0 (by omega) (by omega);unfold uS fc at c ⊢;refine tJ aj mixed Tryz.func146 rfl rfl (by kernel_rfl) rfl (by simp) fun zD _ _ zH _ _ _ _ _ _ _ _ _ _ _ _ _ _ _ _ _ _ _ _ _ _ _ _ _ _ _ _ _ _ _ _ _ _ _ _ _ _ _ _ _ _ _ _ _ _ _ A L G hS hG=>?_
 have e:aA zD .u64 (ny zH 2 (aA zD .u64 0))=0:=by rw[hS.wrap,hS.mul,hS.wrap];rfl
 cbv;repeat (first|apply bT rfl|apply bF rfl|apply nd rfl)
 refine⟨_,hS.bY c,?_⟩;cbv;refine xo hG [] ?_ ?_ ?_ ?_
 ·simp[aZ]
 ·simp[a8,Abs.look,aq,aC.ay,Cell.ay]
 ·simp[aF,aq]
 ·simp
def wI (s:Bool) (w:Int):Abs.Rows:=[fc (if s then 3 else 2),fc 0,fc 0,fc 0,fc w]
theorem Bp (s:Bool) (w:Int) (h0:0<=w) (h1:w<256) (len:Nat) (B:Abs.Rows) (hB:len=B.length) (hl:len<=1000000) :
  eY Tryz.prog 179 ⟨[.c (.ptr 0 0 0),.agg [.t (.v (.bool s)),.t (.aa false [[.v (.int .u32 w)]])]],uS len B⟩ ⟨[],jJ (len+5) (B++wI s w)⟩:=by
 have c:=NG (if s then 3 else 2) (by split<;>omega) (by split<;>omega) len B hB hl;unfold wI;obtain⟨lr,TE⟩:∃lr:Abs.Rows,lr=[[.v (.int .u32 w)]]:=⟨_,rfl⟩;rw[<-TE];obtain⟨new,jH⟩:∃new:Abs.Rows,new=[fc 0,fc 0,fc 0,fc w]:=⟨_,rfl⟩;have key:∀k:Int,eY Tryz.prog 164 ⟨[.c (.ptr 0 0 0),vi .u64 k],uS len B⟩ ⟨[],jJ (len+1) (B ++ [fc k])⟩->∃B1,B1=B ++ [fc k]/\B1.length=len+1/\B++fc k::new=B1++new/\eY Tryz.prog 164 ⟨[.c (.ptr 0 0 0),vi .u64 k],uS len B⟩ ⟨[],jJ (len+1) B1⟩:=fun k h=>⟨_,rfl,by rw[hB];simp,by simp,h⟩
 cases s
 ·obtain⟨B1,eW,Em,hE,c⟩:=key _ c
  rw[<-jH,show(if false=true then(3:Int) else 2)=2 from rfl];rw[show(if false=true then(3:Int) else 2)=2 from rfl]at hE c eW;rw[hE];clear hE eW key;unfold uS jJ fc at *;refine tJ aj mixed Tryz.func179 rfl rfl (by kernel_rfl) rfl (by simp) fun zD _ _ _ _ _ _ zM _ _ _ _ _ _ zV _ _ _ _ _ _ _ _ zz _ _ _ _ _ _ _ ab _ _ aL aw _ _ _ _ _ _ _ _ _ _ _ _ _ _ _ A L G hS hG=>?_
  have n1:zz (ab lr)=1:=by rw[hS.aB,hS.len,TE];rfl
  have g1:aw lr 0=w:=by rw[hS.dF,TE];rfl
  have g2:aL .u32 lr 0=true:=by rw[hS.gE,TE];rfl
  have s1:aA zD .u8 (zM .u32 w 24)=0:=by rw[hS.wrap,hS.shr,show(2:Int)^(Min.min (24:Int).toNat IntKind.u32.bits)=16777216 from rfl,show w.fdiv 16777216=0 by rw[Int.fdiv_eq_ediv_of_nonneg _ (by omega)];omega];rfl
  have s2:aA zD .u8 (zM .u32 w 16)=0:=by rw[hS.wrap,hS.shr,show(2:Int)^(Min.min (16:Int).toNat IntKind.u32.bits)=65536 from rfl,show w.fdiv 65536=0 by rw[Int.fdiv_eq_ediv_of_nonneg _ (by omega)];omega];rfl
  have s3:aA zD .u8 (zM .u32 w 8)=0:=by rw[hS.wrap,hS.shr,show(2:Int)^(Min.min (8:Int).toNat IntKind.u32.bits)=256 from rfl,show w.fdiv 256=0 by rw[Int.fdiv_eq_ediv_of_nonneg _ (by omega)];omega];rfl
  have s4:aA zD .u8 w=w:=by rw[hS.wrap];exact wrap_u8 h0 (by omega)
  have UU:=hS.PG (new:=new) (m:=4) (w:=1) (by rw[jH];rfl) (by omega) (by rw[jH];rfl) (r:=B1) (len:=len+1) (b:=1) Em.symm (by unfold az;omega);have u0:=UU.1;have u1:=UU.2.1;have u2:=UU.2.2.1;have u3:=UU.2.2.2.1;have u4:=UU.2.2.2.2.1;have u5:=UU.2.2.2.2.2.1;have u6:=UU.2.2.2.2.2.2.1;have u7:=UU.2.2.2.2.2.2.2;clear UU;have l2:mD zV 1 1=false:=rfl;cbv at s1 s2 s3 s4;cbv;repeat (first|apply bT rfl|apply bF rfl|apply nd rfl)
  simp only[n1];cbv;refine⟨_,hS.bY c,?_⟩;cbv;refine aU aj mixed hS (2) ?_;cbv;simp only[n1,g1,s1,s2,s3,s4,<-jH,u0];cbv;repeat (first|apply bT rfl|apply bF rfl|apply nd rfl)
  refine nd g2 (nd u1 (nd u2 (nd u3 (nd u4 (nd u5 ?_)))));repeat (first|apply bT rfl|apply bF rfl|apply nd rfl)
  refine xo hG [(2,8)] ?_ ?_ ?_ ?_
  ·simp[aZ]
  ·simp[a8,Abs.look,aq,aC.ay,Cell.ay,u6,u7]
  ·simp[aF,aq]
  ·simp
 ·obtain⟨B1,eW,Em,hE,c⟩:=key _ c
  rw[<-jH,show(if true=true then(3:Int) else 2)=3 from rfl];rw[show(if true=true then(3:Int) else 2)=3 from rfl]at hE c eW;rw[hE];clear hE eW key;unfold uS jJ fc at *;refine tJ aj mixed Tryz.func179 rfl rfl (by kernel_rfl) rfl (by simp) fun zD _ _ _ _ _ _ zM _ _ _ _ _ _ zV _ _ _ _ _ _ _ _ zz _ _ _ _ _ _ _ ab _ _ aL aw _ _ _ _ _ _ _ _ _ _ _ _ _ _ _ A L G hS hG=>?_
  have n1:zz (ab lr)=1:=by rw[hS.aB,hS.len,TE];rfl
  have g1:aw lr 0=w:=by rw[hS.dF,TE];rfl
  have g2:aL .u32 lr 0=true:=by rw[hS.gE,TE];rfl
  have s1:aA zD .u8 (zM .u32 w 24)=0:=by rw[hS.wrap,hS.shr,show(2:Int)^(Min.min (24:Int).toNat IntKind.u32.bits)=16777216 from rfl,show w.fdiv 16777216=0 by rw[Int.fdiv_eq_ediv_of_nonneg _ (by omega)];omega];rfl
  have s2:aA zD .u8 (zM .u32 w 16)=0:=by rw[hS.wrap,hS.shr,show(2:Int)^(Min.min (16:Int).toNat IntKind.u32.bits)=65536 from rfl,show w.fdiv 65536=0 by rw[Int.fdiv_eq_ediv_of_nonneg _ (by omega)];omega];rfl
  have s3:aA zD .u8 (zM .u32 w 8)=0:=by rw[hS.wrap,hS.shr,show(2:Int)^(Min.min (8:Int).toNat IntKind.u32.bits)=256 from rfl,show w.fdiv 256=0 by rw[Int.fdiv_eq_ediv_of_nonneg _ (by omega)];omega];rfl
  have s4:aA zD .u8 w=w:=by rw[hS.wrap];exact wrap_u8 h0 (by omega)
  have UU:=hS.PG (new:=new) (m:=4) (w:=1) (by rw[jH];rfl) (by omega) (by rw[jH];rfl) (r:=B1) (len:=len+1) (b:=1) Em.symm (by unfold az;omega);have u0:=UU.1;have u1:=UU.2.1;have u2:=UU.2.2.1;have u3:=UU.2.2.2.1;have u4:=UU.2.2.2.2.1;have u5:=UU.2.2.2.2.2.1;have u6:=UU.2.2.2.2.2.2.1;have u7:=UU.2.2.2.2.2.2.2;clear UU;have l2:mD zV 1 1=false:=rfl;cbv at s1 s2 s3 s4;cbv;repeat (first|apply bT rfl|apply bF rfl|apply nd rfl)
  simp only[n1];cbv;refine⟨_,hS.bY c,?_⟩;cbv;refine aU aj mixed hS (2) ?_;cbv;simp only[n1,g1,s1,s2,s3,s4,<-jH,u0];cbv;repeat (first|apply bT rfl|apply bF rfl|apply nd rfl)
  refine nd g2 (nd u1 (nd u2 (nd u3 (nd u4 (nd u5 ?_)))));repeat (first|apply bT rfl|apply bF rfl|apply nd rfl)
  refine xo hG [(2,8)] ?_ ?_ ?_ ?_
  ·simp[aZ]
  ·simp[a8,Abs.look,aq,aC.ay,Cell.ay,u6,u7]
  ·simp[aF,aq]
  ·simp
open Go Go.Abs Go.Abs.M Go.Proofs
def wQ (s:Bool) (w:Int):Abs.Rows:=wI s w++wI false 1
theorem K4 (s:Bool) (w:Int) (h0:0<=w) (h1:w<256) (len:Nat) (B:Abs.Rows) (hB:len=B.length) (hl:len<=900000) :
  eY Tryz.prog 175 ⟨[.c (.ptr 0 0 0),.agg [.t (.v (.bool s)),.t (.aa false [[.v (.int .u32 w)]]),.t (.v (.bool false)),.t (.aa false [[.v (.int .u32 1)]])]],uS len B⟩ ⟨[],jJ (len+10) (B++wQ s w)⟩:=by
 have c1:=Bp s w h0 h1 len B hB (by omega);obtain⟨B1,eW⟩:∃B1,B1=B++wI s w:=⟨_,rfl⟩;rw[<-eW]at c1;have Em:B1.length=len+5:=by rw[eW,hB];simp[wI]
 have c2:=Bp false 1 (by omega) (by omega) (len+5) B1 Em.symm (by omega);unfold wQ;rw[show B++(wI s w++wI false 1)=B1++wI false 1 by rw[eW];simp];obtain⟨B2,dh⟩:∃B2,B2=B1++wI false 1:=⟨_,rfl⟩;rw[<-dh]at c2 ⊢;rw[show len+5+5=len+10 from rfl]at c2;generalize len+5=l1,len+10=l2 at *;unfold uS jJ at *;refine tJ aj mixed Tryz.func175 rfl rfl (by kernel_rfl) rfl (by simp) ?_;intros;rename_i A L G hS hG
 cbv;repeat (first|apply bT rfl|apply bF rfl|apply nd rfl)
 refine⟨_,hS.bY c1,?_⟩;cbv;repeat (first|apply bT rfl|apply bF rfl|apply nd rfl)
 refine⟨_,hS.bY c2,?_⟩;cbv;repeat (first|apply bT rfl|apply bF rfl|apply nd rfl)
 refine xo hG [(2,7)] ?_ ?_ ?_ ?_
 ·simp[aZ]
 ·simp[a8,Abs.look,aq,aC.ay,Cell.ay]
 ·simp[aF,aq]
 ·simp
def wT (s:Bool) (w a b:Int):Abs.Rows:=wQ s w ++ [fc a,fc b,fc 0,fc 0,fc 0,fc 0,fc 0,fc 0]
theorem H7 (s:Bool) (w a b:Int) (h0:0<=w) (h1:w<256) (ha:0<=a/\a<128) (hb:0<=b/\b<128) (len:Nat) (B:Abs.Rows) (hB:len=B.length) (hl:len<=800000) :
  eY Tryz.prog 166 ⟨[.c (.ptr 0 0 0),.agg ((nO s [[.v (.int .u32 w)]] false [[.v (.int .u32 1)]] a b).map .t)],uS len B⟩ ⟨[],jJ (len+18) (B++wT s w a b)⟩:=by
 have c1:=K4 s w h0 h1 len B hB (by omega);obtain⟨B1,eW⟩:∃X,X=B++wQ s w:=⟨_,rfl⟩;have Em:B1.length=len+10:=by rw[eW,hB];simp[wQ,wI]
 rw[<-eW]at c1;have c2:=NG a ha.1 ha.2 (len+10) B1 Em.symm (by omega);obtain⟨B2,dh⟩:∃X,X=B1 ++ [fc a]:=⟨_,rfl⟩;have Bq:B2.length=len+10+1:=by rw[dh];simp[Em]
 rw[<-dh]at c2;have c3:=NG b hb.1 hb.2 (len+11) B2 Bq.symm (by omega);obtain⟨B3,kx⟩:∃X,X=B2 ++ [fc b]:=⟨_,rfl⟩;have lB3:B3.length=len+11+1:=by rw[kx];simp[Bq]
 rw[<-kx]at c3;have c4:=NG 0 (by omega) (by omega) (len+12) B3 lB3.symm (by omega);obtain⟨B4,vk⟩:∃X,X=B3 ++ [fc 0]:=⟨_,rfl⟩;have lB4:B4.length=len+12+1:=by rw[vk];simp[lB3]
 rw[<-vk]at c4;have c5:=NG 0 (by omega) (by omega) (len+13) B4 lB4.symm (by omega);obtain⟨B5,vn⟩:∃X,X=B4 ++ [fc 0]:=⟨_,rfl⟩;have lB5:B5.length=len+13+1:=by rw[vn];simp[lB4]
 rw[<-vn]at c5;have c6:=NG 0 (by omega) (by omega) (len+14) B5 lB5.symm (by omega);obtain⟨B6,vq⟩:∃X,X=B5 ++ [fc 0]:=⟨_,rfl⟩;have lB6:B6.length=len+14+1:=by rw[vq];simp[lB5]
 rw[<-vq]at c6;have c7:=NG 0 (by omega) (by omega) (len+15) B6 lB6.symm (by omega);obtain⟨B7,vr⟩:∃X,X=B6 ++ [fc 0]:=⟨_,rfl⟩;have lB7:B7.length=len+15+1:=by rw[vr];simp[lB6]
 rw[<-vr]at c7;have c8:=NG 0 (by omega) (by omega) (len+16) B7 lB7.symm (by omega);obtain⟨B8,vw⟩:∃X,X=B7 ++ [fc 0]:=⟨_,rfl⟩;have lB8:B8.length=len+16+1:=by rw[vw];simp[lB7]
 rw[<-vw]at c8;have c9:=NG 0 (by omega) (by omega) (len+17) B8 lB8.symm (by omega);obtain⟨B9,yp⟩:∃X,X=B8 ++ [fc 0]:=⟨_,rfl⟩;have lB9:B9.length=len+17+1:=by rw[yp];simp[lB8]
 rw[<-yp]at c9;have hE:B++wT s w a b=B9:=by rw[yp,vw,vr,vq,vn,vk,kx,dh,eW];simp[wT]
 rw[hE];clear hE yp vw vr vq vn vk kx dh eW Em Bq lB3 lB4 lB5 lB6 lB7 lB8 lB9;rw[show len+10+1=len+11 from rfl]at c2;rw[show len+11+1=len+12 from rfl]at c3;rw[show len+12+1=len+13 from rfl]at c4;rw[show len+13+1=len+14 from rfl]at c5;rw[show len+14+1=len+15 from rfl]at c6;rw[show len+15+1=len+16 from rfl]at c7;rw[show len+16+1=len+17 from rfl]at c8;rw[show len+17+1=len+18 from rfl]at c9
 generalize len+10=l0,len+11=l1,len+12=l2,len+13=l3,len+14=l4,len+15=l5,len+16=l6,len+17=l7,len+18=l8 at *;unfold uS jJ nO at *;simp only[List.map_cons,List.map_nil];refine tJ aj mixed Tryz.func166 rfl rfl (by kernel_rfl) rfl (by simp) fun zD _ _ _ _ _ _ _ _ _ _ _ _ _ _ _ _ _ _ _ _ _ _ _ _ _ _ _ _ _ _ _ _ _ _ _ _ _ _ _ _ _ _ _ _ _ _ _ _ _ _ A L G hS hG=>?_
 have sa:aA zD .u64 a=a:=by rw[hS.wrap];exact eG ha.1 (by omega)
 have sb:aA zD .u64 b=b:=by rw[hS.wrap];exact eG hb.1 (by omega)
 cbv at sa sb;cbv;repeat (first|apply bT rfl|apply bF rfl|apply nd rfl)
 refine⟨_,hS.bY c1,?_⟩;cbv;repeat (first|apply bT rfl|apply bF rfl|apply nd rfl)
 refine aU aj mixed hS (9) ?_;cbv;repeat (first|apply bT rfl|apply bF rfl|apply nd rfl)
 simp only[sa];refine⟨_,hS.bY c2,?_⟩;cbv;repeat (first|apply bT rfl|apply bF rfl|apply nd rfl)
 simp only[sb];refine⟨_,hS.bY c3,?_⟩;cbv;repeat (first|apply bT rfl|apply bF rfl|apply nd rfl)
 refine⟨_,hS.bY c4,?_⟩;cbv;repeat (first|apply bT rfl|apply bF rfl|apply nd rfl)
 refine⟨_,hS.bY c5,?_⟩;cbv;repeat (first|apply bT rfl|apply bF rfl|apply nd rfl)
 refine⟨_,hS.bY c6,?_⟩;cbv;repeat (first|apply bT rfl|apply bF rfl|apply nd rfl)
 refine⟨_,hS.bY c7,?_⟩;cbv;repeat (first|apply bT rfl|apply bF rfl|apply nd rfl)
 refine⟨_,hS.bY c8,?_⟩;cbv;repeat (first|apply bT rfl|apply bF rfl|apply nd rfl)
 refine⟨_,hS.bY c9,?_⟩;cbv;repeat (first|apply bT rfl|apply bF rfl|apply nd rfl)
 refine xo hG [(2,35)] ?_ ?_ ?_ ?_
 ·simp[aZ]
 ·simp[a8,Abs.look,aq,aC.ay,Cell.ay]
 ·simp[aF,aq]
 ·simp
open Go Go.Abs Go.Abs.M Go.Proofs
structure T2.int (t:T2):Prop where
 d:t.c.den=1
 n:t.c.num≠0/\t.c.num.natAbs<=100
 a:0<=t.a/\t.a<128
 b:0<=t.b/\t.b<128
def tB (t:T2):Abs.Rows:=wT (decide (t.c.num<0)) (t.c.num.natAbs:Int) t.a t.b
def pB (p:List T2):Abs.Rows:=fc (p.length:Int)::p.flatMap tB
theorem xG {n:Nat} (h0:n≠0) (h:n<4294967296):dg n=[(n:Int)]:=by
 unfold dg;rw[HL n (1+n) n (Nat.le_refl _) (by omega),Nat.add_comm];unfold OL;rw[if_neg h0,Nat.mod_eq_of_lt h,Nat.div_eq_of_lt h];cases n<;>simp[OL]
theorem TF {t:T2} (h:t.int):t.row=nO (decide (t.c.num<0)) [[.v (.int .u32 (t.c.num.natAbs:Int))]] false [[.v (.int .u32 1)]] t.a t.b:=by
 unfold T2.row;have e:(qc t.c).row=[.v (.bool (decide (t.c.num<0))),.aa false (W .u32 (dg t.c.num.natAbs)),.v (.bool (decide ((t.c.den:Int)<0))),.aa false (W .u32 (dg (t.c.den:Int).natAbs))]:=rfl;rw[e,h.d,xG (by have:=h.n.1;omega) (by have:=h.n.2;omega),show((1:Nat):Int).natAbs=1 from rfl,xG (by omega) (by omega)];rfl
def K5 (X:Abs.Rows) (N:Int) (len:Nat) (B:Abs.Rows) (I:Int):St:=ae 23 [.c (.ptr 0 0 0),.af,.c (.dy 1000000000166 [(0,0,0)]),.af,.af,.af,.af,.af,.af,.af,.af,.af,.af,.c (.t (.aa false X)),vi .i64 N,vi .i64 I] [some (.var [.sl 2 0 len false]),none,some (.rows 1 B true false)]
theorem H8 (p:List T2) (hp:∀t∈p,t.int) (hn:p.length<100) (len:Nat) (B:Abs.Rows) (hB:len=B.length) (hl:len<=100000) :
  eY Tryz.prog 165 ⟨[.c (.ptr 0 0 0),.c (.t (.aa false (aV p))),.c (.dy 1000000000166 [(0,0,0)])],uS len B⟩ ⟨[],jJ (len+1+18*p.length) (B++pB p)⟩:=by
 have c1:=NG (p.length:Int) (by omega) (by omega) len B hB (by omega);obtain⟨X,hX⟩:∃X,X=aV p:=⟨_,rfl⟩;obtain⟨n,fD⟩:∃n,n=p.length:=⟨_,rfl⟩;have lX:X.length=n:=by rw[hX,qE,fD]
 obtain⟨N,hN⟩:∃N:Int,N=(p.length:Int):=⟨_,rfl⟩;obtain⟨B1,eW⟩:∃Z,Z=B ++ [fc N]:=⟨_,rfl⟩;rw[<-hN,<-eW]at c1;rw[<-hX,<-fD];unfold uS jJ at *;refine tI aj mixed Tryz.func165 rfl rfl (by kernel_rfl) rfl (by simp) fun zD zE _ _ _ _ _ _ _ _ _ _ _ _ zV zX _ _ _ _ _ zu _ zz _ _ _ _ _ _ _ ab aD _ _ _ _ _ _ _ _ _ _ _ _ _ _ _ _ _ _ A L G hS hG=>?_
 have e2:zz (ab X)=N:=by rw[hS.aB,hS.len,lX,hN,fD]
 have e1:zD .u64 (zz (ab X))=N:=by rw[hS.wrap,hS.aB,hS.len,lX,hN,fD];exact eG (by omega) (by omega)
 cbv;simp only[e1];refine⟨_,hS.bY c1,?_⟩;cbv;simp only[e2];have Em:B1.length=len+1:=by rw[eW,hB];simp
 have hW:∀t:T2,(tB t).length=18:=fun t=>by simp[tB,wT,wQ,wI]
 have hlen:∀q:List T2,(q.flatMap tB).length=18*q.length:=fun q=>by
  induction q with
  | nil=>rfl
  | cons t q ih=>rw[List.flatMap_cons,List.length_append,ih,hW,List.length_cons];omega
 refine nA aj mixed hS (n:=n) (fun i (z:Nat×Abs.Rows)=>K5 X N z.1 z.2 (Int.ofNat i)) (fun i z=>z.1=len+1+18*i/\z.2=B1++(p.take i).flatMap tB) (a0:=(len+1,B1)) (fi ?_ ?_) rfl (Nat.le_succ 2) ⟨rfl,by simp⟩ ?_ ?_
 ·simp[dO,K5,ae,vi,vb]
 ·simp[dP,K5,ae]
 ·rintro i ⟨l2,B2⟩ hi ⟨ee,dh⟩
  simp only at ee dh;obtain⟨t,s,v,r,q,ht,gt,_,hr,wt,eC,_⟩:=iN (l:=p) (i:=i) (by omega);have ot:=hp t ht;have da:=TF ot;have Bq:l2=B2.length:=by rw[dh,List.length_append,hlen,Em,List.length_take,ee];omega
  have c2:=H7 (decide (t.c.num<0)) (t.c.num.natAbs:Int) t.a t.b (by omega) (by have:=ot.n.2;omega) ot.a ot.b l2 B2 Bq (by omega);have hR:l2+18=len+1+18*(i+1)/\B2++tB t=B1++(p.take (i+1)).flatMap tB:=⟨by omega,by rw[eC,dh,List.flatMap_append];simp⟩;have l1:zV (Int.ofNat i) N=true:=by rw[hS.lt,hN];exact decide_eq_true (show(i:Int)<(p.length:Int) by omega)
  have i1:zD .i64 (zE (i:Int) 1)=(i:Int)+1:=by rw[hS.add,hS.wrap];exact wrap_i64 (by omega) (by omega)
  have j1:zu (Int.ofNat i)=i:=by rw[hS.nat];rfl
  have n0:zX 0 (Int.ofNat i)=true:=by rw[hS.le];exact decide_eq_true (show(0:Int)<=(i:Int) by omega)
  have j2:aD X i=some (nO (decide (t.c.num<0)) [[.v (.int .u32 (t.c.num.natAbs:Int))]] false [[.v (.int .u32 1)]] t.a t.b):=by rw[hS.nth,hX,hr,<-wt,da]
  obtain⟨B3,kx⟩:∃Z,Z=B2++tB t:=⟨_,rfl⟩;obtain⟨l3,qL⟩:∃Z,Z=l2+18:=⟨_,rfl⟩;have c3:eY Tryz.prog 166 ⟨[.c (.ptr 0 0 0),.agg ((nO (decide (t.c.num<0)) [[.v (.int .u32 (t.c.num.natAbs:Int))]] false [[.v (.int .u32 1)]] t.a t.b).map .t)],uS l2 B2⟩ ⟨[],jJ l3 B3⟩:=by rw[qL,kx];exact c2
  rw[<-kx,<-qL]at hR;generalize decide (t.c.num<0)=sg at *;generalize (t.c.num.natAbs:Int)=w at *;generalize t.a=a,t.b=b at *;unfold uS jJ nO at c3;simp only[List.map_cons,List.map_nil]at c3;clear c2 da ot Bq dh ee hr wt eC;cbv;refine bT l1 ?_;rw[j1,j2];cbv;refine nd n0 ?_;refine⟨_,hS.bY c3,?_⟩;cbv;refine aQ [(2,4)] (l3,B3) ?_ ?_ ?_ ?_ rfl (Nat.le_succ 2) hR
  ·simp[aZ,K5,ae,vi,AV.ay,AV.aI,Cell.ay,aq,i1]
  ·simp[a8,K5,ae,Abs.look,aq,aC.ay,Cell.ay]
  ·simp[aF,K5,ae,aq]
  ·simp
 ·rintro⟨l2,B2⟩ ⟨ee,dh⟩
  simp only at ee dh;have lE:zV (Int.ofNat n) N=false:=by rw[hS.lt,hN];exact decide_eq_false (show ¬(n:Int)<(p.length:Int) by omega)
  have hBE:B2=B++pB p:=by rw[dh,eW,List.take_of_length_le (by omega),hN];simp[pB]
  rw[<-hBE,<-ee]at hG;cbv;refine bF lE ?_;refine xo hG [] ?_ ?_ ?_ ?_
  ·simp[aZ]
  ·simp[a8,Abs.look,aq,aC.ay,Cell.ay]
  ·simp[aF,aq]
  ·simp
open Go Go.Abs Go.Abs.M Go.Proofs
theorem H9 (p:List T2) (hp:∀t∈p,t.int) (hn:p.length<100) (len:Nat) (B:Abs.Rows) (hB:len=B.length) (hl:len<=100000) :
  eY Tryz.prog 147 ⟨[.c (.ptr 0 0 0),.c (.t (.aa false (aV p)))],uS len B⟩ ⟨[],jJ (len+1+18*p.length) (B++pB p)⟩:=by
 have c:=H8 p hp hn len B hB hl;generalize len+1+18*p.length=l2,aV p=X at *;obtain⟨B2,dh⟩:∃Z,Z=B++pB p:=⟨_,rfl⟩;rw[<-dh]at c ⊢;unfold uS jJ at *;refine tI aj mixed Tryz.func147 rfl rfl (by kernel_rfl) rfl (by simp) ?_;intros;rename_i A L G hS hG;cbv;refine⟨_,hS.bY c,?_⟩;cbv;refine xo hG [] ?_ ?_ ?_ ?_
 ·simp[aZ]
 ·simp[a8,Abs.look,aq,aC.ay,Cell.ay]
 ·simp[aF,aq]
 ·simp
theorem Gf (len:Nat) (B:Abs.Rows) (hB:len=B.length) (hl:len<=100000) :
  eY Tryz.prog 167 ⟨[.c (.ptr 0 0 0),.c (.t (.aa true [])),.c (.dy 1000000000168 [(0,0,0)])],uS len B⟩ ⟨[],jJ (len+1) (B ++ [fc 0])⟩:=by
 have c:=NG 0 (by omega) (by omega) len B hB (by omega);obtain⟨B2,dh⟩:∃Z,Z=B ++ [fc 0]:=⟨_,rfl⟩;rw[<-dh]at c ⊢;unfold uS jJ at *;refine tJ aj mixed Tryz.func167 rfl rfl (by kernel_rfl) rfl (by simp) ?_;intros;rename_i zz _ _ _ _ _ _ _ ab _ _ _ _ _ _ _ _ _ _ _ _ _ _ _ _ _ _ _ A L G hS hG;have e2:zz (ab [])=0:=by rw[hS.aB,hS.len];rfl
 cbv;simp only[e2];cbv;refine⟨_,hS.bY c,?_⟩;cbv;refine aU aj mixed hS (1) ?_;simp only[e2];cbv;repeat (first|apply bT rfl|apply bF rfl|apply nd rfl)
 refine xo hG [] ?_ ?_ ?_ ?_
 ·simp[aZ]
 ·simp[a8,Abs.look,aq,aC.ay,Cell.ay]
 ·simp[aF,aq]
 ·simp
theorem Ia (len:Nat) (B:Abs.Rows) (hB:len=B.length) (hl:len<=100000) :
  eY Tryz.prog 148 ⟨[.c (.ptr 0 0 0),.c (.t (.aa true []))],uS len B⟩ ⟨[],jJ (len+1) (B ++ [fc 0])⟩:=by
 have c:=Gf len B hB hl;obtain⟨B2,dh⟩:∃Z,Z=B ++ [fc 0]:=⟨_,rfl⟩;rw[<-dh]at c ⊢;unfold uS jJ at *;refine tI aj mixed Tryz.func148 rfl rfl (by kernel_rfl) rfl (by simp) ?_;intros;rename_i A L G hS hG;cbv;refine⟨_,hS.bY c,?_⟩;cbv;refine xo hG [] ?_ ?_ ?_ ?_
 ·simp[aZ]
 ·simp[a8,Abs.look,aq,aC.ay,Cell.ay]
 ·simp[aF,aq]
 ·simp
def kB (p:List T2):Abs.Rows:=fc 0::(pB p ++ [fc 0])
def kS (p:List T2):ByteArray:=(ZI.bV.str (kB p)).getD ⟨#[]⟩
theorem TG (p:List T2):(pB p).length=1+18*p.length:=by
 unfold pB;have hW:∀t:T2,(tB t).length=18:=fun t=>by simp[tB,wT,wQ,wI]
 have hlen:∀q:List T2,(q.flatMap tB).length=18*q.length:=fun q=>by
  induction q with
  | nil=>rfl
  | cons t q ih=>rw[List.flatMap_cons,List.length_append,ih,hW,List.length_cons];omega
 rw[List.length_cons,hlen];omega
def Qa (r:List Tree):Prop:=∃n:Int,0<=n/\n<256/\r=fc n
theorem Ib {p:List T2} (hp:∀t∈p,t.int) (hn:p.length<100):∀r∈kB p,Qa r:=by
 have h0:Qa (fc 0):=⟨0,by omega,by omega,rfl⟩;have hI:∀(s:Bool) (w:Int),0<=w->w<256->∀r∈wI s w,Qa r:=fun s w h1 h2 r hr=>by
  simp only[wI,List.mem_cons,List.not_mem_nil,or_false]at hr;rcases hr with rfl|rfl|rfl|rfl|rfl
  ·exact⟨_,by split<;>omega,by split<;>omega,rfl⟩
  ·exact h0
  ·exact h0
  ·exact h0
  ·exact⟨w,h1,h2,rfl⟩
 intro r hr;simp only[kB,pB,List.mem_cons,List.mem_append,List.not_mem_nil,or_false,List.mem_flatMap]at hr;rcases hr with rfl|(rfl|⟨t,ht,hr⟩)|rfl
 ·exact h0
 ·exact⟨_,by omega,by omega,rfl⟩
 ·have ot:=hp t ht
  simp only[tB,wT,wQ,List.mem_append,List.mem_cons,List.not_mem_nil,or_false]at hr;rcases hr with(hr|hr)|hr
  ·exact hI _ _ (by omega) (by have:=ot.n.2;omega) r hr
  ·exact hI _ _ (by omega) (by omega) r hr
  ·rcases hr with rfl|rfl|rfl|rfl|rfl|rfl|rfl|rfl
   ·exact⟨_,ot.a.1,by have:=ot.a.2;omega,rfl⟩
   ·exact⟨_,ot.b.1,by have:=ot.b.2;omega,rfl⟩
   all_goals exact h0
 ·exact h0
theorem nQ:∀ {R:Abs.Rows},(∀r∈R,Qa r)->∃l:List UInt8,dZ R=some l/\R=l.map fun b=>fc (b.toNat:Int)
 | [],_=>⟨[],rfl,rfl⟩
 | r::R,h=>by
  obtain⟨l,h1,h2⟩:=nQ fun x hx=>h x (List.mem_cons_of_mem _ hx)
  obtain⟨n,n0,n1,rfl⟩:=h r List.mem_cons_self;refine⟨UInt8.ofNat n.toNat::l,?_,?_⟩
  ·show(dZ R).map _=_
   rw[h1];rfl
  ·rw[List.map_cons,<-h2]
   congr 2;have:(UInt8.ofNat n.toNat).toNat=n.toNat:=by rw[UInt8.toNat_ofNat'];omega
   rw[this];omega
theorem TH {p:List T2} (hp:∀t∈p,t.int) (hn:p.length<100):ZI.bV.str (kB p)=some (kS p):=by
 obtain⟨l,h1,h2⟩:=nQ (Ib hp hn);have:ZI.bV.str (kB p)=some ⟨l.toArray⟩:=by show(dZ (kB p)).map _=_;rw[h1];rfl
 unfold kS;rw[this];rfl
theorem NH {p q:List T2} (hp:∀t∈p,t.int) (hn:p.length<100) (hq:∀t∈q,t.int) (hm:q.length<100) (h:kS p=kS q):p=q:=by
 obtain⟨l,h1,h2⟩:=nQ (Ib hp hn);obtain⟨m,g1,g2⟩:=nQ (Ib hq hm);have e1:kS p=⟨l.toArray⟩:=by unfold kS;rw[show ZI.bV.str (kB p)=some ⟨l.toArray⟩ by show(dZ (kB p)).map _=_;rw[h1];rfl];rfl
 have e2:kS q=⟨m.toArray⟩:=by unfold kS;rw[show ZI.bV.str (kB q)=some ⟨m.toArray⟩ by show(dZ (kB q)).map _=_;rw[g1];rfl];rfl
 rw[e1,e2]at h;have h3:l=m:=by
  have:=congrArg (fun z:ByteArray=>z.data.toList) h;simpa using this
 have hk:kB p=kB q:=by rw[h2,g2,h3]
 have NI:∀ {a b:Int},fc a=fc b->a=b:=fun h=>by simpa[fc]using h
 have hW:∀t:T2,(tB t).length=18:=fun t=>by simp[tB,wT,wQ,wI]
 have ht:∀t u:T2,t.int->u.int->tB t=tB u->t=u:=fun t u it iu h=>by
  simp only[tB,wT,wQ,wI,List.cons_append,List.nil_append,List.cons.injEq]at h;obtain⟨a1,_,_,_,a2,_,_,_,_,_,a3,a4,_⟩:=h;have a1:=NI a1;have a2:=NI a2;have hs:decide (t.c.num<0)=decide (u.c.num<0):=by
   by_cases x:t.c.num<0<;>by_cases y:u.c.num<0<;>simp[x,y]at a1 ⊢
  have TC:t.c.num=u.c.num:=by
   by_cases x:t.c.num<0
   ·have y:u.c.num<0:=by rw[decide_eq_true x]at hs;exact of_decide_eq_true hs.symm
    omega
   ·have y:¬u.c.num<0:=by rw[decide_eq_false x]at hs;exact of_decide_eq_false hs.symm
    omega
  exact tY.2 ⟨Rat.ext TC (it.d.trans iu.d.symm),NI a3,NI a4⟩
 have key:∀(p q:List T2) (x y:Abs.Rows),(∀t∈p,t.int)->(∀t∈q,t.int)->p.length=q.length->p.flatMap tB++x=q.flatMap tB++y->p=q:=by
  intro p
  induction p with
  | nil=>intro q x y _ _ hl _;cases q with
   | nil=>rfl
   | cons=>simp at hl
  | cons t p ih=>intro q x y h1 h2 hl h;cases q with
   | nil=>simp at hl
   | cons u q=>
    simp only[List.flatMap_cons,List.append_assoc]at h;obtain⟨h3,h4⟩:=List.append_inj h (by rw[hW,hW]);rw[ht t u (h1 t List.mem_cons_self) (h2 u List.mem_cons_self) h3,ih q x y (fun z hz=>h1 z (List.mem_cons_of_mem _ hz)) (fun z hz=>h2 z (List.mem_cons_of_mem _ hz)) (by simpa using hl) h4]
 simp only[kB,pB,List.cons_append,List.cons.injEq]at hk;have hlen:=NI hk.2.1;exact key p q _ _ hp hq (by omega) hk.2.2
theorem NJ (p:List T2) (hp:∀t∈p,t.int) (hn:p.length<100):ah Tryz.prog 116 [.val (.agg [.v (.int .i64 0),.aa false (aV p),.aa true []])] ⟨[.val (.c (.v (.string (kS p))))],[none]⟩:=by
 have c1:=H6;have c2:=H9 p hp hn 1 [fc 0] rfl (by omega);have lP:([fc 0]++pB p).length=1+1+18*p.length:=by rw[List.length_append,TG];show 1+_=_;omega
 have c3:=Ia (1+1+18*p.length) ([fc 0]++pB p) lP.symm (by omega);have hE:[fc 0]++pB p ++ [fc 0]=kB p:=by simp[kB]
 have lE:(kB p).length=1+1+18*p.length+1:=by rw[<-hE,List.length_append,lP];rfl
 have hK:=TH hp hn;rw[hE]at c3;generalize kB p=K at *;generalize kS p=sK at *;generalize [fc 0]++pB p=B2 at *;generalize 1+1+18*p.length+1=l3 at *;generalize 1+1+18*p.length=l2 at *;generalize aV p=X at *;unfold uS jJ fc at *;refine ar aj mixed [.val] Tryz.func116 rfl rfl (by kernel_rfl) ?_;intros;rename_i bX _ _ _ A L F hS hF;have UU:=hS.whole (r:=K) (len:=l3) lE.symm;have u1:=UU.1;have u2:=UU.2;clear UU;have u3:bX K=some sK:=by rw[hS.str];exact hK
 cbv;refine⟨_,hS.bY c1,?_⟩;cbv;refine⟨_,hS.bY c2,?_⟩;cbv;refine⟨_,hS.bY c3,?_⟩;cbv;rw[u2,u3];cbv;refine nd u1 ?_;exact hF _ (ak.refl _)
theorem Gg (p:List T2) (hp:∀t∈p,t.int) (hn:p.length<100):ah Tryz.prog 78 [.val (tl (aV p))] ⟨[.val (.c (.v (.string (kS p))))],[none]⟩:=by
 have c:=NJ p hp hn;generalize kS p=sK,aV p=X at *;refine ar aj mixed [.val] Tryz.func78 rfl rfl (by kernel_rfl) ?_;intros;rename_i A L F hS hF;cbv;refine⟨_,hS.call c,?_⟩;cbv;exact hF _ (ak.refl _)
open Go Go.Abs Go.Abs.M Go.Proofs
def nB (n:Int):Abs.Rows:=if n<128 then [fc n] else [fc (n%128+128),fc (n/128)]
theorem qM (n:Int):(nB n).length<=2:=by unfold nB;split<;>simp
theorem DE {n:Int} (h0:0<=n) (h1:n<16384):∀r∈nB n,Qa r:=by
 unfold nB;split
 ·intro r hr
  rw[List.mem_singleton.1 hr];exact⟨n,h0,by omega,rfl⟩
 ·intro r hr
  simp only[List.mem_cons,List.not_mem_nil,or_false]at hr;rcases hr with rfl|rfl
  ·exact⟨_,by omega,by omega,rfl⟩
  ·exact⟨_,by omega,by omega,rfl⟩
theorem Bt (n:Int) (h0:0<=n) (h1:n<16384) (B:Abs.Rows) (hB:B.length<=1000000000) :
  ah Tryz.prog 54 [.own 1 B,.val (ti .u64 n)] ⟨[.own 1 (B++nB n)],[none,none]⟩:=by
 obtain⟨len,hlen⟩:∃len,len=B.length:=⟨_,rfl⟩;unfold nB fc
 by_cases h:n<128
 ·rw[if_pos h]
  refine ar aj mixed [.own 1] Tryz.func54 rfl rfl (by kernel_rfl) fun zD zE _ _ zI zJ _ _ _ _ _ _ _ _ zV _ _ _ _ _ _ _ _ _ _ ao aJ _ _ _ _ ab _ _ _ _ _ _ _ _ _ _ _ _ _ _ _ _ _ _ _ A L F hS hF=>?_
  have l1:zV 127 n=false:=by rw[hS.lt];exact decide_eq_false (by omega)
  have e0:zD .u8 n=n:=by rw[hS.wrap];exact wrap_u8 h0 (by omega)
  have hz:ab B=len:=by rw[hS.len,hlen]
  have UU:=hS.ve (row:=[Tree.v (.int .u8 n)]) (w:=1) rfl (r:=B) (len:=len) (b:=1) hlen (by unfold az;omega);have u0:=UU.1;have u1:=UU.2.1;have u2:=UU.2.2.1;have u3:=UU.2.2.2.1;have u4:=UU.2.2.2.2.1;have u5:=UU.2.2.2.2.2.1;have u6:=UU.2.2.2.2.2.2.1;have u7:=UU.2.2.2.2.2.2.2;clear UU;rw[<-hz]at u4 u5;have u9:ao (aJ (ab B) (ab [[Tree.v (.int .u8 n)]])) (ab (B ++ [[Tree.v (.int .u8 n)]]))=true:=by rw[hz,u6,hS.len,hS.neq,List.length_append,<-hlen];exact decide_eq_true rfl
  cbv;refine aU aj mixed hS (1) ?_;cbv;refine bF l1 ?_;simp only[e0,u0,u7];refine nd u1 (nd u2 (nd u3 (nd u4 (nd u5 (nd u9 ?_)))));exact hF _ (ak.refl _)
 ·rw[if_neg h]
  obtain⟨q,hq⟩:∃q,q=n/128:=⟨_,rfl⟩;obtain⟨t,ht⟩:∃t,t=n%128+128:=⟨_,rfl⟩;rw[<-hq,<-ht];obtain⟨B2,dh⟩:∃Z,Z=B ++ [[Tree.v (.int .u8 t)]]:=⟨_,rfl⟩;have Bq:B2.length=len+1:=by rw[dh,List.length_append,<-hlen];rfl
  rw[show B ++ [[Tree.v (.int .u8 t)],[Tree.v (.int .u8 q)]]=B2 ++ [[Tree.v (.int .u8 q)]] by rw[dh,List.append_assoc];rfl];refine ar aj mixed [.own 1] Tryz.func54 rfl rfl (by kernel_rfl) fun zD zE _ _ zI zJ _ _ _ _ _ _ _ _ zV _ _ _ _ _ _ _ _ _ _ ao aJ _ _ _ _ ab _ _ _ _ _ _ _ _ _ _ _ _ _ _ _ _ _ _ _ A L F hS hF=>?_
  have l1:zV 127 n=true:=by rw[hS.lt];exact decide_eq_true (by omega)
  have l2:zV 127 q=false:=by rw[hS.lt];exact decide_eq_false (by omega)
  have q0:zD .u64 (zI n 128)=q:=by rw[hS.quo,hS.wrap,Int.tdiv_eq_ediv_of_nonneg h0,<-hq];exact eG (by omega) (by omega)
  have e1:zJ n 128=n%128:=by rw[hS.rem,Int.tmod_eq_emod_of_nonneg h0]
  have e2:zD .u8 (n%128)=n%128:=by rw[hS.wrap];exact wrap_u8 (by omega) (by omega)
  have e3:zD .u8 (zE (n%128) 128)=t:=by rw[hS.add,hS.wrap,<-ht];exact wrap_u8 (by omega) (by omega)
  have e0:zD .u8 q=q:=by rw[hS.wrap];exact wrap_u8 (by omega) (by omega)
  have hz:ab B=len:=by rw[hS.len,hlen]
  have UU:=hS.ve (row:=[Tree.v (.int .u8 t)]) (w:=1) rfl (r:=B) (len:=len) (b:=1) hlen (by unfold az;omega);have u0:=UU.1;have u1:=UU.2.1;have u2:=UU.2.2.1;have u3:=UU.2.2.2.1;have u4:=UU.2.2.2.2.1;have u5:=UU.2.2.2.2.2.1;have u6:=UU.2.2.2.2.2.2.1;have u7:=UU.2.2.2.2.2.2.2;clear UU;rw[<-dh]at u7;rw[hz]at u5;have UU:=hS.ve (row:=[Tree.v (.int .u8 q)]) (w:=1) rfl (r:=B2) (len:=len+1) (b:=1) Bq.symm (by unfold az;omega)
  have v0:=UU.1;have v1:=UU.2.1;have v2:=UU.2.2.1;have v3:=UU.2.2.2.1;have v4:=UU.2.2.2.2.1;have v5:=UU.2.2.2.2.2.1;have v6:=UU.2.2.2.2.2.2.1;have v7:=UU.2.2.2.2.2.2.2;clear UU;have v9:ao (len+1+1) (ab (B2 ++ [[Tree.v (.int .u8 q)]]))=true:=by rw[hS.len,hS.neq,List.length_append,Bq];exact decide_eq_true rfl
  cbv;refine aU aj mixed hS (2) ?_;cbv;simp only[q0];refine bT l1 ?_;simp only[e1,e2,e3,e0,u0,u7,v0,v7,hz,u6,v6];refine nd u1 (nd u2 (nd u3 (nd u4 (nd u5 (bF l2 (nd v1 (nd v2 (nd v3 (nd v4 (nd v5 (nd v9 ?_)))))))))));exact hF _ (ak.refl _)
open Go Go.Abs Go.Abs.M Go.Proofs
def b8 (w k:Int):Int:=IntKind.wrap .u8 (w.fdiv (2^k.toNat))
def wB (w:Int):Abs.Rows:=[fc (b8 w 24),fc (b8 w 16),fc (b8 w 8),fc (IntKind.wrap .u8 w)]
def iB (s:Bool) (l:List Int):Abs.Rows:=nB (2*l.length+(if s then 1 else 0))++l.flatMap wB
theorem iP (x:Int):0<=IntKind.wrap .u8 x/\IntKind.wrap .u8 x<256:=by
 show 0<=x%256/\x%256<256
 omega
theorem TJ (w:Int):∀r∈wB w,Qa r:=by
 intro r hr;simp only[wB,List.mem_cons,List.not_mem_nil,or_false]at hr;rcases hr with rfl|rfl|rfl|rfl
 ·exact⟨_,(iP _).1,(iP _).2,rfl⟩
 ·exact⟨_,(iP _).1,(iP _).2,rfl⟩
 ·exact⟨_,(iP _).1,(iP _).2,rfl⟩
 ·exact⟨_,(iP _).1,(iP _).2,rfl⟩
theorem NK {s:Bool} {l:List Int} (hl:l.length<=8000):∀r∈iB s l,Qa r:=by
 intro r hr;rcases List.mem_append.1 hr with hr|hr
 ·exact DE (by split<;>omega) (by split<;>omega) r hr
 ·obtain⟨w,_,hw⟩:=List.mem_flatMap.1 hr
  exact TJ w r hw
theorem rZ (l:List Int):(l.flatMap wB).length=4*l.length:=by
 induction l with
 | nil=>rfl
 | cons a l ih=>rw[List.flatMap_cons,List.length_append,ih];simp[wB];omega
theorem Ic (s:Bool) (l:List Int):(iB s l).length<=2+4*l.length:=by
 unfold iB;rw[List.length_append,rZ];have:=qM (2*(l.length:Int)+(if s then 1 else 0));omega
def vx (s:Bool) (X:Abs.Rows) (m:Int) (len:Nat) (B:Abs.Rows) (I:Int):St:=ae 46 [.c (.sl 3 0 len false),.af,.af,.c (.ptr 2 0 0),.af,.c (.t (.v (.int .u64 m))),vi .i64 I] [none,none,some (.var [.t (.v (.bool s)),.t (.aa false X)]),some (.rows 1 B true false)]
theorem sf (s:Bool) (l:List Int) (hl:l.length<=8000) (B:Abs.Rows) (hB:B.length<=900000000) :
  ah Tryz.prog 126 [.own 1 B,.val (.agg [.v (.bool s),.aa false (W .u32 l)])] ⟨[.own 1 (B++iB s l)],[none,none]⟩:=by
 have cn:=Bt (2*l.length+(if s then 1 else 0)) (by split<;>omega) (by split<;>omega) B (by omega);unfold iB;have RG:=qM (2*(l.length:Int)+(if s then 1 else 0));obtain⟨m,hm⟩:∃m:Int,m=if s then 1 else 0:=⟨_,rfl⟩
 rw[<-hm]at cn RG ⊢;have ag9:0<=m/\m<=1:=by rw[hm];split<;>omega
 obtain⟨X,hX⟩:∃X,X=W .u32 l:=⟨_,rfl⟩;obtain⟨n,hn⟩:∃n,n=l.length:=⟨_,rfl⟩;have lX:X.length=n:=by rw[hX,jf,hn]
 obtain⟨c,hc⟩:∃c:Int,c=2*(l.length:Int)+m:=⟨_,rfl⟩;rw[<-hc]at cn RG;obtain⟨B1,eW⟩:∃Z,Z=B++nB c:=⟨_,rfl⟩;rw[<-eW]at cn;rw[<-hX,<-hc,show B++(nB c++l.flatMap wB)=B1++l.flatMap wB by rw[eW,List.append_assoc]];have Em:B1.length<=900000002:=by rw[eW,List.length_append];omega
 obtain⟨l1,kv⟩:∃l1,l1=B1.length:=⟨_,rfl⟩;cases s
 ·refine ar aj mixed [.own 1] Tryz.func126 rfl rfl (by kernel_rfl) fun zD zE _ zH _ _ _ zM _ _ _ _ _ _ _ _ _ _ _ _ _ _ _ zz _ ao _ _ _ _ _ ab _ _ aL aw _ _ _ _ _ _ _ _ _ _ _ _ _ _ _ A L F hS hF=>?_
  have m0:m=0:=by rw[hm];rfl
  have hz:ao (ab B) (ab B)=true:=by rw[hS.neq];exact decide_eq_true rfl
  have uZ:ab B1=l1:=by rw[hS.len,kv]
  have ec:zD .u64 (zE (zD .u64 (zH (zD .u64 (zz (ab X))) 2)) 0)=c:=by
   rw[hS.aB,hS.len,lX,hS.wrap,hS.wrap,hS.wrap,hS.mul,hS.add,eG (x:=(n:Int)) (by omega) (by omega),eG (x:=(n:Int)*2) (by omega) (by omega),eG (by omega) (by omega),hc,m0,hn];omega
  have lE:=hS.eU lX;cbv;refine bF rfl (nd hz ?_);simp only[ec];refine⟨_,hS.call cn,?_⟩;cbv;simp only[uZ];refine fA aj mixed hS (n:=n) (fun i (z:Nat×Abs.Rows)=>vx false X m z.1 z.2 (Int.ofNat i)) (fun i z=>z.1=l1+4*i/\z.2=B1++(l.take i).flatMap wB) (a0:=(l1,B1)) (fi ?_ ?_) rfl (by show 2<=4;omega) ⟨rfl,by simp⟩ ?_ ?_
  ·simp[dO,vx,ae,vi,vb,m0]
  ·simp[dP,vx,ae]
  ·rintro i ⟨l2,B2⟩ hi ⟨ee,dh⟩
   simp only at ee dh;obtain⟨c1,i1,j1,n0⟩:=hS.gC lX hi (by omega);have TL:i<l.length:=by omega
   have Bq:l2=B2.length:=by rw[dh,List.length_append,rZ,List.length_take,<-kv,ee];omega
   obtain⟨w,hw⟩:∃w,w=l[i]:=⟨_,rfl⟩;have eC:l.take (i+1)=l.take i ++ [w]:=by rw[List.take_add_one,List.getElem?_eq_getElem TL,hw];rfl
   have g1:aL .u32 X i=true:=by rw[hS.gE,hX,kM];exact decide_eq_true TL
   have g2:aw X i=w:=by rw[hS.dF,hX,mP,List.getD_eq_getElem?_getD,List.getElem?_eq_getElem TL,hw];rfl
   have s1:zD .u8 (zM .u32 w 24)=b8 w 24:=by rw[hS.wrap,hS.shr];rfl
   have s2:zD .u8 (zM .u32 w 16)=b8 w 16:=by rw[hS.wrap,hS.shr];rfl
   have s3:zD .u8 (zM .u32 w 8)=b8 w 8:=by rw[hS.wrap,hS.shr];rfl
   obtain⟨w4,TO⟩:∃x,x=IntKind.wrap .u8 w:=⟨_,rfl⟩;have s4:zD .u8 w=w4:=by rw[hS.wrap,TO]
   obtain⟨new,jH⟩:∃new:Abs.Rows,new=[[.v (.int .u8 (b8 w 24))],[.v (.int .u8 (b8 w 16))],[.v (.int .u8 (b8 w 8))],[.v (.int .u8 w4)]]:=⟨_,rfl⟩;have WX:wB w=new:=by rw[jH,TO];rfl
   obtain⟨u0,u1,u2,u3,u4,u5,u6,u7⟩:=hS.PG (new:=new) (m:=4) (w:=1) (by rw[jH];rfl) (by omega) (by rw[jH];rfl) (r:=B2) (len:=l2) (b:=1) Bq (by unfold az;omega);have hR:l2+4=l1+4*(i+1)/\B2++new=B1++(l.take (i+1)).flatMap wB:=⟨by omega,by rw[eC,dh,List.flatMap_append,<-WX];simp⟩;generalize b8 w 24=w1,b8 w 16=w2,b8 w 8=w3 at *;clear hw TO eC dh ee WX;refine⟨?_⟩;cbv;refine bT c1 ?_
   simp only[j1,g2,s1,s2,s3,s4,<-jH,u0];refine nd n0 (nd g1 (nd u1 (nd u2 (nd u3 (nd u4 (nd u5 ?_))))));refine aQ [(2,2),(3,5)] (l2+4,B2++new) ?_ ?_ ?_ ?_ rfl (by show 2<=4;omega) hR
   ·simp[aZ,vx,ae,vi,vb,AV.ay,AV.aI,Cell.ay,aq,i1,u6,m0]
   ·simp[a8,vx,ae,Abs.look,aq,aC.ay,Cell.ay,u7]
   ·simp[aF,vx,ae,aq]
   ·simp
  ·rintro⟨l2,B2⟩ ⟨ee,dh⟩
   simp only at ee dh;rw[List.take_of_length_le (by omega)]at dh;have Bq:l2=B2.length:=by rw[dh,List.length_append,rZ,<-kv,ee,hn]
   have u9:ao l2 (ab B2)=true:=by rw[hS.len,hS.neq,Bq];exact decide_eq_true rfl
   rw[<-dh]at hF;refine⟨?_⟩;cbv;refine bF lE (nd u9 ?_);exact hF _ (ak.refl _)
 ·refine ar aj mixed [.own 1] Tryz.func126 rfl rfl (by kernel_rfl) fun zD zE _ zH _ _ _ zM _ _ _ _ _ _ _ _ _ _ _ _ _ _ _ zz _ ao _ _ _ _ _ ab _ _ aL aw _ _ _ _ _ _ _ _ _ _ _ _ _ _ _ A L F hS hF=>?_
  have m0:m=1:=by rw[hm];rfl
  have hz:ao (ab B) (ab B)=true:=by rw[hS.neq];exact decide_eq_true rfl
  have uZ:ab B1=l1:=by rw[hS.len,kv]
  have ec:zD .u64 (zE (zD .u64 (zH (zD .u64 (zz (ab X))) 2)) 1)=c:=by
   rw[hS.aB,hS.len,lX,hS.wrap,hS.wrap,hS.wrap,hS.mul,hS.add,eG (x:=(n:Int)) (by omega) (by omega),eG (x:=(n:Int)*2) (by omega) (by omega),eG (by omega) (by omega),hc,m0,hn];omega
  have lE:=hS.eU lX;cbv;refine bT rfl (nd hz ?_);simp only[ec];refine⟨_,hS.call cn,?_⟩;cbv;simp only[uZ];refine fA aj mixed hS (n:=n) (fun i (z:Nat×Abs.Rows)=>vx true X m z.1 z.2 (Int.ofNat i)) (fun i z=>z.1=l1+4*i/\z.2=B1++(l.take i).flatMap wB) (a0:=(l1,B1)) (fi ?_ ?_) rfl (by show 2<=4;omega) ⟨rfl,by simp⟩ ?_ ?_
  ·simp[dO,vx,ae,vi,vb,m0]
  ·simp[dP,vx,ae]
  ·rintro i ⟨l2,B2⟩ hi ⟨ee,dh⟩
   simp only at ee dh;obtain⟨c1,i1,j1,n0⟩:=hS.gC lX hi (by omega);have TL:i<l.length:=by omega
   have Bq:l2=B2.length:=by rw[dh,List.length_append,rZ,List.length_take,<-kv,ee];omega
   obtain⟨w,hw⟩:∃w,w=l[i]:=⟨_,rfl⟩;have eC:l.take (i+1)=l.take i ++ [w]:=by rw[List.take_add_one,List.getElem?_eq_getElem TL,hw];rfl
   have g1:aL .u32 X i=true:=by rw[hS.gE,hX,kM];exact decide_eq_true TL
   have g2:aw X i=w:=by rw[hS.dF,hX,mP,List.getD_eq_getElem?_getD,List.getElem?_eq_getElem TL,hw];rfl
   have s1:zD .u8 (zM .u32 w 24)=b8 w 24:=by rw[hS.wrap,hS.shr];rfl
   have s2:zD .u8 (zM .u32 w 16)=b8 w 16:=by rw[hS.wrap,hS.shr];rfl
   have s3:zD .u8 (zM .u32 w 8)=b8 w 8:=by rw[hS.wrap,hS.shr];rfl
   obtain⟨w4,TO⟩:∃x,x=IntKind.wrap .u8 w:=⟨_,rfl⟩;have s4:zD .u8 w=w4:=by rw[hS.wrap,TO]
   obtain⟨new,jH⟩:∃new:Abs.Rows,new=[[.v (.int .u8 (b8 w 24))],[.v (.int .u8 (b8 w 16))],[.v (.int .u8 (b8 w 8))],[.v (.int .u8 w4)]]:=⟨_,rfl⟩;have WX:wB w=new:=by rw[jH,TO];rfl
   obtain⟨u0,u1,u2,u3,u4,u5,u6,u7⟩:=hS.PG (new:=new) (m:=4) (w:=1) (by rw[jH];rfl) (by omega) (by rw[jH];rfl) (r:=B2) (len:=l2) (b:=1) Bq (by unfold az;omega);have hR:l2+4=l1+4*(i+1)/\B2++new=B1++(l.take (i+1)).flatMap wB:=⟨by omega,by rw[eC,dh,List.flatMap_append,<-WX];simp⟩;generalize b8 w 24=w1,b8 w 16=w2,b8 w 8=w3 at *;clear hw TO eC dh ee WX;refine⟨?_⟩;cbv;refine bT c1 ?_
   simp only[j1,g2,s1,s2,s3,s4,<-jH,u0];refine nd n0 (nd g1 (nd u1 (nd u2 (nd u3 (nd u4 (nd u5 ?_))))));refine aQ [(2,2),(3,5)] (l2+4,B2++new) ?_ ?_ ?_ ?_ rfl (by show 2<=4;omega) hR
   ·simp[aZ,vx,ae,vi,vb,AV.ay,AV.aI,Cell.ay,aq,i1,u6,m0]
   ·simp[a8,vx,ae,Abs.look,aq,aC.ay,Cell.ay,u7]
   ·simp[aF,vx,ae,aq]
   ·simp
  ·rintro⟨l2,B2⟩ ⟨ee,dh⟩
   simp only at ee dh;rw[List.take_of_length_le (by omega)]at dh;have Bq:l2=B2.length:=by rw[dh,List.length_append,rZ,<-kv,ee,hn]
   have u9:ao l2 (ab B2)=true:=by rw[hS.len,hS.neq,Bq];exact decide_eq_true rfl
   rw[<-dh]at hF;refine⟨?_⟩;cbv;refine bF lE (nd u9 ?_);exact hF _ (ak.refl _)
open Go Go.Abs Go.Abs.M Go.Proofs
def qB (x:Rat):Abs.Rows:=iB (qc x).s (qc x).l++iB (qc x).t (qc x).m
theorem qG {x:Rat} {k:Nat} (h:Qs x k):(qc x).l.length<=k/\(qc x).m.length<=k:=⟨h.1,by have:=h.2;unfold nl at this;show(dg (x.den:Int).natAbs).length<=k;rw[Int.natAbs_natCast];exact this⟩
theorem gU {x:Rat} {k:Nat} (h:Qs x k):(qB x).length<=4+8*k:=by
 unfold qB;rw[List.length_append];have:=Ic (qc x).s (qc x).l;have:=Ic (qc x).t (qc x).m;have:=(qG h).1;have:=(qG h).2;omega
theorem TP {x:Rat} (h:Qs x 8000):∀r∈qB x,Qa r:=by
 intro r hr;rcases List.mem_append.1 hr with hr|hr
 ·exact NK (qG h).1 r hr
 ·exact NK (qG h).2 r hr
theorem si (x:Rat) (hx:Qs x 8000) (B:Abs.Rows) (hB:B.length<=800000000) :
  ah Tryz.prog 92 [.own 1 B,.val (.agg (qc x).row)] ⟨[.own 1 (B++qB x)],[none,none]⟩:=by
 obtain⟨h1,h2⟩:=qG hx;have c1:=sf (qc x).s (qc x).l h1 B (by omega);have hl:=Ic (qc x).s (qc x).l;obtain⟨B1,eW⟩:∃Z,Z=B++iB (qc x).s (qc x).l:=⟨_,rfl⟩;have c2:=sf (qc x).t (qc x).m h2 B1 (by rw[eW,List.length_append];omega);obtain⟨B2,dh⟩:∃Z,Z=B1++iB (qc x).t (qc x).m:=⟨_,rfl⟩;rw[<-eW]at c1;rw[<-dh]at c2;have hE:B++qB x=B2:=by rw[dh,eW];unfold qB;rw[List.append_assoc]
 have da:(qc x).row=[.v (.bool (qc x).s),.aa false (W .u32 (qc x).l),.v (.bool (qc x).t),.aa false (W .u32 (qc x).m)]:=rfl;rw[hE,da];generalize (qc x).s=s,(qc x).t=t,W .u32 (qc x).l=X,W .u32 (qc x).m=Y at *;clear hE eW dh da;refine ar aj mixed [.own 1] Tryz.func92 rfl rfl (by kernel_rfl) ?_;intros;rename_i ao _ _ _ _ _ ab _ _ _ _ _ _ _ _ _ _ _ _ _ _ _ _ _ _ _ A L F hS hF;have z0:ao (ab B) (ab B)=true:=by rw[hS.neq];exact decide_eq_true rfl
 have z1:ao (ab B1) (ab B1)=true:=by rw[hS.neq];exact decide_eq_true rfl
 have z2:ao (ab B2) (ab B2)=true:=by rw[hS.neq];exact decide_eq_true rfl
 cbv;refine nd z0 ?_;refine⟨_,hS.call c1,?_⟩;cbv;refine nd z1 ?_;refine⟨_,hS.call c2,?_⟩;cbv;refine nd z2 ?_;exact hF _ (ak.refl _)
def K6 (t:T2):Abs.Rows:=qB t.c++(nB t.a++(nB t.b ++ [fc 0,fc 0,fc 0,fc 0,fc 0,fc 0]))
def Gh (p:List T2):Abs.Rows:=nB p.length++p.flatMap K6
theorem Qb {t:T2} {k:Nat} (h:Qs t.c k):(K6 t).length<=14+8*k:=by
 unfold K6;have:=gU h;have:=qM t.a;have:=qM t.b;simp only[List.length_append,List.length_cons,List.length_nil];omega
theorem Gi {p:List T2} {k:Nat} (h:∀t∈p,Qs t.c k):(p.flatMap K6).length<=p.length*(14+8*k):=by
 induction p with
 | nil=>simp
 | cons t p ih=>
  rw[List.flatMap_cons,List.length_append,List.length_cons,Nat.succ_mul];have:=Qb (h t List.mem_cons_self);have:=ih fun x hx=>h x (List.mem_cons_of_mem _ hx)
  omega
def Bu (X:Abs.Rows) (len:Nat) (B:Abs.Rows) (I:Int):St:=ae 40 [.c (.sl 2 0 len false),.c (.t (.aa false X)),.af,.af,.af,vi .i64 I] [none,none,some (.rows 1 B true false)]
theorem nS (p:List T2) (hp:∀t∈p,t.ok 100 1000) (hn:p.length<=100) (B:Abs.Rows) (hB:B.length<=700000000) :
  ah Tryz.prog 52 [.own 1 B,.val (tl (aV p))] ⟨[.own 1 (B++Gh p)],[none,none]⟩:=by
 have c0:=Bt (p.length:Int) (by omega) (by omega) B (by omega);obtain⟨X,hX⟩:∃X,X=aV p:=⟨_,rfl⟩;obtain⟨n,fD⟩:∃n,n=p.length:=⟨_,rfl⟩;have lX:X.length=n:=by rw[hX,qE,fD]
 obtain⟨N,hN⟩:∃N:Int,N=(p.length:Int):=⟨_,rfl⟩;have RG:=qM N;unfold Gh;rw[<-hN]at c0 ⊢;obtain⟨B1,eW⟩:∃Z,Z=B++nB N:=⟨_,rfl⟩;rw[<-eW]at c0;rw[<-hX,show B++(nB N++p.flatMap K6)=B1++p.flatMap K6 by rw[eW,List.append_assoc]];have Em:B1.length<=700000002:=by rw[eW,List.length_append];omega
 obtain⟨l1,kv⟩:∃l1,l1=B1.length:=⟨_,rfl⟩;refine dC aj mixed [.own 1] Tryz.func52 rfl rfl (by kernel_rfl) fun zD zE _ _ _ _ _ _ _ _ _ _ _ _ _ _ _ _ _ _ _ _ _ zz _ ao _ _ _ _ _ ab aD _ _ _ _ _ _ _ _ _ _ _ _ _ _ _ _ _ _ A L F hS hF=>?_
 have hz:ao (ab B) (ab B)=true:=by rw[hS.neq];exact decide_eq_true rfl
 have uZ:ab B1=l1:=by rw[hS.len,kv]
 have ec:aA zD .u64 (zz (ab X))=N:=by rw[hS.aB,hS.len,lX,hS.wrap,eG (by omega) (by omega),hN,fD]
 have lE:=hS.eU lX;cbv at ec;cbv;refine nd hz ?_;simp only[ec];refine⟨_,hS.call c0,?_⟩;cbv;simp only[uZ];refine fA aj mixed hS (n:=n) (fun i (z:Nat×Abs.Rows)=>Bu X z.1 z.2 (Int.ofNat i)) (fun i z=>z.1=z.2.length/\z.2=B1++(p.take i).flatMap K6) (a0:=(l1,B1)) (fi ?_ ?_) rfl (by show 2<=3;omega) ⟨kv,by simp⟩ ?_ ?_
 ·simp[dO,Bu,ae,vi,vb]
 ·simp[dP,Bu,ae]
 ·rintro i ⟨l2,B2⟩ hi ⟨ee,dh⟩
  simp only at ee dh;have c1:=(hS.gC lX hi (by omega)).1;have i1:aA zD .i64 (dU zE (Int.ofNat i) 1)=(i:Int)+1:=(hS.gC lX hi (by omega)).2.1;obtain⟨t,s,v,r,q,ht,gt,qt,hr,wt,eC,_⟩:=iN (l:=p) (i:=i) (by omega);have ot:=hp t ht;have hlen:((p.take i).flatMap K6).length<=100*814:=Nat.le_trans (Gi (k:=100) fun x hx=>(hp x (List.mem_of_mem_take hx)).c) (Nat.mul_le_mul (by rw[List.length_take];omega) (by omega))
  have Bq:B2.length<=700081402:=by rw[dh,List.length_append];omega
  have cq:=si t.c (ot.c.mono (by omega)) B2 (by omega);have lq:=gU ot.c;obtain⟨B3,kx⟩:∃Z,Z=B2++qB t.c:=⟨_,rfl⟩;have b3:B3.length<=B2.length+900:=by rw[kx,List.length_append];omega
  rw[<-kx,qt]at cq;have d0:=Bt (t.a) (by have:=ot.a;omega) (by have:=ot.a;omega) B3 (by omega);obtain⟨B4,vk⟩:∃Z,Z=B3++nB (t.a):=⟨_,rfl⟩;have b4:B4.length<=B2.length+902:=by have:=qM (t.a);rw[vk,List.length_append];omega
  rw[<-vk]at d0;have d1:=Bt (t.b) (by have:=ot.b;omega) (by have:=ot.b;omega) B4 (by omega);obtain⟨B5,vn⟩:∃Z,Z=B4++nB (t.b):=⟨_,rfl⟩;have b5:B5.length<=B2.length+904:=by have:=qM (t.b);rw[vn,List.length_append];omega
  rw[<-vn]at d1;have d2:=Bt (0) (by omega) (by omega) B5 (by omega);obtain⟨B6,vq⟩:∃Z,Z=B5++nB (0):=⟨_,rfl⟩;have b6:B6.length<=B2.length+906:=by have:=qM (0);rw[vq,List.length_append];omega
  rw[<-vq]at d2;have d3:=Bt (0) (by omega) (by omega) B6 (by omega);obtain⟨B7,vr⟩:∃Z,Z=B6++nB (0):=⟨_,rfl⟩;have b7:B7.length<=B2.length+908:=by have:=qM (0);rw[vr,List.length_append];omega
  rw[<-vr]at d3;have d4:=Bt (0) (by omega) (by omega) B7 (by omega);obtain⟨B8,vw⟩:∃Z,Z=B7++nB (0):=⟨_,rfl⟩;have b8:B8.length<=B2.length+910:=by have:=qM (0);rw[vw,List.length_append];omega
  rw[<-vw]at d4;have d5:=Bt (0) (by omega) (by omega) B8 (by omega);obtain⟨B9,yp⟩:∃Z,Z=B8++nB (0):=⟨_,rfl⟩;have b9:B9.length<=B2.length+912:=by have:=qM (0);rw[yp,List.length_append];omega
  rw[<-yp]at d5;have d6:=Bt (0) (by omega) (by omega) B9 (by omega);obtain⟨xH,nT⟩:∃Z,Z=B9++nB (0):=⟨_,rfl⟩;have L0:xH.length<=B2.length+914:=by have:=qM (0);rw[nT,List.length_append];omega
  rw[<-nT]at d6;have d7:=Bt (0) (by omega) (by omega) xH (by omega);obtain⟨Gj,vy⟩:∃Z,Z=xH++nB (0):=⟨_,rfl⟩;have Ie:Gj.length<=B2.length+916:=by have:=qM (0);rw[vy,List.length_append];omega
  rw[<-vy]at d7;have n00:nB 0=[fc 0]:=by unfold nB;rfl
  have hR:Gj=B1++(p.take (i+1)).flatMap K6:=by
   rw[vy,nT,yp,vw,vr,vq,vn,vk,kx,dh,eC,List.flatMap_append];simp[K6,n00]
  obtain⟨l11,TQ⟩:∃x,x=Gj.length:=⟨_,rfl⟩;have ua:l11=Gj.length/\Gj=B1++(p.take (i+1)).flatMap K6:=⟨TQ,hR⟩;have sa:aA zD .u64 t.a=t.a:=by rw[hS.wrap];exact eG ot.a.1 (by have:=ot.a.2;omega)
  have sb:aA zD .u64 t.b=t.b:=by rw[hS.wrap];exact eG ot.b.1 (by have:=ot.b.2;omega)
  have j2:aD X i=some (nO s r v q t.a t.b):=by rw[hS.nth,hX];exact hr
  have y2:ao l2 (ab B2)=true:=by rw[hS.neq,hS.len];exact decide_eq_true ee
  have y3:ao (ab B3) (ab B3)=true:=by rw[hS.neq];exact decide_eq_true rfl
  have y4:ao (ab B4) (ab B4)=true:=by rw[hS.neq];exact decide_eq_true rfl
  have y5:ao (ab B5) (ab B5)=true:=by rw[hS.neq];exact decide_eq_true rfl
  have y6:ao (ab B6) (ab B6)=true:=by rw[hS.neq];exact decide_eq_true rfl
  have y7:ao (ab B7) (ab B7)=true:=by rw[hS.neq];exact decide_eq_true rfl
  have y8:ao (ab B8) (ab B8)=true:=by rw[hS.neq];exact decide_eq_true rfl
  have y9:ao (ab B9) (ab B9)=true:=by rw[hS.neq];exact decide_eq_true rfl
  have WI:ao (ab xH) (ab xH)=true:=by rw[hS.neq];exact decide_eq_true rfl
  have zL:ab Gj=l11:=by rw[hS.len,TQ]
  generalize t.a=a,t.b=b at *;clear hR kx vk vn vq vr vw yp nT vy dh eC TQ b3 b4 b5 b6 b7 b8 b9 L0 Ie n00;unfold nO at j2;cbv at sa sb i1;refine⟨?_⟩;cbv;refine bT c1 ?_;rw[j2];cbv;repeat (first|apply bT rfl|apply bF rfl|apply nd rfl)
  refine nd y2 ?_;refine⟨_,hS.call cq,?_⟩;cbv;refine aU aj mixed hS (9) ?_;cbv;repeat (first|apply bT rfl|apply bF rfl|apply nd rfl)
  rw[j2];cbv;repeat (first|apply bT rfl|apply bF rfl|apply nd rfl)
  simp only[sa];refine nd y3 ?_;refine⟨_,hS.call d0,?_⟩;cbv;repeat (first|apply bT rfl|apply bF rfl|apply nd rfl)
  rw[j2];cbv;repeat (first|apply bT rfl|apply bF rfl|apply nd rfl)
  simp only[sb];refine nd y4 ?_;refine⟨_,hS.call d1,?_⟩;cbv;repeat (first|apply bT rfl|apply bF rfl|apply nd rfl)
  rw[j2];cbv;repeat (first|apply bT rfl|apply bF rfl|apply nd rfl)
  refine nd y5 ?_;refine⟨_,hS.call d2,?_⟩;cbv;repeat (first|apply bT rfl|apply bF rfl|apply nd rfl)
  rw[j2];cbv;repeat (first|apply bT rfl|apply bF rfl|apply nd rfl)
  refine nd y6 ?_;refine⟨_,hS.call d3,?_⟩;cbv;repeat (first|apply bT rfl|apply bF rfl|apply nd rfl)
  rw[j2];cbv;repeat (first|apply bT rfl|apply bF rfl|apply nd rfl)
  refine nd y7 ?_;refine⟨_,hS.call d4,?_⟩;cbv;repeat (first|apply bT rfl|apply bF rfl|apply nd rfl)
  rw[j2];cbv;repeat (first|apply bT rfl|apply bF rfl|apply nd rfl)
  refine nd y8 ?_;refine⟨_,hS.call d5,?_⟩;cbv;repeat (first|apply bT rfl|apply bF rfl|apply nd rfl)
  rw[j2];cbv;repeat (first|apply bT rfl|apply bF rfl|apply nd rfl)
  refine nd y9 ?_;refine⟨_,hS.call d6,?_⟩;cbv;repeat (first|apply bT rfl|apply bF rfl|apply nd rfl)
  rw[j2];cbv;repeat (first|apply bT rfl|apply bF rfl|apply nd rfl)
  refine nd WI ?_;refine⟨_,hS.call d7,?_⟩;cbv;repeat (first|apply bT rfl|apply bF rfl|apply nd rfl)
  simp only[zL,i1];refine aQ [(2,19)] (l11,Gj) ?_ ?_ ?_ ?_ rfl (by show 2<=3;omega) ua
  ·simp[aZ,Bu,ae,vi,vb,AV.ay,AV.aI,Cell.ay,aq]
  ·simp[a8,Bu,ae,Abs.look,aq,aC.ay,Cell.ay]
  ·simp[aF,Bu,ae,aq]
  ·simp
 ·rintro⟨l2,B2⟩ ⟨ee,dh⟩
  simp only at ee dh;rw[List.take_of_length_le (by omega)]at dh;have u9:ao l2 (ab B2)=true:=by rw[hS.len,hS.neq,ee];exact decide_eq_true rfl
  rw[<-dh]at hF;refine⟨?_⟩;cbv;refine bF lE (nd u9 ?_);exact hF _ (ak.refl _)
open Go Go.Abs Go.Abs.M Go.Proofs
def an (l:List (List T2)):Abs.Rows:=l.map fun p=>[.aa false (aV p)]
theorem nU (l:List (List T2)):(an l).length=l.length:=by simp[an]
theorem gP {l:List (List T2)} {i:Nat} (hi:i<l.length):∃p,p∈l/\l[i]?=some p/\(an l)[i]?=some [.aa false (aV p)]/\l.take (i+1)=l.take i ++ [p]/\l.drop i=p::l.drop (i+1):=
 ⟨l[i],List.getElem_mem hi,List.getElem?_eq_getElem hi,by simp[an,hi],by rw[List.take_add_one,List.getElem?_eq_getElem hi];rfl,List.drop_eq_getElem_cons hi⟩
def KP (p:List T2):Prop:=(∀t∈p,t.int)/\p.length<100
def oS:Nat->List (List T2)->List (Value×Tree)
 | _,[]=>[]
 | k,p::ps=>(.string (kS p),.v (.int .i64 (k:Int)))::oS (k+1) ps
def mQ:Nat->List (List T2)->List T2->Int
 | _,[],_=>-1
 | k,q::qs,p=>if q=p then(k:Int) else mQ (k+1) qs p
theorem DF {k:Nat} {p:List T2}:∀ {to:List (List T2)},p ∉ to->mQ k to p=-1
 | [],_=>rfl
 | q::qs,h=>by
  unfold mQ;rw[if_neg (fun e=>h (by rw[e];exact List.mem_cons_self))];exact DF fun e=>h (List.mem_cons_of_mem _ e)
theorem bab (a b:ByteArray):(a==b)=decide (a=b):=by
 obtain⟨x⟩:=a;obtain⟨y⟩:=b;show(x==y)=_
 rw[Bool.eq_iff_iff,beq_iff_eq,decide_eq_true_eq,ByteArray.mk.injEq]
theorem xI {p:List T2} (hp:KP p):∀ {to:List (List T2)} {k:Nat},(∀q∈to,KP q)->(p ∉ to/\cX (.string (kS p)) (oS k to)=some none)∨(∃j:Nat,k<=j/\j<k+to.length/\mQ k to p=(j:Int)/\cX (.string (kS p)) (oS k to)=some (some (.v (.int .i64 (j:Int)))))
 | [],k,_=>.inl ⟨by simp,rfl⟩
 | q::qs,k,h=>by
  have hq:=h q List.mem_cons_self
  by_cases e:q=p
  ·refine .inr ⟨k,Nat.le_refl _,by simp,by unfold mQ;rw[if_pos e],?_⟩
   unfold oS cX;rw[show sameKey (.string (kS p)) (.string (kS q))=some true by rw[e];simp[sameKey,bab]]
  ·have hs:sameKey (.string (kS p)) (.string (kS q))=some false:=by
    have:¬kS p=kS q:=fun h'=>e (NH hp.1 hp.2 hq.1 hq.2 h').symm
    simp[sameKey,bab,this]
   rcases xI hp (to:=qs) (k:=k+1) (fun x hx=>h x (List.mem_cons_of_mem _ hx)) with⟨h1,h2⟩|⟨j,h1,h2,h3,h4⟩
   ·refine .inl ⟨?_,?_⟩
    ·intro hm
     rcases List.mem_cons.1 hm with hm|hm
     ·exact e hm.symm
     ·exact h1 hm
    ·unfold oS cX
     rw[hs];exact h2
   ·refine .inr ⟨j,by omega,by simp;omega,by unfold mQ;rw[if_neg e];exact h3,?_⟩
    unfold oS cX;rw[hs];exact h4
theorem Jz {p:List T2} (hp:KP p) (v:Tree):∀ {to:List (List T2)} {k:Nat},(∀q∈to,KP q)->p ∉ to->fV (.string (kS p)) v (oS k to)=some (oS k to ++ [(.string (kS p),v)])
 | [],k,_,_=>rfl
 | q::qs,k,h,hn=>by
  have hq:=h q List.mem_cons_self;have hs:sameKey (.string (kS p)) (.string (kS q))=some false:=by
   have:¬kS p=kS q:=fun h'=>hn (by rw[NH hp.1 hp.2 hq.1 hq.2 h'];exact List.mem_cons_self)
   simp[sameKey,bab,this]
  unfold oS fV;rw[hs,Jz hp v (fun x hx=>h x (List.mem_cons_of_mem _ hx)) fun e=>hn (List.mem_cons_of_mem _ e)];rfl
theorem JA (p:List T2):∀(to:List (List T2)) (k:Nat),oS k (to ++ [p])=oS k to ++ [(.string (kS p),.v (.int .i64 ((k+to.length:Nat):Int)))]
 | [],k=>rfl
 | q::qs,k=>by
  show _::oS (k+1) (qs ++ [p])=_::(oS (k+1) qs++_)
  rw[JA p qs (k+1),show k+1+qs.length=k+(q::qs).length by simp;omega]
def Bv (X Y:Abs.Rows) (M:Int) (E:List (Value×Tree)) (I:Int):St:=ae 53 [.c (.t (.aa false X)),.af,.af,.af,.af,.c (.mp 2),.af,.af,.af,.af,.af,.af,.af,.af,.c (.t (.aa false Y)),vi .i64 M,vi .i64 I] [none,none,some (.map E)]
def sn (X:Abs.Rows) (n:Nat) (N:Int) (E:List (Value×Tree)) (R:Abs.Rows) (I:Int):St:=ae 53 [.af,.af,.af,.af,.af,.c (.mp 2),.af,.af,.c (.sl 3 0 n false),.af,.af,.af,.af,.af,.af,.af,.af,.af,.af,.af,.af,.af,.af,.af,.af,.af,.af,.af,.af,.c (.t (.aa false X)),vi .i64 N,vi .i64 I] [none,none,some (.map E),some (.rows 1 R true false)]
theorem Gk (l to:List (List T2)) (hl:∀p∈l,KP p) (ht:∀p∈to,KP p) (hd:to.Nodup) (hn:l.length<=1000) (hm:to.length<=1000) :
  ah Tryz.prog 41 [.val (tl (an l)),.val (tl (an to))] ⟨[.val (tl (W .i64 (l.map (mQ 0 to))))],[none,none]⟩:=by
 obtain⟨X,hX⟩:∃X,X=an l:=⟨_,rfl⟩;obtain⟨Y,hY⟩:∃X,X=an to:=⟨_,rfl⟩;obtain⟨n,fD⟩:∃n,n=l.length:=⟨_,rfl⟩;obtain⟨m,UC⟩:∃n,n=to.length:=⟨_,rfl⟩;have lX:X.length=n:=by rw[hX,nU,fD]
 have lY:Y.length=m:=by rw[hY,nU,UC]
 rw[<-hX,<-hY];obtain⟨N,hN⟩:∃N:Int,N=n:=⟨_,rfl⟩;obtain⟨M,hM⟩:∃N:Int,N=m:=⟨_,rfl⟩;refine ar aj mixed [.val] Tryz.func41 rfl rfl (by kernel_rfl) fun zD zE _ _ _ _ _ _ _ _ _ _ _ _ zV zX _ _ _ _ _ zu zy zz bd _ _ _ _ _ aR ab aD _ aL _ aP a9 aE _ _ bO _ _ _ _ bc _ aY _ _ A L F hS hF=>?_
 have xN:zz (ab X)=N:=by rw[hS.aB,hS.len,lX,hN]
 have yM:zz (ab Y)=M:=by rw[hS.aB,hS.len,lY,hM]
 cbv;simp only[yM];refine nA aj mixed hS (n:=m) (fun i (E:List (Value×Tree))=>Bv X Y M E (Int.ofNat i)) (fun i E=>E=oS 0 (to.take i)) (a0:=[]) (fi ?_ ?_) rfl (Nat.le_succ 2) rfl ?_ ?_
 ·simp[dO,Bv,ae,vi,vb]
 ·simp[dP,Bv,ae]
 ·intro i E hi hE
  obtain⟨p,hp,gp,hr,eC,Jq⟩:=gP (l:=to) (i:=i) (by omega);have kp:=ht p hp;have ck:=Gg p kp.1 kp.2;have Ei:p ∉ to.take i:=by
   have:=hd;rw[<-List.take_append_drop i to,Jq]at this;intro hx;exact(List.nodup_append.1 this).2.2 p hx p List.mem_cons_self rfl
  have K7:bc E (.string (kS p)) (.v (.int .i64 (Int.ofNat i)))=oS 0 (to.take (i+1)):=by
   rw[hS.Kw,hE,Jz kp _ (fun q hq=>ht q (List.mem_of_mem_take hq)) Ei,eC,JA,List.length_take,show 0+min i to.length=i by omega];rfl
  have WY:aY E (.string (kS p))=some none:=by
   rw[hS.find,hE];rcases xI kp (to:=to.take i) (k:=0) (fun q hq=>ht q (List.mem_of_mem_take hq)) with⟨_,h⟩|⟨j,_,h2,h3,_⟩
   ·exact h
   ·rw[DF Ei]at h3;omega
  have l1:zV (Int.ofNat i) M=true:=by rw[hS.lt,hM];exact decide_eq_true (show(i:Int)<(m:Int) by omega)
  have i1:zD .i64 (zE (i:Int) 1)=(i:Int)+1:=by rw[hS.add,hS.wrap];exact wrap_i64 (by omega) (by omega)
  have j1:zu (Int.ofNat i)=i:=by rw[hS.nat];rfl
  have n0:zX 0 (Int.ofNat i)=true:=by rw[hS.le];exact decide_eq_true (show(0:Int)<=(i:Int) by omega)
  have j2:aD Y i=some [.aa false (aV p)]:=by rw[hS.nth,hY];exact hr
  obtain⟨E2,WZ⟩:∃Z,Z=oS 0 (to.take (i+1)):=⟨_,rfl⟩;rw[<-WZ]at K7;generalize kS p=sK,aV p=Z at *;cbv;refine bT l1 ?_;rw[j1,j2];cbv;refine nd n0 ?_;refine⟨_,hS.call ck,?_⟩;cbv;rw[WY];cbv;refine aQ [] E2 ?_ ?_ ?_ ?_ rfl (Nat.le_succ 2) WZ
  ·simp[aZ,Bv,ae,vi,AV.ay,AV.aI,Cell.ay,aq,i1]
  ·simp only[K7];simp[a8,Bv,ae,Abs.look,aq,aC.ay,Cell.ay]
  ·simp[aF,Bv,ae,aq]
  ·simp
 ·intro E hE
  rw[List.take_of_length_le (by omega)]at hE;have lE:zV (Int.ofNat m) M=false:=by rw[hS.lt,hM];exact decide_eq_false (show ¬(m:Int)<(m:Int) by omega)
  cbv;refine bF lE ?_;simp only[xN];have hN:N=(n:Int):=hN;have k1:aR N N 8=true:=by rw[hS.nq,hN];exact decide_eq_true ⟨by omega,by omega,by unfold az;omega⟩
  have k2:zu N=n:=by rw[hS.nat,hN];rfl
  obtain⟨R0,I5⟩:∃Z,Z=W .i64 (List.replicate n 0):=⟨_,rfl⟩;have k3:bO n [Tree.v (.int .i64 0)]=R0:=by rw[hS.rep,xn,I5]
  refine nd k1 ?_;simp only[k2,k3];refine nA aj mixed hS (n:=n) (fun i (R:Abs.Rows)=>sn X n N E R (Int.ofNat i)) (fun i R=>R=W .i64 ((l.take i).map (mQ 0 to)++List.replicate (n-i) 0)) (a0:=R0) (fi ?_ ?_) rfl (Nat.le_add_left 2 2) I5 ?_ ?_
  ·simp[dO,sn,ae,vi,vb]
  ·simp[dP,sn,ae]
  ·intro i R hi hR
   obtain⟨p,hp,gp,hr,eC,Jq⟩:=gP (l:=l) (i:=i) (by omega);have kp:=hl p hp;have ck:=Gg p kp.1 kp.2;obtain⟨La,hLa⟩:∃Z,Z=(l.take i).map (mQ 0 to)++List.replicate (n-i) 0:=⟨_,rfl⟩;rw[<-hLa]at hR;have lLa:La.length=n:=by rw[hLa];simp;omega
   obtain⟨u,hu⟩:∃u,u=mQ 0 to p:=⟨_,rfl⟩;have RH:La.set i u=(l.take (i+1)).map (mQ 0 to)++List.replicate (n-(i+1)) 0:=by
    rw[eC,List.map_append,hLa,List.append_assoc,List.set_append_right _ _ (by simp;omega)];congr 1;rw[List.length_map,List.length_take,show i-min i l.length=0 by omega,show n-i=n-(i+1)+1 by omega,List.replicate_succ,List.set_cons_zero,hu];rfl
   obtain⟨R1,LO⟩:∃Z,Z=W .i64 (La.set i (-1)):=⟨_,rfl⟩;obtain⟨R2,qK⟩:∃Z,Z=W .i64 ((l.take (i+1)).map (mQ 0 to)++List.replicate (n-(i+1)) 0):=⟨_,rfl⟩;have r1:aL .i64 R i=true:=by rw[hS.gE,hR,kM];exact decide_eq_true (by omega)
   have r2:aL .i64 R1 i=true:=by rw[hS.gE,LO,kM];exact decide_eq_true (by simp;omega)
   have s1:aP .i64 R i (-1)=R1:=by rw[hS.oP,hR,pq,LO]
   have hfc:=xI kp (to:=to) (k:=0) ht;rw[<-hE,<-hu]at hfc;have l1:zV (Int.ofNat i) N=true:=by rw[hS.lt,hN];exact decide_eq_true (show(i:Int)<(n:Int) by omega)
   have i1:zD .i64 (zE (i:Int) 1)=(i:Int)+1:=by rw[hS.add,hS.wrap];exact wrap_i64 (by omega) (by omega)
   have j1:zu (Int.ofNat i)=i:=by rw[hS.nat];rfl
   have n0:zX 0 (Int.ofNat i)=true:=by rw[hS.le];exact decide_eq_true (show(0:Int)<=(i:Int) by omega)
   have n1:zy (Int.ofNat i) n=true:=by rw[hS.yF];exact decide_eq_true (show(0:Int)<=(i:Int)/\(i:Int)<(n:Int) by omega)
   have n2:bd 0 (Int.ofNat i)=i:=by rw[hS.idx];simp
   have j2:aD X i=some [.aa false (aV p)]:=by rw[hS.nth,hX];exact hr
   rcases hfc with⟨Ei,hf⟩|⟨j,_,hj,huj,hf⟩
   ·have Rd:R1=R2:=by rw[LO,qK,<-RH,hu,DF Ei]
    have Vx:aY E (.string (kS p))=some none:=by rw[hS.find];exact hf
    clear hf hu RH;generalize kS p=sK,aV p=Z at *;cbv;refine bT l1 ?_;rw[j1,j2];cbv;refine nd n0 (nd n1 ?_);simp only[n2];refine nd r1 ?_;refine⟨_,hS.call ck,?_⟩;cbv;rw[Vx];cbv;refine bF rfl ?_;simp only[s1];refine aQ [] R1 ?_ ?_ ?_ ?_ rfl (Nat.le_add_left 2 2) (Rd.trans qK)
    ·simp[aZ,sn,ae,vi,AV.ay,AV.aI,Cell.ay,aq,i1]
    ·simp[a8,sn,ae,Abs.look,aq,aC.ay,Cell.ay]
    ·simp[aF,sn,ae,aq]
    ·simp
   ·have Vx:aY E (.string (kS p))=some (some (.v (.int .i64 (Int.ofNat j)))):=by rw[hS.find];exact hf
    have s2:aP .i64 R1 i (Int.ofNat j)=R2:=by rw[hS.oP,LO,pq,List.set_set,qK,<-RH,huj];rfl
    clear hf hu RH huj;generalize kS p=sK,aV p=Z at *;cbv;refine bT l1 ?_;rw[j1,j2];cbv;refine nd n0 (nd n1 ?_);simp only[n2];refine nd r1 ?_;refine⟨_,hS.call ck,?_⟩;cbv;rw[Vx];cbv;refine bT rfl ?_;simp only[s1,n2];refine nd n1 (nd r2 ?_);simp only[s2];refine aQ [] R2 ?_ ?_ ?_ ?_ rfl (Nat.le_add_left 2 2) qK
    ·simp[aZ,sn,ae,vi,AV.ay,AV.aI,Cell.ay,aq,i1]
    ·simp[a8,sn,ae,Abs.look,aq,aC.ay,Cell.ay]
    ·simp[aF,sn,ae,aq]
    ·simp
  ·intro R hR
   rw[List.take_of_length_le (by omega),Nat.sub_self,List.replicate_zero,List.append_nil]at hR;have TA:zV (Int.ofNat n) N=false:=by rw[hS.lt,hN];exact decide_eq_false (show ¬(n:Int)<(n:Int) by omega)
   have f1:a9 0 n R=true:=by rw[hS.fit,hR,jf,List.length_map];exact decide_eq_true (by omega)
   have f2:aE R 0 n=R:=by rw[hS.part,List.drop_zero,List.take_of_length_le (by rw[hR,jf,List.length_map];omega)]
   rw[<-hR]at hF;cbv;refine bF TA (nd f1 ?_);rw[f2];exact hF _ (ak.refl _)
open Go Go.Abs Go.Proofs
structure RN where
 s:Bool
 r:Abs.Rows
 t:Bool
 p:Abs.Rows
def RN.row (c:RN):List Tree:=[.v (.bool c.s),.aa false c.r,.v (.bool c.t),.aa false c.p]
open Go Go.Abs Go.Abs.M Go.Proofs
structure jC where
 P:Abs.Rows
 cn:Int
 cd:Int
 cr:Int
 O:Abs.Rows
 Lc:Abs.Rows
 S:Abs.Rows
 B:Abs.Rows
 eN:Int
 G:Abs.Rows
 eO:Abs.Rows
 Q:Abs.Rows
 Sx:Abs.Rows
 r0:Int
 r1:Int
 r2:Int
 r3:Int
 r4:Int
 r5:Int
 r6:Int
 r7:Int
 r8:Abs.Rows
 r9:Abs.Rows
 TR:Abs.Rows
 W4:Abs.Rows
 W5:Abs.Rows
 W6:Abs.Rows
 W7:Abs.Rows
 W8:Abs.Rows
 Zi:Abs.Rows
 At:Abs.Rows
 Sq:Abs.Rows
 X:Abs.Rows
 eB:Abs.Rows
def cT (k:Int) (q:jC):List Tree:=[.v (.int .i64 k),.aa false q.P,.v (.int .i64 q.cn),.v (.int .i64 q.cd),.v (.int .i64 q.cr),.aa false q.O,.aa false q.Lc,.aa false q.S,.aa false q.B]
def fT (N:Int) (E D:Tree) (k:Int) (aG C:Tree) (q:jC):List Tree:=[.v (.int .i64 N),E,D,.v (.int .i64 k),.aa false q.P,.v (.int .i64 q.cn),.v (.int .i64 q.cd),.v (.int .i64 q.cr),.aa false q.O,.aa false q.Lc,.aa false q.S,.aa false q.B,.v (.int .i64 q.eN),aG,.aa false q.G,.aa false q.eO,C,.aa false q.Q,.aa false q.Sx,.v (.int .i64 q.r0),.v (.int .i64 q.r1),.v (.int .i64 q.r2),.v (.int .i64 q.r3),.v (.int .i64 q.r4),.v (.int .i64 q.r5),.v (.int .i64 q.r6),.v (.int .i64 q.r7),.aa false q.r8,.aa false q.r9,.aa false q.TR,.aa false q.W4,.aa false q.W5,.aa false q.W6,.aa false q.W7,.aa false q.W8,.aa false q.Zi,.aa false q.At,.aa false q.Sq,.aa false q.X,.aa false q.eB]
def yq (k:Int):Bool:=k==2||k==4||k==5||k==6||k==7||k==8||k==11||k==13
theorem qH (k:Int) (hk:1<=k/\k<=13) (q:jC):ah Tryz.prog 25 [.val (.agg (cT k q))] ⟨[.val (tb (yq k))],[none]⟩:=by
 rw[cT];obtain rfl|rfl|rfl|rfl|rfl|rfl|rfl|rfl|rfl|rfl|rfl|rfl|rfl:k=1∨k=2∨k=3∨k=4∨k=5∨k=6∨k=7∨k=8∨k=9∨k=10∨k=11∨k=12∨k=13:=by omega
 all_goals
  refine dC aj mixed [.val] Tryz.func25 rfl rfl (by kernel_rfl) ?_;intros;rename_i A L F hS hF;cbv;repeat (first|apply bT rfl|apply bF rfl|apply nd rfl)
  exact hF _ (ak.refl _)
def di (l:List (List (List T2))):Abs.Rows:=l.map fun r=>[.aa false (an r)]
theorem jY (l:List (List (List T2))):(di l).length=l.length:=by simp[di]
theorem DG {l:List (List (List T2))} {i:Nat} (hi:i<l.length):∃p,p∈l/\l[i]?=some p/\(di l)[i]?=some [.aa false (an p)]/\l.take (i+1)=l.take i ++ [p]:=
 ⟨l[i],List.getElem_mem hi,List.getElem?_eq_getElem hi,by simp[di,hi],by rw[List.take_add_one,List.getElem?_eq_getElem hi];rfl⟩
def vW (aG:List (List T2)) (i:Nat):Bool:=decide (0<(aG.getD i []).length)
def Ig (k:Int) (aG:List (List T2)) (C:List (List (List T2))) (i:Nat):Bool:=if k=12 then C.any fun r=>vW r i else vW aG i
theorem Qc (N:Int) (E D C:Tree) (k:Int) (hk:k≠12) (aG:List (List T2)) (hc:aG.length<=1000) (q:jC) (i:Nat) (hi:i<aG.length) :
  ah Tryz.prog 38 [.val (.agg (fT N E D k (.aa false (an aG)) C q)),.val (ti .i64 (Int.ofNat i))] ⟨[.val (tb (vW aG i))],[none,none]⟩:=by
 obtain⟨p,hp,gp,hr,_,_⟩:=gP (l:=aG) (i:=i) hi;obtain⟨X,hX⟩:∃X,X=an aG:=⟨_,rfl⟩;obtain⟨Z,hZ⟩:∃X,X=aV p:=⟨_,rfl⟩;have lX:X.length=aG.length:=by rw[hX,nU]
 have lZ:Z.length=p.length:=by rw[hZ,qE]
 have hu:vW aG i=decide (0<p.length):=by unfold vW;rw[List.getD_eq_getElem?_getD,gp];rfl
 obtain⟨u,yP⟩:∃u,u=vW aG i:=⟨_,rfl⟩;rw[<-yP,<-hX];rw[<-hX,<-hZ]at hr;refine ar aj mixed [.val] Tryz.func38 rfl rfl (by kernel_rfl) ?_;intros;rename_i zU zV zX _ _ _ _ _ zu _ zz _ _ _ _ _ _ _ ab aD _ _ _ _ _ _ _ _ _ _ _ _ _ _ _ _ _ _ A L F hS hF;have z1:zU k 12=true:=by rw[hS.ne];exact decide_eq_true hk
 have l1:zV (Int.ofNat i) (zz (ab X))=true:=by rw[hS.lt,hS.aB,hS.len,lX];exact decide_eq_true (show(i:Int)<(aG.length:Int) by omega)
 have j1:zu (Int.ofNat i)=i:=by rw[hS.nat];rfl
 have n0:zX 0 (Int.ofNat i)=true:=by rw[hS.le];exact decide_eq_true (show(0:Int)<=(i:Int) by omega)
 have j2:aD X i=some [.aa false Z]:=by rw[hS.nth];exact hr
 have l3:zV 0 (zz (ab Z))=u:=by rw[hS.lt,hS.aB,hS.len,lZ,yP,hu,decide_eq_decide];omega
 cbv;refine bT z1 ?_;refine bT l1 ?_;rw[j1,j2];cbv;refine nd n0 ?_;exact bn hF (jz l3)
open Go Go.Abs Go.Abs.M Go.Proofs
def BP (p:List T2):Prop:=(∀t∈p,t.ok 100 1000)/\p.length<=100
theorem oH {p:List T2} (h:BP p):(Gh p).length<=81402:=by
 unfold Gh;rw[List.length_append];have h1:=qM (p.length:Int);have h2:(p.flatMap K6).length<=100*814:=Nat.le_trans (Gi (k:=100) fun x hx=>(h.1 x hx).c) (Nat.mul_le_mul h.2 (by omega));omega
theorem Ih {α:Type} {f:α->Abs.Rows} {k:Nat}:∀ {l:List α},(∀x∈l,(f x).length<=k)->(l.flatMap f).length<=l.length*k
 | [],_=>by simp
 | x::l,h=>by
  rw[List.flatMap_cons,List.length_append,List.length_cons,Nat.succ_mul];have:=h x List.mem_cons_self;have:=Ih fun y hy=>h y (List.mem_cons_of_mem _ hy)
  omega
def ub (X:Abs.Rows) (len:Nat) (B:Abs.Rows) (I:Int):St:=ae 24 [.c (.sl 2 0 len false),.c (.t (.aa false X)),.af,.af,.af,vi .i64 I] [none,none,some (.rows 1 B true false)]
def xJ (l:List (List T2)):Abs.Rows:=nB l.length++l.flatMap Gh
theorem jq (l:List (List T2)) (hp:∀p∈l,BP p) (hn:l.length<=20) (B:Abs.Rows) (hB:B.length<=600000000) :
  ah Tryz.prog 50 [.own 1 B,.val (tl (an l))] ⟨[.own 1 (B++xJ l)],[none,none]⟩:=by
 have c0:=Bt (l.length:Int) (by omega) (by omega) B (by omega);obtain⟨X,hX⟩:∃X,X=an l:=⟨_,rfl⟩;obtain⟨n,fD⟩:∃n,n=l.length:=⟨_,rfl⟩;have lX:X.length=n:=by rw[hX,nU,fD]
 obtain⟨N,hN⟩:∃N:Int,N=(l.length:Int):=⟨_,rfl⟩;have RG:=qM N;unfold xJ;rw[<-hN]at c0 ⊢;obtain⟨B1,eW⟩:∃Z,Z=B++nB N:=⟨_,rfl⟩;rw[<-eW]at c0;rw[<-hX,show B++(nB N++l.flatMap Gh)=B1++l.flatMap Gh by rw[eW,List.append_assoc]];have Em:B1.length<=600000000+2:=by rw[eW,List.length_append];omega
 obtain⟨l1,kv⟩:∃l1,l1=B1.length:=⟨_,rfl⟩;refine ar aj mixed [.own 1] Tryz.func50 rfl rfl (by kernel_rfl) fun zD _ _ _ _ _ _ _ _ _ _ _ _ _ _ _ _ _ _ _ _ _ _ zz _ ao _ _ _ _ _ ab aD _ _ _ _ _ _ _ _ _ _ _ _ _ _ _ _ _ _ A L F hS hF=>?_
 have hz:ao (ab B) (ab B)=true:=by rw[hS.neq];exact decide_eq_true rfl
 have uZ:ab B1=l1:=by rw[hS.len,kv]
 have ec:zD .u64 (zz (ab X))=N:=by rw[hS.aB,hS.len,lX,hS.wrap,eG (by omega) (by omega),hN,fD]
 have lE:=hS.eU lX;cbv;refine nd hz ?_;simp only[ec];refine⟨_,hS.call c0,?_⟩;cbv;simp only[uZ];refine fA aj mixed hS (n:=n) (fun i (z:Nat×Abs.Rows)=>ub X z.1 z.2 (Int.ofNat i)) (fun i z=>z.1=z.2.length/\z.2=B1++(l.take i).flatMap Gh) (a0:=(l1,B1)) (fi ?_ ?_) rfl (by show 2<=3;omega) ⟨kv,by simp⟩ ?_ ?_
 ·simp[dO,ub,ae,vi,vb]
 ·simp[dP,ub,ae]
 ·rintro i ⟨l2,B2⟩ hi ⟨ee,dh⟩
  simp only at ee dh;obtain⟨c1,i1,j1,n0⟩:=hS.gC lX hi (by omega);obtain⟨p,W9,gp,hr,eC⟩:∃p,p∈l/\l[i]?=some p/\(an l)[i]?=some [.aa false (aV p)]/\l.take (i+1)=l.take i ++ [p]:=by obtain⟨p,a,b,c,d,_⟩:=gP (l:=l) (i:=i) (by omega);exact⟨p,a,b,c,d⟩
  have hlen:((l.take i).flatMap Gh).length<=20*81402:=Nat.le_trans (Ih (k:=81402) fun x hx=>oH (hp x (List.mem_of_mem_take hx))) (Nat.mul_le_mul (by rw[List.length_take];omega) (by omega));have cq:=nS p (hp p W9).1 (hp p W9).2 B2 (by rw[dh,List.length_append];omega);obtain⟨B3,kx⟩:∃Z,Z=B2++Gh p:=⟨_,rfl⟩;rw[<-kx]at cq;obtain⟨l3,qL⟩:∃x,x=B3.length:=⟨_,rfl⟩;have ua:l3=B3.length/\B3=B1++(l.take (i+1)).flatMap Gh:=⟨qL,by rw[eC,kx,dh,List.flatMap_append];simp⟩
  have j2:aD X i=some [.aa false (aV p)]:=by rw[hS.nth,hX];exact hr
  have y2:ao l2 (ab B2)=true:=by rw[hS.neq,hS.len];exact decide_eq_true ee
  have zL:ab B3=l3:=by rw[hS.len,qL]
  generalize aV p=Z at *;clear kx dh eC qL hr;refine⟨?_⟩;cbv;refine bT c1 ?_;rw[j1,j2];cbv;refine nd n0 (nd y2 ?_);refine⟨_,hS.call cq,?_⟩;cbv;simp only[zL];refine aQ [(2,3)] (l3,B3) ?_ ?_ ?_ ?_ rfl (by show 2<=3;omega) ua
  ·simp[aZ,ub,ae,vi,vb,AV.ay,AV.aI,Cell.ay,aq,i1]
  ·simp[a8,ub,ae,Abs.look,aq,aC.ay,Cell.ay]
  ·simp[aF,ub,ae,aq]
  ·simp
 ·rintro⟨l2,B2⟩ ⟨ee,dh⟩
  simp only at ee dh;rw[List.take_of_length_le (by omega)]at dh;have u9:ao l2 (ab B2)=true:=by rw[hS.len,hS.neq,ee];exact decide_eq_true rfl
  rw[<-dh]at hF;refine⟨?_⟩;cbv;refine bF lE (nd u9 ?_);exact hF _ (ak.refl _)
def BL (l:List (List T2)):Prop:=(∀p∈l,BP p)/\l.length<=20
theorem jj {l:List (List T2)} (h:BL l):(xJ l).length<=1628042:=by
 unfold xJ;rw[List.length_append];have h1:=qM (l.length:Int);have h2:(l.flatMap Gh).length<=20*81402:=Nat.le_trans (Ih (k:=81402) fun x hx=>oH (h.1 x hx)) (Nat.mul_le_mul h.2 (by omega));omega
def uc (X:Abs.Rows) (len:Nat) (B:Abs.Rows) (I:Int):St:=ae 24 [.c (.sl 2 0 len false),.c (.t (.aa false X)),.af,.af,.af,vi .i64 I] [none,none,some (.rows 1 B true false)]
def NL (l:List (List (List T2))):Abs.Rows:=nB l.length++l.flatMap xJ
theorem ud (l:List (List (List T2))) (hp:∀p∈l,BL p) (hn:l.length<=50) (B:Abs.Rows) (hB:B.length<=500000000) :
  ah Tryz.prog 149 [.own 1 B,.val (tl (di l))] ⟨[.own 1 (B++NL l)],[none,none]⟩:=by
 have c0:=Bt (l.length:Int) (by omega) (by omega) B (by omega);obtain⟨X,hX⟩:∃X,X=di l:=⟨_,rfl⟩;obtain⟨n,fD⟩:∃n,n=l.length:=⟨_,rfl⟩;have lX:X.length=n:=by rw[hX,jY,fD]
 obtain⟨N,hN⟩:∃N:Int,N=(l.length:Int):=⟨_,rfl⟩;have RG:=qM N;unfold NL;rw[<-hN]at c0 ⊢;obtain⟨B1,eW⟩:∃Z,Z=B++nB N:=⟨_,rfl⟩;rw[<-eW]at c0;rw[<-hX,show B++(nB N++l.flatMap xJ)=B1++l.flatMap xJ by rw[eW,List.append_assoc]];have Em:B1.length<=500000000+2:=by rw[eW,List.length_append];omega
 obtain⟨l1,kv⟩:∃l1,l1=B1.length:=⟨_,rfl⟩;refine ar aj mixed [.own 1] Tryz.func149 rfl rfl (by kernel_rfl) fun zD _ _ _ _ _ _ _ _ _ _ _ _ _ _ _ _ _ _ _ _ _ _ zz _ ao _ _ _ _ _ ab aD _ _ _ _ _ _ _ _ _ _ _ _ _ _ _ _ _ _ A L F hS hF=>?_
 have hz:ao (ab B) (ab B)=true:=by rw[hS.neq];exact decide_eq_true rfl
 have uZ:ab B1=l1:=by rw[hS.len,kv]
 have ec:zD .u64 (zz (ab X))=N:=by rw[hS.aB,hS.len,lX,hS.wrap,eG (by omega) (by omega),hN,fD]
 have lE:=hS.eU lX;cbv;refine nd hz ?_;simp only[ec];refine⟨_,hS.call c0,?_⟩;cbv;simp only[uZ];refine fA aj mixed hS (n:=n) (fun i (z:Nat×Abs.Rows)=>uc X z.1 z.2 (Int.ofNat i)) (fun i z=>z.1=z.2.length/\z.2=B1++(l.take i).flatMap xJ) (a0:=(l1,B1)) (fi ?_ ?_) rfl (by show 2<=3;omega) ⟨kv,by simp⟩ ?_ ?_
 ·simp[dO,uc,ae,vi,vb]
 ·simp[dP,uc,ae]
 ·rintro i ⟨l2,B2⟩ hi ⟨ee,dh⟩
  simp only at ee dh;obtain⟨c1,i1,j1,n0⟩:=hS.gC lX hi (by omega);obtain⟨p,W9,gp,hr,eC⟩:∃p,p∈l/\l[i]?=some p/\(di l)[i]?=some [.aa false (an p)]/\l.take (i+1)=l.take i ++ [p]:=DG (l:=l) (i:=i) (by omega);have hlen:((l.take i).flatMap xJ).length<=50*1628042:=Nat.le_trans (Ih (k:=1628042) fun x hx=>jj (hp x (List.mem_of_mem_take hx))) (Nat.mul_le_mul (by rw[List.length_take];omega) (by omega))
  have cq:=jq p (hp p W9).1 (hp p W9).2 B2 (by rw[dh,List.length_append];omega);obtain⟨B3,kx⟩:∃Z,Z=B2++xJ p:=⟨_,rfl⟩;rw[<-kx]at cq;obtain⟨l3,qL⟩:∃x,x=B3.length:=⟨_,rfl⟩;have ua:l3=B3.length/\B3=B1++(l.take (i+1)).flatMap xJ:=⟨qL,by rw[eC,kx,dh,List.flatMap_append];simp⟩;have j2:aD X i=some [.aa false (an p)]:=by rw[hS.nth,hX];exact hr
  have y2:ao l2 (ab B2)=true:=by rw[hS.neq,hS.len];exact decide_eq_true ee
  have zL:ab B3=l3:=by rw[hS.len,qL]
  generalize an p=Z at *;clear kx dh eC qL hr;refine⟨?_⟩;cbv;refine bT c1 ?_;rw[j1,j2];cbv;refine nd n0 (nd y2 ?_);refine⟨_,hS.call cq,?_⟩;cbv;simp only[zL];refine aQ [(2,3)] (l3,B3) ?_ ?_ ?_ ?_ rfl (by show 2<=3;omega) ua
  ·simp[aZ,uc,ae,vi,vb,AV.ay,AV.aI,Cell.ay,aq,i1]
  ·simp[a8,uc,ae,Abs.look,aq,aC.ay,Cell.ay]
  ·simp[aF,uc,ae,aq]
  ·simp
 ·rintro⟨l2,B2⟩ ⟨ee,dh⟩
  simp only at ee dh;rw[List.take_of_length_le (by omega)]at dh;have u9:ao l2 (ab B2)=true:=by rw[hS.len,hS.neq,ee];exact decide_eq_true rfl
  rw[<-dh]at hF;refine⟨?_⟩;cbv;refine bF lE (nd u9 ?_);exact hF _ (ak.refl _)
open Go Go.Abs Go.Abs.M Go.Proofs
def Bw (X:Abs.Rows) (d I:Int):St:=ae 20 [.c (.t (.aa false X)),.af,vi .u8 0,vi .u8 d,vi .i64 I] [none]
theorem K8 (l:List T2) (hn:l.length<=1000):ah Tryz.prog 140 [.val (tl (aV l))] ⟨[.val (ti .u8 (vh l))],[none]⟩:=by
 obtain⟨X,hX⟩:∃X,X=aV l:=⟨_,rfl⟩;obtain⟨n,fD⟩:∃n,n=l.length:=⟨_,rfl⟩;have lX:X.length=n:=by rw[hX,qE,fD]
 rw[<-hX];refine ar aj mixed [.val] Tryz.func140 rfl rfl (by kernel_rfl) fun _ _ _ _ _ _ _ _ _ zO _ _ _ _ _ _ _ _ _ _ _ _ _ _ _ _ _ _ _ _ _ _ aD _ _ _ _ _ _ _ _ _ _ _ _ _ _ _ _ _ _ A L F hS hF=>?_
 have lE:=hS.eU lX;cbv;refine nA aj mixed hS (n:=n) (fun i (d:Int)=>Bw X d (Int.ofNat i)) (fun i d=>d=vh (l.take i)) (a0:=0) (fi ?_ ?_) rfl (Nat.le_refl 1) rfl ?_ ?_
 ·simp[dO,Bw,ae,vi,vb]
 ·simp[dP,Bw,ae]
 ·intro i d hi hd
  obtain⟨l1,i1,j1,n0⟩:=hS.gC lX hi (by omega);obtain⟨t,s,v,r,p,ht,_,_,hr,_,eC,_⟩:=iN (l:=l) (i:=i) (by omega);have j2:aD X i=some (nO s r v p t.a t.b):=by rw[hS.nth,hX];exact hr
  have cd:=KE t.a t.b;have Rw:zO .u8 d (vc t.a t.b)=vh (l.take (i+1)):=by rw[hS.fj,hd,eC];unfold vh;rw[List.foldl_append];rfl
  obtain⟨u,hu⟩:∃u,u=vc t.a t.b:=⟨_,rfl⟩;obtain⟨d2,WV⟩:∃u,u=vh (l.take (i+1)):=⟨_,rfl⟩;rw[<-hu]at cd Rw;rw[<-WV]at Rw;unfold m2 at cd;cbv;refine bT l1 ?_;rw[j1,j2];cbv;refine nd n0 ?_;refine⟨_,hS.call cd,?_⟩;cbv;refine aQ [] d2 ?_ ?_ ?_ ?_ rfl (Nat.le_refl 1) WV
  ·simp[aZ,Bw,ae,vi,AV.ay,AV.aI,Cell.ay,i1,Rw]
  ·simp[a8,Bw,ae]
  ·simp[aF,Bw,ae]
  ·simp
 ·intro d hd
  cbv;refine bF lE ?_;refine bn hF (kl ?_);rw[hd,fD,List.take_length]
theorem Qd (l:List T2):0<=vh l/\vh l<=3:=by
 unfold vh
 suffices h:∀(l:List T2) (d:Int),(d=0∨d=1∨d=2∨d=3)->0<=l.foldl (fun d t=>IntKind.wrap .u8 ((BitVec.ofInt 8 d ||| BitVec.ofInt 8 (vc t.a t.b)).toNat)) d/\l.foldl (fun d t=>IntKind.wrap .u8 ((BitVec.ofInt 8 d ||| BitVec.ofInt 8 (vc t.a t.b)).toNat)) d<=3 from h l 0 (Or.inl rfl)
 intro l
 induction l with
 | nil=>intro d h;simp only[List.foldl_nil];omega
 | cons t l ih=>
  intro d h;rw[List.foldl_cons];apply ih;have hs:vc t.a t.b=0∨vc t.a t.b=1∨vc t.a t.b=2∨vc t.a t.b=3:=by
   unfold vc
   by_cases h1:0<t.a<;>by_cases h2:0<t.b<;>simp[h1,h2]
  rcases h with rfl|rfl|rfl|rfl<;>rcases hs with hs|hs|hs|hs<;>rw[hs]<;>decide
structure VP (p:List T2) (d:Int):Prop where
 ok:∀t∈p,t.ok 100 1000
 len:p.length<=100
 vd:Vd p
 Xa:ji p<=d
theorem VP.mono {p:List T2} {d e:Int} (h:VP p d) (hd:d<=e):VP p e:=⟨h.ok,h.len,h.vd,by have:=h.Xa;omega⟩
theorem VP.bp {p:List T2} {d:Int} (h:VP p d):BP p:=⟨h.ok,h.len⟩
theorem VP.rK {p:List T2} {d:Int} (h:VP p d):∀t∈p,t.ok 1000 30000:=fun t ht=>(h.ok t ht).mono (by omega) (by omega)
theorem gQ (p:List T2) (n d:Int) (hn:1<=n/\n<=4) (hd:VP p d) :
  ah Tryz.prog 109 [.val (tl (aV p)),.val (ti .i64 n),.val (ti .i64 d)] ⟨[.val (tb (decide (2<=n∨vh p<2)))],[none,none,none]⟩:=by
 have c1:=DD p hd.rK hd.vd (by have:=hd.len;omega);have c2:=K8 p (by have:=hd.len;omega);have c3:=qF p hd.rK (by have:=hd.len;omega);have hu:=Qd p;generalize vh p=u at *;have Zj:=hd.Xa;generalize ji p=e,aV p=X at *;generalize CA:decide (2<=n∨u<2)=bb;refine ar aj mixed [.val] Tryz.func109 rfl rfl (by kernel_rfl) fun zD _ _ _ _ _ zK _ _ _ _ _ _ _ zV zX _ _ _ _ _ _ _ _ _ _ _ _ _ _ _ _ _ _ _ _ _ _ _ _ _ _ _ _ _ _ _ _ _ _ _ A L F hS hF=>?_
 have wn:zD .u64 n=n:=by rw[hS.wrap];exact eG (by omega) (by omega)
 have wu:zD .i64 u=u:=by rw[hS.wrap];exact wrap_i64 (by omega) (by omega)
 have n0:zX 0 n=true:=by rw[hS.le];exact decide_eq_true (by omega)
 have zs:zV u (zK .i64 1 n)=bb:=by
  rw[<-CA,hS.lt,hS.shl,decide_eq_decide];obtain rfl|rfl|rfl|rfl:n=1∨n=2∨n=3∨n=4:=by omega
  ·rw[show IntKind.wrap .i64 ((1:Int)*2^(Min.min (1:Int).toNat (IntKind.i64).bits))=2 by decide];omega
  ·rw[show IntKind.wrap .i64 ((1:Int)*2^(Min.min (2:Int).toNat (IntKind.i64).bits))=4 by decide];omega
  ·rw[show IntKind.wrap .i64 ((1:Int)*2^(Min.min (3:Int).toNat (IntKind.i64).bits))=8 by decide];omega
  ·rw[show IntKind.wrap .i64 ((1:Int)*2^(Min.min (4:Int).toNat (IntKind.i64).bits))=16 by decide];omega
 have zd:zX e d=true:=by rw[hS.le];exact decide_eq_true Zj
 cbv;refine⟨_,hS.call c1,?_⟩;cbv;refine bT rfl ?_;refine⟨_,hS.call c2,?_⟩;cbv;simp only[wn,wu];refine nd n0 ?_;clear CA;cases bb with
 | true=>
  refine bT zs ?_;refine⟨_,hS.call c3,?_⟩;cbv;exact bn hF (jz zd)
 | false=>
  refine bF zs ?_;exact hF _ (ak.refl _)
open Go Go.Abs Go.Abs.M Go.Proofs
theorem DH {x:Rat} {s v:Bool} {r p:Abs.Rows} (h:(qc x).row=[.v (.bool s),.aa false r,.v (.bool v),.aa false p]):xu x s r v p:=by
 have h2:=fJ x;have e:(qc x).row=[.v (.bool (qc x).s),.aa false (W .u32 (qc x).l),.v (.bool (qc x).t),.aa false (W .u32 (qc x).m)]:=rfl;rw[e]at h;simp only[List.cons.injEq,Tree.v.injEq,Value.bool.injEq,Tree.aa.injEq]at h;obtain⟨h1,⟨_,h3⟩,h4,⟨_,h5⟩,_⟩:=h;rw[h1,h3,h4,h5]at h2;exact h2
theorem JB {z:Int} (h:z.natAbs<=1000000):nl z.natAbs<=274877906944:=by
 have:=(Qs.whole (n:=z) (k:=1) (by omega) (Nat.le_refl 1)).1;rw[Rat.num_intCast]at this;omega
theorem DI {l:List T2} (hl:l≠[]) (hz:Zs l) (hv:Vd l):Qs (DB l) 1/\kQ l<=1000000:=by
 have FH:=kU hl hz hv;have hg:kQ l<=1000000:=by
  cases l with
  | nil=>exact absurd rfl hl
  | cons t l=>
   have h1:=(nP (t::l) 0).2 t List.mem_cons_self;have h2:t.c.num.natAbs≠0:=fun e=>hv.1 t List.mem_cons_self (Rat.num_eq_zero.1 (by omega))
   exact Nat.le_trans (Nat.le_of_dvd (by omega) h1) (hz t List.mem_cons_self).2
 refine⟨?_,hg⟩;have hq:Qs (((kQ l:Nat):Int):Rat) 1:=Qs.whole (by omega) (Nat.le_refl 1);have hi:Qs (Rat.divInt 1 (kQ l)) 1:=by
  rw[Rat.divInt_eq_div];have:((1:Int):Rat)/(((kQ l:Nat):Int):Rat)=(((kQ l:Nat):Int):Rat)⁻¹:=by rw[Rat.div_def];exact Rat.one_mul _
  rw[this];refine Bh ?_ hq;intro h;have:=Rat.intCast_inj.1 (show(((kQ l:Nat):Int):Rat)=((0:Int):Rat) from h);omega
 unfold DB;split
 ·rw[show(-1:Rat)*Rat.divInt 1 (kQ l)=-(Rat.divInt 1 (kQ l)) by rw[Rat.neg_mul,Rat.one_mul]]
  exact hi.neg
 ·rw[Rat.one_mul];exact hi
def By (X:Abs.Rows) (s:Bool) (r:Abs.Rows) (s0:Bool) (r0:Abs.Rows) (I:Int):St:=ae 101 [.c (.t (.aa false X)),.af,.af,.c (.ptr 5 0 0),.c (.ptr 6 0 0),vi .i64 I] [none,none,none,none,none,some (.var [.t (.v (.bool s)),.t (.aa false r)]),some (.var [.t (.v (.bool s0)),.t (.aa false r0)])]
def Bz (X:Abs.Rows) (s:Bool) (r:Abs.Rows) (z:Bool×Abs.Rows) (I:Int):St:=ae 101 [.c (.t (.aa false X)),.af,.af,.c (.ptr 5 0 0),.c (.ptr 6 0 0),.af,.af,.af,.af,vi .i64 I] [none,none,none,none,none,some (.var [.t (.v (.bool s)),.t (.aa false r)]),some (.var [.t (.v (.bool z.1)),.t (.aa false z.2)])]
theorem so (l:List T2) (hz:Zs l) (hv:Vd l) (ho:∀t∈l,t.ok 100 1000) (hn:l.length<=100) :
  ah Tryz.prog 57 [.val (tl (aV l))] ⟨[.val (tl (aV (jI l)))],[none]⟩:=by
 by_cases hl:l=[]
 ·subst hl
  obtain⟨X,hX⟩:∃X,X=aV []:=⟨_,rfl⟩;have hX0:X=[]:=hX;have hE:aV (jI [])=[]:=by simp[jI,aV]
  rw[hE,<-hX];refine ar aj mixed [.val] Tryz.func57 rfl rfl (by kernel_rfl) ?_;intros;rename_i zT _ zV zX _ _ _ _ _ zu _ zz _ _ _ _ _ _ _ ab aD _ _ _ _ _ _ _ _ _ _ _ _ _ _ _ _ _ _ A L F hS hF;have z0:zT (zz (ab X)) 0=true:=by rw[hS.eq,hS.aB,hS.len,hX0];rfl
  obtain⟨u1,u2⟩:=hS.whole (r:=[]) (len:=0) rfl;cbv;refine bT z0 ?_;simp only[u2];refine nd u1 ?_;exact hF _ (ak.refl _)
 obtain⟨X,hX⟩:∃X,X=aV l:=⟨_,rfl⟩;obtain⟨n,fD⟩:∃n,n=l.length:=⟨_,rfl⟩;have lX:X.length=n:=by rw[hX,qE,fD]
 have J4:0<n:=by rw[fD];exact List.length_pos_iff.2 hl
 obtain⟨s1,r1,h1,k1⟩:=fO 1 (by decide) (by decide);obtain⟨s0,r0,h0,k0⟩:=fO 0 (by decide) (by decide);have hnE:jI l=df (DB l) 0 0 l:=by unfold jI;rw[if_neg hl]
 obtain⟨g,hg⟩:∃g,g=kQ l:=⟨_,rfl⟩;have FH:0<g:=by rw[hg];exact kU hl hz hv
 have Zd:g<=1000000:=by rw[hg];exact(DI hl hz hv).2
 have ct:=rV (DB l) 0 0 l (n:=1000) ((DI hl hz hv).1.mono (by omega)) (by omega) (by omega) (fun t ht=>(ho t ht).mono (by omega) (by omega)) (by omega) (by omega);rw[hnE];rw[<-hX]at ct ⊢;generalize ahb:aV (df (DB l) 0 0 l)=Y at *;unfold m2 at ct;have Xb:∀t∈l,∀ {v:Bool} {q:Abs.Rows},eV (t.c.den:Int) v q->eV 1 v q:=fun t ht v q h=>by rw[(hz t ht).1]at h;exact h
 refine ar aj mixed [.val] Tryz.func57 rfl rfl (by kernel_rfl) ?_;intros;rename_i zT _ zV zX _ _ _ _ _ zu _ zz _ _ _ _ _ _ _ ab aD _ _ _ _ _ _ _ _ _ _ _ _ _ _ _ _ _ _ A L F hS hF;have z0:zT (zz (ab X)) 0=false:=by rw[hS.eq,hS.aB,hS.len,lX];exact decide_eq_false (by omega)
 have lE:=hS.eU lX;cbv;refine bF z0 ?_;refine⟨_,hS.call k1,?_⟩;cbv;refine⟨_,hS.call k0,?_⟩;cbv;refine fA aj mixed hS (n:=n) (fun i (z:Bool×Abs.Rows)=>By X z.1 z.2 s0 r0 (Int.ofNat i)) (fun i z=>eV 1 z.1 z.2) (a0:=(s1,r1)) (fi ?_ ?_) rfl (by show 1<=7;omega) h1 ?_ ?_
 ·simp[dO,By,ae,vi,vb]
 ·simp[dP,By,ae]
 ·rintro i ⟨sd,rd⟩ hi hR
  simp only at hR;obtain⟨c1,i1,j1,n0⟩:=hS.gC lX hi (by omega);obtain⟨t,s,v,r,q,ht,gt,hq,hr,_,_,_⟩:=iN (l:=l) (i:=i) (by omega);have j2:aD X i=some (nO s r v q t.a t.b):=by rw[hS.nth,hX];exact hr
  have hd:=Xb t ht (DH hq).d;obtain⟨w,hw,cg⟩:=oE hR hd (JB (by decide)) (JB (by decide));obtain⟨u2,w2,p2,yP,_,cd⟩:=ma hd hw (by decide) (JB (by decide)) (JB (by decide));obtain⟨u3,w3,U9,cm⟩:=KJ hR yP (Nat.le_trans (JB (by decide)) (by omega)) (Nat.le_trans (JB (by decide)) (by omega));have qK:eV 1 (u3,w3).1 (u3,w3).2:=U9;generalize t.a=a,t.b=b at *;unfold iT at cg cd cm
  clear hq hr hw yP hd;refine⟨?_⟩;cbv;refine bT c1 ?_;simp only[j1,j2];cbv;refine nd n0 ?_;simp only[j1,j2];cbv;refine nd n0 ?_;refine⟨_,hS.call cg,?_⟩;cbv;refine⟨_,hS.call cd,?_⟩;cbv;refine⟨_,hS.call cm,?_⟩;cbv;refine aQ [(5,5),(6,6)] (u3,w3) ?_ ?_ ?_ ?_ rfl (by show 1<=7;omega) qK
  ·simp[aZ,By,ae,vi,vb,AV.ay,AV.aI,Cell.ay,aq]
   exact i1
  ·simp[a8,By,ae,Abs.look,aq,aC.ay,Cell.ay]
  ·simp[aF,By,ae,aq]
  ·simp
 ·rintro⟨sd,rd⟩ hR
  simp only at hR;refine⟨?_⟩;cbv;refine bF lE ?_;refine fA aj mixed hS (n:=n) (fun i (z:Bool×Abs.Rows)=>Bz X sd rd z (Int.ofNat i)) (fun i z=>eV (((l.take i).foldl (fun g t=>Nat.gcd g t.c.num.natAbs) 0:Nat):Int) z.1 z.2) (a0:=(s0,r0)) (fi ?_ ?_) rfl (by show 1<=7;omega) (by simpa using h0) ?_ ?_
  ·simp[dO,Bz,ae,vi,vb]
  ·simp[dP,Bz,ae]
  ·rintro i ⟨sm,rm⟩ hi hM
   simp only at hM;obtain⟨c1,i1,j1,n0⟩:=hS.gC lX hi (by omega);obtain⟨t,s,v,r,q,ht,gt,hq,hr,_,eC,_⟩:=iN (l:=l) (i:=i) (by omega);have j2:aD X i=some (nO s r v q t.a t.b):=by rw[hS.nth,hX];exact hr
   have hd:=Xb t ht (DH hq).d;have Ei:=(DH hq).n;obtain⟨gi,LM⟩:∃g,g=(l.take i).foldl (fun g t=>Nat.gcd g t.c.num.natAbs) 0:=⟨_,rfl⟩;rw[<-LM]at hM;have Xd:(l.take (i+1)).foldl (fun g t=>Nat.gcd g t.c.num.natAbs) 0=Nat.gcd gi t.c.num.natAbs:=by rw[eC,List.foldl_append,LM];rfl
   have Jp:gi<=1000000:=by
    rw[LM]
    by_cases h:l.take i=[]
    ·rw[h];exact Nat.zero_le _
    ·exact(DI h (fun t ht=>hz t (List.mem_of_mem_take ht)) ⟨fun t ht=>hv.1 t (List.mem_of_mem_take ht),hv.2.sublist (List.take_sublist _ _)⟩).2
   obtain⟨u2,w2,p2,yP,_,cd⟩:=ma hR hd (by decide) (JB (by decide)) (JB (by decide));obtain⟨u3,w3,U9,cm⟩:=KJ Ei yP (Nat.le_trans (JB (hz t ht).2) (by omega)) (Nat.le_trans (JB (by decide)) (by omega));obtain⟨w,hw,cg⟩:=oE hM U9 (JB (by omega)) (JB (by rw[show(1:Int)/1=1 from rfl,Int.mul_one];exact(hz t ht).2));have qK:eV (((l.take (i+1)).foldl (fun g t=>Nat.gcd g t.c.num.natAbs) 0:Nat):Int) (false,w).1 (false,w).2:=by
    rw[Xd];have e:Int.gcd (gi:Int) (t.c.num*(1/1))=Nat.gcd gi t.c.num.natAbs:=by rw[show(1:Int)/1=1 from rfl,Int.mul_one];rfl
    rw[e]at hw;exact hw
   generalize t.a=a,t.b=b at *;unfold iT at cg cd cm;clear hq hr hw yP hd hM U9 Ei LM Xd eC;refine⟨?_⟩;cbv;refine bT c1 ?_;simp only[j1,j2];cbv;refine nd n0 ?_;refine⟨_,hS.call cd,?_⟩;cbv;simp only[j1,j2];cbv;refine nd n0 ?_;refine⟨_,hS.call cm,?_⟩;cbv;refine⟨_,hS.call cg,?_⟩;cbv;refine aQ [(5,5),(6,6)] (false,w) ?_ ?_ ?_ ?_ rfl (by show 1<=7;omega) qK
   ·simp[aZ,Bz,ae,vi,vb,AV.ay,AV.aI,Cell.ay,aq]
    exact i1
   ·simp[a8,Bz,ae,Abs.look,aq,aC.ay,Cell.ay]
   ·simp[aF,Bz,ae,aq]
   ·simp
  ·rintro⟨sm,rm⟩ hM
   simp only at hM;rw[List.take_of_length_le (by omega)]at hM;have hM:eV (g:Int) sm rm:=by rw[hg];exact hM
   obtain⟨u,w,v,p,hc,cn⟩:=H0 hR hM (by omega) (JB (by decide)) (JB (by omega));obtain⟨t,s,v',r,q,ht,gt,hq,hr,_,_,_⟩:=iN (l:=l) (i:=0) (by omega);have Zk:l.headD ⟨0,0,0⟩=t:=by cases l with|nil=>exact absurd rfl hl|cons x l=>simpa using gt
   have j2:aD X 0=some (nO s r v' q t.a t.b):=by rw[hS.nth,hX];exact hr
   have j1:zu 0=0:=by rw[hS.nat];rfl
   have n0:zX 0 0=true:=by rw[hS.le];rfl
   have cs:=tX t.c;rw[hq]at cs;obtain⟨C,hC⟩:∃C,C=bC t.c.num 0:=⟨_,rfl⟩;rw[<-hC]at cs;have TB:C<0↔t.c<0:=by
    have HO:t.c<0↔t.c.num<0:=by rw[<-Rat.not_le,<-Rat.num_nonneg];omega
    rw[HO,hC];unfold bC
    by_cases h:t.c.num<0
    ·rw[if_pos h];exact⟨fun _=>h,fun _=>by decide⟩
    ·rw[if_neg h]
     refine⟨fun h2=>?_,fun h2=>absurd h2 h⟩;split at h2<;>omega
   unfold iT at cn
   by_cases Ds:t.c<0
   ·have zC:zV C 0=true:=by rw[hS.lt];exact decide_eq_true (TB.2 Ds)
    have hx:DB l=-(Rat.divInt 1 g):=by unfold DB;rw[Zk,if_pos Ds,hg,Rat.neg_mul,Rat.one_mul]
    have WE:Qs (Rat.divInt 1 g) 1:=by have:=(DI hl hz hv).1;rw[hx]at this;have:=this.neg;rwa[Rat.neg_neg]at this
    obtain⟨u',w',Me,cng⟩:=HW hc (WE.mono (by omega));rw[hx,<-tQ Me]at ct;unfold iT at cng ct;generalize t.a=a,t.b=b at *;clear hq hr Zk gt hc Me hM;refine⟨?_⟩;cbv;refine bF lE ?_;refine⟨_,hS.call cn,?_⟩;cbv;simp only[j1,j2];cbv;refine nd n0 ?_;refine⟨_,hS.call cs,?_⟩;cbv;refine bT zC ?_;refine⟨_,hS.call cng,?_⟩;cbv;refine⟨_,hS.call ct,?_⟩;cbv;exact hF _ (ak.refl _)
   ·have zC:zV C 0=false:=by rw[hS.lt];exact decide_eq_false fun h=>Ds (TB.1 h)
    have hx:DB l=Rat.divInt 1 g:=by unfold DB;rw[Zk,if_neg Ds,hg,Rat.one_mul]
    rw[hx,<-tQ hc]at ct;unfold iT at ct;generalize t.a=a,t.b=b at *;clear hq hr Zk gt hc hM;refine⟨?_⟩;cbv;refine bF lE ?_;refine⟨_,hS.call cn,?_⟩;cbv;simp only[j1,j2];cbv;refine nd n0 ?_;refine⟨_,hS.call cs,?_⟩;cbv;refine bF zC ?_;refine⟨_,hS.call ct,?_⟩;cbv;exact hF _ (ak.refl _)
open Go Go.Abs Go.Abs.M Go.Proofs
def BA (X:Abs.Rows) (n I:Int):St:=ae 19 [.c (.t (.aa false X)),vi .i64 n,.af,.af,vb false,vi .i64 I] [none,none]
theorem jD (l:List (List T2)) (n:Int) (hn:2<=n/\n<=4) (hl:∀p∈l,VP p 64) (hk:l.length<=1000) :
  ah Tryz.prog 83 [.val (tl (an l)),.val (ti .i64 n)] ⟨[.val (tb true)],[none,none]⟩:=by
 obtain⟨X,hX⟩:∃X,X=an l:=⟨_,rfl⟩;obtain⟨k,ta⟩:∃n,n=l.length:=⟨_,rfl⟩;have lX:X.length=k:=by rw[hX,nU,ta]
 rw[<-hX];refine ar aj mixed [.val] Tryz.func83 rfl rfl (by kernel_rfl) ?_;intros;rename_i zY _ _ _ _ _ _ _ _ _ _ _ _ _ _ _ aD _ _ _ _ _ _ _ _ _ _ _ _ _ _ _ _ _ _ A L F hS hF;have lE:=hS.eU lX;have y:zY true=false:=by rw[hS.not];rfl
 cbv;refine fA aj mixed hS (n:=k) (fun i (_:Unit)=>BA X n (Int.ofNat i)) (fun i _=>True) (a0:=()) (fi ?_ ?_) rfl (by show 2<=2;omega) trivial ?_ ?_
 ·simp[dO,BA,ae,vi,vb]
 ·simp[dP,BA,ae]
 ·rintro i ⟨⟩ hi -
  obtain⟨c1,i1,j1,n0⟩:=hS.gC lX hi (by omega);obtain⟨p,hp,gp,hr,_,_⟩:=gP (l:=l) (i:=i) (by omega);have j2:aD X i=some [.aa false (aV p)]:=by rw[hS.nth,hX];exact hr
  have cw:=gQ p n 64 (by omega) (hl p hp);rw[decide_eq_true (Or.inl hn.1)]at cw;generalize aV p=Z at *;refine⟨?_⟩;cbv;refine bT c1 ?_;simp only[j1,j2];cbv;refine nd n0 ?_;refine⟨_,hS.call cw,?_⟩;cbv;refine bF y ?_;refine aQ [] () ?_ ?_ ?_ ?_ rfl (by show 2<=2;omega) trivial
  ·simp[aZ,BA,ae,vi,vb,AV.ay,AV.aI,Cell.ay]
   exact i1
  ·simp[a8,BA,ae]
  ·simp[aF,BA,ae]
  ·simp
 ·rintro⟨⟩ -
  refine⟨?_⟩;cbv;refine bF lE ?_;exact hF _ (ak.refl _)
structure CP (p:List T2):Prop where
 vp:VP p 12
 int:∀t∈p,t.int
 ne:p≠[]
 nm:Nm p
theorem CP.zs {p:List T2} (h:CP p):Zs p:=fun t ht=>⟨(h.int t ht).d,by have:=(h.int t ht).n.2;omega⟩
def sr (X:Abs.Rows) (n I:Int):St:=ae 60 [.c (.t (.aa false X)),vi .i64 n,.af,.af,vb false,vi .i64 I] [none,none]
def En (n:Int) (p:List T2):Bool:=decide (2<=n∨vh p<2)
theorem su (l:List (List T2)) (n:Int) (hn:1<=n/\n<=4) (hl:∀p∈l,CP p) (hs:vj l) (hk:l.length<=12) :
  ah Tryz.prog 74 [.val (tl (an l)),.val (ti .i64 n)] ⟨[.val (tb (l.all (En n)))],[none,none]⟩:=by
 obtain⟨X,hX⟩:∃X,X=an l:=⟨_,rfl⟩;obtain⟨k,ta⟩:∃n,n=l.length:=⟨_,rfl⟩;have lX:X.length=k:=by rw[hX,nU,ta]
 obtain⟨bb,CA⟩:∃b,b=l.all (En n):=⟨_,rfl⟩;rw[<-hX,<-CA];refine ar aj mixed [.val] Tryz.func74 rfl rfl (by kernel_rfl) fun zD _ zG _ _ _ _ _ _ _ _ _ zT _ zV zX zY _ _ _ _ zu _ zz _ _ _ _ _ _ _ ab aD _ _ _ _ _ _ _ _ _ _ _ _ _ _ _ _ _ _ A L F hS hF=>?_
 have lE:=hS.eU lX;have y:zY true=false:=by rw[hS.not];rfl
 have l12:zV 12 (zz (ab X))=false:=by rw[hS.lt,hS.aB,hS.len,lX];exact decide_eq_false (by omega)
 cbv;refine bF l12 ?_;refine fA aj mixed hS (n:=k) (fun i (_:Unit)=>sr X n (Int.ofNat i)) (fun i _=>(l.take i).all (En n)=true) (a0:=()) (fi ?_ ?_) rfl (by show 2<=2;omega) (by simp) ?_ ?_
 ·simp[dO,sr,ae,vi,vb]
 ·simp[dP,sr,ae]
 ·rintro i ⟨⟩ hi hR
  obtain⟨c1,i1,j1,n0⟩:=hS.gC lX hi (by omega);obtain⟨p,hp,gp,hr,eC,_⟩:=gP (l:=l) (i:=i) (by omega);have j2:aD X i=some [.aa false (aV p)]:=by rw[hS.nth,hX];exact hr
  have cw:=gQ p n 12 (by omega) (hl p hp).vp;have cn:=so p (hl p hp).zs (hl p hp).vp.vd (hl p hp).vp.ok (hl p hp).vp.len;have cs:=uR (jI p) p (by rw[H4 (hl p hp).nm];exact(hl p hp).vp.rK) (by rw[H4 (hl p hp).nm];have:=(hl p hp).vp.len;omega) (by have:=(hl p hp).vp.len;omega);rw[H4 (hl p hp).nm]at cn cs;rw[decide_eq_true rfl]at cs;have hz:zT (zz (ab (aV p))) 0=false:=by rw[hS.eq,hS.aB,hS.len,qE];exact decide_eq_false (by have:=List.length_pos_iff.2 (hl p hp).ne;omega)
  obtain⟨b1,mO⟩:∃b,b=En n p:=⟨_,rfl⟩;rw[show decide (2<=n∨vh p<2)=b1 from mO.symm]at cw;have qK:b1=true->(l.take (i+1)).all (En n)=true:=fun h=>by rw[eC,List.all_append,hR];simp[<-mO,h]
  have Ju:b1=false->bb=false:=fun h=>by
   rw[CA,<-Bool.not_eq_true,List.all_eq_true];intro jr;have:=jr p hp;rw[<-mO,h]at this;exact absurd this (by decide)
  cases b1 with
  | false=>
   have hb:=Ju rfl;have y2:zY false=true:=by rw[hS.not];rfl
   subst hb;generalize aV p=Z at *;refine⟨?_⟩;cbv;refine bT c1 ?_;simp only[j1,j2];cbv;refine nd n0 ?_;refine⟨_,hS.call cw,?_⟩;cbv;refine bT y2 ?_;exact hF _ (ak.refl _)
  | true=>
   have Rd:=qK rfl;cases i with
   | zero=>
    have z0:zV 0 (Int.ofNat 0)=false:=by rw[hS.lt];rfl
    generalize aV p=Z at *;refine⟨?_⟩;cbv;refine bT c1 ?_;simp only[j1,j2];cbv;refine nd n0 ?_;refine⟨_,hS.call cw,?_⟩;cbv;refine bF y ?_;simp only[j1,j2];cbv;refine nd n0 ?_;refine bF hz ?_;simp only[j1,j2];cbv;refine nd n0 ?_;refine⟨_,hS.call cn,?_⟩;cbv;simp only[j1,j2];cbv;refine nd n0 ?_;refine⟨_,hS.call cs,?_⟩;cbv;refine bF y ?_;refine bF z0 ?_;refine aQ [] () ?_ ?_ ?_ ?_ rfl (by show 2<=2;omega) Rd
    ·simp[aZ,sr,ae,vi,vb,AV.ay,AV.aI,Cell.ay]
     exact i1
    ·simp[a8,sr,ae]
    ·simp[aF,sr,ae]
    ·simp
   | succ i=>
    obtain⟨q,hq,gq,ym,_,_⟩:=gP (l:=l) (i:=i) (by omega);have j4:aD X i=some [.aa false (aV q)]:=by rw[hS.nth,hX];exact ym
    have z0:zV 0 (Int.ofNat (i+1))=true:=by rw[hS.lt];exact decide_eq_true (show(0:Int)<((i+1:Nat):Int) by omega)
    have w1:zD .i64 (zG (Int.ofNat (i+1)) 1)=(i:Int):=by rw[hS.sub,hS.wrap];exact(wrap_i64 (by show -9223372036854775808<=((i+1:Nat):Int)-1;omega) (by show((i+1:Nat):Int)-1<9223372036854775808;omega)).trans (by show((i+1:Nat):Int)-1=i;omega)
    have j3:zu (i:Int)=i:=by rw[hS.nat];rfl
    have n3:zX 0 (i:Int)=true:=by rw[hS.le];exact decide_eq_true (show(0:Int)<=(i:Int) by omega)
    have hc:iO q p<0:=by
     unfold vj at hs;rw[List.pairwise_iff_getElem]at hs;have h1:l[i]'(by omega)=q:=by have:=gq;rw[List.getElem?_eq_getElem (by omega)]at this;simpa using this
     have h2:l[i+1]'(by omega)=p:=by have:=gp;rw[List.getElem?_eq_getElem (by omega)]at this;simpa using this
     have:=hs i (i+1) (by omega) (by omega) (by omega);rw[h1,h2]at this;exact DC.2 this
    have cc:=xC q p (hl q hq).vp.rK (hl p hp).vp.rK (by have:=(hl q hq).vp.len;omega) (by have:=(hl p hp).vp.len;omega);generalize iO q p=m at *;have zc:zX 0 m=false:=by rw[hS.le];exact decide_eq_false (by omega)
    generalize aV p=Z,aV q=Z2 at *;refine⟨?_⟩;cbv;refine bT c1 ?_;simp only[j1,j2];cbv;refine nd n0 ?_;refine⟨_,hS.call cw,?_⟩;cbv;refine bF y ?_;simp only[j1,j2];cbv;refine nd n0 ?_;refine bF hz ?_;simp only[j1,j2];cbv;refine nd n0 ?_;refine⟨_,hS.call cn,?_⟩;cbv;simp only[j1,j2];cbv;refine nd n0 ?_;refine⟨_,hS.call cs,?_⟩;cbv;refine bF y ?_;refine bT z0 ?_;simp only[w1,j3,j4]
    cbv;refine nd n3 ?_;simp only[j1,j2];cbv;refine nd n0 ?_;refine⟨_,hS.call cc,?_⟩;cbv;refine bF zc ?_;refine aQ [] () ?_ ?_ ?_ ?_ rfl (by show 2<=2;omega) Rd
    ·simp[aZ,sr,ae,vi,vb,AV.ay,AV.aI,Cell.ay]
     exact i1
    ·simp[a8,sr,ae]
    ·simp[aF,sr,ae]
    ·simp
 ·rintro⟨⟩ hR
  rw[List.take_of_length_le (by omega),<-CA]at hR;subst hR;refine⟨?_⟩;cbv;refine bF lE ?_;exact hF _ (ak.refl _)
structure NM (N:Int) (E D:List (List T2)):Prop where
 n:1<=N/\N<=4
 pe:∀p∈E,CP p
 pd:∀p∈D,CP p/\ji p≠0
 se:vj E
 sd:vj D
 le:E.length<=6
 ld:D.length<=6
def BB (N:Int) (X Y:Abs.Rows) (I:Int):St:=ae 42 [.af,.c (.ptr 1 0 0),vb false,vi .i64 I] [none,some (.var [.t (.v (.int .i64 N)),.t (.aa false X),.t (.aa false Y)])]
theorem sv (N:Int) (E D:List (List T2)) (h:NM N E D) :
  ah Tryz.prog 34 [.val (.agg [.v (.int .i64 N),.aa false (an E),.aa false (an D)])] ⟨[.val (tb (E.all (En N)&&D.all (En N)))],[none]⟩:=by
 have c1:=su E N h.n h.pe h.se (by have:=h.le;omega);have c2:=su D N h.n (fun p hp=>(h.pd p hp).1) h.sd (by have:=h.ld;omega);generalize E.all (En N)=b1,D.all (En N)=b2,an E=X at *;obtain⟨Y,hY⟩:∃Y,Y=an D:=⟨_,rfl⟩;obtain⟨k,ta⟩:∃n,n=D.length:=⟨_,rfl⟩;have lY:Y.length=k:=by rw[hY,nU,ta]
 have hk6:k<=6:=by rw[ta];exact h.ld
 rw[<-hY]at c2 ⊢;have hN:=h.n;refine ar aj mixed [.val] Tryz.func34 rfl rfl (by kernel_rfl) ?_;intros;rename_i zT _ zV _ zY _ _ _ _ _ _ _ _ _ _ _ _ _ _ _ aD _ _ _ _ _ _ _ _ _ _ _ _ _ _ _ _ _ _ A L F hS hF;have lE:=hS.eU lY;have zN1:zV N 1=false:=by rw[hS.lt];exact decide_eq_false (by omega)
 have zN4:zV 4 N=false:=by rw[hS.lt];exact decide_eq_false (by omega)
 have y1:zY true=false:=by rw[hS.not];rfl
 have y2:zY false=true:=by rw[hS.not];rfl
 cbv;refine bF zN1 (bF zN4 ?_);cases b1 with
 | false=>
  refine⟨_,hS.call c1,?_⟩;cbv;refine bT y2 ?_;exact hF _ (ak.refl _)
 | true=>
 cases b2 with
 | false=>
  refine⟨_,hS.call c1,?_⟩;cbv;refine bF y1 ?_;refine⟨_,hS.call c2,?_⟩;cbv;refine bT y2 ?_;exact hF _ (ak.refl _)
 | true=>
 refine⟨_,hS.call c1,?_⟩;cbv;refine bF y1 ?_;refine⟨_,hS.call c2,?_⟩;cbv;refine bF y1 ?_;refine fA aj mixed hS (n:=k) (fun i (_:Unit)=>BB N X Y (Int.ofNat i)) (fun i _=>True) (a0:=()) (fi ?_ ?_) rfl (by show 1<=2;omega) trivial ?_ ?_
 ·simp[dO,BB,ae,vi,vb]
 ·simp[dP,BB,ae]
 ·rintro i ⟨⟩ hi -
  obtain⟨e1,i1,j1,n0⟩:=hS.gC lY hi (by omega);obtain⟨p,hp,gp,hr,_,_⟩:=gP (l:=D) (i:=i) (by omega);have j2:aD Y i=some [.aa false (aV p)]:=by rw[hS.nth,hY];exact hr
  have cd:=qF p (h.pd p hp).1.vp.rK (by have:=(h.pd p hp).1.vp.len;omega);have zd:zT (ji p) 0=false:=by rw[hS.eq];exact decide_eq_false (h.pd p hp).2
  generalize ji p=d,aV p=Z at *;refine⟨?_⟩;cbv;refine bT e1 ?_;simp only[j1,j2];cbv;refine nd n0 ?_;refine⟨_,hS.call cd,?_⟩;cbv;refine bF zd ?_;refine aQ [(1,1)] () ?_ ?_ ?_ ?_ rfl (by show 1<=2;omega) trivial
  ·simp[aZ,BB,ae,vi,vb,AV.ay,AV.aI,Cell.ay,aq]
   exact i1
  ·simp[a8,BB,ae,Abs.look,aq,aC.ay,Cell.ay]
  ·simp[aF,BB,ae,aq]
  ·simp
 ·rintro⟨⟩ -
  refine⟨?_⟩;cbv;refine bF lE ?_;exact hF _ (ak.refl _)
open Go Go.Abs Go.Abs.M Go.Proofs
structure SP (p:List T2):Prop where
 int:∀t∈p,t.int
 vd:Vd p
 len:p.length<=50
 Xa:ji p<=12
theorem SP.zs {p:List T2} (h:SP p):Zs p:=fun t ht=>⟨(h.int t ht).d,by have:=(h.int t ht).n.2;omega⟩
theorem TT {t:T2} (h:t.int):t.ok 100 1000:=
 ⟨by rw[rW h.d];exact Qs.whole (by have:=h.n.2;omega) (by omega),by have:=h.a;omega,by have:=h.b;omega⟩
theorem SP.vp {p:List T2} (h:SP p):VP p 12:=⟨fun t ht=>TT (h.int t ht),by have:=h.len;omega,h.vd,h.Xa⟩
theorem K9 {p:List T2} (hz:Zs p) (hv:Vd p):∀u∈jI p,∃t∈p,u.a=t.a/\u.b=t.b/\u.c.num.natAbs<=t.c.num.natAbs:=by
 by_cases hp:p=[]
 ·subst hp;intro u hu;simp[jI]at hu
 intro u hu;have hE:jI p=p.map fun t:T2=>T2.mk (DB p*t.c) (0+t.a) (0+t.b):=by unfold jI;rw[if_neg hp];unfold df;rw[if_neg (Nz hp hz hv)]
 rw[hE]at hu;obtain⟨t,ht,rfl⟩:=List.mem_map.1 hu;obtain⟨s,hs,_,e⟩:=xD hp hz hv;obtain⟨z,h1,h2,_⟩:=Gb hs (kU hp hz hv) (hz t ht).1 ((nP p 0).2 t ht);refine⟨t,ht,by simp,by simp,?_⟩;rw[<-e]at h1;simp only[h1,Rat.num_intCast];rw[h2];exact Nat.le_mul_of_pos_left _ (kU hp hz hv)
theorem NN {p q:List T2} (h:p.map (fun t=>(t.a,t.b))=q.map (fun t=>(t.a,t.b))):ji p=ji q:=by
 have e:∀p:List T2,ji p=(p.map (fun t=>(t.a,t.b))).foldl (fun d t=>if t.1+t.2>d then t.1+t.2 else d) (-1):=fun p=>by rw[List.foldl_map];rfl
 rw[e,e,h]
theorem SP.jI {p:List T2} (h:SP p):SP (jI p)/\(p≠[]->CP (jI p))/\ji (jI p)=ji p:=by
 obtain⟨h1,h2,h3,h4,h5⟩:=K1 h.zs h.vd;have hd:=NN h5;have hi:∀t∈Go.Proofs.YtekefilngojelaaGreat.jI p,t.int:=fun u hu=>by
  obtain⟨t,ht,ea,eb,hn⟩:=K9 h.zs h.vd u hu;have it:=h.int t ht;exact⟨(h1 u hu).1,⟨fun e=>h2.1 u hu (Rat.num_eq_zero.1 e),by have:=it.n.2;omega⟩,by rw[ea];exact it.a,by rw[eb];exact it.b⟩
 have hs:SP (Go.Proofs.YtekefilngojelaaGreat.jI p):=⟨hi,h2,by rw[h4];exact h.len,by rw[hd];exact h.Xa⟩;refine⟨hs,fun hp=>⟨hs.vp,hi,?_,h3⟩,hd⟩;intro e;rw[e]at h4;exact hp (List.length_eq_zero_iff.1 h4.symm)
theorem ij {plain:Bool}:∀ {l:List (List T2)},(∀p∈l,SP p) ->
  vj (ig plain l)/\(∀p∈ig plain l,CP p/\SP p/\(plain=true->ji p≠0))/\(ig plain l).length<=l.length:=by
 intro l
 suffices h:∀(k o:List (List T2)),(∀p∈k,SP p)->vj o->(∀p∈o,CP p/\SP p/\(plain=true->ji p≠0)) ->
   vj (k.foldl (yX plain) o)/\(∀p∈k.foldl (yX plain) o,CP p/\SP p/\(plain=true->ji p≠0))/\(k.foldl (yX plain) o).length<=o.length+k.length from
  fun hl=>by
   have:=h l [] hl List.Pairwise.nil (fun p hp=>absurd hp (by simp));simpa[ig]using this
 intro k
 induction k with
 | nil=>intro o _ h1 h2;exact⟨h1,h2,by simp⟩
 | cons x k ih=>
  intro o hk h1 h2;rw[List.foldl_cons];have hx:=hk x List.mem_cons_self;have yu:=fun p hp=>hk p (List.mem_cons_of_mem x hp)
  unfold yX;split
  ·obtain⟨g1,g2,g3⟩:=ih o yu h1 h2
   exact⟨g1,g2,by rw[List.length_cons];unfold yX at g3;omega⟩
  ·rename_i hc
   have cY:x≠[]:=fun e=>hc (Or.inl (by rw[e];simp[Go.Proofs.YtekefilngojelaaGreat.jI]))
   obtain⟨g1,g2,g3⟩:=ih (kV (Go.Proofs.YtekefilngojelaaGreat.jI x) o) yu (Ge h1) (fun p hp=>by
    rcases xF.1 hp with rfl|hp
    ·exact⟨hx.jI.2.1 cY,hx.jI.1,fun OG hd=>hc (Or.inr ⟨OG,hd⟩)⟩
    ·exact h2 p hp)
   refine⟨g1,g2,?_⟩;have:=ND (Go.Proofs.YtekefilngojelaaGreat.jI x) o;rw[List.length_cons];unfold yX at g3;omega
def dV (X:Abs.Rows) (pl:Bool) (len:Nat) (O:Abs.Rows) (I:Int):St:=ae 75 [.c (.t (.aa false X)),vb pl,.af,.af,.af,.c (.sl 2 0 len false),vi .i64 I] [none,none,some (.rows 1 O true false)]
def BC (X:Abs.Rows) (pl:Bool) (len:Nat) (O:Abs.Rows) (I:Int) (P:Abs.Rows) (J:Int):St:=ae 75 [.c (.t (.aa false X)),vb pl,.af,.af,.af,.c (.sl 2 0 len false),vi .i64 I,.c (.t (.aa false P)),vi .i64 J] [none,none,some (.rows 1 O true false)]
theorem Xe (l:List (List T2)) (plain:Bool) (hl:∀p∈l,SP p) (hk:l.length<=50) :
  ah Tryz.prog 26 [.val (tl (an l)),.val (tb plain)] ⟨[.val (tl (an (ig plain l)))],[none,none]⟩:=by
 obtain⟨X,hX⟩:∃X,X=an l:=⟨_,rfl⟩;obtain⟨k,ta⟩:∃n,n=l.length:=⟨_,rfl⟩;have lX:X.length=k:=by rw[hX,nU,ta]
 obtain⟨Y,hY⟩:∃Y,Y=an (ig plain l):=⟨_,rfl⟩;rw[<-hX,<-hY];refine ar aj mixed [.val] Tryz.func26 rfl rfl (by kernel_rfl) fun zD zE _ _ _ _ _ _ _ _ _ _ zT _ zV _ zY _ _ _ _ zu zy zz bd ao aJ bN bE aO _ ab aD _ _ _ _ a9 aE bQ _ _ aN _ _ _ _ _ _ _ _ A L F hS hF=>?_
 have lE:=hS.eU lX;cbv;refine fA aj mixed hS (n:=k) (fun i (z:Nat×Abs.Rows)=>dV X plain z.1 z.2 (Int.ofNat i)) (fun i z=>z.1=z.2.length/\z.2=an (ig plain (l.take i))) (a0:=(0,[])) (fi ?_ ?_) rfl (by show 2<=3;omega) ⟨rfl,by simp[ig,an]⟩ ?_ ?_
 ·simp[dO,dV,ae,vi,vb]
 ·simp[dP,dV,ae]
 ·rintro i ⟨len,O⟩ hi ⟨hlen,hO⟩
  simp only at hlen hO;obtain⟨c1,i1,j1,n0⟩:=hS.gC lX hi (by omega);obtain⟨x,hx,gx,hr,eC,_⟩:=gP (l:=l) (i:=i) (by omega);have j2:aD X i=some [.aa false (aV x)]:=by rw[hS.nth,hX];exact hr
  have sx:=hl x hx;have cn:=so x sx.zs sx.vd sx.vp.ok sx.vp.len;obtain⟨o,ho⟩:∃o,o=ig plain (l.take i):=⟨_,rfl⟩;obtain⟨f1,f2,f3⟩:=ij (plain:=plain) (l:=l.take i) (fun p hp=>hl p (List.mem_of_mem_take hp));rw[<-ho]at hO f1 f2 f3;have f4:o.length<=50:=by rw[List.length_take]at f3;omega
  have lO:len=o.length:=by rw[hlen,hO,nU]
  have jW:ig plain (l.take (i+1))=yX plain o x:=by rw[eC,NF,ho]
  have sp:=sx.jI.1;obtain⟨p,hp⟩:∃p,p=Go.Proofs.YtekefilngojelaaGreat.jI x:=⟨_,rfl⟩;have iW:yX plain o x=if p=[]∨plain=true/\ji p=0 then o else kV p o:=by rw[hp];rfl
  rw[<-hp]at cn sp;rw[iW]at jW;clear hp iW;have cd:=qF p sp.vp.rK (by have:=sp.len;omega);obtain⟨dg,Zj⟩:∃d,d=ji p:=⟨_,rfl⟩;rw[<-Zj]at cd jW;clear Zj;obtain⟨m,hm⟩:∃m,m=G5 p o:=⟨_,rfl⟩;have hmo:m<=o.length:=by rw[hm];exact NA p o
  obtain⟨P,hP⟩:∃P,P=aV p:=⟨_,rfl⟩;rw[<-hP]at cn cd;have lOO:O.length=o.length:=by rw[hO,nU]
  have cc:∀ {j:Nat} (hj:j<o.length),∃q,o[j]?=some q/\O[j]?=some [.aa false (aV q)]/\ah Tryz.prog 58 [.val (tl (aV q)),.val (tl P)] ⟨[.val (ti .i64 (iO q p))],[none,none]⟩/\ah Tryz.prog 56 [.val (tl (aV q)),.val (tl P)] ⟨[.val (tb (decide (q=p)))],[none,none]⟩:=fun {j} hj=>by
   obtain⟨q,hq,gq,ym,_,_⟩:=gP (l:=o) (i:=j) hj;have sq:=(f2 q hq).2.1;refine⟨q,gq,by rw[hO];exact ym,?_,?_⟩
   ·rw[hP];exact xC q p sq.vp.rK sp.vp.rK (by have:=sq.len;omega) (by have:=sp.len;omega)
   ·rw[hP];exact uR q p sq.vp.rK (by have:=sq.len;omega) (by have:=sp.len;omega)
  generalize aV x=Z at *;refine⟨?_⟩;cbv;refine bT c1 ?_;simp only[j1,j2];cbv;refine nd n0 ?_;refine⟨_,hS.call cn,?_⟩;cbv;refine fA aj mixed hS (n:=m) (fun j (_:Unit)=>BC X plain len O (Int.ofNat i) P (Int.ofNat j)) (fun _ _=>True) (a0:=()) (fi ?_ ?_) rfl (by show 2<=3;omega) trivial ?_ ?_
  ·simp[dO,BC,ae,vi,vb]
  ·simp[dP,BC,ae]
  ·rintro j ⟨⟩ hj -
   obtain⟨q,gq,hOj,cq,_⟩:=cc (j:=j) (by omega);have bG:iO q p<0:=NB p o j q (by omega) gq;generalize iO q p=e at *;have ze:zV e 0=true:=by rw[hS.lt];exact decide_eq_true bG
   have l1:zV (Int.ofNat j) (zz len)=true:=by rw[hS.lt,hS.aB,lO];exact decide_eq_true (show(j:Int)<(o.length:Int) by omega)
   have w1:zD .i64 (zE (Int.ofNat j) 1)=(j:Int)+1:=by rw[hS.add,hS.wrap];exact wrap_i64 (by show -9223372036854775808<=(j:Int)+1;omega) (by show(j:Int)+1<9223372036854775808;omega)
   have j3:aD O j=some [.aa false (aV q)]:=by rw[hS.nth];exact hOj
   have d1:zy (Int.ofNat j) len=true:=by rw[hS.yF];exact decide_eq_true (show 0<=(j:Int)/\(j:Int)<len by omega)
   have d2:bd 0 (Int.ofNat j)=j:=by rw[hS.idx];show 0+(j:Int).toNat=j;omega
   generalize aV q=Z2 at *;refine⟨?_⟩;cbv;refine bT l1 (nd d1 ?_);simp only[d2,j3];cbv;refine⟨_,hS.call cq,?_⟩;cbv;refine bT ze ?_;refine aQ [(2,2)] () ?_ ?_ ?_ ?_ rfl (by show 2<=3;omega) trivial
   ·simp[aZ,BC,ae,vi,vb,AV.ay,AV.aI,Cell.ay,aq]
    exact w1
   ·simp[a8,BC,ae,Abs.look,aq,aC.ay,Cell.ay]
   ·simp[aF,BC,ae,aq]
   ·simp
  ·rintro⟨⟩ -
   have d2:bd 0 (Int.ofNat m)=m:=by rw[hS.idx];show 0+(m:Int).toNat=m;omega
   rcases Nat.lt_or_ge m o.length with Tn|ahf
   ·obtain⟨q,gq,hOj,cq,cs⟩:=cc Tn
    have GL:¬iO q p<0:=NC p o q (by rw[<-hm];exact gq);have Lb:kV p o=if q=p then o else o.take m++p::o.drop m:=by
     unfold kV;rw[<-hm,gq];simp only[Option.some.injEq]
    generalize iO q p=e at *;have ze:zV e 0=false:=by rw[hS.lt];exact decide_eq_false GL
    have l1:zV (Int.ofNat m) (zz len)=true:=by rw[hS.lt,hS.aB,lO];exact decide_eq_true (show(m:Int)<(o.length:Int) by omega)
    have j3:aD O m=some [.aa false (aV q)]:=by rw[hS.nth];exact hOj
    have k1:bE (Int.ofNat m) (zz len) len=true:=by rw[hS.cut,hS.aB];exact decide_eq_true (show 0<=(m:Int)/\(m:Int)<=(len:Int)/\(len:Int)<=(len:Int) by omega)
    have k0:bN (zz len) (Int.ofNat m)=len-m:=by rw[hS.Kv,hS.aB];show(len:Int).toNat-(m:Int).toNat=_;omega
    obtain⟨T,hT⟩:∃T,T=O.drop m:=⟨_,rfl⟩;have lT:T.length=len-m:=by rw[hT,List.length_drop];omega
    have kT:aE O (bd 0 (Int.ofNat m)) (bN (zz len) (Int.ofNat m))=T:=by rw[d2,k0,hS.part,hT,List.take_of_length_le (by rw[List.length_drop];omega)]
    have k3:a9 (bd 0 (Int.ofNat m)) (bN (zz len) (Int.ofNat m)) O=true:=by rw[d2,k0,hS.fit];exact decide_eq_true (show m+(len-m)<=O.length by omega)
    have k4:bE 0 (Int.ofNat m) len=true:=by rw[hS.cut];exact decide_eq_true (show(0:Int)<=(0:Int)/\(0:Int)<=(m:Int)/\(m:Int)<=(len:Int) by omega)
    have k5:zT (Int.ofNat m) (Int.ofNat m)=true:=by rw[hS.eq];exact decide_eq_true rfl
    obtain⟨R,hR⟩:∃R,R=[Tree.aa false P]::T:=⟨_,rfl⟩;have lR:R.length=1+T.length:=by rw[hR,List.length_cons];omega
    have kR:bQ [[Tree.aa false P]] 0 T=R:=by rw[hS.ext,hR];rfl
    have hE:O.take m++R=an (o.take m++p::o.drop m):=by rw[hR,hT,hO,hP];simp[an,List.map_take,List.map_drop]
    have nm:zu (Int.ofNat m)=m:=by rw[hS.nat];rfl
    have k8:zY (ao (ab R) 0)=true:=by rw[hS.neq,hS.len,lR,hS.not,decide_eq_false (by omega)];rfl
    have k9:aN 1 R=true:=by rw[hS.wide,hR,hT,hO];simp[an,List.all_eq_true];intro a ha;have:=List.mem_of_mem_drop ha;simp at this;obtain⟨_,_,rfl⟩:=this;rfl
    have Ld:aO m (ab R) 24=true:=by rw[hS.room,hS.len];exact decide_eq_true (by unfold az;omega)
    have OO:a9 0 m O=true:=by rw[hS.fit];exact decide_eq_true (show 0+m<=O.length by omega)
    obtain⟨O2,BD⟩:∃O2,O2=O.take m++R:=⟨_,rfl⟩;have zx:bQ (aE O 0 m) 0 R=O2:=by rw[hS.ext,hS.part,BD];rfl
    obtain⟨L2,Xf⟩:∃L2,L2=m+R.length:=⟨_,rfl⟩;have Xg:L2=O2.length:=by rw[Xf,BD,List.length_append,List.length_take];omega
    have nR:aJ m (ab R)=L2:=by rw[hS.fH,hS.len,Xf]
    have k2:ao (ab T) 0=false:=by rw[hS.neq,hS.len,lT];exact decide_eq_false (by omega)
    have k2b:zY (ao (ab T) 0)=true:=by rw[k2,hS.not];rfl
    have k2c:aN 1 T=true:=by rw[hS.wide,hT,hO];simp[an,List.all_eq_true];intro a ha;have:=List.mem_of_mem_drop ha;simp at this;obtain⟨_,_,rfl⟩:=this;rfl
    have k2d:aO 1 (ab T) 24=true:=by rw[hS.room,hS.len];exact decide_eq_true (by unfold az;omega)
    have k2e:ao (aJ 0 1) (ab [[Tree.aa false P]])=true:=by rw[hS.neq,hS.fH,hS.len];rfl
    have kRp:aE R 0 (aJ 1 (ab T))=R:=by rw[hS.part,hS.fH,hS.len,List.drop_zero,List.take_of_length_le (by omega)]
    have k6:ao (ab R) 0=false:=by rw[hS.neq,hS.len,lR];exact decide_eq_false (by omega)
    have k7:a9 0 (aJ 1 (ab T)) R=true:=by rw[hS.fit,hS.fH,hS.len];exact decide_eq_true (show 0+(1+T.length)<=R.length by omega)
    have d1:zy (Int.ofNat m) len=true:=by rw[hS.yF];exact decide_eq_true (show 0<=(m:Int)/\(m:Int)<len by omega)
    generalize aV q=Z2 at *;refine⟨?_⟩;cbv;refine bT l1 (nd d1 ?_);simp only[d2,j3];cbv;refine⟨_,hS.call cq,?_⟩;cbv;refine bF ze ?_
    by_cases G4:p=[]
    ·have zP:zT (zz (ab P)) 0=true:=by rw[hS.eq,hS.aB,hS.len,hP,qE,G4];rfl
     have nV:len=O.length/\O=an (ig plain (l.take (i+1))):=⟨hlen,by rw[jW,if_pos (Or.inl G4)];exact hO⟩;refine bT zP ?_;refine aQ [(2,2)] (len,O) ?_ ?_ ?_ ?_ rfl (by show 2<=3;omega) nV
     ·simp[aZ,dV,ae,vi,vb,AV.ay,AV.aI,Cell.ay,aq]
      exact i1
     ·simp[a8,dV,ae,Abs.look,aq,aC.ay,Cell.ay]
     ·simp[aF,dV,ae,aq]
     ·simp
    have zP:zT (zz (ab P)) 0=false:=by rw[hS.eq,hS.aB,hS.len,hP,qE];exact decide_eq_false (by have:=List.length_pos_iff.2 G4;omega)
    refine bF zP ?_;cases plain with
    | true=>
     refine bT rfl ?_
     by_cases DJ:dg=0
     ·have nV:len=O.length/\O=an (ig true (l.take (i+1))):=⟨hlen,by rw[jW,if_pos (Or.inr ⟨rfl,DJ⟩)];exact hO⟩
      have zd:zT dg 0=true:=by rw[hS.eq];exact decide_eq_true DJ
      refine⟨_,hS.call cd,?_⟩;cbv;refine bT zd ?_;refine aQ [(2,2)] (len,O) ?_ ?_ ?_ ?_ rfl (by show 2<=3;omega) nV
      ·simp[aZ,dV,ae,vi,vb,AV.ay,AV.aI,Cell.ay,aq]
       exact i1
      ·simp[a8,dV,ae,Abs.look,aq,aC.ay,Cell.ay]
      ·simp[aF,dV,ae,aq]
      ·simp
     ·have zd:zT dg 0=false:=by rw[hS.eq];exact decide_eq_false DJ
      rw[if_neg (by rintro(h|⟨_,h⟩);exact G4 h;exact DJ h)]at jW;refine⟨_,hS.call cd,?_⟩;cbv;refine bF zd ?_;refine bT l1 (nd d1 ?_);simp only[d2,j3];cbv
      by_cases Qe:q=p
      ·rw[decide_eq_true Qe]at cs
       have nV:len=O.length/\O=an (ig _ (l.take (i+1))):=⟨hlen,by rw[jW,Lb,if_pos Qe];exact hO⟩;refine⟨_,hS.call cs,?_⟩;cbv;refine bT rfl ?_;refine aQ [(2,2)] (len,O) ?_ ?_ ?_ ?_ rfl (by show 2<=3;omega) nV
       ·simp[aZ,dV,ae,vi,vb,AV.ay,AV.aI,Cell.ay,aq]
        exact i1
       ·simp[a8,dV,ae,Abs.look,aq,aC.ay,Cell.ay]
       ·simp[aF,dV,ae,aq]
       ·simp
      ·rw[decide_eq_false Qe]at cs
       have K7:O.take m++R=an (kV p o):=by rw[Lb,if_neg Qe];exact hE
       refine⟨_,hS.call cs,?_⟩;cbv;refine bF rfl ?_;refine nd k1 ?_;simp only[kT];refine bF k2 (nd k3 (nd k2b (nd k2c (nd k2d (bT k2e ?_)))));simp only[kR,kRp];refine nd k4 (nd k5 (bF k6 (nd k7 ?_)));simp only[nm];refine nd k8 (nd k9 (nd Ld (nd OO ?_)));simp only[nR,zx];have ua:L2=O2.length/\O2=an (ig _ (l.take (i+1))):=⟨Xg,by rw[jW,BD];exact K7⟩;refine aQ [(2,11)] (L2,O2) ?_ ?_ ?_ ?_ rfl (by show 2<=3;omega) ua
       ·simp[aZ,dV,ae,vi,vb,AV.ay,AV.aI,Cell.ay,aq]
        exact i1
       ·simp[a8,dV,ae,Abs.look,aq,aC.ay,Cell.ay]
       ·simp[aF,dV,ae,aq]
       ·simp
    | false=>
     rw[if_neg (by rintro(h|⟨h,_⟩);exact G4 h;exact absurd h (by decide))]at jW;refine bF rfl ?_;refine bT l1 (nd d1 ?_);simp only[d2,j3];cbv
     by_cases Qe:q=p
     ·rw[decide_eq_true Qe]at cs
      have nV:len=O.length/\O=an (ig _ (l.take (i+1))):=⟨hlen,by rw[jW,Lb,if_pos Qe];exact hO⟩;refine⟨_,hS.call cs,?_⟩;cbv;refine bT rfl ?_;refine aQ [(2,2)] (len,O) ?_ ?_ ?_ ?_ rfl (by show 2<=3;omega) nV
      ·simp[aZ,dV,ae,vi,vb,AV.ay,AV.aI,Cell.ay,aq]
       exact i1
      ·simp[a8,dV,ae,Abs.look,aq,aC.ay,Cell.ay]
      ·simp[aF,dV,ae,aq]
      ·simp
     ·rw[decide_eq_false Qe]at cs
      have K7:O.take m++R=an (kV p o):=by rw[Lb,if_neg Qe];exact hE
      refine⟨_,hS.call cs,?_⟩;cbv;refine bF rfl ?_;refine nd k1 ?_;simp only[kT];refine bF k2 (nd k3 (nd k2b (nd k2c (nd k2d (bT k2e ?_)))));simp only[kR,kRp];refine nd k4 (nd k5 (bF k6 (nd k7 ?_)));simp only[nm];refine nd k8 (nd k9 (nd Ld (nd OO ?_)));simp only[nR,zx];have ua:L2=O2.length/\O2=an (ig _ (l.take (i+1))):=⟨Xg,by rw[jW,BD];exact K7⟩;refine aQ [(2,11)] (L2,O2) ?_ ?_ ?_ ?_ rfl (by show 2<=3;omega) ua
      ·simp[aZ,dV,ae,vi,vb,AV.ay,AV.aI,Cell.ay,aq]
       exact i1
      ·simp[a8,dV,ae,Abs.look,aq,aC.ay,Cell.ay]
      ·simp[aF,dV,ae,aq]
      ·simp
   ·have l1:zV (Int.ofNat m) (zz len)=false:=by rw[hS.lt,hS.aB,lO];exact decide_eq_false (show ¬(m:Int)<(o.length:Int) by omega)
    have k1:bE (Int.ofNat m) (zz len) len=true:=by rw[hS.cut,hS.aB];exact decide_eq_true (show 0<=(m:Int)/\(m:Int)<=(len:Int)/\(len:Int)<=(len:Int) by omega)
    have k0:bN (zz len) (Int.ofNat m)=len-m:=by rw[hS.Kv,hS.aB];show(len:Int).toNat-(m:Int).toNat=_;omega
    obtain⟨T,hT⟩:∃T,T=O.drop m:=⟨_,rfl⟩;have lT:T.length=len-m:=by rw[hT,List.length_drop];omega
    have kT:aE O (bd 0 (Int.ofNat m)) (bN (zz len) (Int.ofNat m))=T:=by rw[d2,k0,hS.part,hT,List.take_of_length_le (by rw[List.length_drop];omega)]
    have k3:a9 (bd 0 (Int.ofNat m)) (bN (zz len) (Int.ofNat m)) O=true:=by rw[d2,k0,hS.fit];exact decide_eq_true (show m+(len-m)<=O.length by omega)
    have k4:bE 0 (Int.ofNat m) len=true:=by rw[hS.cut];exact decide_eq_true (show(0:Int)<=(0:Int)/\(0:Int)<=(m:Int)/\(m:Int)<=(len:Int) by omega)
    have k5:zT (Int.ofNat m) (Int.ofNat m)=true:=by rw[hS.eq];exact decide_eq_true rfl
    obtain⟨R,hR⟩:∃R,R=[Tree.aa false P]::T:=⟨_,rfl⟩;have lR:R.length=1+T.length:=by rw[hR,List.length_cons];omega
    have kR:bQ [[Tree.aa false P]] 0 T=R:=by rw[hS.ext,hR];rfl
    have hE:O.take m++R=an (o.take m++p::o.drop m):=by rw[hR,hT,hO,hP];simp[an,List.map_take,List.map_drop]
    have nm:zu (Int.ofNat m)=m:=by rw[hS.nat];rfl
    have k8:zY (ao (ab R) 0)=true:=by rw[hS.neq,hS.len,lR,hS.not,decide_eq_false (by omega)];rfl
    have k9:aN 1 R=true:=by rw[hS.wide,hR,hT,hO];simp[an,List.all_eq_true];intro a ha;have:=List.mem_of_mem_drop ha;simp at this;obtain⟨_,_,rfl⟩:=this;rfl
    have Ld:aO m (ab R) 24=true:=by rw[hS.room,hS.len];exact decide_eq_true (by unfold az;omega)
    have OO:a9 0 m O=true:=by rw[hS.fit];exact decide_eq_true (show 0+m<=O.length by omega)
    obtain⟨O2,BD⟩:∃O2,O2=O.take m++R:=⟨_,rfl⟩;have zx:bQ (aE O 0 m) 0 R=O2:=by rw[hS.ext,hS.part,BD];rfl
    obtain⟨L2,Xf⟩:∃L2,L2=m+R.length:=⟨_,rfl⟩;have Xg:L2=O2.length:=by rw[Xf,BD,List.length_append,List.length_take];omega
    have nR:aJ m (ab R)=L2:=by rw[hS.fH,hS.len,Xf]
    have kq:aE [[Tree.aa false P]] 0 1=R:=by rw[hS.part,hR,List.length_eq_zero_iff.1 (show T.length=0 by omega)];rfl
    have k2:ao (ab T) 0=true:=by rw[hS.neq,hS.len,lT];exact decide_eq_true (by omega)
    have k6:ao (ab (aE [[Tree.aa false P]] 0 1)) 0=false:=by rw[hS.neq,hS.len,hS.part];rfl
    have k7:a9 0 1 [[Tree.aa false P]]=true:=by rw[hS.fit];rfl
    have Lb:kV p o=o.take m++p::o.drop m:=by unfold kV;rw[<-hm,List.getElem?_eq_none (by omega),if_neg (by simp)]
    rw[<-Lb]at hE;refine⟨?_⟩;cbv;refine bF l1 ?_
    by_cases G4:p=[]
    ·have zP:zT (zz (ab P)) 0=true:=by rw[hS.eq,hS.aB,hS.len,hP,qE,G4];rfl
     have nV:len=O.length/\O=an (ig plain (l.take (i+1))):=⟨hlen,by rw[jW,if_pos (Or.inl G4)];exact hO⟩;refine bT zP ?_;refine aQ [(2,2)] (len,O) ?_ ?_ ?_ ?_ rfl (by show 2<=3;omega) nV
     ·simp[aZ,dV,ae,vi,vb,AV.ay,AV.aI,Cell.ay,aq]
      exact i1
     ·simp[a8,dV,ae,Abs.look,aq,aC.ay,Cell.ay]
     ·simp[aF,dV,ae,aq]
     ·simp
    have zP:zT (zz (ab P)) 0=false:=by rw[hS.eq,hS.aB,hS.len,hP,qE];exact decide_eq_false (by have:=List.length_pos_iff.2 G4;omega)
    refine bF zP ?_;cases plain with
    | true=>
     refine bT rfl ?_
     by_cases DJ:dg=0
     ·have nV:len=O.length/\O=an (ig true (l.take (i+1))):=⟨hlen,by rw[jW,if_pos (Or.inr ⟨rfl,DJ⟩)];exact hO⟩
      have zd:zT dg 0=true:=by rw[hS.eq];exact decide_eq_true DJ
      refine⟨_,hS.call cd,?_⟩;cbv;refine bT zd ?_;refine aQ [(2,2)] (len,O) ?_ ?_ ?_ ?_ rfl (by show 2<=3;omega) nV
      ·simp[aZ,dV,ae,vi,vb,AV.ay,AV.aI,Cell.ay,aq]
       exact i1
      ·simp[a8,dV,ae,Abs.look,aq,aC.ay,Cell.ay]
      ·simp[aF,dV,ae,aq]
      ·simp
     ·have zd:zT dg 0=false:=by rw[hS.eq];exact decide_eq_false DJ
      rw[if_neg (by rintro(h|⟨_,h⟩);exact G4 h;exact DJ h)]at jW;refine⟨_,hS.call cd,?_⟩;cbv;refine bF zd ?_;have K7:O.take m++R=an (kV p o):=hE;refine bF l1 ?_;refine nd k1 ?_;simp only[kT];refine bT k2 (nd k3 (nd k4 (nd k5 (bF k6 (nd k7 ?_)))));simp only[kq];simp only[nm];refine nd k8 (nd k9 (nd Ld (nd OO ?_)));simp only[nR,zx];have ua:L2=O2.length/\O2=an (ig _ (l.take (i+1))):=⟨Xg,by rw[jW,BD];exact K7⟩
      refine aQ [(2,11)] (L2,O2) ?_ ?_ ?_ ?_ rfl (by show 2<=3;omega) ua
      ·simp[aZ,dV,ae,vi,vb,AV.ay,AV.aI,Cell.ay,aq]
       exact i1
      ·simp[a8,dV,ae,Abs.look,aq,aC.ay,Cell.ay]
      ·simp[aF,dV,ae,aq]
      ·simp
    | false=>
     rw[if_neg (by rintro(h|⟨h,_⟩);exact G4 h;exact absurd h (by decide))]at jW;refine bF rfl ?_;have K7:O.take m++R=an (kV p o):=hE;refine bF l1 ?_;refine nd k1 ?_;simp only[kT];refine bT k2 (nd k3 (nd k4 (nd k5 (bF k6 (nd k7 ?_)))));simp only[kq];simp only[nm];refine nd k8 (nd k9 (nd Ld (nd OO ?_)));simp only[nR,zx];have ua:L2=O2.length/\O2=an (ig _ (l.take (i+1))):=⟨Xg,by rw[jW,BD];exact K7⟩
     refine aQ [(2,11)] (L2,O2) ?_ ?_ ?_ ?_ rfl (by show 2<=3;omega) ua
     ·simp[aZ,dV,ae,vi,vb,AV.ay,AV.aI,Cell.ay,aq]
      exact i1
     ·simp[a8,dV,ae,Abs.look,aq,aC.ay,Cell.ay]
     ·simp[aF,dV,ae,aq]
     ·simp
 ·rintro⟨len,O⟩ ⟨hlen,hO⟩
  simp only at hlen hO;rw[List.take_of_length_le (by omega),<-hY]at hO;obtain⟨u1,u2⟩:=hS.whole (r:=O) (len:=len) hlen;refine⟨?_⟩;cbv;refine bF lE ?_;rw[u2];refine nd u1 ?_;rw[hO];exact hF _ (ak.refl _)
open Go Go.Abs Go.Abs.M Go.Proofs
def TU (n:Int):Int:=if n<0 then -(n+1)*2+1 else n*2
def iD (n:Int):Abs.Rows:=nB (TU n)
theorem NO {n:Int} (h0:-8000<=n) (h1:n<=8000):0<=TU n/\TU n<16384:=by unfold TU;split<;>omega
theorem xK (n:Int) (h0:-8000<=n) (h1:n<=8000) (B:Abs.Rows) (hB:B.length<=1000000000) :
  ah Tryz.prog 51 [.own 1 B,.val (ti .i64 n)] ⟨[.own 1 (B++iD n)],[none,none]⟩:=by
 obtain⟨m0,m1⟩:=NO h0 h1;have c:=Bt (TU n) m0 m1 B hB;unfold iD;obtain⟨m,hm⟩:∃m,m=TU n:=⟨_,rfl⟩;rw[<-hm]at c m0 m1 ⊢;unfold TU at hm;generalize B++nB m=B2 at *
 by_cases h:n<0
 ·rw[if_pos h]at hm
  refine ar aj mixed [.own 1] Tryz.func51 rfl rfl (by kernel_rfl) fun zD zE zG zH _ _ _ _ _ _ _ _ _ _ zV _ _ _ _ _ _ _ _ _ _ ao _ _ _ _ _ ab _ _ _ _ _ _ _ _ _ _ _ _ _ _ _ _ _ _ _ A L F hS hF=>?_
  have l1:zV n 0=true:=by rw[hS.lt];exact decide_eq_true h
  have hz:ao (ab B) (ab B)=true:=by rw[hS.neq];exact decide_eq_true rfl
  have Yx:ao (ab B2) (ab B2)=true:=by rw[hS.neq];exact decide_eq_true rfl
  cbv;refine bT l1 (nd hz ?_);have e:zD .u64 (zE (zD .u64 (zH (zD .u64 (zD .i64 (zG 0 (zD .i64 (zE n 1))))) 2)) 1)=m:=by
   have a1:zD .i64 (zE n 1)=n+1:=by rw[hS.add,hS.wrap];exact wrap_i64 (by omega) (by omega)
   have a2:zD .i64 (zG 0 (n+1))=0-(n+1):=by rw[hS.sub,hS.wrap];exact wrap_i64 (by omega) (by omega)
   have a3:zD .u64 (0-(n+1))=0-(n+1):=by rw[hS.wrap];exact eG (by omega) (by omega)
   have a4:zD .u64 (zH (0-(n+1)) 2)=(0-(n+1))*2:=by rw[hS.mul,hS.wrap];exact eG (by omega) (by omega)
   have a5:zD .u64 (zE ((0-(n+1))*2) 1)=(0-(n+1))*2+1:=by rw[hS.add,hS.wrap];exact eG (by omega) (by omega)
   rw[a1,a2,a3,a4,a5];omega
  simp only[e];refine⟨_,hS.call c,?_⟩;cbv;exact nd Yx (hF _ (ak.refl _))
 ·rw[if_neg h]at hm
  refine ar aj mixed [.own 1] Tryz.func51 rfl rfl (by kernel_rfl) fun zD zE zG zH _ _ _ _ _ _ _ _ _ _ zV _ _ _ _ _ _ _ _ _ _ ao _ _ _ _ _ ab _ _ _ _ _ _ _ _ _ _ _ _ _ _ _ _ _ _ _ A L F hS hF=>?_
  have l1:zV n 0=false:=by rw[hS.lt];exact decide_eq_false h
  have hz:ao (ab B) (ab B)=true:=by rw[hS.neq];exact decide_eq_true rfl
  have Yx:ao (ab B2) (ab B2)=true:=by rw[hS.neq];exact decide_eq_true rfl
  have e:zD .u64 (zH (zD .u64 n) 2)=m:=by rw[hS.wrap,hS.wrap,hS.mul,eG (x:=n) (by omega) (by omega),eG (by omega) (by omega),hm]
  cbv;refine bF l1 (nd hz ?_);simp only[e];refine⟨_,hS.call c,?_⟩;cbv;exact nd Yx (hF _ (ak.refl _))
def uB (l:List Rat):Abs.Rows:=nB l.length++l.flatMap qB
theorem TW {l:List Rat} {i:Nat} (hi:i<l.length):∃x,x∈l/\l[i]?=some x/\(ur l)[i]?=some (qc x).row/\l.take (i+1)=l.take i ++ [x]:=
 ⟨l[i],List.getElem_mem hi,List.getElem?_eq_getElem hi,Nj (List.getElem?_eq_getElem hi),by rw[List.take_add_one,List.getElem?_eq_getElem hi];rfl⟩
def BF (X:Abs.Rows) (len:Nat) (B:Abs.Rows) (I:Int):St:=ae 24 [.c (.sl 2 0 len false),.c (.t (.aa false X)),.af,.af,.af,vi .i64 I] [none,none,some (.rows 1 B true false)]
theorem Qf (l:List Rat) (hp:∀x∈l,Qs x 100) (hn:l.length<=100) (B:Abs.Rows) (hB:B.length<=600000000) :
  ah Tryz.prog 150 [.own 1 B,.val (tl (ur l))] ⟨[.own 1 (B++uB l)],[none,none]⟩:=by
 have c0:=Bt (l.length:Int) (by omega) (by omega) B (by omega);obtain⟨X,hX⟩:∃X,X=ur l:=⟨_,rfl⟩;obtain⟨n,fD⟩:∃n,n=l.length:=⟨_,rfl⟩;have lX:X.length=n:=by rw[hX,tR,fD]
 obtain⟨N,hN⟩:∃N:Int,N=(l.length:Int):=⟨_,rfl⟩;have RG:=qM N;unfold uB;rw[<-hN]at c0 ⊢;obtain⟨B1,eW⟩:∃Z,Z=B++nB N:=⟨_,rfl⟩;rw[<-eW]at c0;rw[<-hX,show B++(nB N++l.flatMap qB)=B1++l.flatMap qB by rw[eW,List.append_assoc]];have Em:B1.length<=600000002:=by rw[eW,List.length_append];omega
 obtain⟨l1,kv⟩:∃l1,l1=B1.length:=⟨_,rfl⟩;refine ar aj mixed [.own 1] Tryz.func150 rfl rfl (by kernel_rfl) fun zD _ _ _ _ _ _ _ _ _ _ _ _ _ _ _ _ _ _ _ _ _ _ zz _ ao _ _ _ _ _ ab aD _ _ _ _ _ _ _ _ _ _ _ _ _ _ _ _ _ _ A L F hS hF=>?_
 have hz:ao (ab B) (ab B)=true:=by rw[hS.neq];exact decide_eq_true rfl
 have uZ:ab B1=l1:=by rw[hS.len,kv]
 have ec:zD .u64 (zz (ab X))=N:=by rw[hS.aB,hS.len,lX,hS.wrap,eG (by omega) (by omega),hN,fD]
 have lE:=hS.eU lX;cbv;refine nd hz ?_;simp only[ec];refine⟨_,hS.call c0,?_⟩;cbv;simp only[uZ];refine fA aj mixed hS (n:=n) (fun i (z:Nat×Abs.Rows)=>BF X z.1 z.2 (Int.ofNat i)) (fun i z=>z.1=z.2.length/\z.2=B1++(l.take i).flatMap qB) (a0:=(l1,B1)) (fi ?_ ?_) rfl (by show 2<=3;omega) ⟨kv,by simp⟩ ?_ ?_
 ·simp[dO,BF,ae,vi,vb]
 ·simp[dP,BF,ae]
 ·rintro i ⟨l2,B2⟩ hi ⟨ee,dh⟩
  simp only at ee dh;obtain⟨c1,i1,j1,n0⟩:=hS.gC lX hi (by omega);obtain⟨x,kY,gx,hr,eC⟩:=TW (l:=l) (i:=i) (by omega);have hlen:((l.take i).flatMap qB).length<=100*804:=Nat.le_trans (Ih (k:=804) fun y hy=>gU (hp y (List.mem_of_mem_take hy))) (Nat.mul_le_mul (by rw[List.length_take];omega) (by omega));have cq:=si x ((hp x kY).mono (by omega)) B2 (by rw[dh,List.length_append];omega);obtain⟨B3,kx⟩:∃Z,Z=B2++qB x:=⟨_,rfl⟩
  rw[<-kx]at cq;obtain⟨l3,qL⟩:∃y,y=B3.length:=⟨_,rfl⟩;have ua:l3=B3.length/\B3=B1++(l.take (i+1)).flatMap qB:=⟨qL,by rw[eC,kx,dh,List.flatMap_append];simp⟩;obtain⟨s,t,r,q,da,_⟩:=bD x;rw[da]at cq hr;have j2:aD X i=some [.v (.bool s),.aa false r,.v (.bool t),.aa false q]:=by rw[hS.nth,hX];exact hr
  have y2:ao l2 (ab B2)=true:=by rw[hS.neq,hS.len];exact decide_eq_true ee
  have zL:ab B3=l3:=by rw[hS.len,qL]
  clear kx dh eC qL hr;refine⟨?_⟩;cbv;refine bT c1 ?_;rw[j1,j2];cbv;refine nd n0 (nd y2 ?_);refine⟨_,hS.call cq,?_⟩;cbv;simp only[zL];refine aQ [(2,3)] (l3,B3) ?_ ?_ ?_ ?_ rfl (by show 2<=3;omega) ua
  ·simp[aZ,BF,ae,vi,vb,AV.ay,AV.aI,Cell.ay,aq,i1]
  ·simp[a8,BF,ae,Abs.look,aq,aC.ay,Cell.ay]
  ·simp[aF,BF,ae,aq]
  ·simp
 ·rintro⟨l2,B2⟩ ⟨ee,dh⟩
  simp only at ee dh;rw[List.take_of_length_le (by omega)]at dh;have u9:ao l2 (ab B2)=true:=by rw[hS.len,hS.neq,ee];exact decide_eq_true rfl
  rw[<-dh]at hF;refine⟨?_⟩;cbv;refine bF lE (nd u9 ?_);exact hF _ (ak.refl _)
open Go Go.Abs Go.Abs.M Go.Proofs
structure R8 where
 a0:Int
 a1:Int
 a2:Int
 a3:Int
 a4:Int
 a5:Int
 a6:Int
 a7:Int
def R8.ok (x:R8):Prop:=(-8000<=x.a0/\x.a0<=8000)/\(-8000<=x.a1/\x.a1<=8000)/\(-8000<=x.a2/\x.a2<=8000)/\(-8000<=x.a3/\x.a3<=8000)/\(-8000<=x.a4/\x.a4<=8000)/\(-8000<=x.a5/\x.a5<=8000)/\(-8000<=x.a6/\x.a6<=8000)/\(-8000<=x.a7/\x.a7<=8000)
def Zl (x:R8):List Tree:=[.v (.int .i64 x.a0),.v (.int .i64 x.a1),.v (.int .i64 x.a2),.v (.int .i64 x.a3),.v (.int .i64 x.a4),.v (.int .i64 x.a5),.v (.int .i64 x.a6),.v (.int .i64 x.a7)]
def gD (l:List R8):Abs.Rows:=l.map Zl
def L1 (x:R8):Abs.Rows:=iD x.a0++iD x.a1++iD x.a2++iD x.a3++iD x.a4++iD x.a5++iD x.a6++iD x.a7
def RJ (l:List R8):Abs.Rows:=nB l.length++l.flatMap L1
theorem mR (n:Int):(iD n).length<=2:=qM _
theorem JC (x:R8):(L1 x).length<=16:=by
 unfold L1;have:=mR x.a0;have:=mR x.a1;have:=mR x.a2;have:=mR x.a3;have:=mR x.a4;have:=mR x.a5;have:=mR x.a6;have:=mR x.a7;simp only[List.length_append];omega
theorem DK {l:List R8} {k:Nat} (h:l.length<=k):(RJ l).length<=2+k*16:=by
 unfold RJ;rw[List.length_append];have h1:=qM (l.length:Int);have h2:(l.flatMap L1).length<=k*16:=Nat.le_trans (Ih (k:=16) fun x _=>JC x) (Nat.mul_le_mul h (by omega));omega
theorem Qg (l:List R8):(gD l).length=l.length:=by simp[gD]
theorem Xh {l:List R8} {i:Nat} (h:i<l.length):∃x,x∈l/\l[i]?=some x/\(gD l)[i]?=some (Zl x)/\l.take (i+1)=l.take i ++ [x]:=by
 refine⟨l[i],List.getElem_mem h,List.getElem?_eq_getElem h,?_,?_⟩
 ·simp[gD,List.getElem?_eq_getElem h]
 ·rw[List.take_add_one,List.getElem?_eq_getElem h];rfl
def BG (X:Abs.Rows) (len:Nat) (B:Abs.Rows) (I:Int):St:=ae 31 [.c (.sl 2 0 len false),.c (.t (.aa false X)),.af,.af,.af,vi .i64 I] [none,none,some (.rows 1 B true false)]
theorem uT (l:List R8) (hp:∀x∈l,x.ok) (hn:l.length<=100) (B:Abs.Rows) (hB:B.length<=600000000) :
  ah Tryz.prog 53 [.own 1 B,.val (tl (gD l))] ⟨[.own 1 (B++RJ l)],[none,none]⟩:=by
 have c0:=Bt (l.length:Int) (by omega) (by omega) B (by omega);obtain⟨X,hX⟩:∃X,X=gD l:=⟨_,rfl⟩;obtain⟨n,fD⟩:∃n,n=l.length:=⟨_,rfl⟩;have lX:X.length=n:=by rw[hX,Qg,fD]
 obtain⟨N,hN⟩:∃N:Int,N=(l.length:Int):=⟨_,rfl⟩;have RG:=qM N;unfold RJ;rw[<-hN]at c0 ⊢;obtain⟨B1,eW⟩:∃Z,Z=B++nB N:=⟨_,rfl⟩;rw[<-eW]at c0;rw[<-hX,show B++(nB N++l.flatMap L1)=B1++l.flatMap L1 by rw[eW,List.append_assoc]];have Em:B1.length<=600000002:=by rw[eW,List.length_append];omega
 obtain⟨l1,kv⟩:∃l1,l1=B1.length:=⟨_,rfl⟩;refine dC aj mixed [.own 1] Tryz.func53 rfl rfl (by kernel_rfl) fun zD zE _ _ _ _ _ _ _ _ _ _ _ _ _ _ _ _ _ _ _ _ _ zz _ ao _ _ _ _ _ ab aD _ _ _ _ _ _ _ _ _ _ _ _ _ _ _ _ _ _ A L F hS hF=>?_
 have hz:ao (ab B) (ab B)=true:=by rw[hS.neq];exact decide_eq_true rfl
 have uZ:ab B1=l1:=by rw[hS.len,kv]
 have ec:aA zD .u64 (zz (ab X))=N:=by rw[hS.aB,hS.len,lX,hS.wrap,eG (by omega) (by omega),hN,fD]
 have lE:=hS.eU lX;cbv at ec;cbv;refine nd hz ?_;simp only[ec];refine⟨_,hS.call c0,?_⟩;cbv;simp only[uZ];refine fA aj mixed hS (n:=n) (fun i (z:Nat×Abs.Rows)=>BG X z.1 z.2 (Int.ofNat i)) (fun i z=>z.1=z.2.length/\z.2=B1++(l.take i).flatMap L1) (a0:=(l1,B1)) (fi ?_ ?_) rfl (by show 2<=3;omega) ⟨kv,by simp⟩ ?_ ?_
 ·simp[dO,BG,ae,vi,vb]
 ·simp[dP,BG,ae]
 ·rintro i ⟨l2,B2⟩ hi ⟨ee,dh⟩
  simp only at ee dh;have c1:=(hS.gC lX hi (by omega)).1;have i1:aA zD .i64 (dU zE (Int.ofNat i) 1)=(i:Int)+1:=(hS.gC lX hi (by omega)).2.1;obtain⟨x,kY,gx,hr,eC⟩:=Xh (l:=l) (i:=i) (by omega);obtain⟨o0,o1,o2,o3,o4,o5,o6,o7⟩:=hp x kY;have hlen:((l.take i).flatMap L1).length<=100*16:=Nat.le_trans (Ih (k:=16) fun x _=>JC x) (Nat.mul_le_mul (by rw[List.length_take];omega) (by omega))
  have Bq:B2.length<=600001602:=by rw[dh,List.length_append];omega
  have d0:=xK x.a0 o0.1 o0.2 B2 (by omega);obtain⟨B3,kx⟩:∃Z,Z=B2++iD x.a0:=⟨_,rfl⟩;have b3:B3.length<=B2.length+2:=by have:=mR x.a0;rw[kx,List.length_append];omega
  rw[<-kx]at d0;have d1:=xK x.a1 o1.1 o1.2 B3 (by omega);obtain⟨B4,vk⟩:∃Z,Z=B3++iD x.a1:=⟨_,rfl⟩;have b4:B4.length<=B2.length+4:=by have:=mR x.a1;rw[vk,List.length_append];omega
  rw[<-vk]at d1;have d2:=xK x.a2 o2.1 o2.2 B4 (by omega);obtain⟨B5,vn⟩:∃Z,Z=B4++iD x.a2:=⟨_,rfl⟩;have b5:B5.length<=B2.length+6:=by have:=mR x.a2;rw[vn,List.length_append];omega
  rw[<-vn]at d2;have d3:=xK x.a3 o3.1 o3.2 B5 (by omega);obtain⟨B6,vq⟩:∃Z,Z=B5++iD x.a3:=⟨_,rfl⟩;have b6:B6.length<=B2.length+8:=by have:=mR x.a3;rw[vq,List.length_append];omega
  rw[<-vq]at d3;have d4:=xK x.a4 o4.1 o4.2 B6 (by omega);obtain⟨B7,vr⟩:∃Z,Z=B6++iD x.a4:=⟨_,rfl⟩;have b7:B7.length<=B2.length+10:=by have:=mR x.a4;rw[vr,List.length_append];omega
  rw[<-vr]at d4;have d5:=xK x.a5 o5.1 o5.2 B7 (by omega);obtain⟨B8,vw⟩:∃Z,Z=B7++iD x.a5:=⟨_,rfl⟩;have b8:B8.length<=B2.length+12:=by have:=mR x.a5;rw[vw,List.length_append];omega
  rw[<-vw]at d5;have d6:=xK x.a6 o6.1 o6.2 B8 (by omega);obtain⟨B9,yp⟩:∃Z,Z=B8++iD x.a6:=⟨_,rfl⟩;have b9:B9.length<=B2.length+14:=by have:=mR x.a6;rw[yp,List.length_append];omega
  rw[<-yp]at d6;have d7:=xK x.a7 o7.1 o7.2 B9 (by omega);obtain⟨xH,nT⟩:∃Z,Z=B9++iD x.a7:=⟨_,rfl⟩;have L0:xH.length<=B2.length+16:=by have:=mR x.a7;rw[nT,List.length_append];omega
  rw[<-nT]at d7;have hR:xH=B1++(l.take (i+1)).flatMap L1:=by
   rw[nT,yp,vw,vr,vq,vn,vk,kx,dh,eC,List.flatMap_append];simp[L1]
  obtain⟨TX,Ii⟩:∃x,x=xH.length:=⟨_,rfl⟩;have ua:TX=xH.length/\xH=B1++(l.take (i+1)).flatMap L1:=⟨Ii,hR⟩;have j2:aD X i=some (Zl x):=by rw[hS.nth,hX];exact hr
  have y2:ao l2 (ab B2)=true:=by rw[hS.neq,hS.len];exact decide_eq_true ee
  have y3:ao (ab B3) (ab B3)=true:=by rw[hS.neq];exact decide_eq_true rfl
  have y4:ao (ab B4) (ab B4)=true:=by rw[hS.neq];exact decide_eq_true rfl
  have y5:ao (ab B5) (ab B5)=true:=by rw[hS.neq];exact decide_eq_true rfl
  have y6:ao (ab B6) (ab B6)=true:=by rw[hS.neq];exact decide_eq_true rfl
  have y7:ao (ab B7) (ab B7)=true:=by rw[hS.neq];exact decide_eq_true rfl
  have y8:ao (ab B8) (ab B8)=true:=by rw[hS.neq];exact decide_eq_true rfl
  have y9:ao (ab B9) (ab B9)=true:=by rw[hS.neq];exact decide_eq_true rfl
  have zL:ab xH=TX:=by rw[hS.len,Ii]
  unfold Zl at j2;generalize x.a0=a0,x.a1=a1,x.a2=a2,x.a3=a3,x.a4=a4,x.a5=a5,x.a6=a6,x.a7=a7 at *;clear hR kx vk vn vq vr vw yp nT dh eC Ii b3 b4 b5 b6 b7 b8 b9 L0;cbv at i1;refine⟨?_⟩;cbv;refine bT c1 ?_;refine aU aj mixed hS (9) ?_;cbv;repeat (first|apply bT rfl|apply bF rfl|apply nd rfl|(simp only[j2];cbv)|refine nd y2 ?_|(refine⟨_,hS.call d0,?_⟩;cbv)|refine nd y3 ?_|(refine⟨_,hS.call d1,?_⟩;cbv)|refine nd y4 ?_|(refine⟨_,hS.call d2,?_⟩;cbv)|refine nd y5 ?_|(refine⟨_,hS.call d3,?_⟩;cbv)|refine nd y6 ?_|(refine⟨_,hS.call d4,?_⟩;cbv)|refine nd y7 ?_|(refine⟨_,hS.call d5,?_⟩;cbv)|refine nd y8 ?_|(refine⟨_,hS.call d6,?_⟩;cbv)|refine nd y9 ?_|(refine⟨_,hS.call d7,?_⟩;cbv)|(simp only[zL,i1];cbv))
  refine aQ [(2,17)] (TX,xH) ?_ ?_ ?_ ?_ rfl (by show 2<=3;omega) ua
  ·simp[aZ,BG,ae,vi,vb,AV.ay,AV.aI,Cell.ay,aq]
  ·simp[a8,BG,ae,Abs.look,aq,aC.ay,Cell.ay]
  ·simp[aF,BG,ae,aq]
  ·simp
 ·rintro⟨l2,B2⟩ ⟨ee,dh⟩
  simp only at ee dh;rw[List.take_of_length_le (by omega)]at dh;have u9:ao l2 (ab B2)=true:=by rw[hS.len,hS.neq,ee];exact decide_eq_true rfl
  rw[<-dh]at hF;refine⟨?_⟩;cbv;refine bF lE (nd u9 ?_);exact hF _ (ak.refl _)
open Go Go.Abs Go.Abs.M Go.Proofs
def TY (N:Int) (E D:List (List T2)):Abs.Rows:=iD N++xJ E++xJ D
theorem Qh {N:Int} {E D:List (List T2)} (hE:BL E) (hD:BL D):(TY N E D).length<=3256086:=by
 unfold TY;have:=mR N;have:=jj hE;have:=jj hD;simp only[List.length_append];omega
theorem Gl (N:Int) (h0:-8000<=N) (h1:N<=8000) (E D:List (List T2)) (hE:BL E) (hD:BL D) (B:Abs.Rows) (hB:B.length<=500000000) :
  ah Tryz.prog 22 [.own 1 B,.val (.agg [.v (.int .i64 N),.aa false (an E),.aa false (an D)])] ⟨[.own 1 (B++TY N E D)],[none,none]⟩:=by
 have c0:=xK N h0 h1 B (by omega);have m0:=mR N;obtain⟨B1,eW⟩:∃Z,Z=B++iD N:=⟨_,rfl⟩;rw[<-eW]at c0;have b1:B1.length<=500000002:=by rw[eW,List.length_append];omega
 have c1:=jq E hE.1 hE.2 B1 (by omega);have m1:=jj hE;obtain⟨B2,dh⟩:∃Z,Z=B1++xJ E:=⟨_,rfl⟩;rw[<-dh]at c1;have b2:B2.length<=502000002:=by rw[dh,List.length_append];omega
 have c2:=jq D hD.1 hD.2 B2 (by omega);rw[show B++TY N E D=B2++xJ D by rw[dh,eW];simp[TY]];generalize B2++xJ D=B3 at *;refine ar aj mixed [.own 1] Tryz.func22 rfl rfl (by kernel_rfl) ?_;intros;rename_i ao _ _ _ _ _ ab _ _ _ _ _ _ _ _ _ _ _ _ _ _ _ _ _ _ _ A L F hS hF;have y0:ao (ab B) (ab B)=true:=by rw[hS.neq];exact decide_eq_true rfl
 have y1:ao (ab B1) (ab B1)=true:=by rw[hS.neq];exact decide_eq_true rfl
 have y2:ao (ab B2) (ab B2)=true:=by rw[hS.neq];exact decide_eq_true rfl
 have y3:ao (ab B3) (ab B3)=true:=by rw[hS.neq];exact decide_eq_true rfl
 generalize an E=X,an D=Y at *;clear eW dh b1 b2 m0 m1;cbv;refine nd y0 ?_;refine⟨_,hS.call c0,?_⟩;cbv;refine nd y1 ?_;refine⟨_,hS.call c1,?_⟩;cbv;refine nd y2 ?_;refine⟨_,hS.call c2,?_⟩;cbv;exact nd y3 (hF _ (ak.refl _))
open Go Go.Abs Go.Abs.M Go.Proofs
structure Bx where
 u0:Rat
 v0:Rat
 u1:Rat
 v1:Rat
 u2:Rat
 v2:Rat
 u3:Rat
 v3:Rat
 u4:Rat
 v4:Rat
 u5:Rat
 v5:Rat
 u6:Rat
 v6:Rat
 u7:Rat
 v7:Rat
def Bx.ok (x:Bx):Prop:=Qs x.u0 100/\Qs x.v0 100/\Qs x.u1 100/\Qs x.v1 100/\Qs x.u2 100/\Qs x.v2 100/\Qs x.u3 100/\Qs x.v3 100/\Qs x.u4 100/\Qs x.v4 100/\Qs x.u5 100/\Qs x.v5 100/\Qs x.u6 100/\Qs x.v6 100/\Qs x.u7 100/\Qs x.v7 100
def BH (x:Bx):List Tree:=(qc x.u0).row++(qc x.v0).row++(qc x.u1).row++(qc x.v1).row++(qc x.u2).row++(qc x.v2).row++(qc x.u3).row++(qc x.v3).row++(qc x.u4).row++(qc x.v4).row++(qc x.u5).row++(qc x.v5).row++(qc x.u6).row++(qc x.v6).row++(qc x.u7).row++(qc x.v7).row
def oT (l:List Bx):Abs.Rows:=l.map BH
def NP (x:Bx):Abs.Rows:=qB x.u0++qB x.v0++qB x.u1++qB x.v1++qB x.u2++qB x.v2++qB x.u3++qB x.v3++qB x.u4++qB x.v4++qB x.u5++qB x.v5++qB x.u6++qB x.v6++qB x.u7++qB x.v7
def L3 (l:List Bx):Abs.Rows:=nB l.length++l.flatMap NP
theorem JD {x:Bx} (h:x.ok):(NP x).length<=12864:=by
 obtain⟨YV,Pb,Hl,EF,yP,I7,U9,hv3,hu4,hv4,hu5,hv5,hu6,hv6,hu7,hv7⟩:=h;unfold NP;have:=gU YV;have:=gU Pb;have:=gU Hl;have:=gU EF;have:=gU yP;have:=gU I7;have:=gU U9;have:=gU hv3;have:=gU hu4;have:=gU hv4;have:=gU hu5;have:=gU hv5;have:=gU hu6;have:=gU hv6;have:=gU hu7;have:=gU hv7;simp only[List.length_append];omega
theorem Qi {l:List Bx} {k:Nat} (hp:∀x∈l,x.ok) (h:l.length<=k):(L3 l).length<=2+k*12864:=by
 unfold L3;rw[List.length_append];have h1:=qM (l.length:Int);have h2:(l.flatMap NP).length<=k*12864:=Nat.le_trans (Ih (k:=12864) fun x hx=>JD (hp x hx)) (Nat.mul_le_mul h (by omega));omega
theorem DM (l:List Bx):(oT l).length=l.length:=by simp[oT]
theorem JE {l:List Bx} {i:Nat} (h:i<l.length):∃x,x∈l/\l[i]?=some x/\(oT l)[i]?=some (BH x)/\l.take (i+1)=l.take i ++ [x]:=by
 refine⟨l[i],List.getElem_mem h,List.getElem?_eq_getElem h,?_,?_⟩
 ·simp[oT,List.getElem?_eq_getElem h]
 ·rw[List.take_add_one,List.getElem?_eq_getElem h];rfl
def BI (X:Abs.Rows) (len:Nat) (B:Abs.Rows) (I:Int):St:=ae 40 [.c (.sl 2 0 len false),.c (.t (.aa false X)),.af,.af,.af,vi .i64 I] [none,none,some (.rows 1 B true false)]
theorem uU (l:List Bx) (hp:∀x∈l,x.ok) (hn:l.length<=100) (B:Abs.Rows) (hB:B.length<=600000000) :
  ah Tryz.prog 55 [.own 1 B,.val (tl (oT l))] ⟨[.own 1 (B++L3 l)],[none,none]⟩:=by
 have c0:=Bt (l.length:Int) (by omega) (by omega) B (by omega);obtain⟨X,hX⟩:∃X,X=oT l:=⟨_,rfl⟩;obtain⟨n,fD⟩:∃n,n=l.length:=⟨_,rfl⟩;have lX:X.length=n:=by rw[hX,DM,fD]
 obtain⟨N,hN⟩:∃N:Int,N=(l.length:Int):=⟨_,rfl⟩;have RG:=qM N;unfold L3;rw[<-hN]at c0 ⊢;obtain⟨B1,eW⟩:∃Z,Z=B++nB N:=⟨_,rfl⟩;rw[<-eW]at c0;rw[<-hX,show B++(nB N++l.flatMap NP)=B1++l.flatMap NP by rw[eW,List.append_assoc]];have Em:B1.length<=600000002:=by rw[eW,List.length_append];omega
 obtain⟨l1,kv⟩:∃l1,l1=B1.length:=⟨_,rfl⟩;refine dC aj mixed [.own 1] Tryz.func55 rfl rfl (by kernel_rfl) fun zD zE _ _ _ _ _ _ _ _ _ _ _ _ _ _ _ _ _ _ _ _ _ zz _ ao _ _ _ _ _ ab aD _ _ _ _ _ _ _ _ _ _ _ _ _ _ _ _ _ _ A L F hS hF=>?_
 have hz:ao (ab B) (ab B)=true:=by rw[hS.neq];exact decide_eq_true rfl
 have uZ:ab B1=l1:=by rw[hS.len,kv]
 have ec:aA zD .u64 (zz (ab X))=N:=by rw[hS.aB,hS.len,lX,hS.wrap,eG (by omega) (by omega),hN,fD]
 have lE:=hS.eU lX;cbv at ec;cbv;refine nd hz ?_;simp only[ec];refine⟨_,hS.call c0,?_⟩;cbv;simp only[uZ];refine fA aj mixed hS (n:=n) (fun i (z:Nat×Abs.Rows)=>BI X z.1 z.2 (Int.ofNat i)) (fun i z=>z.1=z.2.length/\z.2=B1++(l.take i).flatMap NP) (a0:=(l1,B1)) (fi ?_ ?_) rfl (by show 2<=3;omega) ⟨kv,by simp⟩ ?_ ?_
 ·simp[dO,BI,ae,vi,vb]
 ·simp[dP,BI,ae]
 ·rintro i ⟨l2,B2⟩ hi ⟨ee,dh⟩
  simp only at ee dh;have c1:=(hS.gC lX hi (by omega)).1;have i1:aA zD .i64 (dU zE (Int.ofNat i) 1)=(i:Int)+1:=(hS.gC lX hi (by omega)).2.1;obtain⟨x,kY,gx,hr,eC⟩:=JE (l:=l) (i:=i) (by omega);obtain⟨NQ,NR,NS,NT,ou2,ov2,ou3,ov3,ou4,ov4,ou5,ov5,ou6,ov6,ou7,ov7⟩:=hp x kY;have hlen:((l.take i).flatMap NP).length<=100*12864:=Nat.le_trans (Ih (k:=12864) fun x hx=>JD (hp x (List.mem_of_mem_take hx))) (Nat.mul_le_mul (by rw[List.length_take];omega) (by omega))
  have Bq:B2.length<=601286402:=by rw[dh,List.length_append];omega
  have d0:=si x.u0 (NQ.mono (by omega)) B2 (by omega);obtain⟨B3,kx⟩:∃Z,Z=B2++qB x.u0:=⟨_,rfl⟩;have b3:B3.length<=B2.length+804:=by have:=gU NQ;rw[kx,List.length_append];omega
  rw[<-kx]at d0;have d1:=si x.v0 (NR.mono (by omega)) B3 (by omega);obtain⟨B4,vk⟩:∃Z,Z=B3++qB x.v0:=⟨_,rfl⟩;have b4:B4.length<=B2.length+1608:=by have:=gU NR;rw[vk,List.length_append];omega
  rw[<-vk]at d1;have d2:=si x.u1 (NS.mono (by omega)) B4 (by omega);obtain⟨B5,vn⟩:∃Z,Z=B4++qB x.u1:=⟨_,rfl⟩;have b5:B5.length<=B2.length+2412:=by have:=gU NS;rw[vn,List.length_append];omega
  rw[<-vn]at d2;have d3:=si x.v1 (NT.mono (by omega)) B5 (by omega);obtain⟨B6,vq⟩:∃Z,Z=B5++qB x.v1:=⟨_,rfl⟩;have b6:B6.length<=B2.length+3216:=by have:=gU NT;rw[vq,List.length_append];omega
  rw[<-vq]at d3;have d4:=si x.u2 (ou2.mono (by omega)) B6 (by omega);obtain⟨B7,vr⟩:∃Z,Z=B6++qB x.u2:=⟨_,rfl⟩;have b7:B7.length<=B2.length+4020:=by have:=gU ou2;rw[vr,List.length_append];omega
  rw[<-vr]at d4;have d5:=si x.v2 (ov2.mono (by omega)) B7 (by omega);obtain⟨B8,vw⟩:∃Z,Z=B7++qB x.v2:=⟨_,rfl⟩;have b8:B8.length<=B2.length+4824:=by have:=gU ov2;rw[vw,List.length_append];omega
  rw[<-vw]at d5;have d6:=si x.u3 (ou3.mono (by omega)) B8 (by omega);obtain⟨B9,yp⟩:∃Z,Z=B8++qB x.u3:=⟨_,rfl⟩;have b9:B9.length<=B2.length+5628:=by have:=gU ou3;rw[yp,List.length_append];omega
  rw[<-yp]at d6;have d7:=si x.v3 (ov3.mono (by omega)) B9 (by omega);obtain⟨xH,nT⟩:∃Z,Z=B9++qB x.v3:=⟨_,rfl⟩;have L0:xH.length<=B2.length+6432:=by have:=gU ov3;rw[nT,List.length_append];omega
  rw[<-nT]at d7;have d8:=si x.u4 (ou4.mono (by omega)) xH (by omega);obtain⟨Gj,vy⟩:∃Z,Z=xH++qB x.u4:=⟨_,rfl⟩;have Ie:Gj.length<=B2.length+7236:=by have:=gU ou4;rw[vy,List.length_append];omega
  rw[<-vy]at d8;have d9:=si x.v4 (ov4.mono (by omega)) Gj (by omega);obtain⟨Qj,Ij⟩:∃Z,Z=Gj++qB x.v4:=⟨_,rfl⟩;have Qk:Qj.length<=B2.length+8040:=by have:=gU ov4;rw[Ij,List.length_append];omega
  rw[<-Ij]at d9;have d10:=si x.u5 (ou5.mono (by omega)) Qj (by omega);obtain⟨Ql,Ik⟩:∃Z,Z=Qj++qB x.u5:=⟨_,rfl⟩;have Zm:Ql.length<=B2.length+8844:=by have:=gU ou5;rw[Ik,List.length_append];omega
  rw[<-Ik]at d10;have d11:=si x.v5 (ov5.mono (by omega)) Ql (by omega);obtain⟨Qm,Il⟩:∃Z,Z=Ql++qB x.v5:=⟨_,rfl⟩;have Zn:Qm.length<=B2.length+9648:=by have:=gU ov5;rw[Il,List.length_append];omega
  rw[<-Il]at d11;have d12:=si x.u6 (ou6.mono (by omega)) Qm (by omega);obtain⟨Qn,Im⟩:∃Z,Z=Qm++qB x.u6:=⟨_,rfl⟩;have Zo:Qn.length<=B2.length+10452:=by have:=gU ou6;rw[Im,List.length_append];omega
  rw[<-Im]at d12;have d13:=si x.v6 (ov6.mono (by omega)) Qn (by omega);obtain⟨Qo,Io⟩:∃Z,Z=Qn++qB x.v6:=⟨_,rfl⟩;have Zp:Qo.length<=B2.length+11256:=by have:=gU ov6;rw[Io,List.length_append];omega
  rw[<-Io]at d13;have d14:=si x.u7 (ou7.mono (by omega)) Qo (by omega);obtain⟨Qp,Ip⟩:∃Z,Z=Qo++qB x.u7:=⟨_,rfl⟩;have Zq:Qp.length<=B2.length+12060:=by have:=gU ou7;rw[Ip,List.length_append];omega
  rw[<-Ip]at d14;have d15:=si x.v7 (ov7.mono (by omega)) Qp (by omega);obtain⟨NU,Iq⟩:∃Z,Z=Qp++qB x.v7:=⟨_,rfl⟩;have Zr:NU.length<=B2.length+12864:=by have:=gU ov7;rw[Iq,List.length_append];omega
  rw[<-Iq]at d15;have hR:NU=B1++(l.take (i+1)).flatMap NP:=by
   rw[Iq,Ip,Io,Im,Il,Ik,Ij,vy,nT,yp,vw,vr,vq,vn,vk,kx,dh,eC,List.flatMap_append];simp[NP]
  obtain⟨TX,Ii⟩:∃x,x=NU.length:=⟨_,rfl⟩;have ua:TX=NU.length/\NU=B1++(l.take (i+1)).flatMap NP:=⟨Ii,hR⟩;have j2:aD X i=some (BH x):=by rw[hS.nth,hX];exact hr
  have y2:ao l2 (ab B2)=true:=by rw[hS.neq,hS.len];exact decide_eq_true ee
  have y3:ao (ab B3) (ab B3)=true:=by rw[hS.neq];exact decide_eq_true rfl
  have y4:ao (ab B4) (ab B4)=true:=by rw[hS.neq];exact decide_eq_true rfl
  have y5:ao (ab B5) (ab B5)=true:=by rw[hS.neq];exact decide_eq_true rfl
  have y6:ao (ab B6) (ab B6)=true:=by rw[hS.neq];exact decide_eq_true rfl
  have y7:ao (ab B7) (ab B7)=true:=by rw[hS.neq];exact decide_eq_true rfl
  have y8:ao (ab B8) (ab B8)=true:=by rw[hS.neq];exact decide_eq_true rfl
  have y9:ao (ab B9) (ab B9)=true:=by rw[hS.neq];exact decide_eq_true rfl
  have WI:ao (ab xH) (ab xH)=true:=by rw[hS.neq];exact decide_eq_true rfl
  have y11:ao (ab Gj) (ab Gj)=true:=by rw[hS.neq];exact decide_eq_true rfl
  have y12:ao (ab Qj) (ab Qj)=true:=by rw[hS.neq];exact decide_eq_true rfl
  have YW:ao (ab Ql) (ab Ql)=true:=by rw[hS.neq];exact decide_eq_true rfl
  have YX:ao (ab Qm) (ab Qm)=true:=by rw[hS.neq];exact decide_eq_true rfl
  have YY:ao (ab Qn) (ab Qn)=true:=by rw[hS.neq];exact decide_eq_true rfl
  have YZ:ao (ab Qo) (ab Qo)=true:=by rw[hS.neq];exact decide_eq_true rfl
  have y17:ao (ab Qp) (ab Qp)=true:=by rw[hS.neq];exact decide_eq_true rfl
  have zL:ab NU=TX:=by rw[hS.len,Ii]
  clear hR dh eC Ii hr kx vk vn vq vr vw yp nT vy Ij Ik Il Im Io Ip Iq b3 b4 b5 b6 b7 b8 b9 L0 Ie Qk Zm Zn Zo Zp Zq Zr;unfold BH at j2;obtain⟨s0,t0,r0,q0,w0,_⟩:=bD x.u0;rw[w0]at d0 j2;clear w0;obtain⟨s1,t1,r1,q1,w1,_⟩:=bD x.v0;rw[w1]at d1 j2;clear w1;obtain⟨s2,t2,r2,q2,w2,_⟩:=bD x.u1;rw[w2]at d2 j2;clear w2;obtain⟨s3,t3,r3,q3,w3,_⟩:=bD x.v1
  rw[w3]at d3 j2;clear w3;obtain⟨s4,t4,r4,q4,w4,_⟩:=bD x.u2;rw[w4]at d4 j2;clear w4;obtain⟨s5,t5,r5,q5,w5,_⟩:=bD x.v2;rw[w5]at d5 j2;clear w5;obtain⟨s6,t6,r6,q6,w6,_⟩:=bD x.u3;rw[w6]at d6 j2;clear w6;obtain⟨s7,t7,r7,q7,w7,_⟩:=bD x.v3;rw[w7]at d7 j2;clear w7;obtain⟨s8,t8,r8,q8,w8,_⟩:=bD x.u4;rw[w8]at d8 j2;clear w8;obtain⟨s9,t9,r9,q9,w9,_⟩:=bD x.v4;rw[w9]at d9 j2;clear w9
  obtain⟨s10,t10,TR,q10,w10,_⟩:=bD x.u5;rw[w10]at d10 j2;clear w10;obtain⟨s11,t11,W4,q11,w11,_⟩:=bD x.v5;rw[w11]at d11 j2;clear w11;obtain⟨s12,t12,W5,q12,w12,_⟩:=bD x.u6;rw[w12]at d12 j2;clear w12;obtain⟨s13,t13,W6,q13,w13,_⟩:=bD x.v6;rw[w13]at d13 j2;clear w13;obtain⟨s14,t14,W7,q14,w14,_⟩:=bD x.u7;rw[w14]at d14 j2;clear w14;obtain⟨s15,t15,W8,q15,w15,_⟩:=bD x.v7;rw[w15]at d15 j2
  clear w15;cbv at j2;cbv at i1;refine⟨?_⟩;cbv;refine bT c1 ?_;refine aU aj mixed hS (9) ?_;cbv;repeat (first|apply bT rfl|apply bF rfl|apply nd rfl|(simp only[j2];cbv)|refine nd y2 ?_|(refine⟨_,hS.call d0,?_⟩;cbv)|refine nd y3 ?_|(refine⟨_,hS.call d1,?_⟩;cbv)|refine nd y4 ?_|(refine⟨_,hS.call d2,?_⟩;cbv)|refine nd y5 ?_|(refine⟨_,hS.call d3,?_⟩;cbv)|refine nd y6 ?_|(refine⟨_,hS.call d4,?_⟩;cbv)|refine nd y7 ?_|(refine⟨_,hS.call d5,?_⟩;cbv)|refine nd y8 ?_|(refine⟨_,hS.call d6,?_⟩;cbv)|refine nd y9 ?_|(refine⟨_,hS.call d7,?_⟩;cbv)|refine nd WI ?_|(refine⟨_,hS.call d8,?_⟩;cbv)|refine nd y11 ?_|(refine⟨_,hS.call d9,?_⟩;cbv)|refine nd y12 ?_|(refine⟨_,hS.call d10,?_⟩;cbv)|refine nd YW ?_|(refine⟨_,hS.call d11,?_⟩;cbv)|refine nd YX ?_|(refine⟨_,hS.call d12,?_⟩;cbv)|refine nd YY ?_|(refine⟨_,hS.call d13,?_⟩;cbv)|refine nd YZ ?_|(refine⟨_,hS.call d14,?_⟩;cbv)|refine nd y17 ?_|(refine⟨_,hS.call d15,?_⟩;cbv)|(simp only[zL,i1];cbv))
  refine aQ [(2,33)] (TX,NU) ?_ ?_ ?_ ?_ rfl (by show 2<=3;omega) ua
  ·simp[aZ,BI,ae,vi,vb,AV.ay,AV.aI,Cell.ay,aq]
  ·simp[a8,BI,ae,Abs.look,aq,aC.ay,Cell.ay]
  ·simp[aF,BI,ae,aq]
  ·simp
 ·rintro⟨l2,B2⟩ ⟨ee,dh⟩
  simp only at ee dh;rw[List.take_of_length_le (by omega)]at dh;have u9:ao l2 (ab B2)=true:=by rw[hS.len,hS.neq,ee];exact decide_eq_true rfl
  rw[<-dh]at hF;refine⟨?_⟩;cbv;refine bF lE (nd u9 ?_);exact hF _ (ak.refl _)
open Go Go.Abs Go.Abs.M Go.Proofs
def DN (l:List Int):Abs.Rows:=W .i64 l
theorem DO (l:List Int):(DN l).length=l.length:=by unfold DN W;exact List.length_map ..
theorem RK {l:List Int} {i:Nat} (h:i<l.length):∃x,x∈l/\l[i]?=some x/\l.getD i 0=x/\l.take (i+1)=l.take i ++ [x]:=
 ⟨l[i],List.getElem_mem h,List.getElem?_eq_getElem h,by rw[List.getD_eq_getElem?_getD,List.getElem?_eq_getElem h];rfl,by rw[List.take_add_one,List.getElem?_eq_getElem h];rfl⟩
structure Cl where
 k:Int
 P:List T2
 cn:Int
 cd:Int
 cr:Int
 O:List R8
 L:List (List T2)
 S:List Int
 B:List Bx
def Eo (n:Int):Prop:=-8000<=n/\n<=8000
structure Cl.ok (c:Cl):Prop where
 k:Eo c.k
 P:BP c.P
 cn:Eo c.cn
 cd:Eo c.cd
 cr:Eo c.cr
 O:(∀x∈c.O,x.ok)/\c.O.length<=100
 L:BL c.L
 S:(∀x∈c.S,Eo x)/\c.S.length<=100
 B:(∀x∈c.B,x.ok)/\c.B.length<=100
def Cl.tree (c:Cl):List Tree:=[.v (.int .i64 c.k),.aa false (aV c.P),.v (.int .i64 c.cn),.v (.int .i64 c.cd),.v (.int .i64 c.cr),.aa false (gD c.O),.aa false (an c.L),.aa false (DN c.S),.aa false (oT c.B)]
def RL (c:Cl):Abs.Rows:=iD c.k++Gh c.P++iD c.cn++iD c.cd++iD c.cr++RJ c.O++xJ c.L++nB c.S.length++c.S.flatMap iD++L3 c.B
theorem DP {l:List Int} {k:Nat} (h:l.length<=k):(l.flatMap iD).length<=k*2:=Nat.le_trans (Ih (k:=2) fun x _=>mR x) (Nat.mul_le_mul h (by omega))
theorem Qq {c:Cl} (h:c.ok):(RL c).length<=3000000:=by
 unfold RL;have:=mR c.k;have:=oH h.P;have:=mR c.cn;have:=mR c.cd;have:=mR c.cr;have:=DK h.O.2;have:=jj h.L;have:=qM (c.S.length:Int);have:=DP h.S.2;have:=Qi h.B.1 h.B.2;simp only[List.length_append];omega
def BJ (k cn cd cr:Int) (X1 X2 X3 X4 X5:Abs.Rows) (len:Nat) (B:Abs.Rows) (I:Int):St:=ae 53 [.c (.sl 17 0 len false),.af,.af,.c (.ptr 2 0 0),.af,vi .i64 I] [none,none,some (.var [.t (.v (.int .i64 k)),.t (.aa false X1),.t (.v (.int .i64 cn)),.t (.v (.int .i64 cd)),.t (.v (.int .i64 cr)),.t (.aa false X2),.t (.aa false X3),.t (.aa false X4),.t (.aa false X5)]),none,none,none,none,none,none,none,none,none,none,none,none,none,none,some (.rows 1 B true false)]
theorem kP {f:FuncId} {a:Arg} {B x:Abs.Rows} {k d:Nat} (hx:x.length<=d) (hB:B.length<=k) (c:ah Tryz.prog f [.own 1 B,a] ⟨[.own 1 (B++x)],[none,none]⟩) :
  ∃Z,Z=B++x/\Z.length<=k+d/\ah Tryz.prog f [.own 1 B,a] ⟨[.own 1 Z],[none,none]⟩:=⟨_,rfl,by rw[List.length_append];omega,c⟩
theorem Gm (c:Cl) (hc:c.ok) (B:Abs.Rows) (hB:B.length<=450000000) :
  ah Tryz.prog 23 [.own 1 B,.val (.agg c.tree)] ⟨[.own 1 (B++RL c)],[none,none]⟩:=by
 obtain⟨k,P,cn,cd,cr,O,Lc,Sg,Z⟩:=c;obtain⟨hk,hP,hcn,Xi,hcr,hO,Xj,TZ,hZ⟩:=hc;simp only at hk hP hcn Xi hcr hO Xj TZ hZ;obtain⟨B1,eW,b1,c0⟩:=kP (mR k) hB (xK k hk.1 hk.2 B (by omega));obtain⟨B2,dh,b2,c1⟩:=kP (oH hP) b1 (nS P hP.1 hP.2 B1 (by omega));obtain⟨B3,kx,b3,c2⟩:=kP (mR cn) b2 (xK cn hcn.1 hcn.2 B2 (by omega));obtain⟨B4,vk,b4,c3⟩:=kP (mR cd) b3 (xK cd Xi.1 Xi.2 B3 (by omega))
 obtain⟨B5,vn,b5,c4⟩:=kP (mR cr) b4 (xK cr hcr.1 hcr.2 B4 (by omega));obtain⟨B6,vq,b6,c5⟩:=kP (DK hO.2) b5 (uT O hO.1 hO.2 B5 (by omega));obtain⟨B7,vr,b7,c6⟩:=kP (jj Xj) b6 (jq Lc Xj.1 Xj.2 B6 (by omega));obtain⟨B8,vw,b8,c7⟩:=kP (qM (Sg.length:Int)) b7 (Bt (Sg.length:Int) (by have:=TZ.2;omega) (by have:=TZ.2;omega) B7 (by omega));rw[show B++RL ⟨k,P,cn,cd,cr,O,Lc,Sg,Z⟩=(B8++Sg.flatMap iD)++L3 Z by rw[vw,vr,vq,vn,vk,kx,dh,eW];simp[RL]]
 rw[show Cl.tree ⟨k,P,cn,cd,cr,O,Lc,Sg,Z⟩=[.v (.int .i64 k),.aa false (aV P),.v (.int .i64 cn),.v (.int .i64 cd),.v (.int .i64 cr),.aa false (gD O),.aa false (an Lc),.aa false (DN Sg),.aa false (oT Z)] from rfl];obtain⟨X,hX⟩:∃X,X=DN Sg:=⟨_,rfl⟩;obtain⟨n,fD⟩:∃n,n=Sg.length:=⟨_,rfl⟩;have hn:n<=100:=by rw[fD];exact TZ.2
 have lX:X.length=n:=by rw[hX,DO,fD]
 obtain⟨N,hN⟩:∃N:Int,N=(Sg.length:Int):=⟨_,rfl⟩;rw[<-hX];rw[<-hN]at c7;have hSf:(Sg.flatMap iD).length<=200:=DP TZ.2;have c8:=fun hb=>uU Z hZ.1 hZ.2 (B8++Sg.flatMap iD) hb
 have c8:=c8 (by rw[List.length_append];omega);obtain⟨l1,kv⟩:∃l1,l1=B8.length:=⟨_,rfl⟩;generalize aV P=X1,gD O=X2,an Lc=X3,oT Z=X5 at *;generalize ahq:B8++Sg.flatMap iD++L3 Z=BE at *;refine dC aj mixed [.own 1] Tryz.func23 rfl rfl (by kernel_rfl) fun zD zE _ _ _ _ _ _ _ _ _ _ _ _ _ _ _ _ _ _ _ _ _ zz _ ao _ _ _ _ _ ab _ _ aL aw _ _ _ _ _ _ _ _ _ _ _ _ _ _ _ A L F hS hF=>?_
 have yB:ao (ab B) (ab B)=true:=by rw[hS.neq];exact decide_eq_true rfl
 have yB1:ao (ab B1) (ab B1)=true:=by rw[hS.neq];exact decide_eq_true rfl
 have yB2:ao (ab B2) (ab B2)=true:=by rw[hS.neq];exact decide_eq_true rfl
 have yB3:ao (ab B3) (ab B3)=true:=by rw[hS.neq];exact decide_eq_true rfl
 have yB4:ao (ab B4) (ab B4)=true:=by rw[hS.neq];exact decide_eq_true rfl
 have yB5:ao (ab B5) (ab B5)=true:=by rw[hS.neq];exact decide_eq_true rfl
 have yB6:ao (ab B6) (ab B6)=true:=by rw[hS.neq];exact decide_eq_true rfl
 have yB7:ao (ab B7) (ab B7)=true:=by rw[hS.neq];exact decide_eq_true rfl
 have uZ:ab B8=l1:=by rw[hS.len,kv]
 have hzE:ao (ab BE) (ab BE)=true:=by rw[hS.neq];exact decide_eq_true rfl
 have ec:aA zD .u64 (zz (ab X))=N:=by rw[hS.aB,hS.len,lX,hS.wrap,eG (by omega) (by omega),hN,fD]
 have lE:=hS.eU lX;cbv at ec;clear eW dh kx vk vn vq vr b1 b2 b3 b4 b5 b6 b7 vw;cbv;refine nd yB ?_;refine⟨_,hS.call c0,?_⟩;cbv;refine nd yB1 ?_;refine⟨_,hS.call c1,?_⟩;cbv;refine nd yB2 ?_;refine⟨_,hS.call c2,?_⟩;cbv;refine nd yB3 ?_;refine⟨_,hS.call c3,?_⟩;cbv;refine nd yB4 ?_;refine⟨_,hS.call c4,?_⟩;cbv;refine nd yB5 ?_;refine⟨_,hS.call c5,?_⟩;cbv;refine nd yB6 ?_
 refine⟨_,hS.call c6,?_⟩;cbv;refine nd yB7 ?_;simp only[ec];refine⟨_,hS.call c7,?_⟩;cbv;simp only[uZ];refine fA aj mixed hS (n:=n) (fun i (z:Nat×Abs.Rows)=>BJ k cn cd cr X1 X2 X3 X X5 z.1 z.2 (Int.ofNat i)) (fun i z=>z.1=z.2.length/\z.2=B8++(Sg.take i).flatMap iD) (a0:=(l1,B8)) (fi ?_ ?_) rfl (by show 2<=18;omega) ⟨kv,by simp⟩ ?_ ?_
 ·simp[dO,BJ,ae,vi,vb]
 ·simp[dP,BJ,ae]
 ·rintro i ⟨l2,D2⟩ hi ⟨ee,ly⟩
  simp only at ee ly;have e1:=(hS.gC lX hi (by omega)).1;have i1:aA zD .i64 (dU zE (Int.ofNat i) 1)=(i:Int)+1:=(hS.gC lX hi (by omega)).2.1;obtain⟨x,kY,_,hr,eC⟩:=RK (l:=Sg) (i:=i) (by omega);have hlen:((Sg.take i).flatMap iD).length<=200:=DP (k:=100) (by rw[List.length_take];omega);have cq:=xK x (TZ.1 x kY).1 (TZ.1 x kY).2 D2 (by rw[ly,List.length_append];omega);obtain⟨D3,Ep⟩:∃Z,Z=D2++iD x:=⟨_,rfl⟩
  rw[<-Ep]at cq;obtain⟨l3,qL⟩:∃y,y=D3.length:=⟨_,rfl⟩;have ua:l3=D3.length/\D3=B8++(Sg.take (i+1)).flatMap iD:=⟨qL,by rw[eC,Ep,ly,List.flatMap_append];simp⟩;have j2:aw X i=x:=by rw[hS.dF,hX];unfold DN;rw[mP];exact hr
  have j3:aL .i64 X i=true:=by rw[hS.gE,hX];unfold DN;rw[kM];exact decide_eq_true (by omega)
  have y2:ao l2 (ab D2)=true:=by rw[hS.neq,hS.len];exact decide_eq_true ee
  have zL:ab D3=l3:=by rw[hS.len,qL]
  clear Ep ly eC qL hr;cbv at i1;refine⟨?_⟩;cbv;refine bT e1 ?_;simp only[j2];cbv;repeat (first|apply bT rfl|apply bF rfl|apply nd rfl)
  refine nd j3 (nd y2 ?_);refine⟨_,hS.call cq,?_⟩;cbv;simp only[zL,i1];refine aQ [(2,2),(17,18)] (l3,D3) ?_ ?_ ?_ ?_ rfl (by show 2<=18;omega) ua
  ·simp[aZ,BJ,ae,vi,vb,AV.ay,AV.aI,Cell.ay,aq]
  ·simp[a8,BJ,ae,Abs.look,aq,aC.ay,Cell.ay]
  ·simp[aF,BJ,ae,aq]
  ·simp
 ·rintro⟨l2,D2⟩ ⟨ee,ly⟩
  simp only at ee ly;rw[List.take_of_length_le (by omega)]at ly;have y2:ao l2 (ab D2)=true:=by rw[hS.neq,hS.len];exact decide_eq_true ee
  rw[<-ly]at c8;refine⟨?_⟩;cbv;refine bF lE (nd y2 ?_);refine⟨_,hS.call c8,?_⟩;cbv;exact nd hzE (hF _ (ak.refl _))
open Go Go.Abs Go.Abs.M Go.Proofs
def Gn (l:List (Rat×Rat)):Abs.Rows:=l.map fun x=>(qc x.1).row++(qc x.2).row
def Gp (l:List (Rat×List T2)):Abs.Rows:=l.map fun x=>(qc x.1).row ++ [.aa false (aV x.2)]
structure Q8 where
 a0:Rat
 a1:Rat
 a2:Rat
 a3:Rat
 a4:Rat
 a5:Rat
 a6:Rat
 a7:Rat
def Q8.ok (x:Q8):Prop:=Qs x.a0 100/\Qs x.a1 100/\Qs x.a2 100/\Qs x.a3 100/\Qs x.a4 100/\Qs x.a5 100/\Qs x.a6 100/\Qs x.a7 100
def OP (x:Q8):List Tree:=(qc x.a0).row++(qc x.a1).row++(qc x.a2).row++(qc x.a3).row++(qc x.a4).row++(qc x.a5).row++(qc x.a6).row++(qc x.a7).row
def Er (l:List Q8):Abs.Rows:=l.map OP
def yY (x:Rat×Rat):Abs.Rows:=qB x.1++qB x.2
def yZ (x:Rat×List T2):Abs.Rows:=qB x.1++Gh x.2
def NV (x:Q8):Abs.Rows:=qB x.a0++qB x.a1++qB x.a2++qB x.a3++qB x.a4++qB x.a5++qB x.a6++qB x.a7
theorem JF (l:List (Rat×Rat)):(Gn l).length=l.length:=by simp[Gn]
theorem JG (l:List (Rat×List T2)):(Gp l).length=l.length:=by simp[Gp]
theorem JH (l:List Q8):(Er l).length=l.length:=by simp[Er]
theorem RM {l:List (Rat×Rat)} {i:Nat} (h:i<l.length):∃x,x∈l/\(Gn l)[i]?=some ((qc x.1).row++(qc x.2).row)/\l.take (i+1)=l.take i ++ [x]:=
 ⟨l[i],List.getElem_mem h,by simp[Gn,List.getElem?_eq_getElem h],by rw[List.take_add_one,List.getElem?_eq_getElem h];rfl⟩
theorem RO {l:List (Rat×List T2)} {i:Nat} (h:i<l.length):∃x,x∈l/\(Gp l)[i]?=some ((qc x.1).row ++ [.aa false (aV x.2)])/\l.take (i+1)=l.take i ++ [x]:=
 ⟨l[i],List.getElem_mem h,by simp[Gp,List.getElem?_eq_getElem h],by rw[List.take_add_one,List.getElem?_eq_getElem h];rfl⟩
theorem JI {l:List Q8} {i:Nat} (h:i<l.length):∃x,x∈l/\(Er l)[i]?=some (OP x)/\l.take (i+1)=l.take i ++ [x]:=
 ⟨l[i],List.getElem_mem h,by simp[Er,List.getElem?_eq_getElem h],by rw[List.take_add_one,List.getElem?_eq_getElem h];rfl⟩
def BU (l:List Rat):Prop:=(∀x∈l,Qs x 100)/\l.length<=100
theorem ml {l:List Rat} (h:BU l):(uB l).length<=80402:=by
 unfold uB;rw[List.length_append];have h1:=qM (l.length:Int);have h2:(l.flatMap qB).length<=100*804:=Nat.le_trans (Ih (k:=804) fun x hx=>gU (h.1 x hx)) (Nat.mul_le_mul h.2 (by omega));omega
def BT (l:List (List (List T2))):Prop:=(∀p∈l,BL p)/\l.length<=10
theorem DQ {l:List (List (List T2))} (h:BT l):(NL l).length<=16280422:=by
 unfold NL;rw[List.length_append];have h1:=qM (l.length:Int);have h2:(l.flatMap xJ).length<=10*1628042:=Nat.le_trans (Ih (k:=1628042) fun x hx=>jj (h.1 x hx)) (Nat.mul_le_mul h.2 (by omega));omega
structure Ce where
 N:Int
 kZ:List (List T2)
 G:List (List T2)
 O:List R8
 C:List (List (List T2))
 Q:List (List (List T2))
 Sx:List (List (List T2))
 R:R8
 U:List Rat
 U0:List Rat
 U1:List Rat
 U2:List Rat
 U3:List Rat
 U4:List Rat
 U5:List Rat
 U6:List Rat
 U7:List Rat
 At:List (Rat×Rat)
 Sq:List (Rat×List T2)
 X:List Q8
 B:List Bx
structure Ce.ok (e:Ce):Prop where
 N:Eo e.N
 kZ:BL e.kZ
 G:BL e.G
 O:(∀x∈e.O,x.ok)/\e.O.length<=100
 C:BT e.C
 Q:BT e.Q
 Sx:BT e.Sx
 R:e.R.ok
 U:BU e.U
 U0:BU e.U0
 U1:BU e.U1
 U2:BU e.U2
 U3:BU e.U3
 U4:BU e.U4
 U5:BU e.U5
 U6:BU e.U6
 U7:BU e.U7
 At:(∀x∈e.At,Qs x.1 100/\Qs x.2 100)/\e.At.length<=100
 Sq:(∀x∈e.Sq,Qs x.1 100/\BP x.2)/\e.Sq.length<=100
 X:(∀x∈e.X,x.ok)/\e.X.length<=100
 B:(∀x∈e.B,x.ok)/\e.B.length<=100
def Ce.tree (e:Ce):List Tree:=[.v (.int .i64 e.N),.aa false (an e.kZ),.aa false (an e.G),.aa false (gD e.O),.aa false (di e.C),.aa false (di e.Q),.aa false (di e.Sx),.v (.int .i64 e.R.a0),.v (.int .i64 e.R.a1),.v (.int .i64 e.R.a2),.v (.int .i64 e.R.a3),.v (.int .i64 e.R.a4),.v (.int .i64 e.R.a5),.v (.int .i64 e.R.a6),.v (.int .i64 e.R.a7),.aa false (ur e.U),.aa false (ur e.U0),.aa false (ur e.U1),.aa false (ur e.U2),.aa false (ur e.U3),.aa false (ur e.U4),.aa false (ur e.U5),.aa false (ur e.U6),.aa false (ur e.U7),.aa false (Gn e.At),.aa false (Gp e.Sq),.aa false (Er e.X),.aa false (oT e.B)]
def Va (e:Ce):Abs.Rows:=iD e.N++xJ e.kZ++xJ e.G++RJ e.O++NL e.C++NL e.Q++NL e.Sx++iD e.R.a0++iD e.R.a1++iD e.R.a2++iD e.R.a3++iD e.R.a4++iD e.R.a5++iD e.R.a6++iD e.R.a7++uB e.U++uB e.U0++uB e.U1++uB e.U2++uB e.U3++uB e.U4++uB e.U5++uB e.U6++uB e.U7++nB e.At.length++e.At.flatMap yY++nB e.Sq.length++e.Sq.flatMap yZ++nB e.X.length++e.X.flatMap NV++L3 e.B
theorem Gq {l:List (Rat×Rat)} (h:(∀x∈l,Qs x.1 100/\Qs x.2 100)/\l.length<=100):(l.flatMap yY).length<=160800:=by
 refine Nat.le_trans (Ih (k:=1608) fun x hx=>?_) (Nat.mul_le_mul h.2 (Nat.le_refl _));have h1:=gU (h.1 x hx).1;have h2:=gU (h.1 x hx).2;unfold yY;rw[List.length_append];omega
theorem Gr {l:List (Rat×List T2)} (h:(∀x∈l,Qs x.1 100/\BP x.2)/\l.length<=100):(l.flatMap yZ).length<=8220600:=by
 refine Nat.le_trans (Ih (k:=82206) fun x hx=>?_) (Nat.mul_le_mul h.2 (Nat.le_refl _));have h1:=gU (h.1 x hx).1;have h2:=oH (h.1 x hx).2;unfold yZ;rw[List.length_append];omega
theorem JJ {l:List Q8} (h:(∀x∈l,x.ok)/\l.length<=100):(l.flatMap NV).length<=643200:=by
 refine Nat.le_trans (Ih (k:=6432) fun x hx=>?_) (Nat.mul_le_mul h.2 (Nat.le_refl _));obtain⟨h0,h1,h2,h3,h4,h5,h6,h7⟩:=h.1 x hx;have:=gU h0;have:=gU h1;have:=gU h2;have:=gU h3;have:=gU h4;have:=gU h5;have:=gU h6;have:=gU h7;unfold NV;simp only[List.length_append];omega
end Go.Proofs.YtekefilngojelaaGreat
end
