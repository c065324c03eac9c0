/- A part. -/
import Derived.Test.YtekefilngojelaaGreatM39
import Derived.Test.YtekefilngojelaaGreatM40
import Derived.Test.YtekefilngojelaaGreatM46
set_option maxHeartbeats 0
set_option maxRecDepth 100000
set_option linter.unusedVariables false
set_option linter.unusedSimpArgs false
section
namespace Go.Proofs.YtekefilngojelaaGreat
open Go Go.Abs Go.Abs.M Go.Proofs
theorem Oa:(qc 1).row=[.v (.bool false),.aa false [[.v (.int .u32 1)]],.v (.bool false),.aa false [[.v (.int .u32 1)]]]:=by
 have d1:dg 1=[1]:=xE (n:=1) (by decide) (by decide);have e:qc 1=⟨false,[1],false,[1]⟩:=by
  unfold qc;rw[show(1:Rat).num=1 from rfl,show(1:Rat).den=1 from rfl,show(1:Int).natAbs=1 from rfl,show((1:Nat):Int).natAbs=1 from rfl,d1];rfl
 rw[e];rfl
theorem JE:aH 19 [.val (ti .i64 0)] ⟨[.val (tl (aP [⟨1,1,0⟩]))],[none]⟩:=by
 have e:aP [⟨1,1,0⟩]=[[.v (.bool false),.aa false [[.v (.int .u32 1)]],.v (.bool false),.aa false [[.v (.int .u32 1)]],.v (.int .i64 1),.v (.int .i64 0),.v (.int .i64 0),.v (.int .i64 0),.v (.int .i64 0),.v (.int .i64 0),.v (.int .i64 0),.v (.int .i64 0)]]:=by
  show [(qc 1).row++m2 1 0]=_
  rw[Oa];rfl
 rw[e];exact vS (by kernel_rfl)
theorem XB:SP [⟨1,1,0⟩]:=⟨by intro t ht;rw[List.mem_singleton.1 ht];exact⟨rfl,⟨by decide,by decide⟩,⟨by decide,by decide⟩,⟨by decide,by decide⟩⟩,⟨by intro t ht;rw[List.mem_singleton.1 ht];decide,by simp⟩,by simp,by decide⟩
theorem Ob {B:Abs.Rows} (h:AB B):∃s,ZI.cJ.str B=some s:=by
 obtain⟨l,h1,_⟩:=nZ h;exact⟨⟨l.toArray⟩,by show(ez B).map _=_;rw[h1];rfl⟩
theorem kf.sz {m:Nat} {k:Int} {aG:aS} {C:fi} {q:jJ} (h:kf m k aG C q) :
  (aG≠[]->(∀p∈aG,P3 p)/\aG.length=m)/\(∀r∈C,(∀p∈r,P3 p)/\r.length=m)/\C.length<=7:=by
 rcases h with⟨P,aG,hP,c1,c2⟩|⟨P,C,G,O,Q,Sx,hP,b⟩|⟨n,aG,n1,c1,c2⟩|⟨O1,Lc,C,G,O,Q,Sx,hO,hL,lL,b⟩|⟨cn,cd,C,G,O,Q,Sx,h1,h3,b⟩|⟨cn,cd,cr,C,G,O,Q,Sx,h1,h3,b⟩|⟨Z,C,G,O,Q,Sx,U,U1,At,a,hZ,lZ,b,r⟩|⟨P,Z,Sg,C,G,O,Q,Sx,U,U1,At,a,hP,hZ,lZ,hg,lg,b,r⟩|⟨aG,Sq,c1,c2,s1,s2⟩|⟨P,aG,Sq,hP,c1,c2,s1,s2⟩|⟨Lc,C,hL,lL,hC⟩|⟨cn,C,G,O,h1,b0⟩|⟨cn,Xs,Bs,h1,x1,x2,b1,b2⟩
 all_goals refine⟨fun h=>?_,fun r hr=>?_,?_⟩
 all_goals first
  | exact⟨fun p hp=>(c2 p hp).p3,c1⟩
  | exact⟨fun p hp=>((b.c.2 r hr).2 p hp).p3,(b.c.2 r hr).1⟩
  | exact⟨fun p hp=>((b0.c.2 r hr).2 p hp).p3,(b0.c.2 r hr).1⟩
  | exact⟨fun p hp=>((hC.2 r hr).2 p hp).p3,(hC.2 r hr).1⟩
  | exact Nat.zero_le _
  | exact absurd rfl h
  | exact absurd hr List.not_mem_nil
  | (rw[b.c.1];have:=b.g;omega)
  | (rw[b0.c.1];have:=b0.g;omega)
  | (rw[hC.1];exact ll3 lL)
theorem kf.cl {m:Nat} {k:Int} {aG:aS} {C:fi} {q:jJ} (h:kf m k aG C q) (hm:m<=10):∃c:Cl,c.ok/\c.tree=cT k q:=by
 obtain⟨f,f1,f2⟩:=h.fa hm 2 ⟨by decide,by decide⟩ [] [] ⟨by simp,by simp⟩ ⟨by simp,by simp⟩;refine⟨f.c,f1.c,?_⟩;have:=congrArg (fun l=>(l.drop 3).take 9) f2;exact this
theorem Gv {E aG:aS} {C:fi} (hE:∀p∈E,P3 p) (h4:E.length<=4) (hc:aG≠[]->(∀p∈aG,P3 p)/\aG.length=E.length) (hC:∀r∈C,(∀p∈r,P3 p)/\r.length=E.length) (h7:C.length<=7):(∀p∈pM E aG C,Qh p)/\(pM E aG C).length<=1000:=by
 unfold pM;refine⟨fun p hp=>?_,?_⟩
 ·rcases List.mem_append.1 hp with hp|hp
  ·split at hp
   ·simp at hp
   ·rename_i h
    rw[List.mem_singleton.1 hp];exact Gt (hc h).1 hE (hc h).2 h4
  ·obtain⟨r,hr,rfl⟩:=List.mem_map.1 hp
   exact Gt (hC r hr).1 hE (hC r hr).2 h4
 ·rw[List.length_append,List.length_map]
  split<;>simp<;>omega
theorem Gw (c0:aH 7 [] ⟨[.val (tb true)],[]⟩) (K:Int) (hK:0<=K) (l:List (List R5)) (hl:LI l) (v:List Int) (hv:Jn v) (ka kb kc kd:Int) (ha:0<=ka) (hb:0<=kb/\kb<256) (hd:0<=kd) (y:List R5) (hy:∀x∈y,x.ok) :
  aH 4 [.val (.agg (mH K l v)),.val (.agg [.v (.int .u8 ka),.v (.int .u8 kb),.v (.int .u8 kc),.v (.int .u8 kd)]),.val (.agg [.aa false (Ae y)])] ⟨[.val (tb true)],[none,none,none]⟩:=by
 obtain⟨E,D,k,Ue,C0,aG,C,q,hV,lE,lD,hf,cM,cH⟩:=QH K hK l hl v hv kc;obtain⟨p,hp,cP⟩:=uZ y hy;obtain⟨M1,E1,D1,hV1,lE1,lD1,cC⟩:=N6 2 E D hV (by omega) (by omega) ka kb ha hb p (hp.sp (by omega));obtain⟨M,E2,D2,Oc,UE,lD2,cD⟩:=N6 M1 E1 D1 hV1 (by omega) (by omega) kd kb hd hb _ XB;have uf:=hf.sh.uf;have nE2:=ly Oc.k.se;have cG:=Gq 2 E D k aG C q M E2 D2 hV.le hV.ld Oc.le Oc.ld nE2 uf
 have cW:=Ir 2 E D k aG C q M E2 D2 hV.le hV.ld Oc.le Oc.ld nE2 uf;cases hh:Jx 2 E D k aG C M E2 D2 with
 | false=>
  rw[hh,if_neg (by decide)]at cG;rw[hh]at cW;exact It _ _ _ _ _ _ _ _ _ _ _ _ _ _ _ _ ka kb kc kd k M1 M q c0 cM cH cP cC JE cD cG cW
 | true=>
  rw[hh,if_pos rfl]at cG;rw[hh]at cW;have hc:=hf.carry hh;have cF:=hc.right Oc.k (XA hh);obtain⟨z1,z2,z3⟩:=hf.sz;obtain⟨y1,y2,y3⟩:=hc.sz;have pE:∀p∈E,P3 p:=fun p hp=>(hV.e p hp).p3
  have pE2:∀p∈E2,P3 p:=fun p hp=>(Oc.e p hp).p3
  have cS:=Ck 2 E (.aa false (aj D)) k aG C q pE (by omega) z1 z2 z3;have cU:=Ck M E2 (.aa false (aj D2)) k _ _ q pE2 (by omega) y1 y2 y3;obtain⟨o1,o2⟩:=Gv pE (by omega) z1 z2 z3;obtain⟨o3,o4⟩:=Gv pE2 (by omega) y1 y2 y3;have cQ:=K0 _ _ o1 o3 o2 o4;have hn:=Oc.k.n;have bE:=T3 Oc.e (by omega);have bD:=T3 Oc.d (by omega);have sM:DO M:=⟨by omega,by omega⟩
  have cK:=F7 M sM.1 sM.2 E2 D2 bE bD [] (by simp);rw[List.nil_append]at cK;obtain⟨c,c1,c2⟩:=hf.cl (by omega);have cL:=Ga c c1 [] (by simp);rw[List.nil_append,c2]at cL;obtain⟨sK,hsK⟩:=Ob (B:=YB M E2 D2) (((AB.mu sM).app (AB.pl bE)).app (AB.pl bD));obtain⟨sC,hsC⟩:=Ob (AB.cl c1);refine Gu _ _ _ _ _ _ _ _ _ _ _ _ _ _ _ _ ka kb kc kd k M1 M q _ _ _ _ _ _ _ sK sC c0 cM cH cP cC JE cD cG cW cF cS cU cK cL cQ ?_ hsK hsC
  by_cases h1:E=[]
  ·left;rw[h1];rfl
  ·by_cases h2:E2=[]
   ·right;left;rw[h2];rfl
   ·right;right;exact decide_eq_true (hf.abU hV.k.se Oc.k.se hh h1 h2).symm
theorem Od {ts:List Tree} (h:(Shape.arr 4 (.int .u8)).ok ts):∃a b c d:Int,ts=[.v (.int .u8 a),.v (.int .u8 b),.v (.int .u8 c),.v (.int .u8 d)]/\0<=a/\(0<=b/\b<256)/\0<=d:=by
 obtain⟨_,_,rfl,⟨a,rfl,ha⟩,_,_,rfl,⟨b,rfl,hb⟩,_,_,rfl,⟨c,rfl,hc⟩,_,_,rfl,⟨d,rfl,hd⟩,rfl⟩:=h;exact⟨a,b,c,d,rfl,(Jp ha).1,Jp hb,(Jp hd).1⟩
theorem D9 (abV:aH 7 [] ⟨[.val (tb true)],[]⟩) {T U V M M2 e e2:TypeId} (hu:Tryz.prog.underlying M=some (.slice e)) (he:Tryz.prog.bytesOf e=24) (yK:Tryz.prog.underlying M2=some (.slice e2)) (QY:Tryz.prog.bytesOf e2=1)
  (p1:∀a b c:Tree,oi Tryz.prog [1] T [a,b,c]=some (M,[b])) (p2:∀a b c:Tree,oi Tryz.prog [2] T [a,b,c]=some (M2,[c]))
  (D7:List (List Tree)) (h:Jt [JC,.arr 4 (.int .u8),Lo] D7) (hz:D6 Tryz.prog 5 [T,U,V] D7) :
  aH 4 ((Qm [JC,.arr 4 (.int .u8),Lo] D7).map .val) ⟨[.val (tb true)],[none,none,none]⟩:=by
 obtain⟨t1,_,rfl,h1,t2,_,rfl,h2,t3,_,rfl,h3,rfl⟩:=h;obtain⟨z,_⟩:=hz;obtain⟨K,l,v,hK,hl,hv,W6⟩:=N9 h1 hu he yK QY p1 p2 z;obtain⟨y,hy,le3⟩:=QG h3;obtain⟨a,b,c,d,rfl,ha,hb,hd⟩:=Od h2;have cc:=Gw abV K hK l hl v hv a b c d ha hb hd y hy;have hle:eo [.val (.agg t1),.val (.agg [.v (.int .u8 a),.v (.int .u8 b),.v (.int .u8 c),.v (.int .u8 d)]),.val (.agg t3)] [.val (.agg (mH K l v)),.val (.agg [.v (.int .u8 a),.v (.int .u8 b),.v (.int .u8 c),.v (.int .u8 d)]),.val (.agg [.aa false (Ae y)])]:=⟨W6,ku.refl _,le3,trivial⟩
 exact eP.Fj hle (fV.refl _) cc
end Go.Proofs.YtekefilngojelaaGreat
end
