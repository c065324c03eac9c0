/- A part of the proof. -/
import Derived.Test.YtekefilngojelaaGreatM18
import Derived.Test.YtekefilngojelaaGreatM25
import Derived.Test.YtekefilngojelaaGreatM26
set_option maxHeartbeats 0
set_option maxRecDepth 100000
set_option linter.unusedVariables false
set_option linter.unusedSimpArgs false
section
namespace Go.Proofs.YtekefilngojelaaGreat
open Go Go.Abs Go.Abs.M Go.Proofs
theorem fU {x:Bx} (h:x.fit) {zs zt:Bool} {zr zq:Abs.Rows} (zw:(qc 0).row=[.v (.bool zs),.aa false zr,.v (.bool zt),.aa false zq]) :
  ∃(s0 t0 s1 t1 s2 t2 s3 t3:Bool) (r0 q0 r1 q1 r2 q2 r3 q3:Abs.Rows),BH x=(Tree.v (.bool s0) :: .aa false r0 :: .v (.bool t0) :: .aa false q0::Tree.v (.bool s1) :: .aa false r1 :: .v (.bool t1) :: .aa false q1::Tree.v (.bool s2) :: .aa false r2 :: .v (.bool t2) :: .aa false q2::Tree.v (.bool s3) :: .aa false r3 :: .v (.bool t3) :: .aa false q3 :: .v (.bool zs) :: .aa false zr :: .v (.bool zt) :: .aa false zq :: .v (.bool zs) :: .aa false zr :: .v (.bool zt) :: .aa false zq :: .v (.bool zs) :: .aa false zr :: .v (.bool zt) :: .aa false zq :: .v (.bool zs) :: .aa false zr :: .v (.bool zt) :: .aa false zq :: .v (.bool zs) :: .aa false zr :: .v (.bool zt) :: .aa false zq :: .v (.bool zs) :: .aa false zr :: .v (.bool zt) :: .aa false zq :: .v (.bool zs) :: .aa false zr :: .v (.bool zt) :: .aa false zq :: .v (.bool zs) :: .aa false zr :: .v (.bool zt) :: .aa false zq :: .v (.bool zs) :: .aa false zr :: .v (.bool zt) :: .aa false zq :: .v (.bool zs) :: .aa false zr :: .v (.bool zt) :: .aa false zq :: .v (.bool zs) :: .aa false zr :: .v (.bool zt) :: .aa false zq :: .v (.bool zs) :: .aa false zr :: .v (.bool zt) :: .aa false zq :: [])/\(qc x.u0).row=[.v (.bool s0),.aa false r0,.v (.bool t0),.aa false q0]/\(qc x.v0).row=[.v (.bool s1),.aa false r1,.v (.bool t1),.aa false q1]:=by
 obtain⟨s0,t0,r0,q0,w0,_⟩:=bD x.u0;obtain⟨s1,t1,r1,q1,w1,_⟩:=bD x.v0;obtain⟨s2,t2,r2,q2,w2,_⟩:=bD x.u1;obtain⟨s3,t3,r3,q3,w3,_⟩:=bD x.v1;refine⟨s0,t0,s1,t1,s2,t2,s3,t3,r0,q0,r1,q1,r2,q2,r3,q3,?_,w0,w1⟩;unfold BH;rw[h.u2,h.v2,h.u3,h.v3,h.u4,h.v4,h.u5,h.v5,h.u6,h.v6,h.u7,h.v7,w0,w1,w2,w3,zw];rfl
theorem Oh (s:Int):∃g:Int,g=(IntKind.wrap .i64 ((BitVec.ofInt 64 s &&& BitVec.ofInt 64 (127:Nat)).toNat)).tmod 3-1 /\ -1<=g/\g<=1:=by
 have hb:0<=IntKind.wrap .i64 ((BitVec.ofInt 64 s &&& BitVec.ofInt 64 (127:Nat)).toNat):=(jk s 127 (by omega)).1;refine⟨_,rfl,?_⟩;rw[Int.tmod_eq_emod_of_nonneg hb];omega
theorem Ci (K:Int) (l:List (List R5)) (hl:L5 l) (v:List Int) (hv:JN v) :
  ∃(P:List T2) (Z:List Bx) (Sg:List Int),SP P/\(∀x∈Z,x.fit)/\Z.length<=3/\(∀x∈Sg,-1<=x/\x<=1)/\Sg.length=Z.length/\(K.tmod 13=6->IJ K l v (nX 7 [] 0 0 0 [] [] [] (oT Z)))/\(K.tmod 13=7->IJ K l v (nX 8 (aV P) 0 0 0 [] [] (DN Sg) (oT Z))):=by
 obtain⟨r,I1,js,cl⟩:=gg l hl;have sp:∀p∈r,SP p:=fun p hp=>(js p hp).sp (by omega)
 obtain⟨r1,h1,h2,cp⟩:=RU r sp (by omega) 2 (by omega) (by omega) 1 (by omega);obtain⟨P,hP⟩:∃P,r1=[P]:=by
  match r1,h1 with
  | [P],_=>exact⟨P,rfl⟩
 subst hP;have sP:=h2 P List.mem_cons_self;obtain⟨a,a1,a2,ca⟩:=Af v hv 1 (by omega) (by omega);obtain⟨n,hn⟩:∃n:Int,n=IntKind.wrap .i64 ((BitVec.ofInt 64 a &&& BitVec.ofInt 64 (7:Nat)).toNat):=⟨_,rfl⟩;rw[show an [P]=[[.aa false (aV P)]] from rfl]at cp;obtain⟨q,hq⟩:∃q:Int,q=IntKind.wrap .i64 ((BitVec.ofInt 64 n &&& BitVec.ofInt 64 (3:Nat)).toNat):=⟨_,rfl⟩;have YT:0<=q/\q<=3:=by rw[hq];exact jk n 3 (by omega)
 obtain⟨zs,zt,zr,zq,zw,_⟩:=bD 0;obtain⟨x0,f0,QM⟩:=QK v hv 0 (by omega) (by omega);obtain⟨ZU,ZV,ZW,ZX,ZY,ZZ,Z0,Z5,Z6,Z7,Z8,Z9,r2a,q2a,r3a,q3a,y0,_⟩:=fU f0 zw;obtain⟨x1,f1,LA⟩:=QK v hv 1 (by omega) (by omega);obtain⟨s0b,t0b,s1b,t1b,s2b,t2b,s3b,t3b,r0b,q0b,r1b,q1b,r2b,q2b,r3b,q3b,y1,_⟩:=fU f1 zw;obtain⟨x2,f2,QN⟩:=QK v hv 2 (by omega) (by omega);obtain⟨s0c,t0c,s1c,t1c,s2c,t2c,s3c,t3c,r0c,q0c,r1c,q1c,r2c,q2c,r3c,q3c,y2,_⟩:=fU f2 zw
 obtain⟨s0,s01,s02,cs0⟩:=Af v hv 0 (by omega) (by omega);obtain⟨s2,s21,s22,cs2⟩:=Af v hv 2 (by omega) (by omega);obtain⟨g0,FH,gb0⟩:=Oh s0;obtain⟨g1,Zd,gb1⟩:=Oh a;obtain⟨g2,Ny,gb2⟩:=Oh s2;refine⟨P,[x0,x1,x2].take q.toNat,[g0,g1,g2].take q.toNat,sP,fun x hx=>?_,Nat.le_trans (List.length_take_le ..) (by omega),fun x hx=>?_,by simp only[List.length_take,List.length_cons,List.length_nil],?_⟩
 ·have:=List.mem_of_mem_take hx
  simp only[List.mem_cons,List.not_mem_nil,or_false]at this;rcases this with rfl|rfl|rfl<;>assumption
 ·have:=List.mem_of_mem_take hx
  simp only[List.mem_cons,List.not_mem_nil,or_false]at this;rcases this with rfl|rfl|rfl<;>assumption
 rw[y0]at QM;rw[y1]at LA;rw[y2]at QN;obtain rfl|rfl|rfl|rfl:q=0∨q=1∨q=2∨q=3:=by omega
 all_goals refine⟨fun hK=>?_,fun hK=>?_⟩
 all_goals
  unfold IJ mq nX;generalize W .i8 v=XV at *;simp only[oT,DN,W,show Int.toNat 0=0 from rfl,show Int.toNat 1=1 from rfl,show Int.toNat 2=2 from rfl,show Int.toNat 3=3 from rfl,List.take_succ_cons,List.take_zero,List.map_cons,List.map_nil,y0,y1,y2];clear h2 sp js hl hv zw y0 y1 y2 f0 f1 f2 sP;generalize aV P=XP,an r=X,Cg l=XL at *
  as_aux_lemma=>
   refine ep aj mixed [.val] Tryz.func32 rfl rfl (by kernel_rfl) fun zD _ zG _ _ zJ _ _ zN _ _ _ _ _ _ _ _ _ _ _ _ _ _ _ _ _ _ _ _ _ _ _ _ _ A L F hS hF=>?_
   have Tk:=(hS.rem K 13).trans hK;have en:zN .i64 a 7=n:=by rw[hS.kI,hn];rfl
   have eq:=(hS.kI .i64 n 3).trans hq.symm;have eg:∀s g:Int,g=(IntKind.wrap .i64 ((BitVec.ofInt 64 s &&& BitVec.ofInt 64 (127:Nat)).toNat)).tmod 3-1->-1<=g/\g<=1->aA zD .i64 (mK zG (bJ zJ (zN .i64 s 127) 3) 1)=g:=fun s g h1 h2=>by
    have e:mK zG (bJ zJ (zN .i64 s 127) 3) 1=g:=by rw[hS.sub,hS.rem,hS.kI,h1];rfl
    rw[e,hS.wrap];exact wrap_i64 (by omega) (by omega)
   have eg0:=eg s0 g0 FH gb0;have eg1:=eg a g1 Zd gb1;have eg2:=eg s2 g2 Ny gb2;clear eg;cbv at eg0 eg1 eg2 Tk;cbv;repeat (first|apply bT rfl|apply bF rfl|apply nd rfl|(refine tT rfl ?_;cbv)|(refine tF rfl ?_;cbv)|(refine fm aj mixed hS (5) ?_;cbv)|(simp only[Tk];cbv)|(simp only[en];cbv)|(simp only[eq];cbv)|(refine⟨_,hS.call cl,?_⟩;cbv)|(refine⟨_,hS.call cp,?_⟩;cbv)|(refine⟨_,hS.call ca,?_⟩;cbv)|(refine⟨_,hS.call QM,?_⟩;cbv)|(refine⟨_,hS.call LA,?_⟩;cbv)|(refine⟨_,hS.call QN,?_⟩;cbv)|(refine⟨_,hS.call cs0,?_⟩;cbv)|(refine⟨_,hS.call cs2,?_⟩;cbv))
   try simp only[eg0,eg1,eg2]
   refine gX hF ?_;repeat' (first|exact trivial|exact aW.refl _|exact aW.drop _ _|refine⟨?_,?_⟩)
end Go.Proofs.YtekefilngojelaaGreat
end
