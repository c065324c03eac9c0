/- A part. -/
import Derived.Test.YtekefilngojelaaGreatM15
import Derived.Test.YtekefilngojelaaGreatM22
import Derived.Test.YtekefilngojelaaGreatM23
set_option maxHeartbeats 0
set_option maxRecDepth 100000
set_option linter.unusedVariables false
set_option linter.unusedSimpArgs false
section
namespace Go.Proofs.YtekefilngojelaaGreat
open Go Go.Abs Go.Abs.M Go.Proofs
theorem gj {x:Bx} (h:x.fit) {zs zt:Bool} {zr zq:Abs.Rows} (zw:(qc 0).row=[.v (.bool zs),.aa false zr,.v (.bool zt),.aa false zq]) :
  ∃(s0 t0 s1 t1 s2 t2 s3 t3:Bool) (r0 q0 r1 q1 r2 q2 r3 q3:Abs.Rows),BD x=(Tree.v (.bool s0) :: .aa false r0 :: .v (.bool t0) :: .aa false q0::Tree.v (.bool s1) :: .aa false r1 :: .v (.bool t1) :: .aa false q1::Tree.v (.bool s2) :: .aa false r2 :: .v (.bool t2) :: .aa false q2::Tree.v (.bool s3) :: .aa false r3 :: .v (.bool t3) :: .aa false q3 :: .v (.bool zs) :: .aa false zr :: .v (.bool zt) :: .aa false zq :: .v (.bool zs) :: .aa false zr :: .v (.bool zt) :: .aa false zq :: .v (.bool zs) :: .aa false zr :: .v (.bool zt) :: .aa false zq :: .v (.bool zs) :: .aa false zr :: .v (.bool zt) :: .aa false zq :: .v (.bool zs) :: .aa false zr :: .v (.bool zt) :: .aa false zq :: .v (.bool zs) :: .aa false zr :: .v (.bool zt) :: .aa false zq :: .v (.bool zs) :: .aa false zr :: .v (.bool zt) :: .aa false zq :: .v (.bool zs) :: .aa false zr :: .v (.bool zt) :: .aa false zq :: .v (.bool zs) :: .aa false zr :: .v (.bool zt) :: .aa false zq :: .v (.bool zs) :: .aa false zr :: .v (.bool zt) :: .aa false zq :: .v (.bool zs) :: .aa false zr :: .v (.bool zt) :: .aa false zq :: .v (.bool zs) :: .aa false zr :: .v (.bool zt) :: .aa false zq :: [])/\(qc x.u0).row=[.v (.bool s0),.aa false r0,.v (.bool t0),.aa false q0]/\(qc x.v0).row=[.v (.bool s1),.aa false r1,.v (.bool t1),.aa false q1]:=by
 obtain⟨s0,t0,r0,q0,w0,_⟩:=bX x.u0;obtain⟨s1,t1,r1,q1,w1,_⟩:=bX x.v0;obtain⟨s2,t2,r2,q2,w2,_⟩:=bX x.u1;obtain⟨s3,t3,r3,q3,w3,_⟩:=bX x.v1;refine⟨s0,t0,s1,t1,s2,t2,s3,t3,r0,q0,r1,q1,r2,q2,r3,q3,?_,w0,w1⟩;unfold BD;rw[h.u2,h.v2,h.u3,h.v3,h.u4,h.v4,h.u5,h.v5,h.u6,h.v6,h.u7,h.v7,w0,w1,w2,w3,zw];rfl
theorem NR (s:Int):∃g:Int,g=(IntKind.wrap .i64 ((BitVec.ofInt 64 s &&& BitVec.ofInt 64 (127:Nat)).toNat)).tmod 3-1 /\ -1<=g/\g<=1:=by
 have hb:0<=IntKind.wrap .i64 ((BitVec.ofInt 64 s &&& BitVec.ofInt 64 (127:Nat)).toNat):=(jv s 127 (by omega)).1;refine⟨_,rfl,?_⟩;rw[Int.tmod_eq_emod_of_nonneg hb];omega
theorem Cc (K:Int) (l:List (List R5)) (hl:LI l) (v:List Int) (hv:Jn v) :
  ∃(P:List T2) (Z:List Bx) (Sg:List Int),SP P/\(∀x∈Z,x.fit)/\Z.length<=3/\(∀x∈Sg,-1<=x/\x<=1)/\Sg.length=Z.length/\(K.tmod 13=6->Io K l v (oe 7 [] 0 0 0 [] [] [] (uk Z)))/\(K.tmod 13=7->Io K l v (oe 8 (aP P) 0 0 0 [] [] (F9 Sg) (uk Z))):=by
 obtain⟨r,IF,kH,cl⟩:=gD l hl;have sp:∀p∈r,SP p:=fun p hp=>(kH p hp).sp (by omega)
 obtain⟨r1,h1,h2,cp⟩:=Rt r sp (by omega) 2 (by omega) (by omega) 1 (by omega);obtain⟨P,hP⟩:∃P,r1=[P]:=by
  match r1,h1 with
  | [P],_=>exact⟨P,rfl⟩
 subst hP;have sP:=h2 P List.mem_cons_self;obtain⟨a,a1,a2,ca⟩:=Ac v hv 1 (by omega) (by omega);obtain⟨n,hn⟩:=aq (IntKind.wrap .i64 ((BitVec.ofInt 64 a &&& BitVec.ofInt 64 (7:Nat)).toNat):Int);rw[show aj [P]=[[.aa false (aP P)]] from rfl]at cp;obtain⟨q,hq⟩:=aq (IntKind.wrap .i64 ((BitVec.ofInt 64 n &&& BitVec.ofInt 64 (3:Nat)).toNat):Int);have Yj:0<=q/\q<=3:=by rw[hq];exact jv n 3 (by omega)
 obtain⟨zs,zt,zr,zq,zw,_⟩:=bX 0;obtain⟨x0,f0,Qu⟩:=Qr v hv 0 (by omega) (by omega);obtain⟨YR,YS,YT,YU,YV,YW,YX,YY,YZ,Za,Zd,Ze,Zf,Zg,Zh,Zi,y0,_⟩:=gj f0 zw;obtain⟨x1,f1,Lg⟩:=Qr v hv 1 (by omega) (by omega);obtain⟨s0b,t0b,s1b,t1b,s2b,t2b,s3b,t3b,r0b,q0b,r1b,q1b,r2b,q2b,r3b,q3b,y1,_⟩:=gj f1 zw;obtain⟨x2,f2,Qv⟩:=Qr v hv 2 (by omega) (by omega);obtain⟨s0c,t0c,s1c,t1c,s2c,t2c,s3c,t3c,r0c,q0c,r1c,q1c,r2c,q2c,r3c,q3c,y2,_⟩:=gj f2 zw
 obtain⟨s0,s01,s02,cs0⟩:=Ac v hv 0 (by omega) (by omega);obtain⟨s2,s21,s22,cs2⟩:=Ac v hv 2 (by omega) (by omega);obtain⟨g0,Fv,gb0⟩:=NR s0;obtain⟨g1,Ys,gb1⟩:=NR a;obtain⟨g2,Nd,gb2⟩:=NR s2;refine⟨P,[x0,x1,x2].take q.toNat,[g0,g1,g2].take q.toNat,sP,fun x hx=>?_,Nat.le_trans (List.length_take_le ..) (by omega),fun x hx=>?_,by simp only[List.length_take,List.length_cons,List.length_nil],?_⟩
 ·have:=List.mem_of_mem_take hx
  simp only[List.mem_cons,List.not_mem_nil,or_false]at this;rcases this with rfl|rfl|rfl<;>assumption
 ·have:=List.mem_of_mem_take hx
  simp only[List.mem_cons,List.not_mem_nil,or_false]at this;rcases this with rfl|rfl|rfl<;>assumption
 rw[y0]at Qu;rw[y1]at Lg;rw[y2]at Qv;obtain rfl|rfl|rfl|rfl:q=0∨q=1∨q=2∨q=3:=by omega
 all_goals refine⟨fun hK=>?_,fun hK=>?_⟩
 all_goals
  unfold Io mH oe;generalize W .i8 v=XV at *;simp only[uk,F9,W,show Int.toNat 0=0 from rfl,show Int.toNat 1=1 from rfl,show Int.toNat 2=2 from rfl,show Int.toNat 3=3 from rfl,List.take_succ_cons,List.take_zero,List.map_cons,List.map_nil,y0,y1,y2];clear h2 sp kH hl hv zw y0 y1 y2 f0 f1 f2 sP;generalize aP P=XP,aj r=X,Ca l=XL at *
  as_aux_lemma=>
   refine fb ai mixed [.val] Tryz.func32 rfl rfl (by kernel_rfl) fun zD _ zG _ _ zJ _ _ zN _ _ _ _ _ _ _ _ _ _ _ _ _ _ _ _ _ _ _ _ _ _ _ _ _ A L F hS hF=>?_
   have SR:=(hS.rem K 13).trans hK;have en:zN .i64 a 7=n:=by rw[hS.kQ,hn];rfl
   have eq:=(hS.kQ .i64 n 3).trans hq.symm;have eg:∀s g:Int,g=(IntKind.wrap .i64 ((BitVec.ofInt 64 s &&& BitVec.ofInt 64 (127:Nat)).toNat)).tmod 3-1->-1<=g/\g<=1->aE zD .i64 (mT zG (bP zJ (zN .i64 s 127) 3) 1)=g:=fun s g h1 h2=>by
    have e:mT zG (bP zJ (zN .i64 s 127) 3) 1=g:=by rw[hS.sub,hS.rem,hS.kQ,h1];rfl
    rw[e,hS.wrap];exact wrap_i64 (by omega) (by omega)
   have eg0:=eg s0 g0 Fv gb0;have eg1:=eg a g1 Ys gb1;have eg2:=eg s2 g2 Nd gb2;clear eg;cbv at eg0 eg1 eg2 SR;cbv;repeat (first|apply bT rfl|apply bF rfl|apply nd rfl|(apply tT rfl;cbv)|(apply tF rfl;cbv)|(refine fm ai mixed hS (5) ?_;cbv)|(simp only[SR];cbv)|(simp only[en];cbv)|(simp only[eq];cbv)|(refine hS.cl cl ?_;cbv)|(refine hS.cl cp ?_;cbv)|(refine hS.cl ca ?_;cbv)|(refine hS.cl Qu ?_;cbv)|(refine hS.cl Lg ?_;cbv)|(refine hS.cl Qv ?_;cbv)|(refine hS.cl cs0 ?_;cbv)|(refine hS.cl cs2 ?_;cbv))
   try simp only[eg0,eg1,eg2]
   refine ib hF ?_;repeat' (first|exact trivial|exact aY.refl _|exact aY.drop _ _|refine⟨?_,?_⟩)
end Go.Proofs.YtekefilngojelaaGreat
end
