/- A part. -/
import Derived.Test.YtekefilngojelaaGreatM15
import Derived.Test.YtekefilngojelaaGreatM22
set_option maxHeartbeats 0
set_option maxRecDepth 100000
set_option linter.unusedVariables false
set_option linter.unusedSimpArgs false
section
namespace Go.Proofs.YtekefilngojelaaGreat
open Go Go.Abs Go.Abs.M Go.Proofs
theorem jv (a:Int) (m:Nat) (hm:m<1000):0<=IntKind.wrap .i64 ((BitVec.ofInt 64 a &&& BitVec.ofInt 64 m).toNat)/\IntKind.wrap .i64 ((BitVec.ofInt 64 a &&& BitVec.ofInt 64 m).toNat)<=m:=by
 have:(BitVec.ofInt 64 a &&& BitVec.ofInt 64 m).toNat<=m:=by
  rw[BitVec.toNat_and];refine Nat.le_trans Nat.and_le_right ?_;rw[BitVec.toNat_ofInt];omega
 rw[wrap_i64 (by omega) (by omega)];omega
def mH (K:Int) (l:List (List R5)) (v:List Int):List Tree:=[.v (.int .u8 K),.aa false (Ca l),.aa false (W .i8 v)]
def oe (k:Int) (P:Abs.Rows) (cn cd cr:Int) (O Lc Sg B:Abs.Rows):List Tree:=[.v (.int .i64 k),.aa false P,.v (.int .i64 cn),.v (.int .i64 cd),.v (.int .i64 cr),.aa false O,.aa false Lc,.aa false Sg,.aa false B]
def Io (K:Int) (l:List (List R5)) (v:List Int) (T:List Tree):Prop:=aH 32 [.val (.agg (mH K l v))] ⟨[.val (.agg T)],[none]⟩
theorem NQ (K:Int) (l:List (List R5)) (hl:LI l) (v:List Int) (hv:Jn v) :
  ∃(P:List T2) (O:List R8) (Lc:aS) (n q c cd dd rr:Int),SP P/\Jl O/\(∀p∈Lc,SP p)/\Lc.length<=3/\(0<=n/\n<=7)/\(0<=c/\c<=15)/\(-1<=cd/\cd<=2)/\(0<=rr/\rr<=dd/\dd<=n) /\
   (K.tmod 13=0->Io K l v (oe 1 (aP P) 0 0 0 [] [] [] []))/\(K.tmod 13=1->Io K l v (oe 2 (aP P) 0 0 0 [] [] [] []))/\(K.tmod 13=2->Io K l v (oe 3 [] 0 0 0 [] [] [] [])) /\
   (K.tmod 13=3->Io K l v (oe 4 [] 0 0 0 (iE O) (aj Lc) [] []))/\(K.tmod 13=4->Io K l v (oe 5 [] c cd 0 [] [] [] []))/\(K.tmod 13=5->Io K l v (oe 6 [] n dd rr [] [] [] [])) /\
   (K.tmod 13=8->Io K l v (oe 9 [] 0 0 0 [] [] [] []))/\(K.tmod 13=9->Io K l v (oe 10 (aP P) 0 0 0 [] [] [] []))/\(K.tmod 13=10->Io K l v (oe 11 [] 0 0 0 [] (aj Lc) [] [])) /\
   (K.tmod 13=11->Io K l v (oe 12 [] n 0 0 [] [] [] []))/\(K.tmod 13=12->Io K l v (oe 13 [] n 0 0 [] [] [] [])):=by
 obtain⟨r,IF,kH,cl⟩:=gD l hl;have sp:∀p∈r,SP p:=fun p hp=>(kH p hp).sp (by omega)
 obtain⟨r1,h1,h2,cp⟩:=Rt r sp (by omega) 2 (by omega) (by omega) 1 (by omega);obtain⟨P,hP⟩:∃P,r1=[P]:=by
  match r1,h1 with
  | [P],_=>exact⟨P,rfl⟩
 subst hP;have sP:=h2 P List.mem_cons_self;obtain⟨a,a1,a2,ca⟩:=Ac v hv 1 (by omega) (by omega);obtain⟨n,hn⟩:=aq (IntKind.wrap .i64 ((BitVec.ofInt 64 a &&& BitVec.ofInt 64 (7:Nat)).toNat):Int);have Ka:0<=n/\n<=7:=by rw[hn];exact jv a 7 (by omega)
 rw[show aj [P]=[[.aa false (aP P)]] from rfl]at cp;obtain⟨q,hq⟩:=aq (IntKind.wrap .i64 ((BitVec.ofInt 64 n &&& BitVec.ofInt 64 (3:Nat)).toNat):Int);have Yj:0<=q/\q<=3:=by rw[hq];exact jv n 3 (by omega)
 obtain⟨rl,g1,g2,cq⟩:=Rt r sp (by omega) 1 (by omega) (by omega) q.toNat (by omega);rw[Int.toNat_of_nonneg Yj.1]at cq;obtain⟨b,b1,b2,cb⟩:=Ac v hv 2 (by omega) (by omega);obtain⟨bu,hbu⟩:=aq (IntKind.wrap .u8 b:Int);have Xm:0<=bu/\bu<256:=by
  rw[hbu];unfold IntKind.wrap;simp[IntKind.bits,IntKind.signed];omega
 obtain⟨O,hO,cs⟩:=x8 bu Xm.1 Xm.2;obtain⟨d,d1,d2,ce⟩:=Ac v hv 3 (by omega) (by omega);obtain⟨c,hc⟩:=aq (IntKind.wrap .i64 ((BitVec.ofInt 64 d &&& BitVec.ofInt 64 (15:Nat)).toNat):Int);have JW:0<=c/\c<=15:=by rw[hc];exact jv d 15 (by omega)
 obtain⟨cd,WN⟩:=aq (q-1);have t3:n.tdiv 3=n/3:=Int.tdiv_eq_ediv_of_nonneg Ka.1;have t2:n.tdiv 2=n/2:=Int.tdiv_eq_ediv_of_nonneg Ka.1;obtain⟨n3,V5⟩:=aq (n.tdiv 3);obtain⟨dd,hdd⟩:=aq (n-n3);obtain⟨rr,hrr⟩:=aq (n.tdiv 2);refine⟨P,O,rl,n,q,c,cd,dd,rr,sP,hO,g2,by omega,by omega,by omega,by omega,by omega,?_,?_,?_,?_,?_,?_,?_,?_,?_,?_,?_⟩
 all_goals
  unfold Io mH oe;intro hK;clear g2 sP hO h2 sp kH hl hv;generalize aP P=XP,aj r=X,Ca l=XL,W .i8 v=XV,aj rl=XQ,iE O=XO at *
  as_aux_lemma=>
   refine fb ai mixed [.val] Tryz.func32 rfl rfl (by kernel_rfl) fun zD _ zG _ zI _ _ _ zN _ _ _ _ _ _ _ _ _ _ _ _ _ _ _ _ _ _ _ _ _ _ _ _ _ A L F hS hF=>?_
   have SR:=(hS.rem K 13).trans hK;have en:zN .i64 a 7=n:=by rw[hS.kQ,hn];rfl
   have eq:zN .i64 n 3=q:=by rw[hS.kQ,hq];rfl
   have ec:zN .i64 d 15=c:=by rw[hS.kQ,hc];rfl
   have eb:aE zD .u8 b=bu:=by rw[hS.wrap,hbu]
   have es:aE zD .i64 (mT zG q 1)=cd:=by rw[hS.sub,hS.wrap,WN];exact wrap_i64 (by omega) (by omega)
   have eu:aE zD .i64 (xM zI n 3)=n3:=by rw[hS.quo,hS.wrap,V5];exact wrap_i64 (by omega) (by omega)
   have ev:aE zD .i64 (mT zG n n3)=dd:=by rw[hS.sub,hS.wrap,hdd];exact wrap_i64 (by omega) (by omega)
   have ew:aE zD .i64 (xM zI n 2)=rr:=by rw[hS.quo,hS.wrap,hrr];exact wrap_i64 (by omega) (by omega)
   cbv at SR eb es eu ev ew;cbv;repeat (first|apply bT rfl|apply bF rfl|apply nd rfl|(apply tT rfl;cbv)|(apply tF rfl;cbv)|(simp only[SR];cbv)|(simp only[en];cbv)|(simp only[eq];cbv)|(simp only[ec];cbv)|(simp only[eb];cbv)|(simp only[es];cbv)|(simp only[eu];cbv)|(simp only[ev];cbv)|(simp only[ew];cbv)|(refine hS.cl cl ?_;cbv)|(refine hS.cl cp ?_;cbv)|(refine hS.cl ca ?_;cbv)|(refine hS.cl cb ?_;cbv)|(refine hS.cl cs ?_;cbv)|(refine hS.cl ce ?_;cbv)|(refine hS.cl cq ?_;cbv))
   refine ib hF ?_;repeat' (first|exact trivial|exact aY.refl _|exact aY.drop _ _|refine⟨?_,?_⟩)
end Go.Proofs.YtekefilngojelaaGreat
end
