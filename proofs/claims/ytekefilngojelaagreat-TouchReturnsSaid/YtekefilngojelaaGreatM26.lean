/- A part of the proof. -/
import Derived.Test.YtekefilngojelaaGreatM18
import Derived.Test.YtekefilngojelaaGreatM25
set_option maxHeartbeats 0
set_option maxRecDepth 100000
set_option linter.unusedVariables false
set_option linter.unusedSimpArgs false
section
namespace Go.Proofs.YtekefilngojelaaGreat
open Go Go.Abs Go.Abs.M Go.Proofs
theorem jk (a:Int) (m:Nat) (hm:m<1000):0<=IntKind.wrap .i64 ((BitVec.ofInt 64 a &&& BitVec.ofInt 64 m).toNat)/\IntKind.wrap .i64 ((BitVec.ofInt 64 a &&& BitVec.ofInt 64 m).toNat)<=m:=by
 have:(BitVec.ofInt 64 a &&& BitVec.ofInt 64 m).toNat<=m:=by
  rw[BitVec.toNat_and];refine Nat.le_trans Nat.and_le_right ?_;rw[BitVec.toNat_ofInt];omega
 rw[wrap_i64 (by omega) (by omega)];omega
def mq (K:Int) (l:List (List R5)) (v:List Int):List Tree:=[.v (.int .u8 K),.aa false (Cg l),.aa false (W .i8 v)]
def nX (k:Int) (P:Abs.Rows) (cn cd cr:Int) (O Lc Sg B:Abs.Rows):List Tree:=[.v (.int .i64 k),.aa false P,.v (.int .i64 cn),.v (.int .i64 cd),.v (.int .i64 cr),.aa false O,.aa false Lc,.aa false Sg,.aa false B]
def IJ (K:Int) (l:List (List R5)) (v:List Int) (T:List Tree):Prop:=ah Tryz.prog 32 [.val (.agg (mq K l v))] ⟨[.val (.agg T)],[none]⟩
theorem Og (K:Int) (l:List (List R5)) (hl:L5 l) (v:List Int) (hv:JN v) :
  ∃(P:List T2) (O:List R8) (Lc:List (List T2)) (n q c cd dd rr:Int),SP P/\JL O/\(∀p∈Lc,SP p)/\Lc.length<=3/\(0<=n/\n<=7)/\(0<=c/\c<=15)/\(-1<=cd/\cd<=2)/\(0<=rr/\rr<=dd/\dd<=n) /\
   (K.tmod 13=0->IJ K l v (nX 1 (aV P) 0 0 0 [] [] [] []))/\(K.tmod 13=1->IJ K l v (nX 2 (aV P) 0 0 0 [] [] [] []))/\(K.tmod 13=2->IJ K l v (nX 3 [] 0 0 0 [] [] [] [])) /\
   (K.tmod 13=3->IJ K l v (nX 4 [] 0 0 0 (gD O) (an Lc) [] []))/\(K.tmod 13=4->IJ K l v (nX 5 [] c cd 0 [] [] [] []))/\(K.tmod 13=5->IJ K l v (nX 6 [] n dd rr [] [] [] [])) /\
   (K.tmod 13=8->IJ K l v (nX 9 [] 0 0 0 [] [] [] []))/\(K.tmod 13=9->IJ K l v (nX 10 (aV P) 0 0 0 [] [] [] []))/\(K.tmod 13=10->IJ K l v (nX 11 [] 0 0 0 [] (an Lc) [] [])) /\
   (K.tmod 13=11->IJ K l v (nX 12 [] n 0 0 [] [] [] []))/\(K.tmod 13=12->IJ K l v (nX 13 [] n 0 0 [] [] [] [])):=by
 obtain⟨r,I1,js,cl⟩:=gg l hl;have sp:∀p∈r,SP p:=fun p hp=>(js p hp).sp (by omega)
 obtain⟨r1,h1,h2,cp⟩:=RU r sp (by omega) 2 (by omega) (by omega) 1 (by omega);obtain⟨P,hP⟩:∃P,r1=[P]:=by
  match r1,h1 with
  | [P],_=>exact⟨P,rfl⟩
 subst hP;have sP:=h2 P List.mem_cons_self;obtain⟨a,a1,a2,ca⟩:=Af v hv 1 (by omega) (by omega);obtain⟨n,hn⟩:∃n:Int,n=IntKind.wrap .i64 ((BitVec.ofInt 64 a &&& BitVec.ofInt 64 (7:Nat)).toNat):=⟨_,rfl⟩;have Ft:0<=n/\n<=7:=by rw[hn];exact jk a 7 (by omega)
 rw[show an [P]=[[.aa false (aV P)]] from rfl]at cp;obtain⟨q,hq⟩:∃q:Int,q=IntKind.wrap .i64 ((BitVec.ofInt 64 n &&& BitVec.ofInt 64 (3:Nat)).toNat):=⟨_,rfl⟩;have YT:0<=q/\q<=3:=by rw[hq];exact jk n 3 (by omega)
 obtain⟨rl,g1,g2,cq⟩:=RU r sp (by omega) 1 (by omega) (by omega) q.toNat (by omega);rw[Int.toNat_of_nonneg YT.1]at cq;obtain⟨b,b1,b2,cb⟩:=Af v hv 2 (by omega) (by omega);obtain⟨bu,hbu⟩:∃u:Int,u=IntKind.wrap .u8 b:=⟨_,rfl⟩;have Yh:0<=bu/\bu<256:=by
  rw[hbu];unfold IntKind.wrap;simp[IntKind.bits,IntKind.signed];omega
 obtain⟨O,hO,cs⟩:=yd bu Yh.1 Yh.2;obtain⟨d,d1,d2,ce⟩:=Af v hv 3 (by omega) (by omega);obtain⟨c,hc⟩:∃q:Int,q=IntKind.wrap .i64 ((BitVec.ofInt 64 d &&& BitVec.ofInt 64 (15:Nat)).toNat):=⟨_,rfl⟩;have Kj:0<=c/\c<=15:=by rw[hc];exact jk d 15 (by omega)
 obtain⟨cd,Xi⟩:∃c,c=q-1:=⟨_,rfl⟩;have t3:n.tdiv 3=n/3:=Int.tdiv_eq_ediv_of_nonneg Ft.1;have t2:n.tdiv 2=n/2:=Int.tdiv_eq_ediv_of_nonneg Ft.1;obtain⟨n3,PI⟩:∃c,c=n.tdiv 3:=⟨_,rfl⟩;obtain⟨dd,hdd⟩:∃c,c=n-n3:=⟨_,rfl⟩;obtain⟨rr,hrr⟩:∃c,c=n.tdiv 2:=⟨_,rfl⟩;refine⟨P,O,rl,n,q,c,cd,dd,rr,sP,hO,g2,by omega,by omega,by omega,by omega,by omega,?_,?_,?_,?_,?_,?_,?_,?_,?_,?_,?_⟩
 all_goals
  unfold IJ mq nX;intro hK;clear g2 sP hO h2 sp js hl hv;generalize aV P=XP,an r=X,Cg l=XL,W .i8 v=XV,an rl=XQ,gD O=XO at *
  as_aux_lemma=>
   refine ep aj mixed [.val] Tryz.func32 rfl rfl (by kernel_rfl) fun zD _ zG _ zI _ _ _ zN _ _ _ _ _ _ _ _ _ _ _ _ _ _ _ _ _ _ _ _ _ _ _ _ _ A L F hS hF=>?_
   have Tk:=(hS.rem K 13).trans hK;have en:zN .i64 a 7=n:=by rw[hS.kI,hn];rfl
   have eq:zN .i64 n 3=q:=by rw[hS.kI,hq];rfl
   have ec:zN .i64 d 15=c:=by rw[hS.kI,hc];rfl
   have eb:aA zD .u8 b=bu:=by rw[hS.wrap,hbu]
   have es:aA zD .i64 (mK zG q 1)=cd:=by rw[hS.sub,hS.wrap,Xi];exact wrap_i64 (by omega) (by omega)
   have eu:aA zD .i64 (xR zI n 3)=n3:=by rw[hS.quo,hS.wrap,PI];exact wrap_i64 (by omega) (by omega)
   have ev:aA zD .i64 (mK zG n n3)=dd:=by rw[hS.sub,hS.wrap,hdd];exact wrap_i64 (by omega) (by omega)
   have ew:aA zD .i64 (xR zI n 2)=rr:=by rw[hS.quo,hS.wrap,hrr];exact wrap_i64 (by omega) (by omega)
   cbv at Tk eb es eu ev ew;cbv;repeat (first|apply bT rfl|apply bF rfl|apply nd rfl|(refine tT rfl ?_;cbv)|(refine tF rfl ?_;cbv)|(simp only[Tk];cbv)|(simp only[en];cbv)|(simp only[eq];cbv)|(simp only[ec];cbv)|(simp only[eb];cbv)|(simp only[es];cbv)|(simp only[eu];cbv)|(simp only[ev];cbv)|(simp only[ew];cbv)|(refine⟨_,hS.call cl,?_⟩;cbv)|(refine⟨_,hS.call cp,?_⟩;cbv)|(refine⟨_,hS.call ca,?_⟩;cbv)|(refine⟨_,hS.call cb,?_⟩;cbv)|(refine⟨_,hS.call cs,?_⟩;cbv)|(refine⟨_,hS.call ce,?_⟩;cbv)|(refine⟨_,hS.call cq,?_⟩;cbv))
   refine gX hF ?_;repeat' (first|exact trivial|exact aW.refl _|exact aW.drop _ _|refine⟨?_,?_⟩)
end Go.Proofs.YtekefilngojelaaGreat
end
