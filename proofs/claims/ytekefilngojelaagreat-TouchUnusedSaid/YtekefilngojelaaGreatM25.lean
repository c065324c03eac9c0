/-
  A part of the proof: TuG3t.
-/
import Derived.Test.YtekefilngojelaaGreatM22
import Derived.Test.YtekefilngojelaaGreatM24
set_option maxHeartbeats 0
set_option maxRecDepth 100000
set_option linter.unusedVariables false
set_option linter.unusedSimpArgs false
set_option linter.unusedSectionVars false
section
namespace Go.Proofs.YtekefilngojelaaGreat
open Go Go.Abs Go.Abs.M Go.Proofs
theorem nT (a:Int) (m:Nat) (hm:m<1000):0<=IntKind.wrap .i64 ((BitVec.ofInt 64 a &&& BitVec.ofInt 64 m).toNat)/\IntKind.wrap .i64 ((BitVec.ofInt 64 a &&& BitVec.ofInt 64 m).toNat)<=m:=by
 have:(BitVec.ofInt 64 a &&& BitVec.ofInt 64 m).toNat<=m:=by
  rw[BitVec.toNat_and];refine Nat.le_trans Nat.and_le_right ?_;rw[BitVec.toNat_ofInt];omega
 rw[wrap_i64 (by omega) (by omega)];omega
def bQ (K:Int) (l:List (List R5)) (v:List Int):List Tree:=[.v (.int .u8 K),.aa false (gl l),.aa false (W .i8 v)]
theorem IA (K:Int) (l:List (List R5)) (hl:pP l) (v:List Int) (hv:nS v) (hK:K.tmod 13=0) :
  ∃P,SP P/\aA Tryz.prog 32 [.val (.agg (bQ K l v))] ⟨[.val (.agg [.v (.int .i64 1),.aa false (bo P),.v (.int .i64 0),.v (.int .i64 0),.v (.int .i64 0),.aa false [],.aa false [],.aa false [],.aa false []])],[none]⟩:=by
 obtain⟨r,na,eL,cl⟩:=sZ l hl;have sp:∀p∈r,SP p:=fun p hp=>(eL p hp).sp (by omega)
 obtain⟨r1,h1,h2,cp⟩:=sW r sp (by omega) 2 (by omega) (by omega) 1 (by omega);obtain⟨P,hP⟩:∃P,r1=[P]:=by
  match r1,h1 with
  | [P],_=>exact⟨P,rfl⟩
 subst hP;have sP:=h2 P List.mem_cons_self;obtain⟨a,a1,a2,ca⟩:=jg v hv 1 (by omega) (by omega);obtain⟨n,hn⟩:∃n:Int,n=IntKind.wrap .i64 ((BitVec.ofInt 64 a &&& BitVec.ofInt 64 (7:Nat)).toNat):=⟨_,rfl⟩;have tH:0<=n/\n<=7:=by rw[hn];exact nT a 7 (by omega)
 rw[show aQ [P]=[[.aa false (bo P)]] from rfl]at cp;refine⟨P,sP,?_⟩;unfold bQ;generalize bo P=XP at *;generalize aQ r=X at *;generalize gl l=XL at *;generalize W .i8 v=XV at *;refine bz aD mixed [.val] Tryz.func32 rfl rfl (by kernel_rfl) fun zD zE zG zH zI zJ zK zL zM zN zO zR zS zT zU zV zX zY zZ zg zh zj zu zy zz aK ah aI aH ak aq ae aE aB aG ao az aJ an aO au aP ai aM aN ay aw aL ar zW bc A L F hS hF=>?_
 have kE:zJ K 13=0:=by rw[hS.rem];exact hK
 have en:zM .i64 a 7=n:=by rw[hS.bP,hn];rfl
 have j1:aE [[Tree.aa false XP]] 0=some [.aa false XP]:=by rw[hS.nth];rfl
 refine bg ?_;cbv;refine⟨_,hS.call (cl),?_⟩;cbv;simp only[kE];cbv;repeat (first|(refine tT rfl ?_;cbv)|(refine tF rfl ?_;cbv)|(refine nd rfl ?_;cbv))
 refine⟨_,hS.call (cp),?_⟩;cbv;simp only[j1];cbv;repeat (first|(refine tT rfl ?_;cbv)|(refine tF rfl ?_;cbv)|(refine nd rfl ?_;cbv))
 refine⟨_,hS.call (ca),?_⟩;cbv;simp only[en];cbv;repeat (first|(refine tT rfl ?_;cbv)|(refine tF rfl ?_;cbv)|(refine nd rfl ?_;cbv))
 exact bE hF ⟨ab.refl _,ab.refl _,ab.refl _,ab.refl _,ab.refl _,ab.drop _ _,ab.drop _ _,ab.drop _ _,ab.drop _ _,trivial⟩
theorem IB (K:Int) (l:List (List R5)) (hl:pP l) (v:List Int) (hv:nS v) (hK:K.tmod 13=1) :
  ∃P,SP P/\aA Tryz.prog 32 [.val (.agg (bQ K l v))] ⟨[.val (.agg [.v (.int .i64 2),.aa false (bo P),.v (.int .i64 0),.v (.int .i64 0),.v (.int .i64 0),.aa false [],.aa false [],.aa false [],.aa false []])],[none]⟩:=by
 obtain⟨r,na,eL,cl⟩:=sZ l hl;have sp:∀p∈r,SP p:=fun p hp=>(eL p hp).sp (by omega)
 obtain⟨r1,h1,h2,cp⟩:=sW r sp (by omega) 2 (by omega) (by omega) 1 (by omega);obtain⟨P,hP⟩:∃P,r1=[P]:=by
  match r1,h1 with
  | [P],_=>exact⟨P,rfl⟩
 subst hP;have sP:=h2 P List.mem_cons_self;obtain⟨a,a1,a2,ca⟩:=jg v hv 1 (by omega) (by omega);obtain⟨n,hn⟩:∃n:Int,n=IntKind.wrap .i64 ((BitVec.ofInt 64 a &&& BitVec.ofInt 64 (7:Nat)).toNat):=⟨_,rfl⟩;have tH:0<=n/\n<=7:=by rw[hn];exact nT a 7 (by omega)
 rw[show aQ [P]=[[.aa false (bo P)]] from rfl]at cp;refine⟨P,sP,?_⟩;unfold bQ;generalize bo P=XP at *;generalize aQ r=X at *;generalize gl l=XL at *;generalize W .i8 v=XV at *;refine bz aD mixed [.val] Tryz.func32 rfl rfl (by kernel_rfl) fun zD zE zG zH zI zJ zK zL zM zN zO zR zS zT zU zV zX zY zZ zg zh zj zu zy zz aK ah aI aH ak aq ae aE aB aG ao az aJ an aO au aP ai aM aN ay aw aL ar zW bc A L F hS hF=>?_
 have kE:zJ K 13=1:=by rw[hS.rem];exact hK
 have en:zM .i64 a 7=n:=by rw[hS.bP,hn];rfl
 have j1:aE [[Tree.aa false XP]] 0=some [.aa false XP]:=by rw[hS.nth];rfl
 refine bg ?_;cbv;refine⟨_,hS.call (cl),?_⟩;cbv;simp only[kE];cbv;repeat (first|(refine tT rfl ?_;cbv)|(refine tF rfl ?_;cbv)|(refine nd rfl ?_;cbv))
 refine⟨_,hS.call (cp),?_⟩;cbv;simp only[j1];cbv;repeat (first|(refine tT rfl ?_;cbv)|(refine tF rfl ?_;cbv)|(refine nd rfl ?_;cbv))
 refine⟨_,hS.call (ca),?_⟩;cbv;simp only[en];cbv;repeat (first|(refine tT rfl ?_;cbv)|(refine tF rfl ?_;cbv)|(refine nd rfl ?_;cbv))
 exact bE hF ⟨ab.refl _,ab.refl _,ab.refl _,ab.refl _,ab.refl _,ab.drop _ _,ab.drop _ _,ab.drop _ _,ab.drop _ _,trivial⟩
theorem IC (K:Int) (l:List (List R5)) (hl:pP l) (v:List Int) (hv:nS v) (hK:K.tmod 13=2) :
  aA Tryz.prog 32 [.val (.agg (bQ K l v))] ⟨[.val (.agg [.v (.int .i64 3),.aa false [],.v (.int .i64 0),.v (.int .i64 0),.v (.int .i64 0),.aa false [],.aa false [],.aa false [],.aa false []])],[none]⟩:=by
 obtain⟨r,na,eL,cl⟩:=sZ l hl;have sp:∀p∈r,SP p:=fun p hp=>(eL p hp).sp (by omega)
 obtain⟨r1,h1,h2,cp⟩:=sW r sp (by omega) 2 (by omega) (by omega) 1 (by omega);obtain⟨P,hP⟩:∃P,r1=[P]:=by
  match r1,h1 with
  | [P],_=>exact⟨P,rfl⟩
 subst hP;have sP:=h2 P List.mem_cons_self;obtain⟨a,a1,a2,ca⟩:=jg v hv 1 (by omega) (by omega);obtain⟨n,hn⟩:∃n:Int,n=IntKind.wrap .i64 ((BitVec.ofInt 64 a &&& BitVec.ofInt 64 (7:Nat)).toNat):=⟨_,rfl⟩;have tH:0<=n/\n<=7:=by rw[hn];exact nT a 7 (by omega)
 rw[show aQ [P]=[[.aa false (bo P)]] from rfl]at cp;unfold bQ;generalize bo P=XP at *;generalize aQ r=X at *;generalize gl l=XL at *;generalize W .i8 v=XV at *;refine bz aD mixed [.val] Tryz.func32 rfl rfl (by kernel_rfl) fun zD zE zG zH zI zJ zK zL zM zN zO zR zS zT zU zV zX zY zZ zg zh zj zu zy zz aK ah aI aH ak aq ae aE aB aG ao az aJ an aO au aP ai aM aN ay aw aL ar zW bc A L F hS hF=>?_
 have kE:zJ K 13=2:=by rw[hS.rem];exact hK
 have en:zM .i64 a 7=n:=by rw[hS.bP,hn];rfl
 have j1:aE [[Tree.aa false XP]] 0=some [.aa false XP]:=by rw[hS.nth];rfl
 refine bg ?_;cbv;refine⟨_,hS.call (cl),?_⟩;cbv;simp only[kE];cbv;repeat (first|(refine tT rfl ?_;cbv)|(refine tF rfl ?_;cbv)|(refine nd rfl ?_;cbv))
 refine⟨_,hS.call (cp),?_⟩;cbv;simp only[j1];cbv;repeat (first|(refine tT rfl ?_;cbv)|(refine tF rfl ?_;cbv)|(refine nd rfl ?_;cbv))
 refine⟨_,hS.call (ca),?_⟩;cbv;simp only[en];cbv;repeat (first|(refine tT rfl ?_;cbv)|(refine tF rfl ?_;cbv)|(refine nd rfl ?_;cbv))
 exact bE hF ⟨ab.refl _,ab.drop _ _,ab.refl _,ab.refl _,ab.refl _,ab.drop _ _,ab.drop _ _,ab.drop _ _,ab.drop _ _,trivial⟩
theorem ID (K:Int) (l:List (List R5)) (hl:pP l) (v:List Int) (hv:nS v) (hK:K.tmod 13=3) :
  ∃(O:List R8) (Lc:List (List T2)),BG O/\(∀p∈Lc,SP p)/\Lc.length<=3/\aA Tryz.prog 32 [.val (.agg (bQ K l v))] ⟨[.val (.agg [.v (.int .i64 4),.aa false [],.v (.int .i64 0),.v (.int .i64 0),.v (.int .i64 0),.aa false (iq O),.aa false (aQ Lc),.aa false [],.aa false []])],[none]⟩:=by
 obtain⟨r,na,eL,cl⟩:=sZ l hl;have sp:∀p∈r,SP p:=fun p hp=>(eL p hp).sp (by omega)
 obtain⟨r1,h1,h2,cp⟩:=sW r sp (by omega) 2 (by omega) (by omega) 1 (by omega);obtain⟨P,hP⟩:∃P,r1=[P]:=by
  match r1,h1 with
  | [P],_=>exact⟨P,rfl⟩
 subst hP;have sP:=h2 P List.mem_cons_self;obtain⟨a,a1,a2,ca⟩:=jg v hv 1 (by omega) (by omega);obtain⟨n,hn⟩:∃n:Int,n=IntKind.wrap .i64 ((BitVec.ofInt 64 a &&& BitVec.ofInt 64 (7:Nat)).toNat):=⟨_,rfl⟩;have tH:0<=n/\n<=7:=by rw[hn];exact nT a 7 (by omega)
 rw[show aQ [P]=[[.aa false (bo P)]] from rfl]at cp;obtain⟨q,hq⟩:∃q:Int,q=IntKind.wrap .i64 ((BitVec.ofInt 64 n &&& BitVec.ofInt 64 (3:Nat)).toNat):=⟨_,rfl⟩;have N7:0<=q/\q<=3:=by rw[hq];exact nT n 3 (by omega)
 obtain⟨rl,g1,g2,cq⟩:=sW r sp (by omega) 1 (by omega) (by omega) q.toNat (by omega);rw[Int.toNat_of_nonneg N7.1]at cq;obtain⟨b,b1,b2,cb⟩:=jg v hv 2 (by omega) (by omega);obtain⟨bu,hbu⟩:∃u:Int,u=IntKind.wrap .u8 b:=⟨_,rfl⟩;have Up:0<=bu/\bu<256:=by
  rw[hbu];unfold IntKind.wrap;simp[IntKind.bits,IntKind.signed];omega
 obtain⟨O,hO,cs⟩:=wP bu Up.1 Up.2;refine⟨O,rl,hO,g2,by omega,?_⟩;unfold bQ;generalize bo P=XP at *;generalize aQ r=X at *;generalize gl l=XL at *;generalize W .i8 v=XV at *;generalize aQ rl=XQ at *;generalize iq O=XO at *;refine bz aD mixed [.val] Tryz.func32 rfl rfl (by kernel_rfl) fun zD zE zG zH zI zJ zK zL zM zN zO zR zS zT zU zV zX zY zZ zg zh zj zu zy zz aK ah aI aH ak aq ae aE aB aG ao az aJ an aO au aP ai aM aN ay aw aL ar zW bc A L F hS hF=>?_
 have kE:zJ K 13=3:=by rw[hS.rem];exact hK
 have en:zM .i64 a 7=n:=by rw[hS.bP,hn];rfl
 have j1:aE [[Tree.aa false XP]] 0=some [.aa false XP]:=by rw[hS.nth];rfl
 refine bg ?_;cbv;refine⟨_,hS.call (cl),?_⟩;cbv;simp only[kE];cbv;repeat (first|(refine tT rfl ?_;cbv)|(refine tF rfl ?_;cbv)|(refine nd rfl ?_;cbv))
 refine⟨_,hS.call (cp),?_⟩;cbv;simp only[j1];cbv;repeat (first|(refine tT rfl ?_;cbv)|(refine tF rfl ?_;cbv)|(refine nd rfl ?_;cbv))
 refine⟨_,hS.call (ca),?_⟩;cbv;simp only[en];cbv;repeat (first|(refine tT rfl ?_;cbv)|(refine tF rfl ?_;cbv)|(refine nd rfl ?_;cbv))
 have eq:zM .i64 n 3=q:=by rw[hS.bP,hq];rfl
 rw[<-eq]at cq;have eb:aZ zD .u8 b=bu:=by rw[hS.wrap,hbu]
 rw[<-eb]at cs;refine⟨_,hS.call (cb),?_⟩;cbv;refine⟨_,hS.call (cs),?_⟩;cbv;refine⟨_,hS.call (cq),?_⟩;cbv;repeat (first|(refine tT rfl ?_;cbv)|(refine tF rfl ?_;cbv)|(refine nd rfl ?_;cbv))
 exact bE hF ⟨ab.refl _,ab.drop _ _,ab.refl _,ab.refl _,ab.refl _,ab.refl _,ab.refl _,ab.drop _ _,ab.drop _ _,trivial⟩
theorem IE (K:Int) (l:List (List R5)) (hl:pP l) (v:List Int) (hv:nS v) (hK:K.tmod 13=4) :
  ∃cn cd:Int,(0<=cn/\cn<=15)/\(-1<=cd/\cd<=2)/\aA Tryz.prog 32 [.val (.agg (bQ K l v))] ⟨[.val (.agg [.v (.int .i64 5),.aa false [],.v (.int .i64 cn),.v (.int .i64 cd),.v (.int .i64 0),.aa false [],.aa false [],.aa false [],.aa false []])],[none]⟩:=by
 obtain⟨r,na,eL,cl⟩:=sZ l hl;have sp:∀p∈r,SP p:=fun p hp=>(eL p hp).sp (by omega)
 obtain⟨r1,h1,h2,cp⟩:=sW r sp (by omega) 2 (by omega) (by omega) 1 (by omega);obtain⟨P,hP⟩:∃P,r1=[P]:=by
  match r1,h1 with
  | [P],_=>exact⟨P,rfl⟩
 subst hP;have sP:=h2 P List.mem_cons_self;obtain⟨a,a1,a2,ca⟩:=jg v hv 1 (by omega) (by omega);obtain⟨n,hn⟩:∃n:Int,n=IntKind.wrap .i64 ((BitVec.ofInt 64 a &&& BitVec.ofInt 64 (7:Nat)).toNat):=⟨_,rfl⟩;have tH:0<=n/\n<=7:=by rw[hn];exact nT a 7 (by omega)
 rw[show aQ [P]=[[.aa false (bo P)]] from rfl]at cp;obtain⟨b,b1,b2,cb⟩:=jg v hv 3 (by omega) (by omega);obtain⟨q,hq⟩:∃q:Int,q=IntKind.wrap .i64 ((BitVec.ofInt 64 n &&& BitVec.ofInt 64 (3:Nat)).toNat):=⟨_,rfl⟩;have N7:0<=q/\q<=3:=by rw[hq];exact nT n 3 (by omega)
 obtain⟨c,hc⟩:∃q:Int,q=IntKind.wrap .i64 ((BitVec.ofInt 64 b &&& BitVec.ofInt 64 (15:Nat)).toNat):=⟨_,rfl⟩;have Hu:0<=c/\c<=15:=by rw[hc];exact nT b 15 (by omega)
 obtain⟨cd,ZQ⟩:∃c,c=q-1:=⟨_,rfl⟩;refine⟨c,cd,by omega,by omega,?_⟩;unfold bQ;generalize bo P=XP at *;generalize aQ r=X at *;generalize gl l=XL at *;generalize W .i8 v=XV at *;refine bz aD mixed [.val] Tryz.func32 rfl rfl (by kernel_rfl) fun zD zE zG zH zI zJ zK zL zM zN zO zR zS zT zU zV zX zY zZ zg zh zj zu zy zz aK ah aI aH ak aq ae aE aB aG ao az aJ an aO au aP ai aM aN ay aw aL ar zW bc A L F hS hF=>?_
 have kE:zJ K 13=4:=by rw[hS.rem];exact hK
 have en:zM .i64 a 7=n:=by rw[hS.bP,hn];rfl
 have j1:aE [[Tree.aa false XP]] 0=some [.aa false XP]:=by rw[hS.nth];rfl
 refine bg ?_;cbv;refine⟨_,hS.call (cl),?_⟩;cbv;simp only[kE];cbv;repeat (first|(refine tT rfl ?_;cbv)|(refine tF rfl ?_;cbv)|(refine nd rfl ?_;cbv))
 refine⟨_,hS.call (cp),?_⟩;cbv;simp only[j1];cbv;repeat (first|(refine tT rfl ?_;cbv)|(refine tF rfl ?_;cbv)|(refine nd rfl ?_;cbv))
 refine⟨_,hS.call (ca),?_⟩;cbv;simp only[en];cbv;repeat (first|(refine tT rfl ?_;cbv)|(refine tF rfl ?_;cbv)|(refine nd rfl ?_;cbv))
 have eq:zM .i64 n 3=q:=by rw[hS.bP,hq];rfl
 have ec:zM .i64 b 15=c:=by rw[hS.bP,hc];rfl
 have es:aZ zD .i64 (jk zG (zM .i64 n 3) 1)=cd:=by rw[eq,hS.sub,hS.wrap,ZQ];exact wrap_i64 (by omega) (by omega)
 refine⟨_,hS.call (cb),?_⟩;cbv;repeat (first|(refine tT rfl ?_;cbv)|(refine tF rfl ?_;cbv)|(refine nd rfl ?_;cbv))
 rw[<-es,<-ec]at hF;exact bE hF ⟨ab.refl _,ab.drop _ _,ab.refl _,ab.refl _,ab.refl _,ab.drop _ _,ab.drop _ _,ab.drop _ _,ab.drop _ _,trivial⟩
theorem IF (K:Int) (l:List (List R5)) (hl:pP l) (v:List Int) (hv:nS v) (hK:K.tmod 13=5) :
  ∃cn cd cr:Int,(0<=cn/\cn<=7)/\(0<=cr/\cr<=cd/\cd<=cn)/\aA Tryz.prog 32 [.val (.agg (bQ K l v))] ⟨[.val (.agg [.v (.int .i64 6),.aa false [],.v (.int .i64 cn),.v (.int .i64 cd),.v (.int .i64 cr),.aa false [],.aa false [],.aa false [],.aa false []])],[none]⟩:=by
 obtain⟨r,na,eL,cl⟩:=sZ l hl;have sp:∀p∈r,SP p:=fun p hp=>(eL p hp).sp (by omega)
 obtain⟨r1,h1,h2,cp⟩:=sW r sp (by omega) 2 (by omega) (by omega) 1 (by omega);obtain⟨P,hP⟩:∃P,r1=[P]:=by
  match r1,h1 with
  | [P],_=>exact⟨P,rfl⟩
 subst hP;have sP:=h2 P List.mem_cons_self;obtain⟨a,a1,a2,ca⟩:=jg v hv 1 (by omega) (by omega);obtain⟨n,hn⟩:∃n:Int,n=IntKind.wrap .i64 ((BitVec.ofInt 64 a &&& BitVec.ofInt 64 (7:Nat)).toNat):=⟨_,rfl⟩;have tH:0<=n/\n<=7:=by rw[hn];exact nT a 7 (by omega)
 rw[show aQ [P]=[[.aa false (bo P)]] from rfl]at cp;have t3:n.tdiv 3=n/3:=Int.tdiv_eq_ediv_of_nonneg tH.1;have t2:n.tdiv 2=n/2:=Int.tdiv_eq_ediv_of_nonneg tH.1;obtain⟨cd,ZQ⟩:∃c,c=n-n.tdiv 3:=⟨_,rfl⟩;obtain⟨cr,hcr⟩:∃c,c=n.tdiv 2:=⟨_,rfl⟩;refine⟨n,cd,cr,by omega,by omega,?_⟩;unfold bQ;generalize bo P=XP at *;generalize aQ r=X at *;generalize gl l=XL at *;generalize W .i8 v=XV at *
 refine bz aD mixed [.val] Tryz.func32 rfl rfl (by kernel_rfl) fun zD zE zG zH zI zJ zK zL zM zN zO zR zS zT zU zV zX zY zZ zg zh zj zu zy zz aK ah aI aH ak aq ae aE aB aG ao az aJ an aO au aP ai aM aN ay aw aL ar zW bc A L F hS hF=>?_
 have kE:zJ K 13=5:=by rw[hS.rem];exact hK
 have en:zM .i64 a 7=n:=by rw[hS.bP,hn];rfl
 have j1:aE [[Tree.aa false XP]] 0=some [.aa false XP]:=by rw[hS.nth];rfl
 refine bg ?_;cbv;refine⟨_,hS.call (cl),?_⟩;cbv;simp only[kE];cbv;repeat (first|(refine tT rfl ?_;cbv)|(refine tF rfl ?_;cbv)|(refine nd rfl ?_;cbv))
 refine⟨_,hS.call (cp),?_⟩;cbv;simp only[j1];cbv;repeat (first|(refine tT rfl ?_;cbv)|(refine tF rfl ?_;cbv)|(refine nd rfl ?_;cbv))
 refine⟨_,hS.call (ca),?_⟩;cbv;simp only[en];cbv;repeat (first|(refine tT rfl ?_;cbv)|(refine tF rfl ?_;cbv)|(refine nd rfl ?_;cbv))
 have es:aZ zD .i64 (jk zG n (aZ zD .i64 (zI n 3)))=cd:=by
  have e1:aZ zD .i64 (zI n 3)=n.tdiv 3:=by rw[hS.quo,hS.wrap];exact wrap_i64 (by omega) (by omega)
  rw[e1,hS.sub,hS.wrap,ZQ];exact wrap_i64 (by omega) (by omega)
 have et:aZ zD .i64 (zI n 2)=cr:=by rw[hS.quo,hS.wrap,hcr];exact wrap_i64 (by omega) (by omega)
 rw[<-es,<-et]at hF;exact bE hF ⟨ab.refl _,ab.drop _ _,ab.refl _,ab.refl _,ab.refl _,ab.drop _ _,ab.drop _ _,ab.drop _ _,ab.drop _ _,trivial⟩
theorem IG (K:Int) (l:List (List R5)) (hl:pP l) (v:List Int) (hv:nS v) (hK:K.tmod 13=8) :
  aA Tryz.prog 32 [.val (.agg (bQ K l v))] ⟨[.val (.agg [.v (.int .i64 9),.aa false [],.v (.int .i64 0),.v (.int .i64 0),.v (.int .i64 0),.aa false [],.aa false [],.aa false [],.aa false []])],[none]⟩:=by
 obtain⟨r,na,eL,cl⟩:=sZ l hl;have sp:∀p∈r,SP p:=fun p hp=>(eL p hp).sp (by omega)
 obtain⟨r1,h1,h2,cp⟩:=sW r sp (by omega) 2 (by omega) (by omega) 1 (by omega);obtain⟨P,hP⟩:∃P,r1=[P]:=by
  match r1,h1 with
  | [P],_=>exact⟨P,rfl⟩
 subst hP;have sP:=h2 P List.mem_cons_self;obtain⟨a,a1,a2,ca⟩:=jg v hv 1 (by omega) (by omega);obtain⟨n,hn⟩:∃n:Int,n=IntKind.wrap .i64 ((BitVec.ofInt 64 a &&& BitVec.ofInt 64 (7:Nat)).toNat):=⟨_,rfl⟩;have tH:0<=n/\n<=7:=by rw[hn];exact nT a 7 (by omega)
 rw[show aQ [P]=[[.aa false (bo P)]] from rfl]at cp;unfold bQ;generalize bo P=XP at *;generalize aQ r=X at *;generalize gl l=XL at *;generalize W .i8 v=XV at *;refine bz aD mixed [.val] Tryz.func32 rfl rfl (by kernel_rfl) fun zD zE zG zH zI zJ zK zL zM zN zO zR zS zT zU zV zX zY zZ zg zh zj zu zy zz aK ah aI aH ak aq ae aE aB aG ao az aJ an aO au aP ai aM aN ay aw aL ar zW bc A L F hS hF=>?_
 have kE:zJ K 13=8:=by rw[hS.rem];exact hK
 have en:zM .i64 a 7=n:=by rw[hS.bP,hn];rfl
 have j1:aE [[Tree.aa false XP]] 0=some [.aa false XP]:=by rw[hS.nth];rfl
 refine bg ?_;cbv;refine⟨_,hS.call (cl),?_⟩;cbv;simp only[kE];cbv;repeat (first|(refine tT rfl ?_;cbv)|(refine tF rfl ?_;cbv)|(refine nd rfl ?_;cbv))
 refine⟨_,hS.call (cp),?_⟩;cbv;simp only[j1];cbv;repeat (first|(refine tT rfl ?_;cbv)|(refine tF rfl ?_;cbv)|(refine nd rfl ?_;cbv))
 refine⟨_,hS.call (ca),?_⟩;cbv;simp only[en];cbv;repeat (first|(refine tT rfl ?_;cbv)|(refine tF rfl ?_;cbv)|(refine nd rfl ?_;cbv))
 exact bE hF ⟨ab.refl _,ab.drop _ _,ab.refl _,ab.refl _,ab.refl _,ab.drop _ _,ab.drop _ _,ab.drop _ _,ab.drop _ _,trivial⟩
theorem F8 (K:Int) (l:List (List R5)) (hl:pP l) (v:List Int) (hv:nS v) (hK:K.tmod 13=9) :
  ∃P,SP P/\aA Tryz.prog 32 [.val (.agg (bQ K l v))] ⟨[.val (.agg [.v (.int .i64 10),.aa false (bo P),.v (.int .i64 0),.v (.int .i64 0),.v (.int .i64 0),.aa false [],.aa false [],.aa false [],.aa false []])],[none]⟩:=by
 obtain⟨r,na,eL,cl⟩:=sZ l hl;have sp:∀p∈r,SP p:=fun p hp=>(eL p hp).sp (by omega)
 obtain⟨r1,h1,h2,cp⟩:=sW r sp (by omega) 2 (by omega) (by omega) 1 (by omega);obtain⟨P,hP⟩:∃P,r1=[P]:=by
  match r1,h1 with
  | [P],_=>exact⟨P,rfl⟩
 subst hP;have sP:=h2 P List.mem_cons_self;obtain⟨a,a1,a2,ca⟩:=jg v hv 1 (by omega) (by omega);obtain⟨n,hn⟩:∃n:Int,n=IntKind.wrap .i64 ((BitVec.ofInt 64 a &&& BitVec.ofInt 64 (7:Nat)).toNat):=⟨_,rfl⟩;have tH:0<=n/\n<=7:=by rw[hn];exact nT a 7 (by omega)
 rw[show aQ [P]=[[.aa false (bo P)]] from rfl]at cp;refine⟨P,sP,?_⟩;unfold bQ;generalize bo P=XP at *;generalize aQ r=X at *;generalize gl l=XL at *;generalize W .i8 v=XV at *;refine bz aD mixed [.val] Tryz.func32 rfl rfl (by kernel_rfl) fun zD zE zG zH zI zJ zK zL zM zN zO zR zS zT zU zV zX zY zZ zg zh zj zu zy zz aK ah aI aH ak aq ae aE aB aG ao az aJ an aO au aP ai aM aN ay aw aL ar zW bc A L F hS hF=>?_
 have kE:zJ K 13=9:=by rw[hS.rem];exact hK
 have en:zM .i64 a 7=n:=by rw[hS.bP,hn];rfl
 have j1:aE [[Tree.aa false XP]] 0=some [.aa false XP]:=by rw[hS.nth];rfl
 refine bg ?_;cbv;refine⟨_,hS.call (cl),?_⟩;cbv;simp only[kE];cbv;repeat (first|(refine tT rfl ?_;cbv)|(refine tF rfl ?_;cbv)|(refine nd rfl ?_;cbv))
 refine⟨_,hS.call (cp),?_⟩;cbv;simp only[j1];cbv;repeat (first|(refine tT rfl ?_;cbv)|(refine tF rfl ?_;cbv)|(refine nd rfl ?_;cbv))
 refine⟨_,hS.call (ca),?_⟩;cbv;simp only[en];cbv;repeat (first|(refine tT rfl ?_;cbv)|(refine tF rfl ?_;cbv)|(refine nd rfl ?_;cbv))
 exact bE hF ⟨ab.refl _,ab.refl _,ab.refl _,ab.refl _,ab.refl _,ab.drop _ _,ab.drop _ _,ab.drop _ _,ab.drop _ _,trivial⟩
theorem F9 (K:Int) (l:List (List R5)) (hl:pP l) (v:List Int) (hv:nS v) (hK:K.tmod 13=10) :
  ∃Lc:List (List T2),(∀p∈Lc,SP p)/\Lc.length<=3/\aA Tryz.prog 32 [.val (.agg (bQ K l v))] ⟨[.val (.agg [.v (.int .i64 11),.aa false [],.v (.int .i64 0),.v (.int .i64 0),.v (.int .i64 0),.aa false [],.aa false (aQ Lc),.aa false [],.aa false []])],[none]⟩:=by
 obtain⟨r,na,eL,cl⟩:=sZ l hl;have sp:∀p∈r,SP p:=fun p hp=>(eL p hp).sp (by omega)
 obtain⟨r1,h1,h2,cp⟩:=sW r sp (by omega) 2 (by omega) (by omega) 1 (by omega);obtain⟨P,hP⟩:∃P,r1=[P]:=by
  match r1,h1 with
  | [P],_=>exact⟨P,rfl⟩
 subst hP;have sP:=h2 P List.mem_cons_self;obtain⟨a,a1,a2,ca⟩:=jg v hv 1 (by omega) (by omega);obtain⟨n,hn⟩:∃n:Int,n=IntKind.wrap .i64 ((BitVec.ofInt 64 a &&& BitVec.ofInt 64 (7:Nat)).toNat):=⟨_,rfl⟩;have tH:0<=n/\n<=7:=by rw[hn];exact nT a 7 (by omega)
 rw[show aQ [P]=[[.aa false (bo P)]] from rfl]at cp;obtain⟨q,hq⟩:∃q:Int,q=IntKind.wrap .i64 ((BitVec.ofInt 64 n &&& BitVec.ofInt 64 (3:Nat)).toNat):=⟨_,rfl⟩;have N7:0<=q/\q<=3:=by rw[hq];exact nT n 3 (by omega)
 obtain⟨rl,g1,g2,cq⟩:=sW r sp (by omega) 1 (by omega) (by omega) q.toNat (by omega);rw[Int.toNat_of_nonneg N7.1]at cq;refine⟨rl,g2,by omega,?_⟩;unfold bQ;generalize bo P=XP at *;generalize aQ r=X at *;generalize gl l=XL at *;generalize W .i8 v=XV at *;generalize aQ rl=XQ at *;refine bz aD mixed [.val] Tryz.func32 rfl rfl (by kernel_rfl) fun zD zE zG zH zI zJ zK zL zM zN zO zR zS zT zU zV zX zY zZ zg zh zj zu zy zz aK ah aI aH ak aq ae aE aB aG ao az aJ an aO au aP ai aM aN ay aw aL ar zW bc A L F hS hF=>?_
 have kE:zJ K 13=10:=by rw[hS.rem];exact hK
 have en:zM .i64 a 7=n:=by rw[hS.bP,hn];rfl
 have j1:aE [[Tree.aa false XP]] 0=some [.aa false XP]:=by rw[hS.nth];rfl
 refine bg ?_;cbv;refine⟨_,hS.call (cl),?_⟩;cbv;simp only[kE];cbv;repeat (first|(refine tT rfl ?_;cbv)|(refine tF rfl ?_;cbv)|(refine nd rfl ?_;cbv))
 refine⟨_,hS.call (cp),?_⟩;cbv;simp only[j1];cbv;repeat (first|(refine tT rfl ?_;cbv)|(refine tF rfl ?_;cbv)|(refine nd rfl ?_;cbv))
 refine⟨_,hS.call (ca),?_⟩;cbv;simp only[en];cbv;repeat (first|(refine tT rfl ?_;cbv)|(refine tF rfl ?_;cbv)|(refine nd rfl ?_;cbv))
 have eq:zM .i64 n 3=q:=by rw[hS.bP,hq];rfl
 rw[<-eq]at cq;refine⟨_,hS.call (cq),?_⟩;cbv;repeat (first|(refine tT rfl ?_;cbv)|(refine tF rfl ?_;cbv)|(refine nd rfl ?_;cbv))
 exact bE hF ⟨ab.refl _,ab.drop _ _,ab.refl _,ab.refl _,ab.refl _,ab.drop _ _,ab.refl _,ab.drop _ _,ab.drop _ _,trivial⟩
theorem Ga (K:Int) (l:List (List R5)) (hl:pP l) (v:List Int) (hv:nS v) (hK:K.tmod 13=11) :
  ∃cn:Int,(0<=cn/\cn<=7)/\aA Tryz.prog 32 [.val (.agg (bQ K l v))] ⟨[.val (.agg [.v (.int .i64 12),.aa false [],.v (.int .i64 cn),.v (.int .i64 0),.v (.int .i64 0),.aa false [],.aa false [],.aa false [],.aa false []])],[none]⟩:=by
 obtain⟨r,na,eL,cl⟩:=sZ l hl;have sp:∀p∈r,SP p:=fun p hp=>(eL p hp).sp (by omega)
 obtain⟨r1,h1,h2,cp⟩:=sW r sp (by omega) 2 (by omega) (by omega) 1 (by omega);obtain⟨P,hP⟩:∃P,r1=[P]:=by
  match r1,h1 with
  | [P],_=>exact⟨P,rfl⟩
 subst hP;have sP:=h2 P List.mem_cons_self;obtain⟨a,a1,a2,ca⟩:=jg v hv 1 (by omega) (by omega);obtain⟨n,hn⟩:∃n:Int,n=IntKind.wrap .i64 ((BitVec.ofInt 64 a &&& BitVec.ofInt 64 (7:Nat)).toNat):=⟨_,rfl⟩;have tH:0<=n/\n<=7:=by rw[hn];exact nT a 7 (by omega)
 rw[show aQ [P]=[[.aa false (bo P)]] from rfl]at cp;refine⟨n,by omega,?_⟩;unfold bQ;generalize bo P=XP at *;generalize aQ r=X at *;generalize gl l=XL at *;generalize W .i8 v=XV at *;refine bz aD mixed [.val] Tryz.func32 rfl rfl (by kernel_rfl) fun zD zE zG zH zI zJ zK zL zM zN zO zR zS zT zU zV zX zY zZ zg zh zj zu zy zz aK ah aI aH ak aq ae aE aB aG ao az aJ an aO au aP ai aM aN ay aw aL ar zW bc A L F hS hF=>?_
 have kE:zJ K 13=11:=by rw[hS.rem];exact hK
 have en:zM .i64 a 7=n:=by rw[hS.bP,hn];rfl
 have j1:aE [[Tree.aa false XP]] 0=some [.aa false XP]:=by rw[hS.nth];rfl
 refine bg ?_;cbv;refine⟨_,hS.call (cl),?_⟩;cbv;simp only[kE];cbv;repeat (first|(refine tT rfl ?_;cbv)|(refine tF rfl ?_;cbv)|(refine nd rfl ?_;cbv))
 refine⟨_,hS.call (cp),?_⟩;cbv;simp only[j1];cbv;repeat (first|(refine tT rfl ?_;cbv)|(refine tF rfl ?_;cbv)|(refine nd rfl ?_;cbv))
 refine⟨_,hS.call (ca),?_⟩;cbv;simp only[en];cbv;repeat (first|(refine tT rfl ?_;cbv)|(refine tF rfl ?_;cbv)|(refine nd rfl ?_;cbv))
 exact bE hF ⟨ab.refl _,ab.drop _ _,ab.refl _,ab.refl _,ab.refl _,ab.drop _ _,ab.drop _ _,ab.drop _ _,ab.drop _ _,trivial⟩
theorem Gb (K:Int) (l:List (List R5)) (hl:pP l) (v:List Int) (hv:nS v) (hK:K.tmod 13=12) :
  ∃cn:Int,(0<=cn/\cn<=7)/\aA Tryz.prog 32 [.val (.agg (bQ K l v))] ⟨[.val (.agg [.v (.int .i64 13),.aa false [],.v (.int .i64 cn),.v (.int .i64 0),.v (.int .i64 0),.aa false [],.aa false [],.aa false [],.aa false []])],[none]⟩:=by
 obtain⟨r,na,eL,cl⟩:=sZ l hl;have sp:∀p∈r,SP p:=fun p hp=>(eL p hp).sp (by omega)
 obtain⟨r1,h1,h2,cp⟩:=sW r sp (by omega) 2 (by omega) (by omega) 1 (by omega);obtain⟨P,hP⟩:∃P,r1=[P]:=by
  match r1,h1 with
  | [P],_=>exact⟨P,rfl⟩
 subst hP;have sP:=h2 P List.mem_cons_self;obtain⟨a,a1,a2,ca⟩:=jg v hv 1 (by omega) (by omega);obtain⟨n,hn⟩:∃n:Int,n=IntKind.wrap .i64 ((BitVec.ofInt 64 a &&& BitVec.ofInt 64 (7:Nat)).toNat):=⟨_,rfl⟩;have tH:0<=n/\n<=7:=by rw[hn];exact nT a 7 (by omega)
 rw[show aQ [P]=[[.aa false (bo P)]] from rfl]at cp;refine⟨n,by omega,?_⟩;unfold bQ;generalize bo P=XP at *;generalize aQ r=X at *;generalize gl l=XL at *;generalize W .i8 v=XV at *;refine bz aD mixed [.val] Tryz.func32 rfl rfl (by kernel_rfl) fun zD zE zG zH zI zJ zK zL zM zN zO zR zS zT zU zV zX zY zZ zg zh zj zu zy zz aK ah aI aH ak aq ae aE aB aG ao az aJ an aO au aP ai aM aN ay aw aL ar zW bc A L F hS hF=>?_
 have kE:zJ K 13=12:=by rw[hS.rem];exact hK
 have en:zM .i64 a 7=n:=by rw[hS.bP,hn];rfl
 have j1:aE [[Tree.aa false XP]] 0=some [.aa false XP]:=by rw[hS.nth];rfl
 refine bg ?_;cbv;refine⟨_,hS.call (cl),?_⟩;cbv;simp only[kE];cbv;repeat (first|(refine tT rfl ?_;cbv)|(refine tF rfl ?_;cbv)|(refine nd rfl ?_;cbv))
 refine⟨_,hS.call (cp),?_⟩;cbv;simp only[j1];cbv;repeat (first|(refine tT rfl ?_;cbv)|(refine tF rfl ?_;cbv)|(refine nd rfl ?_;cbv))
 refine⟨_,hS.call (ca),?_⟩;cbv;simp only[en];cbv;repeat (first|(refine tT rfl ?_;cbv)|(refine tF rfl ?_;cbv)|(refine nd rfl ?_;cbv))
 exact bE hF ⟨ab.refl _,ab.drop _ _,ab.refl _,ab.refl _,ab.refl _,ab.drop _ _,ab.drop _ _,ab.drop _ _,ab.drop _ _,trivial⟩
end Go.Proofs.YtekefilngojelaaGreat
end
