/- A part. -/
import Derived.SizedLaws
import Derived.Test.YtekefilngojelaaGreatM13
import Derived.Test.YtekefilngojelaaGreatM15
import Derived.Test.YtekefilngojelaaGreatM18
import Derived.Test.YtekefilngojelaaGreatM21
import Derived.Test.YtekefilngojelaaGreatM25
import Derived.Test.YtekefilngojelaaGreatM40
import Derived.Test.YtekefilngojelaaGreatM42
import Derived.Test.YtekefilngojelaaGreatM44
import Derived.Test.YtekefilngojelaaGreatM45
import Derived.Test.YtekefilngojelaaGreatM46
import Derived.Test.YtekefilngojelaaGreatM47
set_option maxHeartbeats 0
set_option maxRecDepth 100000
set_option linter.unusedVariables false
set_option linter.unusedSimpArgs false
set_option linter.unusedSectionVars false
section
namespace Go.Proofs.YtekefilngojelaaGreat
open Go Go.Abs Go.Abs.M Go.Proofs
theorem Ur {l:List (List T2)} (h:∀p∈l,SP p) (hn:l.length<=20):BL l:=⟨fun p hp=>(h p hp).vp.bp,hn⟩
theorem Lv.bt {C:List (List (List T2))} {r c:Nat} (h:Lv C r c) (hr:r<=10) (hc:c<=20):BT C:=⟨fun p hp=>Ur (h.2 p hp).2 (by rw[(h.2 p hp).1];exact hc),by rw[h.1];exact hr⟩
theorem OU.bu {l:List Rat} (h:OU l):BU l:=⟨h.1,by have:=h.2.1;omega⟩
theorem Us:Qs 0 100:=(Qs.whole (n:=0) (k:=1) (by omega) (by omega)).mono (by omega)
theorem Q8.fit.ok {x:Q8} (h:x.fit):x.ok:=⟨h.a0,by rw[h.a1];exact Us,by rw[h.a2];exact Us,by rw[h.a3];exact Us,by rw[h.a4];exact Us,by rw[h.a5];exact Us,by rw[h.a6];exact Us,by rw[h.a7];exact Us⟩
theorem gg3 {g:Nat} (h:g<=3):g*(g-1)/2<=3:=by
 rcases(show g=0∨g=1∨g=2∨g=3 by omega) with rfl|rfl|rfl|rfl<;>decide
theorem ll3 {g:Nat} (h:g<=3):1+g*(g+1)/2<=7:=by
 rcases(show g=0∨g=1∨g=2∨g=3 by omega) with rfl|rfl|rfl|rfl<;>decide
def vA (k:Int):Cl:=⟨k,[],0,0,0,[],[],[],[]⟩
theorem sm0:Eo 0:=⟨by decide,by decide⟩
theorem Ut {k:Int} (h:Eo k):(vA k).ok:=⟨h,⟨by simp[vA],by simp[vA]⟩,sm0,sm0,sm0,⟨by simp[vA],by simp[vA]⟩,⟨by simp[vA],by simp[vA]⟩,⟨by simp[vA],by simp[vA]⟩,⟨by simp[vA],by simp[vA]⟩⟩
def JX:Ce:=⟨0,[],[],[],[],[],[],⟨0,0,0,0,0,0,0,0⟩,[],[],[],[],[],[],[],[],[],[],[],[],[]⟩
theorem r8a {a:Int} (h:Eo a):R8.ok ⟨1,a,0,0,0,0,0,0⟩:=by
 unfold R8.ok;simp only;exact⟨⟨by decide,by decide⟩,h,⟨by decide,by decide⟩,⟨by decide,by decide⟩,⟨by decide,by decide⟩,⟨by decide,by decide⟩,⟨by decide,by decide⟩,⟨by decide,by decide⟩⟩
theorem bl0:BL []:=⟨by simp,by simp⟩
theorem bt0:BT []:=⟨by simp,by simp⟩
theorem bu0:BU []:=⟨by simp,by simp⟩
theorem mo.fa {m:Nat} {k:Int} {aG:List (List T2)} {C:List (List (List T2))} {q:jC} (h:mo m k aG C q) (hm:m<=10) (N:Int) (hN:Eo N) (E D:List (List T2)) (hE:BL E) (hD:BL D) :
  ∃f:Fa,f.ok/\f.tree=fT N (.aa false (an E)) (.aa false (an D)) k (.aa false (an aG)) (.aa false (di C)) q:=by
 have key:∀ {k aG C q} (c:Cl) (e:Ce),(Fa.mk N E D c e).tree=fT N (.aa false (an E)) (.aa false (an D)) k (.aa false (an aG)) (.aa false (di C)) q->c.ok->e.ok->∃f:Fa,f.ok/\f.tree=fT N (.aa false (an E)) (.aa false (an D)) k (.aa false (an aG)) (.aa false (di C)) q:=fun c e h h1 h2=>⟨⟨N,E,D,c,e⟩,⟨hN,hE,hD,h1,h2⟩,h⟩
 rcases h with⟨P,aG,hP,c1,c2⟩|⟨P,C,G,O,Q,Sx,hP,b⟩|⟨n,aG,n1,c1,c2⟩|⟨O1,Lc,C,G,O,Q,Sx,hO,hL,lL,b⟩|⟨cn,cd,C,G,O,Q,Sx,h1,h3,b⟩|⟨cn,cd,cr,C,G,O,Q,Sx,h1,h3,b⟩|⟨Z,C,G,O,Q,Sx,U,U1,At,a,hZ,lZ,b,r⟩|⟨P,Z,Sg,C,G,O,Q,Sx,U,U1,At,a,hP,hZ,lZ,hg,lg,b,r⟩|⟨aG,Sq,c1,c2,s1,s2⟩|⟨P,aG,Sq,hP,c1,c2,s1,s2⟩|⟨Lc,C,hL,lL,hC⟩|⟨cn,C,G,O,h1,b0⟩|⟨cn,Xs,Bs,h1,x1,x2,b1,b2⟩
 all_goals first|refine key { vA 1 with P:=P } { JX with kZ:=aG } rfl ?_ ?_|refine key { vA 2 with P:=P } { JX with G:=G,O:=O,C:=C,Q:=Q,Sx:=Sx } rfl ?_ ?_|refine key (vA 3) { JX with kZ:=aG,N:=n } rfl ?_ ?_|refine key { vA 4 with O:=O1,L:=Lc } { JX with G:=G,O:=O,C:=C,Q:=Q,Sx:=Sx } rfl ?_ ?_|refine key { vA 5 with cn:=cn,cd:=cd } { JX with G:=G,O:=O,C:=C,Q:=Q,Sx:=Sx } rfl ?_ ?_|refine key { vA 6 with cn:=cn,cd:=cd,cr:=cr } { JX with G:=G,O:=O,C:=C,Q:=Q,Sx:=Sx } rfl ?_ ?_|refine key { vA 7 with B:=Z } { JX with G:=G,O:=O,C:=C,Q:=Q,Sx:=Sx,R:=⟨1,a,0,0,0,0,0,0⟩,U:=U,U1:=U1,At:=At } rfl ?_ ?_|refine key { vA 8 with P:=P,B:=Z,S:=Sg } { JX with G:=G,O:=O,C:=C,Q:=Q,Sx:=Sx,R:=⟨1,a,0,0,0,0,0,0⟩,U:=U,U1:=U1,At:=At } rfl ?_ ?_|refine key (vA 9) { JX with kZ:=aG,Sq:=Sq } rfl ?_ ?_|refine key { vA 10 with P:=P } { JX with kZ:=aG,Sq:=Sq } rfl ?_ ?_|refine key { vA 11 with L:=Lc } { JX with C:=C } rfl ?_ ?_|refine key { vA 12 with cn:=cn } { JX with G:=G,O:=O,C:=C } rfl ?_ ?_|refine key { vA 13 with cn:=cn } { JX with X:=Xs,B:=Bs } rfl ?_ ?_
 all_goals
  first|exact Ut ⟨by decide,by decide⟩|refine⟨?_,?_,?_,?_,?_,?_,?_,?_,?_⟩|refine⟨?_,?_,?_,?_,?_,?_,?_,?_,?_,?_,?_,?_,?_,?_,?_,?_,?_,?_,?_,?_,?_⟩
 all_goals
  try simp only[vA,JX]
  first|exact r8a r.a|exact sm0|exact bl0|exact bt0|exact bu0|exact⟨by decide,by decide⟩|exact⟨by simp,by simp⟩|exact⟨by omega,by omega⟩|exact hP.vp.bp|exact⟨hO.ok,by have:=hO.len;omega⟩|exact Ur hL (by omega)|exact Ur c2 (by omega)|exact Ur b.s (by have:=b.g;omega)|exact Ur b0.s (by have:=b0.g;omega)|exact⟨b.o.ok,by have:=b.o.len;omega⟩|exact⟨b0.o.ok,by have:=b0.o.len;omega⟩|exact b.c.bt (by have:=b.g;omega) (by omega)|exact b0.c.bt (by have:=b0.g;omega) (by omega)|exact b.q.bt (by omega) (by have:=b.g;omega)|exact b.x.bt (by have:=gg3 b.g;omega) (by have:=b.g;omega)|exact hC.bt (by have:=ll3 lL;omega) (by omega)|exact⟨fun x hx=>(hZ x hx).ok,by omega⟩|exact⟨fun x hx=>⟨by have:=hg x hx;omega,by have:=hg x hx;omega⟩,by omega⟩|exact r.u.bu|exact r.u1.bu|exact⟨fun x hx=>⟨(r.t x hx).1,(r.t x hx).2.1⟩,by have:=r.l;omega⟩|exact⟨fun x hx=>⟨(s1 x hx).1,(s1 x hx).2.vp.bp⟩,by omega⟩|exact⟨fun x hx=>(x1 x hx).ok,by omega⟩|exact⟨fun x hx=>(b1 x hx).ok,by omega⟩|(unfold R8.ok;decide)
theorem mo.move {m m':Nat} {k:Int} {aG xX:List (List T2)} {C C':List (List (List T2))} {q:jC} (h:mo m k aG C q) (hw:yq k=false)
  (h1:k≠12->C'=C/\xX.length=m'/\∀p∈xX,SP p) (h2:k=12->xX=aG/\C'.length=C.length/\∀r∈C',r.length=m'/\∀p∈r,SP p):mo m' k xX C' q:=by
 cases h with
 | k1 P aG hP c1 c2=>obtain⟨rfl,g1,g2⟩:=h1 (by decide);exact .k1 P xX hP g1 g2
 | k3 n aG n1 c1 c2=>obtain⟨rfl,g1,g2⟩:=h1 (by decide);exact .k3 n xX n1 g1 g2
 | k9 aG Sq c1 c2 s1 s2=>obtain⟨rfl,g1,g2⟩:=h1 (by decide);exact .k9 xX Sq g1 g2 s1 s2
 | Ld P aG Sq hP c1 c2 s1 s2=>obtain⟨rfl,g1,g2⟩:=h1 (by decide);exact .Ld P xX Sq hP g1 g2 s1 s2
 | Ud cn C G O hn b=>
  obtain⟨rfl,g1,g2⟩:=h2 rfl;exact .Ud cn C' G O hn ⟨b.g,b.s,b.o,⟨by rw[g1];exact b.c.1,g2⟩⟩
 | _=>exact absurd hw (by decide)
theorem yk {b c:Bool} {l:List (List T2)} (h:∀p∈l,SP p):∀p∈G6 b c l,SP p:=QQ SP.nil h
theorem mo.thin {m:Nat} {k:Int} {aG:List (List T2)} {C:List (List (List T2))} {q:jC} (h:mo m k aG C q) (b c:Bool):mo m k (G6 b c aG) (OV k b c C) q:=by
 cases h with
 | k1 P aG hP c1 c2=>exact .k1 P _ hP (by rw[j6];exact c1) (yk c2)
 | k3 n aG n1 c1 c2=>exact .k3 n _ n1 (by rw[j6];exact c1) (yk c2)
 | k9 aG Sq c1 c2 s1 s2=>exact .k9 _ Sq (by rw[j6];exact c1) (yk c2) s1 s2
 | Ld P aG Sq hP c1 c2 s1 s2=>exact .Ld P _ Sq hP (by rw[j6];exact c1) (yk c2) s1 s2
 | Ud cn C G O hn b'=>
  refine .Ud cn _ G O hn ⟨b'.g,b'.s,b'.o,⟨?_,?_⟩⟩
  ·unfold OV;rw[if_pos rfl,List.length_map];exact b'.c.1
  ·intro r hr
   unfold OV at hr;rw[if_pos rfl]at hr;obtain⟨x,hx,rfl⟩:=List.mem_map.1 hr;exact⟨by rw[j6];exact(b'.c.2 x hx).1,yk (b'.c.2 x hx).2⟩
 | k2 P C G O Q Sx h1 h2=>exact .k2 P C G O Q Sx h1 h2
 | k4 O1 Lc C G O Q Sx h1 h2 h3 h4=>exact .k4 O1 Lc C G O Q Sx h1 h2 h3 h4
 | k5 cn cd C G O Q Sx h1 h2 h4=>exact .k5 cn cd C G O Q Sx h1 h2 h4
 | k6 cn cd cr C G O Q Sx h1 h2 h4=>exact .k6 cn cd cr C G O Q Sx h1 h2 h4
 | k7 Z C G O Q Sx U U1 At a h1 h2 h4 h5=>exact .k7 Z C G O Q Sx U U1 At a h1 h2 h4 h5
 | k8 P Z Sg C G O Q Sx U U1 At a h0 h1 h2 h3 h6 h4 h5=>exact .k8 P Z Sg C G O Q Sx U U1 At a h0 h1 h2 h3 h6 h4 h5
 | OO Lc C h1 h2 h3=>exact .OO Lc C h1 h2 h3
 | ZM cn Xs Bs h1 h2 h3 h4 h5=>exact .ZM cn Xs Bs h1 h2 h3 h4 h5
theorem Ea {f:List T2->Prop} (h0:f []) {l:List (List T2)} (h:∀p∈l,f p) (av:List Int) (n:Nat):∀i,i<=l.length->∀o∈Ad l av n i,f (o.getD [])
 | 0,_,o,ho=>by
  unfold Ad at ho;rw[(List.mem_replicate.1 ho).2];exact h0
 | i+1,hi,o,ho=>by
  unfold Ad at ho;split at ho
  ·rcases List.mem_or_eq_of_mem_set ho with h1|h1
   ·exact Ea h0 h av n i (by omega) o h1
   ·rw[h1]
    show f (l.getD i [])
    rw[List.getD_eq_getElem?_getD,List.getElem?_eq_getElem (by omega)];exact h _ (List.getElem_mem _)
  ·exact Ea h0 h av n i (by omega) o ho
theorem JY {f:List T2->Prop} (h0:f []) {l:List (List T2)} (h:∀p∈l,f p) (av:List Int) (n:Nat):∀p∈Vf l av n,f p:=by
 intro p hp;obtain⟨o,ho,rfl⟩:=List.mem_map.1 hp;exact Ea h0 h av n l.length (Nat.le_refl _) o ho
theorem wa (E E' l:List (List T2)):(yr E E' l).length=E'.length:=by unfold yr Vf;rw[List.length_map,oI]
theorem Yn {N:Int} {E D:List (List T2)} {k:Int} {aG:List (List T2)} {C:List (List (List T2))} {M:Int} {E' D':List (List T2)} (h:Eu N E D k aG C M E' D'=true) (hw:yq k=true):M=N/\E'=E:=by
 unfold Eu uW at h;rw[hw,if_pos rfl,Bool.true_or,Bool.and_true,Bool.and_eq_true,decide_eq_true_iff,decide_eq_true_iff]at h;exact h
theorem mo.adb {m:Nat} {k:Int} {aG:List (List T2)} {C:List (List (List T2))} {q:jC} (h:mo m k aG C q) (hw:yq k=false):(∀p∈aG,SP p)/\(k=12->∀r∈C,∀p∈r,SP p):=by
 cases h with
 | k1 P aG hP c1 c2=>exact⟨c2,fun e=>absurd e (by decide)⟩
 | k3 n aG n1 c1 c2=>exact⟨c2,fun e=>absurd e (by decide)⟩
 | k9 aG Sq c1 c2 s1 s2=>exact⟨c2,fun e=>absurd e (by decide)⟩
 | Ld P aG Sq hP c1 c2 s1 s2=>exact⟨c2,fun e=>absurd e (by decide)⟩
 | Ud cn C G O hn b=>exact⟨by simp,fun _ r hr=>(b.c.2 r hr).2⟩
 | _=>exact absurd hw (by decide)
theorem mo.carry {N:Int} {E D:List (List T2)} {k:Int} {aG:List (List T2)} {C:List (List (List T2))} {q:jC} (h:mo E.length k aG C q) {M:Int} {E' D':List (List T2)} (hh:Eu N E D k aG C M E' D'=true):mo E'.length k (jE E E' k aG) (yh E E' k C) q:=by
 cases hw:yq k with
 | true=>
  obtain⟨_,rfl⟩:=Yn hh hw;have ff:k≠12:=by rintro rfl;exact absurd hw (by decide)
  unfold jE yh;rw[if_pos (Or.inl hw),if_neg ff];exact h
 | false=>
  obtain⟨s1,s2⟩:=h.adb hw;refine h.move hw (fun ff=>?_) fun ff=>?_
  ·unfold jE yh
   rw[if_neg (show ¬(yq k=true∨k=12) by simp[hw,ff]),if_neg ff];exact⟨rfl,wa E E' aG,JY SP.nil s1 _ _⟩
  ·unfold jE yh
   rw[if_pos (Or.inr ff),if_pos ff];refine⟨rfl,by simp,fun r hr=>?_⟩;obtain⟨x,hx,rfl⟩:=List.mem_map.1 hr;exact⟨wa E E' x,JY SP.nil (s2 ff x hx) _ _⟩
theorem LF (N k:Int) (hN:N≠0) (E D aG C:Tree) (q:jC)
  (c1:ah Tryz.prog 20 [.val (.agg (fT N E D k aG C q))] ⟨[.val (tb true)],[none]⟩)
  (c2:ah Tryz.prog 46 [.val (.agg (fT N E D k aG C q)),.val (.agg (fT N E D k aG C q))] ⟨[.val (tb true)],[none,none]⟩) :
  ah Tryz.prog 16 [.val (.agg (fT N E D k aG C q)),.val (.agg (fT N E D k aG C q))] ⟨[.val (tb true)],[none,none]⟩:=by
 unfold fT at *;refine ep aj mixed [.val] Tryz.func16 rfl rfl (by kernel_rfl) ?_;intros;rename_i zT _ _ _ _ _ _ _ _ _ _ _ _ _ _ _ _ _ _ _ _ _ A L F hS hF;have g1:fo zT N (Int.ofNat 0)=false:=(hS.eq _ _).trans (decide_eq_false hN);cbv;repeat (first|apply bT rfl|apply bF rfl|apply nd rfl|(refine tT rfl ?_;cbv)|(refine tF rfl ?_;cbv))
 refine tF g1 ?_;cbv;repeat (first|apply bT rfl|apply bF rfl|apply nd rfl|(refine tT rfl ?_;cbv)|(refine tF rfl ?_;cbv))
 refine tF g1 ?_;cbv;repeat (first|apply bT rfl|apply bF rfl|apply nd rfl|(refine tT rfl ?_;cbv)|(refine tF rfl ?_;cbv)|(refine⟨_,hS.call c1,?_⟩;cbv)|(refine⟨_,hS.call c2,?_⟩;cbv))
 exact hF _ (ak.refl _)
theorem Om {k:Int} {aG:List (List T2)} {C:List (List (List T2))} {q:jC} {N:Int} {E D:List (List T2)} (h:mo E.length k aG C q) (hK:NM N E D) (hE:∀p∈E,SP p) (hD:∀p∈D,SP p) (h2:2<=N) :
  ah Tryz.prog 16 [.val (.agg (fT N (.aa false (an E)) (.aa false (an D)) k (.aa false (an aG)) (.aa false (di C)) q)),.val (.agg (fT N (.aa false (an E)) (.aa false (an D)) k (.aa false (an aG)) (.aa false (di C)) q))] ⟨[.val (tb true)],[none,none]⟩:=by
 obtain⟨f,f1,f2⟩:=h.fa (by have:=hK.le;omega) N ⟨by have:=hK.n;omega,by have:=hK.n;omega⟩ E D (Ur hE (by have:=hK.le;omega)) (Ur hD (by have:=hK.ld;omega));have c:=Gs f f1;rw[f2]at c;exact LF N k (by omega) _ _ _ _ q (h.right hK h2) c
theorem IU (x1 x2 x3 y1:Tree) (XE XD Xc XC Yc YC XP XQ XO Uu Uv XL XM:Abs.Rows) (ka kb kc kd k M P:Int) (q:jC) (N1 k1:Int) (E1 D1 c1 C1:Abs.Rows) (q1:jC)
  (c0:ah Tryz.prog 7 [] ⟨[.val (tb true)],[]⟩)
  (cM:ah Tryz.prog 9 [.val (.agg [x1,x2,x3])] ⟨[.val (.agg (fT 2 (.aa false XE) (.aa false XD) k (.aa false Xc) (.aa false XC) q))],[none]⟩)
  (cH:ah Tryz.prog 8 [.val (.agg (fT 2 (.aa false XE) (.aa false XD) k (.aa false Xc) (.aa false XC) q)),.val (ti .u8 kc)] ⟨[.val (.agg (fT 2 (.aa false XE) (.aa false XD) k (.aa false Yc) (.aa false YC) q))],[none,none]⟩)
  (cP:ah Tryz.prog 11 [.val (.agg [y1]),.val (ti .i64 2),.val (ti .i64 2),.val (ti .i64 3)] ⟨[.val (tl XP)],[none,none,none,none]⟩)
  (cC:ah Tryz.prog 10 [.val (.agg [.v (.int .i64 2),.aa false XE,.aa false XD]),.val (ti .u8 ka),.val (ti .u8 kb),.val (tl XP)] ⟨[.val (.agg [.v (.int .i64 M),.aa false Uu,.aa false Uv])],[none,none,none,none]⟩)
  (cO:ah Tryz.prog 28 [.val (ti .i64 1)] ⟨[.val (tl XO)],[none]⟩)
  (cA:ah Tryz.prog 27 [.val (tl XP),.val (tl XO)] ⟨[.val (tl XQ)],[none,none]⟩)
  (cL:ah Tryz.prog 10 [.val (.agg [.v (.int .i64 M),.aa false Uu,.aa false Uv]),.val (ti .u8 kd),.val (ti .u8 kb),.val (tl XQ)] ⟨[.val (.agg [.v (.int .i64 P),.aa false XL,.aa false XM])],[none,none,none,none]⟩)
  (cG:ah Tryz.prog 14 [.val (.agg (fT 2 (.aa false XE) (.aa false XD) k (.aa false Yc) (.aa false YC) q)),.val (.agg [.v (.int .i64 M),.aa false Uu,.aa false Uv])] ⟨[.val (.agg (fT N1 (.aa false E1) (.aa false D1) k1 (.aa false c1) (.aa false C1) q1)),.val (tb false)],[none,none]⟩) :
  ah Tryz.prog 6 [.val (.agg [x1,x2,x3]),.val (.agg [.v (.int .u8 ka),.v (.int .u8 kb),.v (.int .u8 kc),.v (.int .u8 kd)]),.val (.agg [y1])] ⟨[.val (tb true)],[none,none,none]⟩:=by
 unfold fT at *;refine ep aj mixed [.val] Tryz.func6 rfl rfl (by kernel_rfl) ?_;intros;rename_i A L F hS hF;cbv;repeat (first|apply bT rfl|apply bF rfl|apply nd rfl|(refine tT rfl ?_;cbv)|(refine tF rfl ?_;cbv)|(refine⟨_,hS.call c0,?_⟩;cbv)|(refine⟨_,hS.call cM,?_⟩;cbv)|(refine⟨_,hS.call cH,?_⟩;cbv)|(refine⟨_,hS.call cP,?_⟩;cbv)|(refine⟨_,hS.call cC,?_⟩;cbv)|(refine⟨_,hS.call cO,?_⟩;cbv)|(refine⟨_,hS.call cA,?_⟩;cbv)|(refine⟨_,hS.call cL,?_⟩;cbv)|(refine⟨_,hS.call cG,?_⟩;cbv))
 exact hF _ (ak.refl _)
theorem nZ (x1 x2 x3 y1:Tree) (XE XD Xc XC Yc YC XP XQ XO Uu Uv XL XM:Abs.Rows) (ka kb kc kd k M P:Int) (q:jC) (N1 k1:Int) (E1 D1 c1 C1:Abs.Rows) (q1:jC) (N2 k2:Int) (E2 D2 c2 C2:Abs.Rows) (q2:jC) (N3 k3:Int) (E3 D3 c3 C3:Abs.Rows) (q3:jC) (on once:Bool)
  (c0:ah Tryz.prog 7 [] ⟨[.val (tb true)],[]⟩)
  (cM:ah Tryz.prog 9 [.val (.agg [x1,x2,x3])] ⟨[.val (.agg (fT 2 (.aa false XE) (.aa false XD) k (.aa false Xc) (.aa false XC) q))],[none]⟩)
  (cH:ah Tryz.prog 8 [.val (.agg (fT 2 (.aa false XE) (.aa false XD) k (.aa false Xc) (.aa false XC) q)),.val (ti .u8 kc)] ⟨[.val (.agg (fT 2 (.aa false XE) (.aa false XD) k (.aa false Yc) (.aa false YC) q))],[none,none]⟩)
  (cP:ah Tryz.prog 11 [.val (.agg [y1]),.val (ti .i64 2),.val (ti .i64 2),.val (ti .i64 3)] ⟨[.val (tl XP)],[none,none,none,none]⟩)
  (cC:ah Tryz.prog 10 [.val (.agg [.v (.int .i64 2),.aa false XE,.aa false XD]),.val (ti .u8 ka),.val (ti .u8 kb),.val (tl XP)] ⟨[.val (.agg [.v (.int .i64 M),.aa false Uu,.aa false Uv])],[none,none,none,none]⟩)
  (cO:ah Tryz.prog 28 [.val (ti .i64 1)] ⟨[.val (tl XO)],[none]⟩)
  (cA:ah Tryz.prog 27 [.val (tl XP),.val (tl XO)] ⟨[.val (tl XQ)],[none,none]⟩)
  (cL:ah Tryz.prog 10 [.val (.agg [.v (.int .i64 M),.aa false Uu,.aa false Uv]),.val (ti .u8 kd),.val (ti .u8 kb),.val (tl XQ)] ⟨[.val (.agg [.v (.int .i64 P),.aa false XL,.aa false XM])],[none,none,none,none]⟩)
  (cG:ah Tryz.prog 14 [.val (.agg (fT 2 (.aa false XE) (.aa false XD) k (.aa false Yc) (.aa false YC) q)),.val (.agg [.v (.int .i64 M),.aa false Uu,.aa false Uv])] ⟨[.val (.agg (fT N1 (.aa false E1) (.aa false D1) k1 (.aa false c1) (.aa false C1) q1)),.val (tb true)],[none,none]⟩)
  (cF:ah Tryz.prog 20 [.val (.agg (fT N1 (.aa false E1) (.aa false D1) k1 (.aa false c1) (.aa false C1) q1))] ⟨[.val (tb true)],[none]⟩)
  (cB:M=2->ah Tryz.prog 14 [.val (.agg (fT N1 (.aa false E1) (.aa false D1) k1 (.aa false c1) (.aa false C1) q1)),.val (.agg [.v (.int .i64 2),.aa false XE,.aa false XD])] ⟨[.val (.agg (fT 2 (.aa false XE) (.aa false XD) k (.aa false Yc) (.aa false YC) q)),.val (tb true)],[none,none]⟩)
  (cS:ah Tryz.prog 16 [.val (.agg (fT 2 (.aa false XE) (.aa false XD) k (.aa false Yc) (.aa false YC) q)),.val (.agg (fT 2 (.aa false XE) (.aa false XD) k (.aa false Yc) (.aa false YC) q))] ⟨[.val (tb true)],[none,none]⟩)
  (cJ:ah Tryz.prog 14 [.val (.agg (fT N1 (.aa false E1) (.aa false D1) k1 (.aa false c1) (.aa false C1) q1)),.val (.agg [.v (.int .i64 P),.aa false XL,.aa false XM])] ⟨[.val (.agg (fT N2 (.aa false E2) (.aa false D2) k2 (.aa false c2) (.aa false C2) q2)),.val (tb on)],[none,none]⟩)
  (cK:ah Tryz.prog 14 [.val (.agg (fT 2 (.aa false XE) (.aa false XD) k (.aa false Yc) (.aa false YC) q)),.val (.agg [.v (.int .i64 P),.aa false XL,.aa false XM])] ⟨[.val (.agg (fT N3 (.aa false E3) (.aa false D3) k3 (.aa false c3) (.aa false C3) q3)),.val (tb once)],[none,none]⟩)
  (hOn:on=true->once=true)
  (cT:on=true->ah Tryz.prog 16 [.val (.agg (fT N2 (.aa false E2) (.aa false D2) k2 (.aa false c2) (.aa false C2) q2)),.val (.agg (fT N3 (.aa false E3) (.aa false D3) k3 (.aa false c3) (.aa false C3) q3))] ⟨[.val (tb true)],[none,none]⟩) :
  ah Tryz.prog 6 [.val (.agg [x1,x2,x3]),.val (.agg [.v (.int .u8 ka),.v (.int .u8 kb),.v (.int .u8 kc),.v (.int .u8 kd)]),.val (.agg [y1])] ⟨[.val (tb true)],[none,none,none]⟩:=by
 unfold fT at *
 by_cases hM:M=2
 ·replace cB:=cB hM
  cases on with
  | true=>
   obtain rfl:=hOn rfl
   replace cT:=cT rfl
   as_aux_lemma=>
    refine ep aj mixed [.val] Tryz.func6 rfl rfl (by kernel_rfl) ?_;intros;rename_i A L F hS hF;cbv;repeat (first|apply bT rfl|apply bF rfl|apply nd rfl|(refine tT rfl ?_;cbv)|(refine tF rfl ?_;cbv)|(refine⟨_,hS.call c0,?_⟩;cbv)|(refine⟨_,hS.call cM,?_⟩;cbv)|(refine⟨_,hS.call cH,?_⟩;cbv)|(refine⟨_,hS.call cP,?_⟩;cbv)|(refine⟨_,hS.call cC,?_⟩;cbv)|(refine⟨_,hS.call cO,?_⟩;cbv)|(refine⟨_,hS.call cA,?_⟩;cbv)|(refine⟨_,hS.call cL,?_⟩;cbv)|(refine⟨_,hS.call cG,?_⟩;cbv)|(refine⟨_,hS.call cF,?_⟩;cbv))
    refine tT ((hS.eq M 2).trans (decide_eq_true hM)) ?_;cbv;repeat (first|apply bT rfl|apply bF rfl|apply nd rfl|(refine tT rfl ?_;cbv)|(refine tF rfl ?_;cbv)|(refine⟨_,hS.call cB,?_⟩;cbv)|(refine⟨_,hS.call cS,?_⟩;cbv)|(refine⟨_,hS.call cJ,?_⟩;cbv)|(refine⟨_,hS.call cK,?_⟩;cbv)|(refine⟨_,hS.call cT,?_⟩;cbv))
    exact hF _ (ak.refl _)
  | false=>
   clear cT hOn
   as_aux_lemma=>
    refine ep aj mixed [.val] Tryz.func6 rfl rfl (by kernel_rfl) ?_;intros;rename_i A L F hS hF;cbv;repeat (first|apply bT rfl|apply bF rfl|apply nd rfl|(refine tT rfl ?_;cbv)|(refine tF rfl ?_;cbv)|(refine⟨_,hS.call c0,?_⟩;cbv)|(refine⟨_,hS.call cM,?_⟩;cbv)|(refine⟨_,hS.call cH,?_⟩;cbv)|(refine⟨_,hS.call cP,?_⟩;cbv)|(refine⟨_,hS.call cC,?_⟩;cbv)|(refine⟨_,hS.call cO,?_⟩;cbv)|(refine⟨_,hS.call cA,?_⟩;cbv)|(refine⟨_,hS.call cL,?_⟩;cbv)|(refine⟨_,hS.call cG,?_⟩;cbv)|(refine⟨_,hS.call cF,?_⟩;cbv))
    refine tT ((hS.eq M 2).trans (decide_eq_true hM)) ?_;cbv;repeat (first|apply bT rfl|apply bF rfl|apply nd rfl|(refine tT rfl ?_;cbv)|(refine tF rfl ?_;cbv)|(refine⟨_,hS.call cB,?_⟩;cbv)|(refine⟨_,hS.call cS,?_⟩;cbv)|(refine⟨_,hS.call cJ,?_⟩;cbv)|(refine⟨_,hS.call cK,?_⟩;cbv))
    exact hF _ (ak.refl _)
 ·clear cB
  cases on with
  | true=>
   obtain rfl:=hOn rfl
   replace cT:=cT rfl
   as_aux_lemma=>
    refine ep aj mixed [.val] Tryz.func6 rfl rfl (by kernel_rfl) ?_;intros;rename_i A L F hS hF;cbv;repeat (first|apply bT rfl|apply bF rfl|apply nd rfl|(refine tT rfl ?_;cbv)|(refine tF rfl ?_;cbv)|(refine⟨_,hS.call c0,?_⟩;cbv)|(refine⟨_,hS.call cM,?_⟩;cbv)|(refine⟨_,hS.call cH,?_⟩;cbv)|(refine⟨_,hS.call cP,?_⟩;cbv)|(refine⟨_,hS.call cC,?_⟩;cbv)|(refine⟨_,hS.call cO,?_⟩;cbv)|(refine⟨_,hS.call cA,?_⟩;cbv)|(refine⟨_,hS.call cL,?_⟩;cbv)|(refine⟨_,hS.call cG,?_⟩;cbv)|(refine⟨_,hS.call cF,?_⟩;cbv))
    refine tF ((hS.eq M 2).trans (decide_eq_false hM)) ?_;cbv;repeat (first|apply bT rfl|apply bF rfl|apply nd rfl|(refine tT rfl ?_;cbv)|(refine tF rfl ?_;cbv)|(refine⟨_,hS.call cJ,?_⟩;cbv)|(refine⟨_,hS.call cK,?_⟩;cbv)|(refine⟨_,hS.call cT,?_⟩;cbv))
    exact hF _ (ak.refl _)
  | false=>
   clear cT hOn
   as_aux_lemma=>
    refine ep aj mixed [.val] Tryz.func6 rfl rfl (by kernel_rfl) ?_;intros;rename_i A L F hS hF;cbv;repeat (first|apply bT rfl|apply bF rfl|apply nd rfl|(refine tT rfl ?_;cbv)|(refine tF rfl ?_;cbv)|(refine⟨_,hS.call c0,?_⟩;cbv)|(refine⟨_,hS.call cM,?_⟩;cbv)|(refine⟨_,hS.call cH,?_⟩;cbv)|(refine⟨_,hS.call cP,?_⟩;cbv)|(refine⟨_,hS.call cC,?_⟩;cbv)|(refine⟨_,hS.call cO,?_⟩;cbv)|(refine⟨_,hS.call cA,?_⟩;cbv)|(refine⟨_,hS.call cL,?_⟩;cbv)|(refine⟨_,hS.call cG,?_⟩;cbv)|(refine⟨_,hS.call cF,?_⟩;cbv))
    refine tF ((hS.eq M 2).trans (decide_eq_false hM)) ?_;cbv;repeat (first|apply bT rfl|apply bF rfl|apply nd rfl|(refine tT rfl ?_;cbv)|(refine tF rfl ?_;cbv)|(refine⟨_,hS.call cJ,?_⟩;cbv)|(refine⟨_,hS.call cK,?_⟩;cbv))
    exact hF _ (ak.refl _)
def my:List (List T2)->List (List T2)->List T2->List T2
 | e::E,c::l,x=>if e=x then c else my E l x
 | _,_,_=>[]
theorem sL {x:List T2}:∀ {E l:List (List T2)},x ∉ E->my E l x=[]
 | [],_,_=>by simp[my]
 | e::E,[],_=>by simp[my]
 | e::E,c::l,h=>by
  unfold my;rw[if_neg (fun e'=>h (by rw[e'];exact List.mem_cons_self))];exact sL fun h'=>h (List.mem_cons_of_mem _ h')
theorem sM:∀ {E l:List (List T2)} {i:Nat},E.Nodup->l.length=E.length->(hi:i<E.length)->my E l E[i]=l.getD i []
 | [],_,i,_,_,hi=>absurd hi (by simp)
 | e::E,[],_,_,hl,_=>by simp at hl
 | e::E,c::l,0,_,_,_=>by simp[my]
 | e::E,c::l,i+1,hn,hl,hi=>by
  obtain⟨h1,h2⟩:=List.nodup_cons.1 hn;have lh:i<E.length:=by simpa using hi
  show(if e=E[i] then c else my E l E[i])=(c::l).getD (i+1) []
  rw[if_neg (fun e'=>h1 (by rw[e'];exact List.getElem_mem lh)),sM h2 (by simpa using hl) lh];simp
theorem LG {E l:List (List T2)} (hn:E.Nodup) (hl:l.length=E.length):E.map (my E l)=l:=by
 refine List.ext_getElem (by simp[hl]) fun i h1 h2=>?_
 rw[List.getElem_map,sM hn hl (by simpa using h1),List.getD_eq_getElem?_getD,List.getElem?_eq_getElem h2];rfl
theorem GI (f:List T2->List T2) {x:List T2}:∀ {E:List (List T2)},x∈E->my E (E.map f) x=f x
 | [],h=>absurd h (by simp)
 | e::E,h=>by
  rw[List.map_cons];unfold my;split
  ·rename_i e';rw[e']
  ·rename_i e'
   rcases List.mem_cons.1 h with h|h
   ·exact absurd h.symm e'
   ·exact GI f h
theorem Uw {l:List (List T2)} (h:l.Nodup) {i j:Nat} (hi:i<l.length) (hj:j<l.length) (e:l[i]=l[j]):i=j:=by
 rcases Nat.lt_trichotomy i j with h'|h'|h'
 ·exact absurd e (List.pairwise_iff_getElem.1 h i j hi hj h')
 ·exact h'
 ·exact absurd e.symm (List.pairwise_iff_getElem.1 h j i hj hi h')
theorem On {x:List T2}:∀(L:List (List T2)) (k j:Nat),mQ k L x=(j:Int)->k<=j->L[j-k]?=some x
 | [],k,j,h,_=>by unfold mQ at h;omega
 | y::L,k,j,h,hk=>by
  unfold mQ at h;split at h
  ·rename_i e
   obtain rfl:k=j:=by omega
   simp[e]
  ·by_cases YP:k=j
   ·subst YP
    rcases xV (to:=L) (k:=k+1) (p:=x) with h'|⟨j',h1,_,h3⟩
    ·omega
    ·omega
   ·have:=On L (k+1) j h (by omega)
    rw[show j-k=(j-(k+1))+1 by omega];simpa using this
theorem Oo {E':List (List T2)} (uO:E'.Nodup) {E l:List (List T2)} (hn:E.Nodup) (hl:l.length=E.length):∀i,i<=E.length->∀t,(ht:t<E'.length) ->
  (Ad l (E.map (mQ 0 E')) E'.length i)[t]?=some (if E'[t]∈E.take i then some (my E l E'[t]) else none)
 | 0,_,t,ht=>by
  unfold Ad;rw[List.getElem?_replicate,if_pos ht];simp
 | i+1,hi,t,ht=>by
  have lh:i<E.length:=by omega
  have ih:=Oo uO hn hl i (by omega) t ht;have ea:(E.map (mQ 0 E')).getD i (-1)=mQ 0 E' E[i]:=by rw[Ok E E' lh,List.getD_eq_getElem?_getD,List.getElem?_eq_getElem lh];rfl
  have et:E.take (i+1)=E.take i ++ [E[i]]:=by rw[List.take_add_one,List.getElem?_eq_getElem lh];rfl
  have lm:(Ad l (E.map (mQ 0 E')) E'.length i).length=E'.length:=oI _ _ _ _;unfold Ad;rw[ea]
  by_cases hm:E[i]∈E'
  ·have mT:0<=mQ 0 E' E[i]:=v8.2 hm
   obtain h|⟨j,_,hj,ej⟩:=xV (to:=E') (k:=0) (p:=E[i])
   ·omega
   have OI:j<E'.length:=by omega
   have hx:E'[j]=E[i]:=by
    have:=On E' 0 j ej (Nat.zero_le _);rw[Nat.sub_zero,List.getElem?_eq_getElem OI]at this;exact Option.some.inj this
   rw[if_pos mT,ej,Int.toNat_natCast,List.getElem?_set]
   by_cases hjt:j=t
   ·subst hjt
    have:E'[j]∈E.take (i+1):=by rw[et,hx];exact List.mem_append.2 (Or.inr (List.mem_singleton.2 rfl))
    rw[if_pos rfl,if_pos (by omega),if_pos this,hx,sM hn hl lh]
   ·rw[if_neg hjt,ih]
    have cY:E'[t]≠E[i]:=fun e=>hjt (Uw uO OI ht (hx.trans e.symm))
    rw[et];simp only[List.mem_append,List.mem_singleton,cY,or_false]
  ·obtain h|⟨j,_,hj,ej⟩:=xV (to:=E') (k:=0) (p:=E[i])
   ·rw[h,if_neg (by decide),ih,et]
    have cY:E'[t]≠E[i]:=fun e=>hm (by rw[<-e];exact List.getElem_mem ht)
    simp only[List.mem_append,List.mem_singleton,cY,or_false]
   ·exact absurd (v8.1 (show 0<=mQ 0 E' E[i] by omega)) hm
theorem uk {E E' l:List (List T2)} (hn:E.Nodup) (uO:E'.Nodup) (hl:l.length=E.length):yr E E' l=E'.map (my E l):=by
 refine List.ext_getElem? fun t=>?_
 by_cases ht:t<E'.length
 ·have key:=Oo uO hn hl E.length (Nat.le_refl _) t ht
  rw[List.take_length]at key;unfold yr Vf;rw[List.getElem?_map,hl,key,List.getElem?_map,List.getElem?_eq_getElem ht];show some ((if E'[t]∈E then some (my E l E'[t]) else none:Option (List T2)).getD [])=some (my E l E'[t])
  split
  ·rfl
  ·rename_i hm;rw[sL hm];rfl
 ·rw[List.getElem?_eq_none (by rw[wa];omega),List.getElem?_eq_none (by rw[List.length_map];omega)]
def Van (E E' l:List (List T2)):Prop:=∀x,x∈E->x ∉ E'->my E l x=[]
theorem QV {E E' l:List (List T2)} (h:Van E E' l) {x:List T2} (hx:x ∉ E'):my E l x=[]:=by
 by_cases hm:x∈E
 ·exact h x hm hx
 ·exact sL hm
theorem Se {E E' L l:List (List T2)} (hn:E.Nodup) (uO:E'.Nodup) (hL:L.Nodup) (hl:l.length=E.length) (h:Van E E' l):yr E' L (yr E E' l)=yr E L l:=by
 rw[uk uO hL (wa E E' l),uk hn hL hl,uk hn uO hl];refine List.map_congr_left fun x _=>?_
 by_cases hx:x∈E'
 ·exact GI _ hx
 ·rw[sL hx,QV h hx]
theorem JZ {E l:List (List T2)} (hn:E.Nodup) (hl:l.length=E.length):yr E E l=l:=by rw[uk hn hn hl,LG hn hl]
theorem Oq {E E' l:List (List T2)} (hn:E.Nodup) (hl:l.length=E.length) (h:∀i,i<E.length->vW l i=true->E.getD i []∈E'):Van E E' l:=by
 intro x hx hx';obtain⟨i,hi,rfl⟩:=List.mem_iff_getElem.1 hx;rw[sM hn hl hi]
 by_cases hu:vW l i=true
 ·exact absurd (by have:=h i hi hu;rwa[List.getD_eq_getElem?_getD,List.getElem?_eq_getElem hi]at this) hx'
 ·unfold vW at hu
  rw[decide_eq_true_iff]at hu;exact List.length_eq_zero_iff.1 (by omega)
theorem GJ {E E' l:List (List T2)} (hn:E.Nodup) (uO:E'.Nodup) (hl:l.length=E.length) {i j:Nat} (hi:i<E.length) (hj:j<E'.length) (e:E'[j]=E[i]):vW (yr E E' l) j=vW l i:=by
 unfold vW;rw[uk hn uO hl,List.getD_eq_getElem?_getD,List.getElem?_map,List.getElem?_eq_getElem hj];show decide (0<(my E l E'[j]).length)=_
 rw[e,sM hn hl hi]
theorem Ot {E E' l:List (List T2)} (hn:E.Nodup) (uO:E'.Nodup) (hl:l.length=E.length) {j:Nat} (hj:j<E'.length) (e:E'[j] ∉ E):vW (yr E E' l) j=false:=by
 unfold vW;rw[uk hn uO hl,List.getD_eq_getElem?_getD,List.getElem?_map,List.getElem?_eq_getElem hj];show decide (0<(my E l E'[j]).length)=_
 rw[sL e];rfl
variable {N M:Int} {E D E' D':List (List T2)} {k:Int} {aG:List (List T2)} {C:List (List (List T2))}
theorem oa:Eu N E D k aG C M E' D'=true↔(yq k=true/\M=N/\E'=E)∨(yq k=false/\(k=12->M=N)/\(k=3->D'=D)/\N<=M/\∀i,i<E.length->Ig k aG C i=true->E.getD i []∈E'):=by
 unfold Eu uW;cases hw:yq k with
 | true=>rw[if_pos rfl];simp
 | false=>
  rw[if_neg (by decide),Bool.false_or,Bool.and_eq_true,decide_eq_true_iff (p:=∀i,i<E.length->Ig k aG C i=true->E.getD i []∈E')]
  by_cases ff:k=12
  ·subst ff
   rw[if_pos rfl,decide_eq_true_iff];constructor
   ·rintro⟨h1,h2⟩;exact Or.inr ⟨rfl,fun _=>h1,fun e=>absurd e (by decide),by omega,h2⟩
   ·rintro(⟨h,_⟩|⟨_,h1,_,_,h2⟩)
    ·cases h
    ·exact⟨h1 rfl,h2⟩
  ·rw[if_neg ff]
   by_cases h3:k=3
   ·subst h3
    rw[if_pos rfl,Bool.and_eq_true,decide_eq_true_iff,decide_eq_true_iff];constructor
    ·rintro⟨⟨h1,h2⟩,h4⟩;exact Or.inr ⟨rfl,fun e=>absurd e (by decide),fun _=>h2,h1,h4⟩
    ·rintro(⟨h,_⟩|⟨_,_,h2,h1,h4⟩)
     ·cases h
     ·exact⟨⟨h1,h2 rfl⟩,h4⟩
   ·rw[if_neg h3,decide_eq_true_iff]
    constructor
    ·rintro⟨h1,h4⟩;exact Or.inr ⟨rfl,fun e=>absurd e ff,fun e=>absurd e h3,h1,h4⟩
    ·rintro(⟨h,_⟩|⟨_,_,_,h1,h4⟩)
     ·cases h
     ·exact⟨h1,h4⟩
theorem IV (ff:k=12) (i:Nat):Ig k aG C i=C.any fun r=>vW r i:=by unfold Ig;rw[if_pos ff]
theorem IW (ff:k≠12) (i:Nat):Ig k aG C i=vW aG i:=by unfold Ig;rw[if_neg ff]
theorem Ou (h:yq k=true) (E E':List (List T2)):jE E E' k aG=aG/\yh E E' k C=C:=by
 have ff:k≠12:=by rintro rfl;exact absurd h (by decide)
 unfold jE yh;rw[if_pos (Or.inl h),if_neg ff];exact⟨rfl,rfl⟩
theorem od (h:k=12) (E E':List (List T2)):jE E E' k aG=aG/\yh E E' k C=C.map (yr E E'):=by
 unfold jE yh;rw[if_pos (Or.inr h),if_pos h];exact⟨rfl,rfl⟩
theorem uY (hw:yq k=false) (ff:k≠12) (E E':List (List T2)):jE E E' k aG=yr E E' aG/\yh E E' k C=C:=by
 unfold jE yh;rw[if_neg (show ¬(yq k=true∨k=12) by simp[hw,ff]),if_neg ff];exact⟨rfl,rfl⟩
theorem Sf (hn:E.Nodup) (uO:E'.Nodup) {L DL:List (List T2)} {P:Int} (hL:L.Nodup) (uf:UF E.length k aG C) (h:Eu N E D k aG C M E' D'=true) :
  (Eu M E' D' k (jE E E' k aG) (yh E E' k C) P L DL=true->Eu N E D k aG C P L DL=true)/\jE E' L k (jE E E' k aG)=jE E L k aG/\yh E' L k (yh E E' k C)=yh E L k C:=by
 rcases oa.1 h with⟨hw,rfl,rfl⟩|⟨hw,h1,h2,h3,h4⟩
 ·obtain⟨e1,e2⟩:=Ou (aG:=aG) (C:=C) hw E' E'
  rw[e1,e2];refine⟨fun h=>?_,rfl,rfl⟩;rcases oa.1 h with⟨_,g1,g2⟩|⟨KI,_⟩
  ·exact oa.2 (Or.inl ⟨hw,g1,g2⟩)
  ·rw[hw]at KI;cases KI
 ·have idx:∀ {i},(hi:i<E.length)->E.getD i []=E[i]:=fun hi=>by rw[List.getD_eq_getElem?_getD,List.getElem?_eq_getElem hi];rfl
  have adg:∀ {j},(hj:j<E'.length)->E'.getD j []=E'[j]:=fun hj=>by rw[List.getD_eq_getElem?_getD,List.getElem?_eq_getElem hj];rfl
  have used:∀i,i<E.length->Ig k aG C i=true->∃j,j<E'.length/\E'.getD j []=E.getD i []/\Ig k (jE E E' k aG) (yh E E' k C) j=true:=by
   intro i hi hu;obtain⟨j,hj,ej⟩:=List.mem_iff_getElem.1 (h4 i hi hu);rw[idx hi]at ej;refine⟨j,hj,by rw[adg hj,idx hi,ej],?_⟩
   by_cases ff:k=12
   ·obtain⟨e1,e2⟩:=od (aG:=aG) (C:=C) ff E E'
    rw[IV ff]at hu ⊢;rw[e2,List.any_map];obtain⟨r,hr,js⟩:=List.any_eq_true.1 hu;exact List.any_eq_true.2 ⟨r,hr,by show vW (yr E E' r) j=true;rw[GJ hn uO (uf.b ff r hr) hi hj ej];exact js⟩
   ·obtain⟨e1,e2⟩:=uY (aG:=aG) (C:=C) hw ff E E'
    rw[IW ff]at hu ⊢;rw[e1,GJ hn uO (uf.nb hw ff) hi hj ej];exact hu
  refine⟨fun hh=>?_,?_⟩
  ·rcases oa.1 hh with⟨KI,_⟩|⟨_,g1,g2,g3,g4⟩
   ·rw[hw]at KI;cases KI
   ·refine oa.2 (Or.inr ⟨hw,fun e=>by rw[g1 e,h1 e],fun e=>by rw[g2 e,h2 e],by omega,fun i hi hu=>?_⟩)
    obtain⟨j,hj,ej,YJ⟩:=used i hi hu;rw[<-ej];exact g4 j hj YJ
  ·by_cases ff:k=12
   ·obtain⟨e1,e2⟩:=od (aG:=aG) (C:=C) ff E E'
    rw[e1,e2,(od (aG:=aG) (C:=C.map (yr E E')) ff E' L).1,(od (aG:=aG) (C:=C.map (yr E E')) ff E' L).2,(od (aG:=aG) (C:=C) ff E L).1,(od (aG:=aG) (C:=C) ff E L).2];refine⟨rfl,?_⟩;rw[List.map_map];refine List.map_congr_left fun r hr=>?_
    exact Se hn uO hL (uf.b ff r hr) (Oq hn (uf.b ff r hr) fun i hi hu=>h4 i hi (by rw[IV ff];exact List.any_eq_true.2 ⟨r,hr,hu⟩))
   ·obtain⟨e1,e2⟩:=uY (aG:=aG) (C:=C) hw ff E E'
    rw[e1,e2,(uY (aG:=yr E E' aG) (C:=C) hw ff E' L).1,(uY (aG:=yr E E' aG) (C:=C) hw ff E' L).2,(uY (aG:=aG) (C:=C) hw ff E L).1,(uY (aG:=aG) (C:=C) hw ff E L).2];have hl:=uf.nb hw ff;exact⟨Se hn uO hL hl (Oq hn hl fun i hi hu=>h4 i hi (by rw[IW ff];exact hu)),rfl⟩
theorem Ov (hn:E.Nodup) (uf:UF E.length k aG C):jE E E k aG=aG/\yh E E k C=C:=by
 cases hw:yq k with
 | true=>exact Ou hw E E
 | false=>
  by_cases ff:k=12
  ·obtain⟨e1,e2⟩:=od (aG:=aG) (C:=C) ff E E
   refine⟨e1,e2.trans ?_⟩;refine(List.map_congr_left fun r hr=>?_).trans (List.map_id C);exact JZ hn (uf.b ff r hr)
  ·obtain⟨e1,e2⟩:=uY (aG:=aG) (C:=C) hw ff E E
   exact⟨e1.trans (JZ hn (uf.nb hw ff)),e2⟩
theorem QW (hn:E.Nodup) (uO:E'.Nodup) (uf:UF E.length k aG C) (h:Eu N E D k aG C N E' D'=true) :
  Eu N E' D' k (jE E E' k aG) (yh E E' k C) N E D=true/\jE E' E k (jE E E' k aG)=aG/\yh E' E k (yh E E' k C)=C:=by
 obtain⟨_,a1,a2⟩:=Sf (L:=E) (DL:=D) (P:=N) hn uO hn uf h;obtain⟨b1,b2⟩:=Ov hn uf;refine⟨?_,a1.trans b1,a2.trans b2⟩;rcases oa.1 h with⟨hw,_,rfl⟩|⟨hw,h1,h2,h3,h4⟩
 ·exact oa.2 (Or.inl ⟨hw,rfl,rfl⟩)
 ·refine oa.2 (Or.inr ⟨hw,fun _=>rfl,fun e=>(h2 e).symm,Int.le_refl _,fun j hj hu=>?_⟩)
  have ej:E'.getD j []=E'[j]:=by rw[List.getD_eq_getElem?_getD,List.getElem?_eq_getElem hj];rfl
  rw[ej]
  by_cases hm:E'[j]∈E
  ·exact hm
  ·by_cases ff:k=12
   ·rw[IV ff,(od (aG:=aG) (C:=C) ff E E').2,List.any_map]at hu
    obtain⟨r,hr,js⟩:=List.any_eq_true.1 hu;have js:vW (yr E E' r) j=true:=js;rw[Ot hn uO (uf.b ff r hr) hj hm]at js;cases js
   ·rw[IW ff,(uY (aG:=aG) (C:=C) hw ff E E').1,Ot hn uO (uf.nb hw ff) hj hm]at hu;cases hu
structure KV (N:Int) (E D:List (List T2)):Prop where
 k:NM N E D
 e:∀p∈E,SP p
 d:∀p∈D,SP p
 v:(E.all (En N)&&D.all (En N))=true
theorem Ow (N:Int) (E D:List (List T2)) (h:KV N E D) (hE:E.length<=3) (hD:D.length<=2) (kd fF:Int) (hk:0<=kd) (ha:0<=fF/\fF<256) (p:List T2) (hp:SP p) :
  ∃(N':Int) (E' D':List (List T2)),KV N' E' D'/\E'.length<=E.length+1/\D'.length<=D.length+1 /\
   ah Tryz.prog 10 [.val (.agg (kT N E D)),.val (ti .u8 kd),.val (ti .u8 fF),.val (tl (aV p))] ⟨[.val (.agg (kT N' E' D'))],[none,none,none,none]⟩:=by
 have fin:∀(N':Int) (E' D':List (List T2)),NM N' E' D'->(∀p∈E',SP p)->(∀p∈D',SP p)->E'.length<=E.length+1->D'.length<=D.length+1 ->
   (∀b,ah Tryz.prog 34 [.val (.agg [.v (.int .i64 N'),.aa false (an E'),.aa false (an D')])] ⟨[.val (tb b)],[none]⟩ ->
    ah Tryz.prog 10 [.val (.agg [.v (.int .i64 N),.aa false (an E),.aa false (an D)]),.val (ti .u8 kd),.val (ti .u8 fF),.val (tl (aV p))] ⟨[.val (.agg (if b=true then [.v (.int .i64 N'),.aa false (an E'),.aa false (an D')] else [.v (.int .i64 N),.aa false (an E),.aa false (an D)]))],[none,none,none,none]⟩) ->
   ∃(N':Int) (E' D':List (List T2)),KV N' E' D'/\E'.length<=E.length+1/\D'.length<=D.length+1 /\
    ah Tryz.prog 10 [.val (.agg (kT N E D)),.val (ti .u8 kd),.val (ti .u8 fF),.val (tl (aV p))] ⟨[.val (.agg (kT N' E' D'))],[none,none,none,none]⟩:=by
  intro N' E' D' h1 h2 h3 h4 h5 hc;have c:=hc _ (sv N' E' D' h1);cases hb:(E'.all (En N')&&D'.all (En N')) with
  | true=>rw[hb,if_pos rfl]at c;exact⟨N',E',D',⟨h1,h2,h3,hb⟩,h4,h5,c⟩
  | false=>rw[hb,if_neg (by decide)]at c;exact⟨N,E,D,h,by omega,by omega,c⟩
 have hK:=h.k;have eEp:∀x∈E ++ [p],SP x:=fun x hx=>by rcases List.mem_append.1 hx with h'|h';exact h.e x h';rw[List.mem_singleton.1 h'];exact hp
 have eDp:∀x∈D ++ [p],SP x:=fun x hx=>by rcases List.mem_append.1 hx with h'|h';exact h.d x h';rw[List.mem_singleton.1 h'];exact hp
 have sub:∀i:Nat,List.Sublist (E.take i++E.drop (i+1)) E:=fun i=>by
  conv=>rhs;rw[<-List.take_append_drop i E]
  exact List.Sublist.append (List.Sublist.refl _) (by rw[<-List.tail_drop];exact List.tail_sublist _)
 have Ux:∀i:Nat,(E.take i++E.drop (i+1)).length<=E.length:=fun i=>(sub i).length_le
 obtain⟨i,hi⟩:∃i:Nat,E≠[]->fF.tmod E.length=i:=by
  refine⟨(fF.tmod E.length).toNat,fun _=>?_⟩;have:=Int.tmod_nonneg (E.length:Int) ha.1;omega
 obtain⟨j,hj⟩:∃j,j=kd.tmod 8:=⟨_,rfl⟩;have hj8:0<=j/\j<8:=by rw[hj];exact⟨Int.tmod_nonneg _ hk,Int.tmod_lt_of_pos _ (by decide)⟩
 rcases(show j=0∨j=1∨j=2∨j=3∨j=4∨j=5∨j=6∨j=7 by omega) with rfl|rfl|rfl|rfl|rfl|rfl|rfl|rfl
 ·exact fin N E D hK h.e h.d (by omega) (by omega) fun b hv=>IM N kd fF E D hE hD p hj.symm b hv
 ·obtain⟨f1,f2,f3⟩:=ij (plain:=false) eEp
  rw[List.length_append,List.length_singleton]at f3;exact fin N _ D ⟨hK.n,fun x hx=>(f2 x hx).1,hK.pd,f1,hK.sd,by omega,hK.ld⟩ (fun x hx=>(f2 x hx).2.1) h.d f3 (by omega) fun b hv=>
   IN N kd fF E D hE hD p hj.symm _ (Xe (E ++ [p]) false eEp (by simp;omega)) b hv
 ·by_cases he:E=[]
  ·subst he
   exact fin N [] D hK h.e h.d (by simp) (by omega) fun b hv=>yi N kd fF [] D hE hD p hj.symm 0 ⟨fun e=>absurd rfl e,fun _=>rfl⟩ ha b hv
  ·exact fin N _ D ⟨hK.n,fun x hx=>hK.pe x ((sub i).subset hx),hK.pd,List.Pairwise.sublist (sub i) hK.se,hK.sd,by have:=Ux i;omega,hK.ld⟩ (fun x hx=>h.e x ((sub i).subset hx)) h.d (by have:=Ux i;omega) (by omega) fun b hv=>
    yi N kd fF E D hE hD p hj.symm i ⟨hi,fun e=>absurd e he⟩ ha b hv
 ·obtain⟨f1,f2,f3⟩:=ij (plain:=true) eDp
  rw[List.length_append,List.length_singleton]at f3;exact fin N E _ ⟨hK.n,hK.pe,fun x hx=>⟨(f2 x hx).1,(f2 x hx).2.2 rfl⟩,hK.se,f1,hK.le,by omega⟩ h.e (fun x hx=>(f2 x hx).2.1) (by omega) f3 fun b hv=>
   IP N kd fF E D hE hD p hj.symm _ (Xe (D ++ [p]) true eDp (by simp;omega)) b hv
 ·have h4:fF.tmod 4=fF%4:=Int.tmod_eq_emod_of_nonneg ha.1
  exact fin (1+fF.tmod 4) E D ⟨by omega,hK.pe,hK.pd,hK.se,hK.sd,hK.le,hK.ld⟩ h.e h.d (by omega) (by omega) fun b hv=>IT N kd fF E D hE hD p hj.symm _ rfl ha b hv
 ·by_cases he:E=[]
  ·subst he
   exact fin N [] D hK h.e h.d (by simp) (by omega) fun b hv=>yj N kd fF [] D hE hD p hj.symm 0 (fun e=>absurd rfl e) ha [] (fun _=>rfl) (fun e=>absurd rfl e) b hv
  ·have e5:∀x∈[p]++E.take i++E.drop (i+1),SP x:=fun x hx=>by
    rw[List.append_assoc]at hx;rcases List.mem_append.1 hx with h'|h'
    ·rw[List.mem_singleton.1 h'];exact hp
    ·exact h.e x ((sub i).subset h')
   have l5:([p]++E.take i++E.drop (i+1)).length<=E.length+1:=by
    rw[List.append_assoc,List.length_append,List.length_singleton];have:=Ux i;omega
   obtain⟨f1,f2,f3⟩:=ij (plain:=false) e5;exact fin N _ D ⟨hK.n,fun x hx=>(f2 x hx).1,hK.pd,f1,hK.sd,by omega,hK.ld⟩ (fun x hx=>(f2 x hx).2.1) h.d (by omega) (by omega) fun b hv=>
    yj N kd fF E D hE hD p hj.symm i hi ha _ (fun e=>absurd e he) (fun _=>Xe _ false e5 (by omega)) b hv
 ·exact fin N E [] ⟨hK.n,hK.pe,by simp,hK.se,List.Pairwise.nil,hK.le,by simp⟩ h.e (by simp) (by omega) (by simp) fun b hv=>IQ N kd fF E D hE hD p hj.symm b hv
 ·exact fin N [] D ⟨hK.n,by simp,hK.pd,List.Pairwise.nil,hK.sd,by simp,hK.ld⟩ (by simp) h.d (by simp) (by omega) fun b hv=>IS N kd fF E D hE hD p hj.symm b hv
end Go.Proofs.YtekefilngojelaaGreat
end
section
namespace Go.Abs
open Go.RowKit Go.WideShapes Go.ChangeShapes Go.ChangeAt
section
variable {H:Type} {enc:TypeId×Value->H} {P:Program} {w:World} {sp:Nat->Bool} {hd:Bool}
theorem LH {t e:TypeId} {n:Nat} {cs:List Value} {x:DataW H×List MemPlace} (hu:P.underlying t=some (.slice e)) (hx:DataW.trod enc P w 0 sp hd n t cs=some x) {cp:Bool} {rows:List (List Tree)} (h:iQ w [.aa cp rows] cs) :
  rows.length=0∨∃elems spare,x.1=.slice elems spare/\rows.length=elems.length:=by
 have hl:∀b len cap,cs=[.slice b len cap]->rows.length=len:=fun b len cap hc=>by
  have h2:=h.2 0 _ _ rfl (by rw[hc];rfl);cases h2 with
  | aa=>rfl
 rcases DataW.trod_slice hu hx with⟨h1,h2⟩|⟨a,len,cap,elems,rest,n',h0,h1,h2,_,_,_,RS,_⟩
 ·exact .inl (hl _ _ _ h1)
 ·exact .inr ⟨_,_,by rw[h2],by rw[hl _ _ _ h1,List.length_map,RS]⟩
def Vn (P:Program):Nat->TypeId->List Tree->Prop
 | 0,_,_=>True
 | d+1,t,ts=>(∀e cp rows,P.underlying t=some (.slice e)->ts=[.aa cp rows]->rows.length*P.bytesOf e<=reachBytes) /\
   ∀(fs:Array Field) (i:Nat) (f:Field),P.underlying t=some (.struct fs)->fs[i]?=some f->Vn P d f.type ((ts.drop f.offset).take (P.cellsOf f.type))
def Eb (P:Program) (d:Nat):List TypeId->List (List Tree)->Prop
 | t::Oc,ts::Ec=>Vn P d t ts/\Eb P d Oc Ec
 | _,_=>True
theorem iQ.cut {ts:List Tree} {cs:List Value} (h:iQ w ts cs) (i m:Nat):iQ w ((ts.drop i).take m) ((cs.drop i).take m):=by
 refine⟨by rw[List.length_take,List.length_take,List.length_drop,List.length_drop,h.1],fun j t v ht hv=>?_⟩;rw[List.getElem?_take]at ht hv;split at ht
 ·rename_i hj
  rw[if_pos hj]at hv;rw[List.getElem?_drop]at ht hv;exact h.2 _ t v ht hv
 ·cases ht
theorem Ox:∀(d:Nat) {t:TypeId} {n:Nat} {cs:List Value} {x:DataW H×List MemPlace} {ts:List Tree},DataW.trod enc P w 0 sp hd n t cs=some x->iQ w ts cs->(∀m∈x.1.weights P t,m<=reachBytes)->Vn P d t ts
 | 0,_,_,_,_,_,_,_,_=>trivial
 | d+1,t,n,cs,x,ts,hx,hr,hw=>by
  refine⟨fun e cp rows hu ht=>?_,fun fs i f hu hf=>?_⟩
  ·subst ht
   rcases LH hu hx hr with e0|⟨elems,spare,e1,e2⟩
   ·rw[e0,Nat.zero_mul];exact Nat.zero_le _
   ·rw[e2]
    refine Nat.le_trans (Nat.mul_le_mul_right _ (Nat.le_add_right _ spare.length)) (hw _ ?_);rw[e1];simp[DataW.weights,hu]
  ·obtain⟨xs,n',rfl,rfl,hl,WN,GN⟩:=DataW.trod_struct hu hx
   have hi:i<xs.length:=by rw[WN];exact(Array.getElem?_eq_some_iff.1 hf).1
   have h1:=GN i f hf;rw[List.getElem?_eq_getElem hi]at h1;refine Ox d h1 (hr.cut _ _) fun m hm=>hw m ?_
   show m∈DataW.weights P t (.agg (xs.map (·.1)))
   simp only[DataW.weights,hu];exact DataW.weights_mem_each (j:=i) (t:=f.type) (d:=xs[i].1) (by rw[List.getElem?_map,Array.getElem?_toList,hf];rfl) (by rw[List.getElem?_map,List.getElem?_eq_getElem hi];rfl) m hm
def oe (P:Program):List Nat->TypeId->List Tree->Option (TypeId×List Tree)
 | [],t,ts=>some (t,ts)
 | i::p,t,ts=>match P.underlying t with
  | some (.struct fs)=>match fs[i]? with
   | some f=>oe P p f.type ((ts.drop f.offset).take (P.cellsOf f.type))
   | none=>none
  | _=>none
theorem yl:∀(p:List Nat) {d:Nat} {t t':TypeId} {ts Pj:List Tree},Vn P (d+p.length) t ts->oe P p t ts=some (t',Pj)->Vn P d t' Pj
 | [],d,t,t',ts,Pj,h,hp=>by
  simp only[oe,Option.some.injEq,Prod.mk.injEq]at hp;obtain⟨rfl,rfl⟩:=hp;exact h
 | i::p,d,t,t',ts,Pj,h,hp=>by
  unfold oe at hp;split at hp
  ·rename_i fs hu
   split at hp
   ·rename_i f hf
    exact yl p (h.2 fs i f hu hf) hp
   ·cases hp
  ·cases hp
theorem og {D:Nat}:∀ {Oc:List TypeId} {Ly:List Shape} {vs:List Value} {ds:List (DataW H)} {ps:List MemPlace},DataW.TrodAll enc P w 0 sp true Oc vs ds ps->iE P Oc Ly=true ->
  (∀(j:Nat) t v,Oc[j]?=some t->vs[j]?=some v->Value.okWide P w .any 0 t v) ->
  (∀(j:Nat) t d,Oc[j]?=some t->ds[j]?=some d->∀m∈d.weights P t,m<=reachBytes) ->
  ∃Ec,JT Ly Ec/\Eb P D Oc Ec/\vs.length=(QF Ly Ec).length/\ds.length=Ly.length/\∀(i:Nat) (x:TV),(QF Ly Ec)[i]?=some x->∃v,vs[i]?=some v/\aH ER (gB w) w x.av v
 | [],[],[],[],ps,h,hf,hv,hz=>⟨[],rfl,trivial,rfl,rfl,fun i x hx=>by simp[QF]at hx⟩
 | t::ts,s::ss,v::vs,d::ds,ps,h,hf,hv,hz=>by
  obtain⟨p,q,⟨n,h1⟩,h2,_⟩:=h;simp only[iE,Bool.and_eq_true]at hf;obtain⟨⟨⟨f1,f2⟩,f3⟩,f4⟩:=hf;obtain⟨Ec,g1,g0,g2,g3,g4⟩:=og h2 f4 (fun j t v ht hx=>hv (j+1) t v (by simpa using ht) (by simpa using hx)) (fun j t d ht hd=>hz (j+1) t d (by simpa using ht) (by simpa using hd));obtain⟨tr,k1,k2⟩:=s.read t f1 n _ _ h1;refine⟨tr::Ec,⟨tr,Ec,rfl,k1,g1⟩,⟨Ox D h1 k2 (hz 0 t d rfl rfl),g0⟩,by simp[QF,g2],by simp[g3],fun i x hx=>?_⟩
  cases i with
  | zero=>
   simp only[QF,List.getElem?_cons_zero,Option.some.injEq]at hx;subst hx;exact⟨v,rfl,Shape.rep f1 (hv 0 t v rfl rfl) k1 k2⟩
  | succ i=>simp only[QF,List.getElem?_cons_succ]at hx ⊢;exact g4 i x hx
 | [],_::_,_,_,_,_,hf,_,_=>by simp[iE]at hf
 | _::_,[],_,_,_,_,hf,_,_=>by simp[iE]at hf
 | [],[],_::_,_,_,h,_,_,_=>by simp[DataW.TrodAll]at h
 | [],[],[],_::_,_,h,_,_,_=>by simp[DataW.TrodAll]at h
 | _::_,_::_,[],_,_,h,_,_,_=>by simp[DataW.TrodAll]at h
 | _::_,_::_,_::_,[],_,h,_,_,_=>by simp[DataW.TrodAll]at h
theorem Ed {f:FuncId} {fn:Func} {spec:ChangeSpec} {Ly:List Shape} {outs:List (Option aC)} (hl:laidOutB P=true) (hf:iE P fn.params.toList Ly=true) (GD:spec.vars=[]) {tb0:TypeId} (CU:fn.resultTypes=#[tb0]) (hb4:P.underlying tb0=some .bool)
  {apart fresh handsOn again:Bool} (jm:∀ds:List (DataW H),ds.length=Ly.length->(spec.fn H ds).args=ds/\(spec.fn H ds).results=[.lit (.bool true)]/\(spec.fn H ds).vars=[])
  (hc:∀Ec,JT Ly Ec->Eb P 5 fn.params.toList Ec->ah P f ((QF Ly Ec).map .val) ⟨[.val (tb true)],outs⟩)
  {W:World} {args:Array Value} {ds gs:List (DataW H)} {before:List MemPlace} (pK:∀(j:Nat) t v,fn.params[j]?=some t->args[j]?=some v->Value.okWide P W .any 0 t v)
  (hW:DataW.Whole enc P fn.params.toList spec.vars apart W args.toList ds gs before) {vt:List TypeId}
  (hz:(DataW.weightsEach P (fn.params.toList++vt) (ds++gs)).all (·<=reachBytes)=true) :
  Calls P f args W fun e W'=>∃v,e=.returned v/\spec.post enc P fn apart fresh handsOn again W args v W':=by
 have hW':=hW;obtain⟨p,q,hA,hV,rfl,GW,oO⟩:=hW;rw[GD]at hV;have WJ:gs=[]/\q=[]:=by
  cases gs with
  | nil=>exact⟨rfl,hV⟩
  | cons g gs=>exact hV.elim
 obtain⟨rfl,rfl⟩:=WJ;obtain⟨Ec,iU,dS,hlen,hdl,jt⟩:=og hA hf (fun j t v ht hv=>pK j t v (by simpa using ht) (by simpa using hv)) (fun j t d ht hd m hm=>by
  have:=List.all_eq_true.1 hz m (DataW.weights_mem_each (j:=j) (t:=t) (by rw[List.getElem?_append_left (List.getElem?_eq_some_iff.1 ht).1];exact ht) (by rw[List.append_nil];exact hd) m hm);simpa using this)
 have h:=Lw (hc Ec iU dS) W args.toList hlen jt;have dG:args.toList.toArray=args:=rfl;rw[dG]at h;obtain⟨e1,e2,e3⟩:=jm ds hdl;have QX:∀x∈p,x.block<W.heap.size:=fun x hx=>hW'.lt x (List.mem_append_left _ hx)
 refine h.mono fun e W' ⟨he,hg⟩=>?_
 subst he;refine⟨_,rfl,Ag (pa:=p) (pv:=[]) hW' (fun b sp hd=>?_) (fun sp hs=>?_) (fun sp hs=>?_) rfl hg ?_⟩
 ·rw[List.append_nil,e2,CU]
  exact trodAll_cons_mk (shut_bool hb4 _) trodAll_mk0
 ·rw[List.append_nil,e1]
  exact Cc hl hg hA hf QX (fun x hx=>hs x (List.mem_append_left _ hx))
 ·rw[List.append_nil,e3,GD];rfl
 ·exact ok_one CU rfl (okWide_bool_mk hb4 _)
end
end Go.Abs
end
section
namespace Go.Proofs.YtekefilngojelaaGreat
open Go Go.Abs Go.Abs.M Go.Proofs
def LI:Shape:=.struct [.slice (.arr 5 (.int .i8))]
def J0:Shape:=.struct [.int .u8,.slice LI,.slice (.int .i8)]
theorem IX:∀rows:List (List Tree),(∀r∈rows,(Shape.arr 5 (.int .i8)).ok r)->∃l:List R5,rows=Ah l/\∀x∈l,x.ok
 | [],_=>⟨[],rfl,by simp⟩
 | r::rs,h=>by
  obtain⟨l,h1,h2⟩:=IX rs fun r hr=>h r (List.mem_cons_of_mem _ hr)
  obtain⟨_,_,rfl,⟨a,rfl,ha⟩,_,_,rfl,⟨b,rfl,hb⟩,_,_,rfl,⟨c,rfl,hc⟩,_,_,rfl,⟨d,rfl,hd⟩,_,_,rfl,⟨e,rfl,he⟩,rfl⟩:=h r List.mem_cons_self;refine⟨⟨a,b,c,d,e⟩::l,by rw[h1];rfl,fun x hx=>?_⟩;rcases List.mem_cons.1 hx with rfl|hx
  ·exact⟨JQ ha,JQ hb,JQ hc⟩
  ·exact h2 x hx
theorem Oy:∀rows:List (List Tree),(∀r∈rows,(Shape.int .i8).ok r)->∃l:List Int,rows=W .i8 l/\∀x∈l,-128<=x/\x<128
 | [],_=>⟨[],rfl,by simp⟩
 | r::rs,h=>by
  obtain⟨l,h1,h2⟩:=Oy rs fun r hr=>h r (List.mem_cons_of_mem _ hr)
  obtain⟨a,rfl,ha⟩:=h r List.mem_cons_self;refine⟨a::l,by rw[h1];rfl,fun x hx=>?_⟩;rcases List.mem_cons.1 hx with rfl|hx
  ·exact JQ ha
  ·exact h2 x hx
theorem J1:∀rows:List (List Tree),(∀r∈rows,LI.ok r)->∃(l:List (List R5)) (ts:List Tree),rows=ts.map (fun t=>[t])/\kh ts (l.map fun t=>.aa false (Ah t))/\rows.length=l.length/\∀t∈l,∀x∈t,x.ok
 | [],_=>⟨[],[],rfl,trivial,rfl,by simp⟩
 | r::rs,h=>by
  obtain⟨l,ts,h1,h2,h3,h4⟩:=J1 rs fun r hr=>h r (List.mem_cons_of_mem _ hr)
  obtain⟨_,_,rfl,⟨cp,rows,rfl,_,hr⟩,rfl⟩:=h r List.mem_cons_self;obtain⟨t,rfl,ht⟩:=IX rows hr;refine⟨t::l,.aa cp (Ah t)::ts,by rw[h1];rfl,⟨aW.drop _ _,h2⟩,by simp[h3],fun x hx=>?_⟩;rcases List.mem_cons.1 hx with rfl|hx
  ·exact ht
  ·exact h4 x hx
theorem Uy {c:Bool} {ts:List Tree} {l:List (List R5)} (h:kh ts (l.map fun t=>.aa false (Ah t))):aW (.aa c (ts.map fun t=>[t])) (.aa false (Cg l)):=by
 have e:Cg l=(l.map fun t=>Tree.aa false (Ah t)).map fun t=>[t]:=by simp[Cg]
 rw[e];exact aW.Uq h
theorem OA {ts:List Tree} (h:J0.ok ts) {T M M2 e e2:TypeId} (hu:Tryz.prog.underlying M=some (.slice e)) (he:Tryz.prog.bytesOf e=24) (yP:Tryz.prog.underlying M2=some (.slice e2)) (Rn:Tryz.prog.bytesOf e2=1)
  (p1:∀a b c:Tree,oe Tryz.prog [1] T [a,b,c]=some (M,[b])) (p2:∀a b c:Tree,oe Tryz.prog [2] T [a,b,c]=some (M2,[c])) (z:Vn Tryz.prog 5 T ts) :
  ∃(K:Int) (l:List (List R5)) (v:List Int),0<=K/\L5 l/\JN v/\kh ts (mq K l v):=by
 obtain⟨_,_,rfl,⟨K,rfl,hK⟩,_,_,rfl,⟨c1,r1,rfl,_,g1⟩,_,_,rfl,⟨c2,r2,rfl,_,g2⟩,rfl⟩:=h;have z1:=(yl (d:=4) [1] z (p1 _ _ _)).1 e _ _ hu rfl;have z2:=(yl (d:=4) [2] z (p2 _ _ _)).1 e2 _ _ yP rfl;have hr:reachBytes=140737488351232:=by decide
 rw[he,hr]at z1;rw[Rn,hr]at z2;obtain⟨l,ts,rfl,h2,h3,h4⟩:=J1 r1 g1;obtain⟨v,rfl,hv⟩:=Oy r2 g2;rw[jf]at z2;refine⟨K,l,v,?_,⟨by omega,h4⟩,⟨hv,by omega⟩,⟨.v _,Uy h2,.drop _ _,trivial⟩⟩;exact(JP hK).1
theorem QY {ts:List Tree} (h:LI.ok ts):∃y:List R5,(∀x∈y,x.ok)/\kh ts [.aa false (Ah y)]:=by
 obtain⟨_,_,rfl,⟨cp,rows,rfl,_,hr⟩,rfl⟩:=h;obtain⟨y,rfl,hy⟩:=IX rows hr;exact⟨y,hy,⟨.drop _ _,trivial⟩⟩
theorem Yo (l:List (List T2)):l.all (En 2)=true:=List.all_eq_true.2 fun p _=>by unfold En;simp
theorem KV.two {E D:List (List T2)} (h:NM 2 E D) (hE:∀p∈E,SP p) (hD:∀p∈D,SP p):KV 2 E D:=⟨h,hE,hD,by rw[Yo,Yo];rfl⟩
theorem KV.le {N:Int} {E D:List (List T2)} (h:KV N E D):LP E:=lpS h.e (by have:=h.k.le;omega)
theorem KV.ld {N:Int} {E D:List (List T2)} (h:KV N E D):LP D:=lpS h.d (by have:=h.k.ld;omega)
theorem Sh {N:Int} {E D:List (List T2)} {k:Int} {aG:List (List T2)} {C:List (List (List T2))} {M:Int} {E' D':List (List T2)} (h:Eu N E D k aG C M E' D'=true):N<=M:=by
 unfold Eu uW at h;rw[Bool.and_eq_true]at h;have h:=h.1;split at h
 ·simp at h;omega
 ·split at h
  ·simp at h;omega
  ·split at h<;>simp at h<;>omega
theorem QZ (K:Int) (hK:0<=K) (l:List (List R5)) (hl:L5 l) (v:List Int) (hv:JN v) (mask:Int) :
  ∃(E D:List (List T2)) (k:Int) (Uz:List (List T2)) (C0:List (List (List T2))) (aG:List (List T2)) (C:List (List (List T2))) (q:jC),KV 2 E D/\E.length<=2/\D.length<=1/\mo E.length k aG C q /\
   ah Tryz.prog 9 [.val (.agg (mq K l v))] ⟨[.val (.agg (fT 2 (.aa false (an E)) (.aa false (an D)) k (.aa false (an Uz)) (.aa false (di C0)) q))],[none]⟩ /\
   ah Tryz.prog 8 [.val (.agg (fT 2 (.aa false (an E)) (.aa false (an D)) k (.aa false (an Uz)) (.aa false (di C0)) q)),.val (ti .u8 mask)] ⟨[.val (.agg (fT 2 (.aa false (an E)) (.aa false (an D)) k (.aa false (an aG)) (.aa false (di C)) q))],[none,none]⟩:=by
 obtain⟨E,D,k,aG,C,q,hk,hE,hD,lE,lD,hf,cM⟩:=GH K hK l hl v hv;exact⟨E,D,k,aG,C,_,_,q,KV.two hk hE hD,lE,lD,hf.thin (sJ mask 0) (sJ mask 1),cM,LD 2 k mask E lE (.aa false (an D)) aG C q hf.sh⟩
theorem Q0:(qc 1).row=[.v (.bool false),.aa false [[.v (.int .u32 1)]],.v (.bool false),.aa false [[.v (.int .u32 1)]]]:=by
 have d1:dg 1=[1]:=xG (n:=1) (by decide) (by decide);have e:qc 1=⟨false,[1],false,[1]⟩:=by
  unfold qc;rw[show(1:Rat).num=1 from rfl,show(1:Rat).den=1 from rfl,show(1:Int).natAbs=1 from rfl,show((1:Nat):Int).natAbs=1 from rfl,d1];rfl
 rw[e];rfl
theorem oK:ah Tryz.prog 28 [.val (ti .i64 1)] ⟨[.val (tl (aV [⟨1,0,0⟩]))],[none]⟩:=by
 have e:aV [⟨1,0,0⟩]=[[.v (.bool false),.aa false [[.v (.int .u32 1)]],.v (.bool false),.aa false [[.v (.int .u32 1)]],.v (.int .i64 0),.v (.int .i64 0),.v (.int .i64 0),.v (.int .i64 0),.v (.int .i64 0),.v (.int .i64 0),.v (.int .i64 0),.v (.int .i64 0)]]:=by
  show [(qc 1).row++m2 0 0]=_
  rw[Q0];rfl
 rw[e];exact vX (by kernel_rfl)
theorem OB:SP [⟨1,0,0⟩]:=⟨by intro t ht;rw[List.mem_singleton.1 ht];exact⟨rfl,⟨by decide,by decide⟩,⟨by decide,by decide⟩,⟨by decide,by decide⟩⟩,⟨by intro t ht;rw[List.mem_singleton.1 ht];decide,by simp⟩,by simp,by decide⟩
theorem LJ (p:List T2) (hp:MP 3 p):∃p',SP p'/\ah Tryz.prog 27 [.val (tl (aV p)),.val (tl (aV [⟨1,0,0⟩]))] ⟨[.val (tl (aV p'))],[none,none]⟩:=by
 have s:=hp.sp (by omega);have c:=ya p [⟨1,0,0⟩] (a:=1000) (b:=1000) (fun t ht=>(s.int t ht).ok) (fun t ht=>(OB.int t ht).ok) (by have:=hp.len;omega) (by simp) (by omega);obtain⟨h1,h2,h3,h4⟩:=Cf (A:=3*3) (B:=3*1) (p.length+1) p [⟨1,0,0⟩] (Nat.le_refl _) hp.vd OB.vd hp.z (by intro t ht;rw[List.mem_singleton.1 ht];exact⟨rfl,by decide⟩);refine⟨_,?_,c⟩;have hm:MP 4 (cN (p.length+[(⟨1,0,0⟩:T2)].length) p [⟨1,0,0⟩]):=by
  refine⟨h1,fun t ht=>?_,fun t ht=>?_,by have:=hp.len;have:=h4;simp at this ⊢;omega⟩
  ·have:=h2 t ht;exact⟨this.1,by have:=this.2;omega⟩
  ·obtain⟨u,hu,ea,eb⟩:=h3 t ht
   rcases hu with hu|hu
   ·have:=hp.e u hu;omega
   ·rw[List.mem_singleton.1 hu]at ea eb;simp only at ea eb;omega
 exact hm.sp (by omega)
theorem GK (c0:ah Tryz.prog 7 [] ⟨[.val (tb true)],[]⟩) (K:Int) (hK:0<=K) (l:List (List R5)) (hl:L5 l) (v:List Int) (hv:JN v) (ka kb kc kd:Int) (ha:0<=ka) (hb:0<=kb/\kb<256) (hd:0<=kd) (y:List R5) (hy:∀x∈y,x.ok) :
  ah Tryz.prog 6 [.val (.agg (mq K l v)),.val (.agg [.v (.int .u8 ka),.v (.int .u8 kb),.v (.int .u8 kc),.v (.int .u8 kd)]),.val (.agg [.aa false (Ah y)])] ⟨[.val (tb true)],[none,none,none]⟩:=by
 obtain⟨E,D,k,Uz,C0,aG,C,q,hV,lE,lD,hf,cM,cH⟩:=QZ K hK l hl v hv kc;obtain⟨p,hp,cP⟩:=uX y hy;obtain⟨p',Vi,cA⟩:=LJ p hp;obtain⟨M,E',D',Q1,lE',lD',cC⟩:=Ow 2 E D hV (by omega) (by omega) ka kb ha hb p (hp.sp (by omega));obtain⟨P,L,DL,Si,_,_,cL⟩:=Ow M E' D' Q1 (by omega) (by omega) kd kb hd hb p' Vi;have uf:=hf.sh.uf;have nE:=uj hV.k.se;have nE':=uj Q1.k.se
 have nL:=uj Si.k.se;have cG:=sH 2 E D k aG C q M E' D' hV.le hV.ld Q1.le Q1.ld nE' uf;have cK:=sH 2 E D k aG C q P L DL hV.le hV.ld Si.le Si.ld nL uf;cases hh:Eu 2 E D k aG C M E' D' with
 | false=>
  rw[hh,if_neg (by decide)]at cG;exact IU _ _ _ _ _ _ _ _ _ _ _ _ _ _ _ _ _ ka kb kc kd k M P q 0 0 [] [] [] [] jL c0 cM cH cP cC oK cA cL cG
 | true=>
  rw[hh,if_pos rfl]at cG;have hc:=hf.carry hh;have uf':=hc.sh.uf;have cF:=hc.right Q1.k (Sh hh);have cS:=Om hf hV.k hV.e hV.d (by omega);have cJ:=sH M E' D' k _ _ q P L DL Q1.le Q1.ld Si.le Si.ld nL uf';obtain⟨o1,o2,o3⟩:=Sf (L:=L) (DL:=DL) (P:=P) nE nE' nL uf hh;have cB:M=2->ah Tryz.prog 14 [.val (.agg (fT M (.aa false (an E')) (.aa false (an D')) k (.aa false (an (jE E E' k aG))) (.aa false (di (yh E E' k C))) q)),.val (.agg (kT 2 E D))] ⟨[.val (.agg (fT 2 (.aa false (an E)) (.aa false (an D)) k (.aa false (an aG)) (.aa false (di C)) q)),.val (tb true)],[none,none]⟩:=by
   rintro rfl
   have c:=sH 2 E' D' k _ _ q 2 E D Q1.le Q1.ld hV.le hV.ld nE uf';obtain⟨b1,b2,b3⟩:=QW nE nE' uf hh;rw[b1,if_pos rfl,b2,b3]at c;exact c
  cases Yp:Eu M E' D' k (jE E E' k aG) (yh E E' k C) P L DL with
  | false=>
   rw[Yp,if_neg (by decide)]at cJ;cases Yq:Eu 2 E D k aG C P L DL with
   | false=>
    rw[Yq,if_neg (by decide)]at cK;exact nZ _ _ _ _ _ _ _ _ _ _ _ _ _ _ _ _ _ ka kb kc kd k M P q M k _ _ _ _ q 0 0 [] [] [] [] jL 0 0 [] [] [] [] jL false false c0 cM cH cP cC oK cA cL cG cF cB cS cJ cK (fun e=>absurd e (by decide)) (fun e=>absurd e (by decide))
   | true=>
    rw[Yq,if_pos rfl]at cK;exact nZ _ _ _ _ _ _ _ _ _ _ _ _ _ _ _ _ _ ka kb kc kd k M P q M k _ _ _ _ q 0 0 [] [] [] [] jL P k _ _ _ _ q false true c0 cM cH cP cC oK cA cL cG cF cB cS cJ cK (fun e=>absurd e (by decide)) (fun e=>absurd e (by decide))
  | true=>
   rw[Yp,if_pos rfl,o2,o3]at cJ;rw[o1 Yp,if_pos rfl]at cK;have cT:=Om (hf.carry (o1 Yp)) Si.k Si.e Si.d (Sh (o1 Yp));exact nZ _ _ _ _ _ _ _ _ _ _ _ _ _ _ _ _ _ ka kb kc kd k M P q M k _ _ _ _ q P k _ _ _ _ q P k _ _ _ _ q true true c0 cM cH cP cC oK cA cL cG cF cB cS cJ cK (fun _=>rfl) (fun _=>cT)
theorem Q2 {ts:List Tree} (h:(Shape.arr 4 (.int .u8)).ok ts):∃a b c d:Int,ts=[.v (.int .u8 a),.v (.int .u8 b),.v (.int .u8 c),.v (.int .u8 d)]/\0<=a/\(0<=b/\b<256)/\0<=d:=by
 obtain⟨_,_,rfl,⟨a,rfl,ha⟩,_,_,rfl,⟨b,rfl,hb⟩,_,_,rfl,⟨c,rfl,hc⟩,_,_,rfl,⟨d,rfl,hd⟩,rfl⟩:=h;exact⟨a,b,c,d,rfl,(JP ha).1,JP hb,(JP hd).1⟩
theorem Ee (adi:ah Tryz.prog 7 [] ⟨[.val (tb true)],[]⟩) {T U V M M2 e e2:TypeId} (hu:Tryz.prog.underlying M=some (.slice e)) (he:Tryz.prog.bytesOf e=24) (yP:Tryz.prog.underlying M2=some (.slice e2)) (Rn:Tryz.prog.bytesOf e2=1)
  (p1:∀a b c:Tree,oe Tryz.prog [1] T [a,b,c]=some (M,[b])) (p2:∀a b c:Tree,oe Tryz.prog [2] T [a,b,c]=some (M2,[c]))
  (Ec:List (List Tree)) (h:JT [J0,.arr 4 (.int .u8),LI] Ec) (hz:Eb Tryz.prog 5 [T,U,V] Ec) :
  ah Tryz.prog 6 ((QF [J0,.arr 4 (.int .u8),LI] Ec).map .val) ⟨[.val (tb true)],[none,none,none]⟩:=by
 obtain⟨t1,_,rfl,h1,t2,_,rfl,h2,t3,_,rfl,h3,rfl⟩:=h;obtain⟨z,_⟩:=hz;obtain⟨K,l,v,hK,hl,hv,XI⟩:=OA h1 hu he yP Rn p1 p2 z;obtain⟨y,hy,le3⟩:=QY h3;obtain⟨a,b,c,d,rfl,ha,hb,hd⟩:=Q2 h2;have cc:=GK adi K hK l hl v hv a b c d ha hb hd y hy;have hle:dX [.val (.agg t1),.val (.agg [.v (.int .u8 a),.v (.int .u8 b),.v (.int .u8 c),.v (.int .u8 d)]),.val (.agg t3)] [.val (.agg (mq K l v)),.val (.agg [.v (.int .u8 a),.v (.int .u8 b),.v (.int .u8 c),.v (.int .u8 d)]),.val (.agg [.aa false (Ah y)])]:=⟨XI,kh.refl _,le3,trivial⟩
 exact ah.Fw hle (ak.refl _) cc
end Go.Proofs.YtekefilngojelaaGreat
end
