/- A part. -/
import Derived.Test.YtekefilngojelaaGreatM12
import Derived.Test.YtekefilngojelaaGreatM15
import Derived.Test.YtekefilngojelaaGreatM19
import Derived.Test.YtekefilngojelaaGreatM34
import Derived.Test.YtekefilngojelaaGreatM36
set_option maxHeartbeats 0
set_option maxRecDepth 100000
set_option linter.unusedVariables false
set_option linter.unusedSimpArgs false
set_option linter.unusedSectionVars false
section
namespace Go.Proofs.YtekefilngojelaaGreat
open Go Go.Abs Go.Abs.M Go.Proofs
theorem T3 {l:aS} (h:∀p∈l,SP p) (hn:l.length<=20):BL l:=⟨fun p hp=>(h p hp).vp.bp,hn⟩
theorem K8.bt {C:fi} {r c:Nat} (h:K8 C r c) (hr:r<=10) (hc:c<=20):BT C:=⟨fun p hp=>T3 (h.2 p hp).2 (by rw[(h.2 p hp).1];exact hc),by rw[h.1];exact hr⟩
theorem OU.bu {l:List Rat} (h:OU l):BU l:=⟨h.1,by have:=h.2.1;omega⟩
theorem T4:Qs 0 100:=(Qs.whole (n:=0) (k:=1) (by omega) (by omega)).mono (by omega)
theorem Q8.fit.ok {x:Q8} (h:x.fit):x.ok:=⟨h.a0,by rw[h.a1];exact T4,by rw[h.a2];exact T4,by rw[h.a3];exact T4,by rw[h.a4];exact T4,by rw[h.a5];exact T4,by rw[h.a6];exact T4,by rw[h.a7];exact T4⟩
theorem gg3 {g:Nat} (h:g<=3):g*(g-1)/2<=3:=by
 rcases(show g=0∨g=1∨g=2∨g=3 by omega) with rfl|rfl|rfl|rfl<;>decide
theorem ll3 {g:Nat} (h:g<=3):1+g*(g+1)/2<=7:=by
 rcases(show g=0∨g=1∨g=2∨g=3 by omega) with rfl|rfl|rfl|rfl<;>decide
def vr (k:Int):Cl:=⟨k,[],0,0,0,[],[],[],[]⟩
theorem Zn:DO 0:=⟨by decide,by decide⟩
theorem T5 {k:Int} (h:DO k):(vr k).ok:=⟨h,⟨by simp[vr],by simp[vr]⟩,Zn,Zn,Zn,⟨by simp[vr],by simp[vr]⟩,⟨by simp[vr],by simp[vr]⟩,⟨by simp[vr],by simp[vr]⟩,⟨by simp[vr],by simp[vr]⟩⟩
def Jy:Ce:=⟨0,[],[],[],[],[],[],⟨0,0,0,0,0,0,0,0⟩,[],[],[],[],[],[],[],[],[],[],[],[],[]⟩
theorem r8a {a:Int} (h:DO a):R8.ok ⟨1,a,0,0,0,0,0,0⟩:=by
 unfold R8.ok;simp only;exact⟨⟨by decide,by decide⟩,h,⟨by decide,by decide⟩,⟨by decide,by decide⟩,⟨by decide,by decide⟩,⟨by decide,by decide⟩,⟨by decide,by decide⟩,⟨by decide,by decide⟩⟩
theorem bl0:BL []:=⟨by simp,by simp⟩
theorem bt0:BT []:=⟨by simp,by simp⟩
theorem bu0:BU []:=⟨by simp,by simp⟩
theorem kf.fa {m:Nat} {k:Int} {aG:aS} {C:fi} {q:jJ} (h:kf m k aG C q) (hm:m<=10) (N:Int) (hN:DO N) (E D:aS) (hE:BL E) (hD:BL D) :
  ∃f:Fa,f.ok/\f.tree=fT N (.aa false (aj E)) (.aa false (aj D)) k (.aa false (aj aG)) (.aa false (dL C)) q:=by
 have key:∀ {k aG C q} (c:Cl) (e:Ce),(Fa.mk N E D c e).tree=fT N (.aa false (aj E)) (.aa false (aj D)) k (.aa false (aj aG)) (.aa false (dL C)) q->c.ok->e.ok->∃f:Fa,f.ok/\f.tree=fT N (.aa false (aj E)) (.aa false (aj D)) k (.aa false (aj aG)) (.aa false (dL C)) q:=fun c e h h1 h2=>⟨⟨N,E,D,c,e⟩,⟨hN,hE,hD,h1,h2⟩,h⟩
 rcases h with⟨P,aG,hP,c1,c2⟩|⟨P,C,G,O,Q,Sx,hP,b⟩|⟨n,aG,n1,c1,c2⟩|⟨O1,Lc,C,G,O,Q,Sx,hO,hL,lL,b⟩|⟨cn,cd,C,G,O,Q,Sx,h1,h3,b⟩|⟨cn,cd,cr,C,G,O,Q,Sx,h1,h3,b⟩|⟨Z,C,G,O,Q,Sx,U,U1,At,a,hZ,lZ,b,r⟩|⟨P,Z,Sg,C,G,O,Q,Sx,U,U1,At,a,hP,hZ,lZ,hg,lg,b,r⟩|⟨aG,Sq,c1,c2,s1,s2⟩|⟨P,aG,Sq,hP,c1,c2,s1,s2⟩|⟨Lc,C,hL,lL,hC⟩|⟨cn,C,G,O,h1,b0⟩|⟨cn,Xs,Bs,h1,x1,x2,b1,b2⟩
 all_goals first|refine key { vr 1 with P:=P } { Jy with sF:=aG } rfl ?_ ?_|refine key { vr 2 with P:=P } { Jy with G:=G,O:=O,C:=C,Q:=Q,Sx:=Sx } rfl ?_ ?_|refine key (vr 3) { Jy with sF:=aG,N:=n } rfl ?_ ?_|refine key { vr 4 with O:=O1,L:=Lc } { Jy with G:=G,O:=O,C:=C,Q:=Q,Sx:=Sx } rfl ?_ ?_|refine key { vr 5 with cn:=cn,cd:=cd } { Jy with G:=G,O:=O,C:=C,Q:=Q,Sx:=Sx } rfl ?_ ?_|refine key { vr 6 with cn:=cn,cd:=cd,cr:=cr } { Jy with G:=G,O:=O,C:=C,Q:=Q,Sx:=Sx } rfl ?_ ?_|refine key { vr 7 with B:=Z } { Jy with G:=G,O:=O,C:=C,Q:=Q,Sx:=Sx,R:=⟨1,a,0,0,0,0,0,0⟩,U:=U,U1:=U1,At:=At } rfl ?_ ?_|refine key { vr 8 with P:=P,B:=Z,S:=Sg } { Jy with G:=G,O:=O,C:=C,Q:=Q,Sx:=Sx,R:=⟨1,a,0,0,0,0,0,0⟩,U:=U,U1:=U1,At:=At } rfl ?_ ?_|refine key (vr 9) { Jy with sF:=aG,Sq:=Sq } rfl ?_ ?_|refine key { vr 10 with P:=P } { Jy with sF:=aG,Sq:=Sq } rfl ?_ ?_|refine key { vr 11 with L:=Lc } { Jy with C:=C } rfl ?_ ?_|refine key { vr 12 with cn:=cn } { Jy with G:=G,O:=O,C:=C } rfl ?_ ?_|refine key { vr 13 with cn:=cn } { Jy with X:=Xs,B:=Bs } rfl ?_ ?_
 all_goals
  first|exact T5 ⟨by decide,by decide⟩|refine⟨?_,?_,?_,?_,?_,?_,?_,?_,?_⟩|refine⟨?_,?_,?_,?_,?_,?_,?_,?_,?_,?_,?_,?_,?_,?_,?_,?_,?_,?_,?_,?_,?_⟩
 all_goals
  try simp only[vr,Jy]
  first|exact r8a r.a|exact Zn|exact bl0|exact bt0|exact bu0|exact⟨by decide,by decide⟩|exact⟨by simp,by simp⟩|exact⟨by omega,by omega⟩|exact hP.vp.bp|exact⟨hO.ok,by have:=hO.len;omega⟩|exact T3 hL (by omega)|exact T3 c2 (by omega)|exact T3 b.s (by have:=b.g;omega)|exact T3 b0.s (by have:=b0.g;omega)|exact⟨b.o.ok,by have:=b.o.len;omega⟩|exact⟨b0.o.ok,by have:=b0.o.len;omega⟩|exact b.c.bt (by have:=b.g;omega) (by omega)|exact b0.c.bt (by have:=b0.g;omega) (by omega)|exact b.q.bt (by omega) (by have:=b.g;omega)|exact b.x.bt (by have:=gg3 b.g;omega) (by have:=b.g;omega)|exact hC.bt (by have:=ll3 lL;omega) (by omega)|exact⟨fun x hx=>(hZ x hx).ok,by omega⟩|exact⟨fun x hx=>⟨by have:=hg x hx;omega,by have:=hg x hx;omega⟩,by omega⟩|exact r.u.bu|exact r.u1.bu|exact⟨fun x hx=>⟨(r.t x hx).1,(r.t x hx).2.1⟩,by have:=r.l;omega⟩|exact⟨fun x hx=>⟨(s1 x hx).1,(s1 x hx).2.vp.bp⟩,by omega⟩|exact⟨fun x hx=>(x1 x hx).ok,by omega⟩|exact⟨fun x hx=>(b1 x hx).ok,by omega⟩|(unfold R8.ok;decide)
theorem kf.move {m m':Nat} {k:Int} {aG xT:aS} {C C':fi} {q:jJ} (h:kf m k aG C q) (hw:yW k=false)
  (h1:k≠12->C'=C/\xT.length=m'/\∀p∈xT,SP p) (h2:k=12->xT=aG/\C'.length=C.length/\∀r∈C',r.length=m'/\∀p∈r,SP p):kf m' k xT C' q:=by
 cases h with
 | k1 P aG hP c1 c2=>obtain⟨rfl,g1,g2⟩:=h1 (by decide);exact .k1 P xT hP g1 g2
 | k3 n aG n1 c1 c2=>obtain⟨rfl,g1,g2⟩:=h1 (by decide);exact .k3 n xT n1 g1 g2
 | k9 aG Sq c1 c2 s1 s2=>obtain⟨rfl,g1,g2⟩:=h1 (by decide);exact .k9 xT Sq g1 g2 s1 s2
 | KN P aG Sq hP c1 c2 s1 s2=>obtain⟨rfl,g1,g2⟩:=h1 (by decide);exact .KN P xT Sq hP g1 g2 s1 s2
 | TJ cn C G O hn b=>
  obtain⟨rfl,g1,g2⟩:=h2 rfl;exact .TJ cn C' G O hn ⟨b.g,b.s,b.o,⟨by rw[g1];exact b.c.1,g2⟩⟩
 | _=>exact absurd hw (by decide)
theorem yc {b c:Bool} {l:aS} (h:∀p∈l,SP p):∀p∈GU b c l,SP p:=Qy SP.nil h
theorem kf.thin {m:Nat} {k:Int} {aG:aS} {C:fi} {q:jJ} (h:kf m k aG C q) (b c:Bool):kf m k (GU b c aG) (OB k b c C) q:=by
 cases h with
 | k1 P aG hP c1 c2=>exact .k1 P _ hP (by rw[kg];exact c1) (yc c2)
 | k3 n aG n1 c1 c2=>exact .k3 n _ n1 (by rw[kg];exact c1) (yc c2)
 | k9 aG Sq c1 c2 s1 s2=>exact .k9 _ Sq (by rw[kg];exact c1) (yc c2) s1 s2
 | KN P aG Sq hP c1 c2 s1 s2=>exact .KN P _ Sq hP (by rw[kg];exact c1) (yc c2) s1 s2
 | TJ cn C G O hn b'=>
  refine .TJ cn _ G O hn ⟨b'.g,b'.s,b'.o,⟨?_,?_⟩⟩
  ·unfold OB;rw[if_pos rfl,List.length_map];exact b'.c.1
  ·intro r hr
   unfold OB at hr;rw[if_pos rfl]at hr;obtain⟨x,hx,rfl⟩:=List.mem_map.1 hr;exact⟨by rw[kg];exact(b'.c.2 x hx).1,yc (b'.c.2 x hx).2⟩
 | k2 P C G O Q Sx h1 h2=>exact .k2 P C G O Q Sx h1 h2
 | k4 O1 Lc C G O Q Sx h1 h2 h3 h4=>exact .k4 O1 Lc C G O Q Sx h1 h2 h3 h4
 | k5 cn cd C G O Q Sx h1 h2 h4=>exact .k5 cn cd C G O Q Sx h1 h2 h4
 | k6 cn cd cr C G O Q Sx h1 h2 h4=>exact .k6 cn cd cr C G O Q Sx h1 h2 h4
 | k7 Z C G O Q Sx U U1 At a h1 h2 h4 h5=>exact .k7 Z C G O Q Sx U U1 At a h1 h2 h4 h5
 | k8 P Z Sg C G O Q Sx U U1 At a h0 h1 h2 h3 h6 h4 h5=>exact .k8 P Z Sg C G O Q Sx U U1 At a h0 h1 h2 h3 h6 h4 h5
 | Ow Lc C h1 h2 h3=>exact .Ow Lc C h1 h2 h3
 | YI cn Xs Bs h1 h2 h3 h4 h5=>exact .YI cn Xs Bs h1 h2 h3 h4 h5
theorem DZ {f:List T2->Prop} (h0:f []) {l:aS} (h:∀p∈l,f p) (av:List Int) (n:Nat):∀i,i<=l.length->∀o∈Aa l av n i,f (o.getD [])
 | 0,_,o,ho=>by
  unfold Aa at ho;rw[(List.mem_replicate.1 ho).2];exact h0
 | i+1,hi,o,ho=>by
  unfold Aa at ho;split at ho
  ·rcases List.mem_or_eq_of_mem_set ho with h1|h1
   ·exact DZ h0 h av n i (by omega) o h1
   ·rw[h1]
    show f (l.getD i [])
    rw[List.getD_eq_getElem?_getD,List.getElem?_eq_getElem (by omega)];exact h _ (List.getElem_mem _)
  ·exact DZ h0 h av n i (by omega) o ho
theorem Jz {f:List T2->Prop} (h0:f []) {l:aS} (h:∀p∈l,f p) (av:List Int) (n:Nat):∀p∈UK l av n,f p:=by
 intro p hp;obtain⟨o,ho,rfl⟩:=List.mem_map.1 hp;exact DZ h0 h av n l.length (Nat.le_refl _) o ho
theorem vW (E E' l:aS):(LJ E E' l).length=E'.length:=by unfold LJ UK;rw[List.length_map,oO]
theorem Xt {N:Int} {E D:aS} {k:Int} {aG:aS} {C:fi} {M:Int} {E' D':aS} (h:Jx N E D k aG C M E' D'=true) (hw:yW k=true):M=N/\E'=E:=by
 unfold Jx uY at h;rw[hw,if_pos rfl,Bool.true_or,Bool.and_true,Bool.and_eq_true,decide_eq_true_iff,decide_eq_true_iff]at h;exact h
theorem kf.abR {m:Nat} {k:Int} {aG:aS} {C:fi} {q:jJ} (h:kf m k aG C q) (hw:yW k=false):(∀p∈aG,SP p)/\(k=12->∀r∈C,∀p∈r,SP p):=by
 cases h with
 | k1 P aG hP c1 c2=>exact⟨c2,fun e=>absurd e (by decide)⟩
 | k3 n aG n1 c1 c2=>exact⟨c2,fun e=>absurd e (by decide)⟩
 | k9 aG Sq c1 c2 s1 s2=>exact⟨c2,fun e=>absurd e (by decide)⟩
 | KN P aG Sq hP c1 c2 s1 s2=>exact⟨c2,fun e=>absurd e (by decide)⟩
 | TJ cn C G O hn b=>exact⟨by simp,fun _ r hr=>(b.c.2 r hr).2⟩
 | _=>exact absurd hw (by decide)
theorem kf.carry {N:Int} {E D:aS} {k:Int} {aG:aS} {C:fi} {q:jJ} (h:kf E.length k aG C q) {M:Int} {E' D':aS} (hh:Jx N E D k aG C M E' D'=true):kf E'.length k (ux E E' k aG) (Lj E E' k C) q:=by
 cases hw:yW k with
 | true=>
  obtain⟨_,rfl⟩:=Xt hh hw;have iH:k≠12:=by rintro rfl;exact absurd hw (by decide)
  unfold ux Lj;rw[if_pos (Or.inl hw),if_neg iH];exact h
 | false=>
  obtain⟨s1,s2⟩:=h.abR hw;refine h.move hw (fun iH=>?_) fun iH=>?_
  ·unfold ux Lj
   rw[if_neg (show ¬(yW k=true∨k=12) by simp[hw,iH]),if_neg iH];exact⟨rfl,vW E E' aG,Jz SP.nil s1 _ _⟩
  ·unfold ux Lj
   rw[if_pos (Or.inr iH),if_pos iH];refine⟨rfl,by simp,fun r hr=>?_⟩;obtain⟨x,hx,rfl⟩:=List.mem_map.1 hr;exact⟨vW E E' x,Jz SP.nil (s2 iH x hx) _ _⟩
def oh:aS->aS->List T2->List T2
 | e::E,c::l,x=>if e=x then c else oh E l x
 | _,_,_=>[]
theorem vX {x:List T2}:∀ {E l:aS},x ∉ E->oh E l x=[]
 | [],_,_=>by simp[oh]
 | e::E,[],_=>by simp[oh]
 | e::E,c::l,h=>by
  unfold oh;rw[if_neg (fun e'=>h (by rw[e'];exact List.mem_cons_self))];exact vX fun h'=>h (List.mem_cons_of_mem _ h')
theorem vY:∀ {E l:aS} {i:Nat},E.Nodup->l.length=E.length->(hi:i<E.length)->oh E l E[i]=l.getD i []
 | [],_,i,_,_,hi=>absurd hi (by simp)
 | e::E,[],_,_,hl,_=>by simp at hl
 | e::E,c::l,0,_,_,_=>by simp[oh]
 | e::E,c::l,i+1,hn,hl,hi=>by
  obtain⟨h1,h2⟩:=List.nodup_cons.1 hn;have lH:i<E.length:=by simpa using hi
  show(if e=E[i] then c else oh E l E[i])=(c::l).getD (i+1) []
  rw[if_neg (fun e'=>h1 (by rw[e'];exact List.getElem_mem lH)),vY h2 (by simpa using hl) lH];simp
theorem Ll {E l:aS} (hn:E.Nodup) (hl:l.length=E.length):E.map (oh E l)=l:=by
 refine List.ext_getElem (by simp[hl]) fun i h1 h2=>?_
 rw[List.getElem_map,vY hn hl (by simpa using h1),List.getD_eq_getElem?_getD,List.getElem?_eq_getElem h2];rfl
theorem T6 {l:aS} (h:l.Nodup) {i j:Nat} (hi:i<l.length) (hj:j<l.length) (e:l[i]=l[j]):i=j:=by
 rcases Nat.lt_trichotomy i j with h'|h'|h'
 ·exact absurd e (List.pairwise_iff_getElem.1 h i j hi hj h')
 ·exact h'
 ·exact absurd e.symm (List.pairwise_iff_getElem.1 h j i hj hi h')
theorem NW {x:List T2}:∀(L:aS) (k j:Nat),nc k L x=(j:Int)->k<=j->L[j-k]?=some x
 | [],k,j,h,_=>by unfold nc at h;omega
 | y::L,k,j,h,hk=>by
  unfold nc at h;split at h
  ·rename_i e
   obtain rfl:k=j:=by omega
   simp[e]
  ·by_cases Yf:k=j
   ·subst Yf
    rcases xR (to:=L) (k:=k+1) (p:=x) with h'|⟨j',h1,_,h3⟩
    ·omega
    ·omega
   ·have:=NW L (k+1) j h (by omega)
    rw[show j-k=(j-(k+1))+1 by omega];simpa using this
theorem NX {E':aS} (Oq:E'.Nodup) {E l:aS} (hn:E.Nodup) (hl:l.length=E.length):∀i,i<=E.length->∀t,(ht:t<E'.length) ->
  (Aa l (E.map (nc 0 E')) E'.length i)[t]?=some (if E'[t]∈E.take i then some (oh E l E'[t]) else none)
 | 0,_,t,ht=>by
  unfold Aa;rw[List.getElem?_replicate,if_pos ht];simp
 | i+1,hi,t,ht=>by
  have lH:i<E.length:=by omega
  have ih:=NX Oq hn hl i (by omega) t ht;have ea:(E.map (nc 0 E')).getD i (-1)=nc 0 E' E[i]:=by rw[NU E E' lH,List.getD_eq_getElem?_getD,List.getElem?_eq_getElem lH];rfl
  have et:E.take (i+1)=E.take i ++ [E[i]]:=by rw[List.take_add_one,List.getElem?_eq_getElem lH];rfl
  have lm:(Aa l (E.map (nc 0 E')) E'.length i).length=E'.length:=oO _ _ _ _;unfold Aa;rw[ea]
  by_cases hm:E[i]∈E'
  ·have ng:0<=nc 0 E' E[i]:=vV.2 hm
   obtain h|⟨j,_,hj,ej⟩:=xR (to:=E') (k:=0) (p:=E[i])
   ·omega
   have Ok:j<E'.length:=by omega
   have hx:E'[j]=E[i]:=by
    have:=NW E' 0 j ej (Nat.zero_le _);rw[Nat.sub_zero,List.getElem?_eq_getElem Ok]at this;exact Option.some.inj this
   rw[if_pos ng,ej,Int.toNat_natCast,List.getElem?_set]
   by_cases hjt:j=t
   ·subst hjt
    have:E'[j]∈E.take (i+1):=by rw[et,hx];exact List.mem_append.2 (Or.inr (List.mem_singleton.2 rfl))
    rw[if_pos rfl,if_pos (by omega),if_pos this,hx,vY hn hl lH]
   ·rw[if_neg hjt,ih]
    have dh:E'[t]≠E[i]:=fun e=>hjt (T6 Oq Ok ht (hx.trans e.symm))
    rw[et];simp only[List.mem_append,List.mem_singleton,dh,or_false]
  ·obtain h|⟨j,_,hj,ej⟩:=xR (to:=E') (k:=0) (p:=E[i])
   ·rw[h,if_neg (by decide),ih,et]
    have dh:E'[t]≠E[i]:=fun e=>hm (by rw[<-e];exact List.getElem_mem ht)
    simp only[List.mem_append,List.mem_singleton,dh,or_false]
   ·exact absurd (vV.1 (show 0<=nc 0 E' E[i] by omega)) hm
theorem T7 {E E' l:aS} (hn:E.Nodup) (Oq:E'.Nodup) (hl:l.length=E.length):LJ E E' l=E'.map (oh E l):=by
 refine List.ext_getElem? fun t=>?_
 by_cases ht:t<E'.length
 ·have key:=NX Oq hn hl E.length (Nat.le_refl _) t ht
  rw[List.take_length]at key;unfold LJ UK;rw[List.getElem?_map,hl,key,List.getElem?_map,List.getElem?_eq_getElem ht];show some ((if E'[t]∈E then some (oh E l E'[t]) else none:Option (List T2)).getD [])=some (oh E l E'[t])
  split
  ·rfl
  ·rename_i hm;rw[vX hm];rfl
 ·rw[List.getElem?_eq_none (by rw[vW];omega),List.getElem?_eq_none (by rw[List.length_map];omega)]
def Van (E E' l:aS):Prop:=∀x,x∈E->x ∉ E'->oh E l x=[]
theorem QE {E E' l:aS} (h:Van E E' l) {x:List T2} (hx:x ∉ E'):oh E l x=[]:=by
 by_cases hm:x∈E
 ·exact h x hm hx
 ·exact vX hm
theorem NY {E E' l:aS} (hn:E.Nodup) (hl:l.length=E.length) (h:∀i,i<E.length->F5 l i=true->E.getD i []∈E'):Van E E' l:=by
 intro x hx hx';obtain⟨i,hi,rfl⟩:=List.mem_iff_getElem.1 hx;rw[vY hn hl hi]
 by_cases hu:F5 l i=true
 ·exact absurd (by have:=h i hi hu;rwa[List.getD_eq_getElem?_getD,List.getElem?_eq_getElem hi]at this) hx'
 ·unfold F5 at hu
  rw[decide_eq_true_iff]at hu;exact List.length_eq_zero_iff.1 (by omega)
variable {N M:Int} {E D E' D':aS} {k:Int} {aG:aS} {C:fi}
theorem T8:Jx N E D k aG C M E' D'=true↔(yW k=true/\M=N/\E'=E)∨(yW k=false/\(k=12->M=N)/\(k=3->D'=D)/\N<=M/\∀i,i<E.length->KJ k aG C i=true->E.getD i []∈E'):=by
 unfold Jx uY;cases hw:yW k with
 | true=>rw[if_pos rfl];simp
 | false=>
  rw[if_neg (by decide),Bool.false_or,Bool.and_eq_true,decide_eq_true_iff (p:=∀i,i<E.length->KJ k aG C i=true->E.getD i []∈E')]
  by_cases iH:k=12
  ·subst iH
   rw[if_pos rfl,decide_eq_true_iff];constructor
   ·rintro⟨h1,h2⟩;exact Or.inr ⟨rfl,fun _=>h1,fun e=>absurd e (by decide),by omega,h2⟩
   ·rintro(⟨h,_⟩|⟨_,h1,_,_,h2⟩)
    ·cases h
    ·exact⟨h1 rfl,h2⟩
  ·rw[if_neg iH]
   by_cases h3:k=3
   ·subst h3
    rw[if_pos rfl,Bool.and_eq_true,decide_eq_true_iff,decide_eq_true_iff];constructor
    ·rintro⟨⟨h1,h2⟩,h4⟩;exact Or.inr ⟨rfl,fun e=>absurd e (by decide),fun _=>h2,h1,h4⟩
    ·rintro(⟨h,_⟩|⟨_,_,h2,h1,h4⟩)
     ·cases h
     ·exact⟨⟨h1,h2 rfl⟩,h4⟩
   ·rw[if_neg h3,decide_eq_true_iff]
    constructor
    ·rintro⟨h1,h4⟩;exact Or.inr ⟨rfl,fun e=>absurd e iH,fun e=>absurd e h3,h1,h4⟩
    ·rintro(⟨h,_⟩|⟨_,_,_,h1,h4⟩)
     ·cases h
     ·exact⟨h1,h4⟩
theorem T9 (iH:k=12) (i:Nat):KJ k aG C i=C.any fun r=>F5 r i:=by unfold KJ;rw[if_pos iH]
theorem Ua (iH:k≠12) (i:Nat):KJ k aG C i=F5 aG i:=by unfold KJ;rw[if_neg iH]
theorem Ub (h:yW k=true) (E E':aS):ux E E' k aG=aG/\Lj E E' k C=C:=by
 have iH:k≠12:=by rintro rfl;exact absurd h (by decide)
 unfold ux Lj;rw[if_pos (Or.inl h),if_neg iH];exact⟨rfl,rfl⟩
theorem NZ (h:k=12) (E E':aS):ux E E' k aG=aG/\Lj E E' k C=C.map (LJ E E'):=by
 unfold ux Lj;rw[if_pos (Or.inr h),if_pos h];exact⟨rfl,rfl⟩
theorem RG (hw:yW k=false) (iH:k≠12) (E E':aS):ux E E' k aG=LJ E E' aG/\Lj E E' k C=C:=by
 unfold ux Lj;rw[if_neg (show ¬(yW k=true∨k=12) by simp[hw,iH]),if_neg iH];exact⟨rfl,rfl⟩
def N0 (q o:List T2) (t:T2):List T2:=bN (o.length+(bM t.c t.a t.b q).length) o (bM t.c t.a t.b q)
def mulL (p q:List T2):List T2:=p.foldl (N0 q) []
theorem Ci {x:Rat} {n m:Nat} {B C c d:Int} {l:List T2} (hx:Qs x m) (hc:0<=c/\c<=C) (hd:0<=d/\d<=C) (hl:∀t∈l,t.ok n B):(∀t∈bM x c d l,t.ok (m+n) (C+B))/\(bM x c d l).length<=l.length:=by
 unfold bM;split
 ·exact⟨by simp,by simp⟩
 ·refine⟨fun t ht=>?_,by simp⟩
  obtain⟨u,hu,rfl⟩:=List.mem_map.1 ht;have ou:=hl u hu;exact⟨ub hx ou.c,⟨by have:=ou.a.1;simp only;omega,by have:=ou.a.2;simp only;omega⟩,⟨by have:=ou.b.1;simp only;omega,by have:=ou.b.2;simp only;omega⟩⟩
theorem D0 {q:List T2} (hq:∀t∈q,t.ok 1 200) (lq:q.length<=5):∀ {p:List T2},(∀t∈p,t.ok 1 200)->(∀t∈mulL p q,t.ok (3*p.length) 400)/\(mulL p q).length<=5*p.length:=by
 intro p hp
 suffices h:∀(k:Nat),k<=p.length->(∀t∈mulL (p.take k) q,t.ok (3*k) 400)/\(mulL (p.take k) q).length<=5*k by
  have:=h p.length (Nat.le_refl _);rwa[List.take_length]at this
 intro k
 induction k with
 | zero=>intro _;exact⟨by simp[mulL],by simp[mulL]⟩
 | succ k ih=>
  intro hk;obtain⟨h1,h2⟩:=ih (by omega);have e:mulL (p.take (k+1)) q=N0 q (mulL (p.take k) q) p[k]:=by unfold mulL;rw[show p.take (k+1)=p.take k ++ [p[k]] by rw[List.take_add_one,List.getElem?_eq_getElem (by omega)];rfl,List.foldl_append];rfl
  rw[e];have ot:=hp p[k] (List.getElem_mem _);obtain⟨t1,t2⟩:=Ci (x:=p[k].c) (c:=p[k].a) (d:=p[k].b) (C:=200) ot.c ot.a ot.b hq;obtain⟨a1,a2⟩:=mG _ (mulL (p.take k) q) (bM p[k].c p[k].a p[k].b q) h1 (fun t ht=>(t1 t ht).mono (Nat.le_refl _) (by omega));unfold N0;exact⟨fun t ht=>(a2 t ht).mono (by omega) (by omega),by omega⟩
def N2 (X Y:Abs.Rows) (I:Int):St:=ae 39 [.c (.t (.aa false X)),.c (.t (.aa false Y)),.af,.af,.af,.af,.c (.sl 2 0 0 false),vi .i64 I] [none,none,some (.rows 12 [] true false)]
def yd (X Y T:Abs.Rows) (I:Int):St:=ae 39 [.c (.t (.aa false X)),.c (.t (.aa false Y)),.af,.af,.af,.af,.c (.t (.aa false T)),vi .i64 I] [none,none]
def D4 (X Y:Abs.Rows) (I:Int):Option Abs.Rows->St
 | none=>N2 X Y I
 | some T=>yd X Y T I
def Xu (p q:List T2) (i:Nat):Option Abs.Rows->Prop
 | none=>i=0
 | some T=>T=aP (mulL (p.take i) q)
theorem Is (p q:List T2) (hp:∀t∈p,t.ok 1 200) (hq:∀t∈q,t.ok 1 200) (lp:p.length<=5) (lq:q.length<=5) :
  aH 91 [.val (tl (aP p)),.val (tl (aP q))] ⟨[.val (tl (aP (mulL p q))),.val (ti .i64 0)],[none,none]⟩:=by
 obtain⟨X,hX⟩:=aq (aP p);obtain⟨Y,hY⟩:=aq (aP q);obtain⟨n,fx⟩:=aq (p.length);have lX:X.length=n:=by rw[hX,pK,fx]
 obtain⟨R,hR⟩:=aq (aP (mulL p q));rw[<-hX,<-hY,<-hR];refine an ai mixed [.val,.val] Tryz.func91 rfl rfl (by kernel_rfl) ?_;intros;rename_i zU _ _ _ _ _ _ _ _ _ _ _ _ _ _ _ _ _ _ aB _ _ _ _ _ _ _ _ _ _ _ _ _ _ _ _ _ _ A L F hS hF;have lE:=hS.fh lX;cbv;refine fX ai mixed hS (n:=n) (fun i (a:Option Abs.Rows)=>D4 X Y (Int.ofNat i) a) (fun i a=>Xu p q i a) (a0:=none) (fy ?_ ?_) rfl (by show 2<=3;omega) rfl ?_ ?_
 ·simp[dS,D4,N2,ae,vi,vb]
 ·simp[dU,D4,N2,ae]
 ·intro i a hi ha
  obtain⟨c1,i1,j1,n0⟩:=hS.ic lX hi (by omega);obtain⟨t,s,v,r,w,ht,gt,hqr,hr,_,fc,_⟩:=ig (l:=p) (i:=i) (by omega);have j2:aB X i=some (na s r v w t.a t.b):=by rw[hS.nth,hX];exact hr
  have ot:=hp t ht;have ct:=mB t.c t.a t.b q (n:=1) ot.c (by have:=ot.a;omega) (by have:=ot.b;omega) (fun u hu=>(hq u hu).mono (Nat.le_refl _) (by omega)) (by omega) (by omega);obtain⟨o1,o2⟩:=D0 hq lq (p:=p.take i) (fun u hu=>hp u (List.mem_of_mem_take hu));obtain⟨t1,t2⟩:=Ci (x:=t.c) (c:=t.a) (d:=t.b) (C:=200) ot.c ot.a ot.b hq;have li:(p.take i).length=i:=by rw[List.length_take];omega
  rw[li]at o1 o2;have cA:=qS (mulL (p.take i) q) (bM t.c t.a t.b q) (a:=3*i) (b:=2) (fun u hu=>(o1 u hu).mono (Nat.le_refl _) (by omega)) (fun u hu=>(t1 u hu).mono (Nat.le_refl _) (by omega)) (by omega) (by omega) (by omega);have e:mulL (p.take (i+1)) q=N0 q (mulL (p.take i) q) t:=by unfold mulL;rw[fc,List.foldl_append];rfl
  unfold N0 at e;rw[<-e]at cA;have mY:Xu p q (i+1) (some (aP (mulL (p.take (i+1)) q))):=rfl;rw[hqr,<-hY]at ct;generalize aP (bM t.c t.a t.b q)=TS,aP (mulL (p.take (i+1)) q)=TN at *;generalize t.a=ta,t.b=tb at *;unfold m2 at ct;have e0:zU 0 0=false:=by rw[hS.ne];rfl
  cases a with
  | none=>
   obtain rfl:i=0:=ha;rw[show aP (mulL (p.take 0) q)=[] from rfl]at cA;obtain⟨v1,v2⟩:=hS.whole (r:=[]) (len:=0) rfl;refine⟨?_⟩;cbv;apply bT c1;simp only[j1,j2];cbv;apply nd n0;simp only[j1,j2];cbv;apply nd n0;refine hS.cl ct ?_;cbv;apply bF e0;apply nd v1;simp only[v2];refine hS.cl cA ?_;cbv;refine aU [] (some TN) ?_ ?_ ?_ ?_ rfl (by show 2<=2;omega) mY
   ·simp[bd,D4,yd,ae,vi,vb,AV.aw,AV.aJ,Cell.aw,ak]
    exact i1
   ·simp[bf,D4,yd,ae,Abs.look,ak,aA.aw,Cell.aw]
   ·simp[aF,D4,yd,ae,ak]
   ·simp
  | some T=>
   have hT:T=aP (mulL (p.take i) q):=ha;rw[<-hT]at cA;refine⟨?_⟩;cbv;apply bT c1;simp only[j1,j2];cbv;apply nd n0;simp only[j1,j2];cbv;apply nd n0;refine hS.cl ct ?_;cbv;apply bF e0;refine hS.cl cA ?_;cbv;refine aU [] (some TN) ?_ ?_ ?_ ?_ rfl (by show 2<=2;omega) mY
   ·simp[bd,D4,yd,ae,vi,vb,AV.aw,AV.aJ,Cell.aw,ak]
    exact i1
   ·simp[bf,D4,yd,ae,Abs.look,ak,aA.aw,Cell.aw]
   ·simp[aF,D4,yd,ae,ak]
   ·simp
 ·intro a ha
  cases a with
  | none=>
   obtain rfl:n=0:=ha;have A7:p=[]:=List.length_eq_zero_iff.1 fx.symm;have Ec:R=[]:=by rw[hR,A7];rfl
   subst Ec;obtain⟨v1,v2⟩:=hS.whole (r:=[]) (len:=0) rfl;refine⟨?_⟩;cbv;refine bF lE (nd v1 ?_);simp only[v2];exact aC hF
  | some T=>
   have hT:T=R:=by
    have:T=aP (mulL (p.take n) q):=ha;rw[this,fx,List.take_length,<-hR]
   subst hT;refine⟨?_⟩;cbv;apply bF lE;exact aC hF
def jg (o:List T2) (x:List T2×List T2):List T2:=bN (o.length+(mulL x.1 x.2).length) o (mulL x.1 x.2)
def kG (c e:aS):List T2:=(c.zip e).foldl jg []
def P3 (p:List T2):Prop:=(∀t∈p,t.ok 1 200)/\p.length<=5
theorem JA {l:List (List T2×List T2)} (h:∀x∈l,P3 x.1/\P3 x.2):∀k:Nat,k<=l.length->(∀t∈(l.take k).foldl jg [],t.ok (16*k) 400)/\((l.take k).foldl jg []).length<=25*k:=by
 intro k
 induction k with
 | zero=>intro _;exact⟨by simp,by simp⟩
 | succ k ih=>
  intro hk;obtain⟨h1,h2⟩:=ih (by omega);rw[show l.take (k+1)=l.take k ++ [l[k]] by rw[List.take_add_one,List.getElem?_eq_getElem (by omega)];rfl,List.foldl_append];obtain⟨g1,g2⟩:=h l[k] (List.getElem_mem _);show(∀t∈jg ((l.take k).foldl jg []) l[k],t.ok (16*(k+1)) 400)/\(jg ((l.take k).foldl jg []) l[k]).length<=25*(k+1)
  generalize (l.take k).foldl jg []=O at *;obtain⟨m1,m2⟩:=D0 g2.1 (by have:=g2.2;omega) g1.1;obtain⟨a1,a2⟩:=mG (O.length+(mulL l[k].1 l[k].2).length) O (mulL l[k].1 l[k].2) h1 m1;have:=g1.2;show(∀t∈bN (O.length+(mulL l[k].1 l[k].2).length) O (mulL l[k].1 l[k].2),t.ok (16*(k+1)) 400)/\(bN (O.length+(mulL l[k].1 l[k].2).length) O (mulL l[k].1 l[k].2)).length<=25*(k+1)
  exact⟨fun t ht=>(a2 t ht).mono (by omega) (Int.le_refl _),by omega⟩
def N3 (X Y:Abs.Rows) (I:Int):St:=ae 41 [.c (.t (.aa false X)),.c (.t (.aa false Y)),.af,.af,.af,.af,.c (.sl 2 0 0 false),vi .i64 I] [none,none,some (.rows 12 [] true false)]
def ye (X Y T:Abs.Rows) (I:Int):St:=ae 41 [.c (.t (.aa false X)),.c (.t (.aa false Y)),.af,.af,.af,.af,.c (.t (.aa false T)),vi .i64 I] [none,none]
def D5 (X Y:Abs.Rows) (I:Int):Option Abs.Rows->St
 | none=>N3 X Y I
 | some T=>ye X Y T I
def Xv (l:List (List T2×List T2)) (i:Nat):Option Abs.Rows->Prop
 | none=>i=0
 | some T=>T=aP ((l.take i).foldl jg [])
theorem yf (c e:aS) (hc:∀p∈c,P3 p) (he:∀p∈e,P3 p) (hl:c.length=e.length) (h4:e.length<=4) :
  aH 49 [.val (tl (aj c)),.val (tl (aj e))] ⟨[.val (tl (aP (kG c e))),.val (ti .i64 0)],[none,none]⟩:=by
 obtain⟨X,hX⟩:=aq (aj c);obtain⟨Y,hY⟩:=aq (aj e);obtain⟨n,fx⟩:=aq (e.length);have lX:X.length=n:=by rw[hX,lB,fx,hl]
 have lY:Y.length=n:=by rw[hY,lB,fx]
 have lz:(c.zip e).length=n:=by rw[List.length_zip];omega
 have hz:∀x∈c.zip e,P3 x.1/\P3 x.2:=fun x hx=>⟨hc _ (List.of_mem_zip hx).1,he _ (List.of_mem_zip hx).2⟩
 obtain⟨R,hR⟩:=aq (aP (kG c e));rw[<-hX,<-hY,<-hR];refine an ai mixed [.val,.val] Tryz.func49 rfl rfl (by kernel_rfl) ?_;intros;rename_i zU _ _ _ _ _ _ _ _ _ zz _ _ _ _ _ _ _ ab aB _ _ _ _ _ _ _ _ _ _ _ _ _ _ _ _ _ _ A L F hS hF;have lE:=hS.fh lY;have l0:zU (zz (ab X)) (zz (ab Y))=false:=by rw[hS.ne,hS.az,hS.az,hS.len,hS.len,lX,lY];exact decide_eq_false (by simp)
 cbv;apply bF l0;refine fX ai mixed hS (n:=n) (fun i (a:Option Abs.Rows)=>D5 X Y (Int.ofNat i) a) (fun i a=>Xv (c.zip e) i a) (a0:=none) (fy ?_ ?_) rfl (by show 2<=3;omega) rfl ?_ ?_
 ·simp[dS,D5,N3,ae,vi,vb]
 ·simp[dU,D5,N3,ae]
 ·intro i a hi ha
  obtain⟨c1,i1,j1,n0⟩:=hS.ic lY hi (by omega);obtain⟨p,hp,gp,hr,_,_⟩:=fq (l:=c) (i:=i) (by omega);obtain⟨q,hq,gq,vx,_,_⟩:=fq (l:=e) (i:=i) (by omega);have j2:aB X i=some [.aa false (aP p)]:=by rw[hS.nth,hX];exact hr
  have j3:aB Y i=some [.aa false (aP q)]:=by rw[hS.nth,hY];exact vx
  have hg:(c.zip e).take (i+1)=(c.zip e).take i ++ [(p,q)]:=by
   rw[List.take_add_one];congr 1;have Uj:(c.zip e)[i]?=some (p,q):=List.getElem?_zip_eq_some.2 ⟨gp,gq⟩;rw[Uj];rfl
  obtain⟨b1,b2⟩:=hc p hp;obtain⟨b3,b4⟩:=he q hq;have cm:=Is p q b1 b3 (by omega) (by omega);obtain⟨m1,m2⟩:=D0 b3 (by omega) b1;obtain⟨o1,o2⟩:=JA hz i (by omega);have cA:=qS (((c.zip e).take i).foldl jg []) (mulL p q) (a:=16*i) (b:=15) (fun u hu=>(o1 u hu).mono (Nat.le_refl _) (by omega)) (fun u hu=>(m1 u hu).mono (by omega) (by omega)) (by omega) (by omega) (by omega)
  have ee:((c.zip e).take (i+1)).foldl jg []=jg (((c.zip e).take i).foldl jg []) (p,q):=by rw[hg,List.foldl_append];rfl
  have cA:aH 27 [.val (tl (aP (((c.zip e).take i).foldl jg []))),.val (tl (aP (mulL p q)))] ⟨[.val (tl (aP (((c.zip e).take (i+1)).foldl jg [])))],[none,none]⟩:=by
   rw[hg,List.foldl_append];exact cA
  have mY:Xv (c.zip e) (i+1) (some (aP (((c.zip e).take (i+1)).foldl jg []))):=rfl;generalize aP (((c.zip e).take (i+1)).foldl jg [])=TN,aP (mulL p q)=TM,aP p=Z1,aP q=Z2 at *;have e0:zU 0 0=false:=by rw[hS.ne];rfl
  cases a with
  | none=>
   obtain rfl:i=0:=ha;rw[show aP (((c.zip e).take 0).foldl jg [])=[] from rfl]at cA;obtain⟨v1,v2⟩:=hS.whole (r:=[]) (len:=0) rfl;refine⟨?_⟩;cbv;apply bT c1;simp only[j1,j2,j3];cbv;apply nd n0;simp only[j1,j3];cbv;apply nd n0;refine hS.cl cm ?_;cbv;apply bF e0;apply nd v1;simp only[v2];refine hS.cl cA ?_;cbv;refine aU [] (some TN) ?_ ?_ ?_ ?_ rfl (by show 2<=2;omega) mY
   ·simp[bd,D5,ye,ae,vi,vb,AV.aw,AV.aJ,Cell.aw,ak]
    exact i1
   ·simp[bf,D5,ye,ae,Abs.look,ak,aA.aw,Cell.aw]
   ·simp[aF,D5,ye,ae,ak]
   ·simp
  | some T=>
   have hT:T=aP (((c.zip e).take i).foldl jg []):=ha;rw[<-hT]at cA;refine⟨?_⟩;cbv;apply bT c1;simp only[j1,j2,j3];cbv;apply nd n0;simp only[j1,j3];cbv;apply nd n0;refine hS.cl cm ?_;cbv;apply bF e0;refine hS.cl cA ?_;cbv;refine aU [] (some TN) ?_ ?_ ?_ ?_ rfl (by show 2<=2;omega) mY
   ·simp[bd,D5,ye,ae,vi,vb,AV.aw,AV.aJ,Cell.aw,ak]
    exact i1
   ·simp[bf,D5,ye,ae,Abs.look,ak,aA.aw,Cell.aw]
   ·simp[aF,D5,ye,ae,ak]
   ·simp
 ·intro a ha
  cases a with
  | none=>
   obtain rfl:n=0:=ha;have A7:e=[]:=List.length_eq_zero_iff.1 fx.symm;have Ec:R=[]:=by rw[hR,A7];simp[kG,aP]
   subst Ec;obtain⟨v1,v2⟩:=hS.whole (r:=[]) (len:=0) rfl;refine⟨?_⟩;cbv;refine bF lE (nd v1 ?_);simp only[v2];exact aC hF
  | some T=>
   have hT:T=R:=by
    have:T=aP (((c.zip e).take n).foldl jg []):=ha;rw[this,<-lz,List.take_length,hR];rfl
   subst hT;refine⟨?_⟩;cbv;apply bF lE;exact aC hF
end Go.Proofs.YtekefilngojelaaGreat
end
