/-
  A part of the proof: TyI3t, GabsSized, TyJ3t.
-/
import Derived.SizedLaws
import Derived.Test.YtekefilngojelaaGreatM18
import Derived.Test.YtekefilngojelaaGreatM35
import Derived.Test.YtekefilngojelaaGreatM38
import Derived.Test.YtekefilngojelaaGreatM39
import Derived.Test.YtekefilngojelaaGreatM40
import Derived.Test.YtekefilngojelaaGreatM41
set_option maxHeartbeats 0
set_option maxRecDepth 100000
set_option linter.unusedVariables false
set_option linter.unusedSimpArgs false
set_option linter.unusedSectionVars false
section
namespace Go.Proofs.YtekefilngojelaaGreat
open Go Go.Abs Go.Abs.M Go.Proofs
structure UP (m:Nat) (k:Int) (bD:List (List T2)) (C:List (List (List T2))):Prop where
 uf:UF m k bD C
 c:bD=[]∨bD.length=m
 b:k=12->bD=[]/\C.length<=3/\∀r∈C,r.length=m
theorem EB.sh {m:Nat} {k:Int} {bD:List (List T2)} {C:List (List (List T2))} {q:ny} (h:EB m k bD C q):UP m k bD C:=by
 cases h with
 | k1 P bD h1 h2 h3=>exact⟨⟨by decide,fun _ _=>h2,fun e=>absurd e (by decide),by simp⟩,.inr h2,fun e=>absurd e (by decide)⟩
 | k2 P C G O Q Sx h1 h2=>exact⟨⟨by decide,fun e=>absurd e (by decide),fun e=>absurd e (by decide),by have:=h2.c.1;have:=h2.g;omega⟩,.inl rfl,fun e=>absurd e (by decide)⟩
 | k3 n bD h1 h2 h3=>exact⟨⟨by decide,fun _ _=>h2,fun e=>absurd e (by decide),by simp⟩,.inr h2,fun e=>absurd e (by decide)⟩
 | k4 O1 Lc C G O Q Sx h1 h2 h3 h4=>exact⟨⟨by decide,fun e=>absurd e (by decide),fun e=>absurd e (by decide),by have:=h4.c.1;have:=h4.g;omega⟩,.inl rfl,fun e=>absurd e (by decide)⟩
 | k5 cn cd C G O Q Sx h1 h2 h4=>exact⟨⟨by decide,fun e=>absurd e (by decide),fun e=>absurd e (by decide),by have:=h4.c.1;have:=h4.g;omega⟩,.inl rfl,fun e=>absurd e (by decide)⟩
 | k6 cn cd cr C G O Q Sx h1 h2 h4=>exact⟨⟨by decide,fun e=>absurd e (by decide),fun e=>absurd e (by decide),by have:=h4.c.1;have:=h4.g;omega⟩,.inl rfl,fun e=>absurd e (by decide)⟩
 | k7 Z C G O Q Sx U U1 At a h1 h2 h4 h5=>exact⟨⟨by decide,fun e=>absurd e (by decide),fun e=>absurd e (by decide),by have:=h4.c.1;have:=h4.g;omega⟩,.inl rfl,fun e=>absurd e (by decide)⟩
 | k8 P Z Sg C G O Q Sx U U1 At a h0 h1 h2 h3 h6 h4 h5=>exact⟨⟨by decide,fun e=>absurd e (by decide),fun e=>absurd e (by decide),by have:=h4.c.1;have:=h4.g;omega⟩,.inl rfl,fun e=>absurd e (by decide)⟩
 | k9 bD Sq h2 h3 h4 h5=>exact⟨⟨by decide,fun _ _=>h2,fun e=>absurd e (by decide),by simp⟩,.inr h2,fun e=>absurd e (by decide)⟩
 | Oh P bD Sq h1 h2 h3 h4 h5=>exact⟨⟨by decide,fun _ _=>h2,fun e=>absurd e (by decide),by simp⟩,.inr h2,fun e=>absurd e (by decide)⟩
 | Oi Lc C h1 h2 h3=>
  have hl:C.length<=7:=by
   rw[h3.1];rcases(show Lc.length=0∨Lc.length=1∨Lc.length=2∨Lc.length=3 by omega) with e|e|e|e<;>rw[e]<;>decide
  exact⟨⟨by decide,fun e=>absurd e (by decide),fun e=>absurd e (by decide),by omega⟩,.inl rfl,fun e=>absurd e (by decide)⟩
 | k12 cn C G O h1 h2=>exact⟨⟨by decide,fun _ e=>absurd rfl e,fun _ r hr=>(h2.c.2 r hr).1,by have:=h2.c.1;have:=h2.g;omega⟩,.inl rfl,fun _=>⟨rfl,by have:=h2.c.1;have:=h2.g;omega,fun r hr=>(h2.c.2 r hr).1⟩⟩
 | k13 cn Xs Bs h1 h2 h3 h4 h5=>exact⟨⟨by decide,fun e=>absurd e (by decide),fun e=>absurd e (by decide),by simp⟩,.inl rfl,fun e=>absurd e (by decide)⟩
def OL (k:Int) (b c:Bool) (C:List (List (List T2))):List (List (List T2)):=if k=12 then C.map (IV b c) else C
theorem UP.thin {m:Nat} {k:Int} {bD:List (List T2)} {C:List (List (List T2))} (h:UP m k bD C) (b c:Bool):UP m k (IV b c bD) (OL k b c C):=by
 have hr:k=12->∀r∈OL k b c C,r.length=m:=fun e r hr=>by
  unfold OL at hr;rw[if_pos e]at hr;obtain⟨x,hx,rfl⟩:=List.mem_map.1 hr;rw[Cb];exact(h.b e).2.2 x hx
 have hl:(OL k b c C).length=C.length:=by unfold OL;split<;>simp
 exact⟨⟨h.uf.kk,fun h1 h2=>by rw[Cb];exact h.uf.nb h1 h2,hr,by rw[hl];exact h.uf.lc⟩,h.c.elim (fun e=>.inl (by rw[e];rfl)) (fun e=>.inr (by rw[Cb];exact e)),fun e=>⟨by rw[(h.b e).1];rfl,by rw[hl];exact(h.b e).2.1,hr e⟩⟩
theorem IW (N k mask:Int) (E:List (List T2)) (hE:E.length<=2) (D:Tree) (bD:List (List T2)) (C:List (List (List T2))) (q:ny) (h:UP E.length k bD C) :
  aA Tryz.prog 8 [.val (.agg (fT N (.aa false (aQ E)) D k (.aa false (aQ bD)) (.aa false (df C)) q)),.val (ti .u8 mask)]
   ⟨[.val (.agg (fT N (.aa false (aQ E)) D k (.aa false (aQ (IV (nV mask 0) (nV mask 1) bD))) (.aa false (df (OL k (nV mask 0) (nV mask 1) C))) q))],[none,none]⟩:=by
 unfold OL
 by_cases ug:k=12
 ·subst ug
  obtain⟨rfl,h1,h2⟩:=h.b rfl;rw[if_pos rfl]
  match E,hE,h2 with
  | [],_,h2=>
   have e:C.map (IV (nV mask 0) (nV mask 1))=C:=by
    refine(List.map_congr_left fun r hr=>?_).trans (List.map_id C);rw[List.length_eq_zero_iff.1 (h2 r hr)];rfl
   rw[e];exact NG N mask D _ q
  | [e0],_,h2=>exact NH N mask D e0 C h1 h2 q
  | [e0,e1],_,h2=>exact NI N mask D e0 e1 C h1 h2 q
 ·rw[if_neg ug]
  exact NF N k mask E hE D _ ug bD h.c q
theorem qy (a b:Nat):Nat.blt a b=decide (a<b):=by rw[Bool.eq_iff_iff];simp
theorem Gh (c0:aA Tryz.prog 7 [] ⟨[.val (tb true)],[]⟩) (K:Int) (hK:0<=K) (l:List (List R5)) (hl:pP l) (v:List Int) (hv:nS v) (mask:Int) (y:List R5) (hy:∀x∈y,x.ok) :
  aA Tryz.prog 5 [.val (.agg (bQ K l v)),.val (ti .u8 mask),.val (.agg [.aa false (xd y)])] ⟨[.val (tb true)],[none,none,none]⟩:=by
 obtain⟨E,D,k,bD,C,q,hk,hE,hD,lE,lD,hf,cM⟩:=Ec K hK l hl v hv;obtain⟨p,hp,cP⟩:=tU y hy;have sp:SP p:=hp.sp (by omega);have sh:=hf.sh;have cH:=IW 2 k mask E lE (.aa false (aQ D)) bD C q sh;have RM:=sh.thin (nV mask 0) (nV mask 1);generalize IV (nV mask 0) (nV mask 1) bD=ir at *;generalize OL k (nV mask 0) (nV mask 1) C=C' at *;have eE:∀x∈E ++ [p],SP x:=fun x hx=>by rcases List.mem_append.1 hx with h|h;exact hE x h;rw[List.mem_singleton.1 h];exact sp
 have eD:∀x∈D ++ [p],SP x:=fun x hx=>by rcases List.mem_append.1 hx with h|h;exact hD x h;rw[List.mem_singleton.1 h];exact sp
 have s1:=gT (E ++ [p]) false eE (by simp;omega);have s2:=gT (D ++ [p]) true eD (by simp;omega);obtain⟨f1,f2,f3⟩:=jd (plain:=false) eE;obtain⟨g1,g2,g3⟩:=jd (plain:=true) eD;have pE:LP E:=UN hE (by omega);have pD:LP D:=UN hD (by omega);have pY:LP (dY false (E ++ [p])):=UN (fun x hx=>(f2 x hx).2.1) (by simp at f3;omega);have pZ:LP (dY true (D ++ [p])):=UN (fun x hx=>(g2 x hx).2.1) (by simp at g3;omega)
 have nE:∀x∈E,x≠[]/\Nm x:=fun x hx=>⟨(hk.pe x hx).ne,(hk.pe x hx).nm⟩
 have nD:∀x∈D,x≠[]/\Nm x/\ia x≠0:=fun x hx=>⟨(hk.pd x hx).1.ne,(hk.pd x hx).1.nm,(hk.pd x hx).2⟩
 have t1:=kW 2 E D k ir C' q 2 _ D pE pD pY pD (kc f1) RM.uf;rw[NB hk.se nE,Bool.not_not,<-lj E,<-lj (dY false (E ++ [p])),<-qy,lj E]at t1;have t2:=kW 2 E D k ir C' q 2 E _ pE pD pE pZ (kc hk.se) RM.uf;rw[QV hk.sd nD,Bool.not_not,<-lj D,<-lj (dY true (D ++ [p])),<-qy,lj D]at t2;have t3:=kW 2 E D k ir C' q 2 E D pE pD pE pD (kc hk.se) RM.uf
 rw[NC]at t3;have W7:∀i,i<E.length->aA Tryz.prog 17 [.val (.agg (fT 2 (.aa false (aQ E)) (.aa false (aQ D)) k (.aa false (aQ ir)) (.aa false (df C')) q)),.val (.agg (kT 2 (E.take i++E.drop (i+1)) D))] ⟨[.val (tb (OG k ir C' i))],[none,none]⟩:=fun i hi=>by
  have sub:List.Sublist (E.take i++E.drop (i+1)) E:=by
   conv=>rhs;rw[<-List.take_append_drop i E]
   exact List.Sublist.append (List.Sublist.refl _) (by rw[<-List.tail_drop];exact List.tail_sublist _)
  have h:=kW 2 E D k ir C' q 2 (E.take i++E.drop (i+1)) D pE pD (UN (fun x hx=>hE x (sub.subset hx)) (by simp;omega)) pD (List.Nodup.sublist sub (kc hk.se)) RM.uf;rwa[ND hk.se hi,Bool.not_not]at h
 have cU:=G9 2 E (.aa false (aQ D)) k ir C' q (by omega) RM.uf;have cW:=kP k RM.uf.kk q;have A:V8 (.v (.int .u8 K)) (.aa false (gl l)) (.aa false (W .i8 v)) (.aa false (xd y)) mask E D k (.aa false (aQ bD)) (.aa false (df C)) (.aa false (aQ ir)) (.aa false (df C')) q p (EA k) (OG k ir C') (dY false (E ++ [p])) (dY true (D ++ [p])):=
  ⟨c0,cM,cH,cW,cP,cU,s1,t1,W7,s2,t2,t3⟩
 cases hw:EA k with
 | true=>
  rw[hw]at A;exact LI _ _ _ _ mask E D lE lD k (by rintro rfl;exact absurd hw (by decide)) _ _ _ _ q p _ (fun i=>by unfold OG;rw[hw];rfl) _ _ A
 | false=>
  rw[hw]at A
  by_cases h3:k=3
  ·subst h3
   exact LH _ _ _ _ mask E D lE lD _ _ _ _ q p _ _ _ A
  ·exact LF _ _ _ _ mask E D lE lD k h3 _ _ _ _ q p _ _ _ A
end Go.Proofs.YtekefilngojelaaGreat
end
section
namespace Go.Abs
open Go.RowKit Go.WideShapes Go.ChangeShapes Go.ChangeAt
section
variable {H:Type} {enc:TypeId×Value->H} {P:Program} {w:World} {sp:Nat->Bool} {hd:Bool}
theorem IX {t e:TypeId} {n:Nat} {cs:List Value} {x:DataW H×List MemPlace} (hu:P.underlying t=some (.slice e)) (hx:DataW.trod enc P w 0 sp hd n t cs=some x) {cp:Bool} {rows:List (List Tree)} (h:ic w [.aa cp rows] cs) :
  rows.length=0∨∃elems spare,x.1=.slice elems spare/\rows.length=elems.length:=by
 have hl:∀b len cap,cs=[.slice b len cap]->rows.length=len:=fun b len cap hc=>by
  have h2:=h.2 0 _ _ rfl (by rw[hc];rfl);cases h2 with
  | aa=>rfl
 rcases DataW.trod_slice hu hx with⟨h1,h2⟩|⟨a,len,cap,elems,rest,n',h0,h1,h2,_,_,_,Ol,_⟩
 ·exact .inl (hl _ _ _ h1)
 ·exact .inr ⟨_,_,by rw[h2],by rw[hl _ _ _ h1,List.length_map,Ol]⟩
def RO (P:Program):Nat->TypeId->List Tree->Prop
 | 0,_,_=>True
 | d+1,t,ts=>(∀e cp rows,P.underlying t=some (.slice e)->ts=[.aa cp rows]->rows.length*P.bytesOf e<=reachBytes) /\
   ∀(fs:Array Field) (i:Nat) (f:Field),P.underlying t=some (.struct fs)->fs[i]?=some f->RO P d f.type ((ts.drop f.offset).take (P.cellsOf f.type))
def Cc (P:Program) (d:Nat):List TypeId->List (List Tree)->Prop
 | t::Lk,ts::Cd=>RO P d t ts/\Cc P d Lk Cd
 | _,_=>True
theorem ic.cut {ts:List Tree} {cs:List Value} (h:ic w ts cs) (i m:Nat):ic w ((ts.drop i).take m) ((cs.drop i).take m):=by
 refine⟨by rw[List.length_take,List.length_take,List.length_drop,List.length_drop,h.1],fun j t v ht hv=>?_⟩;rw[List.getElem?_take]at ht hv;split at ht
 ·rename_i hj
  rw[if_pos hj]at hv;rw[List.getElem?_drop]at ht hv;exact h.2 _ t v ht hv
 ·cases ht
theorem LJ:∀(d:Nat) {t:TypeId} {n:Nat} {cs:List Value} {x:DataW H×List MemPlace} {ts:List Tree},DataW.trod enc P w 0 sp hd n t cs=some x->ic w ts cs->(∀m∈x.1.weights P t,m<=reachBytes)->RO P d t ts
 | 0,_,_,_,_,_,_,_,_=>trivial
 | d+1,t,n,cs,x,ts,hx,hr,hw=>by
  refine⟨fun e cp rows hu ht=>?_,fun fs i f hu hf=>?_⟩
  ·subst ht
   rcases IX hu hx hr with e0|⟨elems,spare,e1,e2⟩
   ·rw[e0,Nat.zero_mul];exact Nat.zero_le _
   ·rw[e2]
    refine Nat.le_trans (Nat.mul_le_mul_right _ (Nat.le_add_right _ spare.length)) (hw _ ?_);rw[e1];simp[DataW.weights,hu]
  ·obtain⟨xs,n',rfl,rfl,hl,TE,Eh⟩:=DataW.trod_struct hu hx
   have hi:i<xs.length:=by rw[TE];exact(Array.getElem?_eq_some_iff.1 hf).1
   have h1:=Eh i f hf;rw[List.getElem?_eq_getElem hi]at h1;refine LJ d h1 (hr.cut _ _) fun m hm=>hw m ?_
   show m∈DataW.weights P t (.agg (xs.map (·.1)))
   simp only[DataW.weights,hu];exact DataW.weights_mem_each (j:=i) (t:=f.type) (d:=xs[i].1) (by rw[List.getElem?_map,Array.getElem?_toList,hf];rfl) (by rw[List.getElem?_map,List.getElem?_eq_getElem hi];rfl) m hm
def m7 (P:Program):List Nat->TypeId->List Tree->Option (TypeId×List Tree)
 | [],t,ts=>some (t,ts)
 | i::p,t,ts=>match P.underlying t with
  | some (.struct fs)=>match fs[i]? with
   | some f=>m7 P p f.type ((ts.drop f.offset).take (P.cellsOf f.type))
   | none=>none
  | _=>none
theorem xa:∀(p:List Nat) {d:Nat} {t t':TypeId} {ts Mt:List Tree},RO P (d+p.length) t ts->m7 P p t ts=some (t',Mt)->RO P d t' Mt
 | [],d,t,t',ts,Mt,h,hp=>by
  simp only[m7,Option.some.injEq,Prod.mk.injEq]at hp;obtain⟨rfl,rfl⟩:=hp;exact h
 | i::p,d,t,t',ts,Mt,h,hp=>by
  unfold m7 at hp;split at hp
  ·rename_i fs hu
   split at hp
   ·rename_i f hf
    exact xa p (h.2 fs i f hu hf) hp
   ·cases hp
  ·cases hp
theorem m8 {D:Nat}:∀ {Lk:List TypeId} {Iw:List Shape} {vs:List Value} {ds:List (DataW H)} {ps:List MemPlace},DataW.TrodAll enc P w 0 sp true Lk vs ds ps->gU P Lk Iw=true ->
  (∀(j:Nat) t v,Lk[j]?=some t->vs[j]?=some v->Value.okWide P w .any 0 t v) ->
  (∀(j:Nat) t d,Lk[j]?=some t->ds[j]?=some d->∀m∈d.weights P t,m<=reachBytes) ->
  ∃Cd,G4 Iw Cd/\Cc P D Lk Cd/\vs.length=(Nq Iw Cd).length/\ds.length=Iw.length/\∀(i:Nat) (x:TV),(Nq Iw Cd)[i]?=some x->∃v,vs[i]?=some v/\aY CK (fR w) w x.av v
 | [],[],[],[],ps,h,hf,hv,hz=>⟨[],rfl,trivial,rfl,rfl,fun i x hx=>by simp[Nq]at hx⟩
 | t::ts,s::ss,v::vs,d::ds,ps,h,hf,hv,hz=>by
  obtain⟨p,q,⟨n,h1⟩,h2,_⟩:=h;simp only[gU,Bool.and_eq_true]at hf;obtain⟨⟨⟨f1,f2⟩,f3⟩,f4⟩:=hf;obtain⟨Cd,g1,g0,g2,g3,g4⟩:=m8 h2 f4 (fun j t v ht hx=>hv (j+1) t v (by simpa using ht) (by simpa using hx)) (fun j t d ht hd=>hz (j+1) t d (by simpa using ht) (by simpa using hd));obtain⟨tr,k1,k2⟩:=s.read t f1 n _ _ h1;refine⟨tr::Cd,⟨tr,Cd,rfl,k1,g1⟩,⟨LJ D h1 k2 (hz 0 t d rfl rfl),g0⟩,by simp[Nq,g2],by simp[g3],fun i x hx=>?_⟩
  cases i with
  | zero=>
   simp only[Nq,List.getElem?_cons_zero,Option.some.injEq]at hx;subst hx;exact⟨v,rfl,Shape.rep f1 (hv 0 t v rfl rfl) k1 k2⟩
  | succ i=>simp only[Nq,List.getElem?_cons_succ]at hx ⊢;exact g4 i x hx
 | [],_::_,_,_,_,_,hf,_,_=>by simp[gU]at hf
 | _::_,[],_,_,_,_,hf,_,_=>by simp[gU]at hf
 | [],[],_::_,_,_,h,_,_,_=>by simp[DataW.TrodAll]at h
 | [],[],[],_::_,_,h,_,_,_=>by simp[DataW.TrodAll]at h
 | _::_,_::_,[],_,_,h,_,_,_=>by simp[DataW.TrodAll]at h
 | _::_,_::_,_::_,[],_,h,_,_,_=>by simp[DataW.TrodAll]at h
theorem Cf {f:FuncId} {fn:Func} {spec:ChangeSpec} {Iw:List Shape} {outs:List (Option aU)} (hl:laidOutB P=true) (hf:gU P fn.params.toList Iw=true) (D6:spec.vars=[]) {tb0:TypeId} (AJ:fn.resultTypes=#[tb0]) (hb4:P.underlying tb0=some .bool)
  {apart fresh handsOn again:Bool} (iN:∀ds:List (DataW H),ds.length=Iw.length->(spec.fn H ds).args=ds/\(spec.fn H ds).results=[.lit (.bool true)]/\(spec.fn H ds).vars=[])
  (hc:∀Cd,G4 Iw Cd->Cc P 5 fn.params.toList Cd->aA P f ((Nq Iw Cd).map .val) ⟨[.val (tb true)],outs⟩)
  {W:World} {args:Array Value} {ds gs:List (DataW H)} {before:List MemPlace} (oL:∀(j:Nat) t v,fn.params[j]?=some t->args[j]?=some v->Value.okWide P W .any 0 t v)
  (hW:DataW.Whole enc P fn.params.toList spec.vars apart W args.toList ds gs before) {vt:List TypeId}
  (hz:(DataW.weightsEach P (fn.params.toList++vt) (ds++gs)).all (·<=reachBytes)=true) :
  Calls P f args W fun e W'=>∃v,e=.returned v/\spec.post enc P fn apart fresh handsOn again W args v W':=by
 have hW':=hW;obtain⟨p,q,hA,hV,rfl,Ep,nH⟩:=hW;rw[D6]at hV;have TC:gs=[]/\q=[]:=by
  cases gs with
  | nil=>exact⟨rfl,hV⟩
  | cons g gs=>exact hV.elim
 obtain⟨rfl,rfl⟩:=TC;obtain⟨Cd,im,dG,hlen,hdl,iR⟩:=m8 hA hf (fun j t v ht hv=>oL j t v (by simpa using ht) (by simpa using hv)) (fun j t d ht hd m hm=>by
  have:=List.all_eq_true.1 hz m (DataW.weights_mem_each (j:=j) (t:=t) (by rw[List.getElem?_append_left (List.getElem?_eq_some_iff.1 ht).1];exact ht) (by rw[List.append_nil];exact hd) m hm);simpa using this)
 have h:=Iv (hc Cd im dG) W args.toList hlen iR;have dx:args.toList.toArray=args:=rfl;rw[dx]at h;obtain⟨e1,e2,e3⟩:=iN ds hdl;have NJ:∀x∈p,x.block<W.heap.size:=fun x hx=>hW'.lt x (List.mem_append_left _ hx)
 refine h.mono fun e W' ⟨he,hg⟩=>?_
 subst he;refine⟨_,rfl,xF (pa:=p) (pv:=[]) hW' (fun b sp hd=>?_) (fun sp hs=>?_) (fun sp hs=>?_) rfl hg ?_⟩
 ·rw[List.append_nil,e2,AJ]
  exact trodAll_cons_mk (shut_bool hb4 _) trodAll_mk0
 ·rw[List.append_nil,e1]
  exact yY hl hg hA hf NJ (fun x hx=>hs x (List.mem_append_left _ hx))
 ·rw[List.append_nil,e3,D6];rfl
 ·exact ok_one AJ rfl (okWide_bool_mk hb4 _)
end
end Go.Abs
end
section
namespace Go.Proofs.YtekefilngojelaaGreat
open Go Go.Abs Go.Abs.M Go.Proofs
def IY:Shape:=.struct [.slice (.arr 5 (.int .i8))]
def Hc:Shape:=.struct [.int .u8,.slice IY,.slice (.int .i8)]
theorem Gi:∀rows:List (List Tree),(∀r∈rows,(Shape.arr 5 (.int .i8)).ok r)->∃l:List R5,rows=xd l/\∀x∈l,x.ok
 | [],_=>⟨[],rfl,by simp⟩
 | r::rs,h=>by
  obtain⟨l,h1,h2⟩:=Gi rs fun r hr=>h r (List.mem_cons_of_mem _ hr)
  obtain⟨_,_,rfl,⟨a,rfl,ha⟩,_,_,rfl,⟨b,rfl,hb⟩,_,_,rfl,⟨c,rfl,hc⟩,_,_,rfl,⟨d,rfl,hd⟩,_,_,rfl,⟨e,rfl,he⟩,rfl⟩:=h r List.mem_cons_self;refine⟨⟨a,b,c,d,e⟩::l,by rw[h1];rfl,fun x hx=>?_⟩;rcases List.mem_cons.1 hx with rfl|hx
  ·exact⟨G1 ha,G1 hb,G1 hc⟩
  ·exact h2 x hx
theorem LK:∀rows:List (List Tree),(∀r∈rows,(Shape.int .i8).ok r)->∃l:List Int,rows=W .i8 l/\∀x∈l,-128<=x/\x<128
 | [],_=>⟨[],rfl,by simp⟩
 | r::rs,h=>by
  obtain⟨l,h1,h2⟩:=LK rs fun r hr=>h r (List.mem_cons_of_mem _ hr)
  obtain⟨a,rfl,ha⟩:=h r List.mem_cons_self;refine⟨a::l,by rw[h1];rfl,fun x hx=>?_⟩;rcases List.mem_cons.1 hx with rfl|hx
  ·exact G1 ha
  ·exact h2 x hx
theorem Hd:∀rows:List (List Tree),(∀r∈rows,IY.ok r)->∃(l:List (List R5)) (ts:List Tree),rows=ts.map (fun t=>[t])/\jY ts (l.map fun t=>.aa false (xd t))/\rows.length=l.length/\∀t∈l,∀x∈t,x.ok
 | [],_=>⟨[],[],rfl,trivial,rfl,by simp⟩
 | r::rs,h=>by
  obtain⟨l,ts,h1,h2,h3,h4⟩:=Hd rs fun r hr=>h r (List.mem_cons_of_mem _ hr)
  obtain⟨_,_,rfl,⟨cp,rows,rfl,_,hr⟩,rfl⟩:=h r List.mem_cons_self;obtain⟨t,rfl,ht⟩:=Gi rows hr;refine⟨t::l,.aa cp (xd t)::ts,by rw[h1];rfl,⟨ab.drop _ _,h2⟩,by simp[h3],fun x hx=>?_⟩;rcases List.mem_cons.1 hx with rfl|hx
  ·exact ht
  ·exact h4 x hx
theorem QX {c:Bool} {ts:List Tree} {l:List (List R5)} (h:jY ts (l.map fun t=>.aa false (xd t))):ab (.aa c (ts.map fun t=>[t])) (.aa false (gl l)):=by
 have e:gl l=(l.map fun t=>Tree.aa false (xd t)).map fun t=>[t]:=by simp[gl]
 rw[e];exact ab.QW h
theorem LL {ts:List Tree} (h:Hc.ok ts) {T M M2 e e2:TypeId} (hu:Tryz.prog.underlying M=some (.slice e)) (he:Tryz.prog.bytesOf e=24) (Bk:Tryz.prog.underlying M2=some (.slice e2)) (Tb:Tryz.prog.bytesOf e2=1)
  (p1:∀a b c:Tree,m7 Tryz.prog [1] T [a,b,c]=some (M,[b])) (p2:∀a b c:Tree,m7 Tryz.prog [2] T [a,b,c]=some (M2,[c])) (z:RO Tryz.prog 5 T ts) :
  ∃(K:Int) (l:List (List R5)) (v:List Int),0<=K/\pP l/\nS v/\jY ts (bQ K l v):=by
 obtain⟨_,_,rfl,⟨K,rfl,hK⟩,_,_,rfl,⟨c1,r1,rfl,_,g1⟩,_,_,rfl,⟨c2,r2,rfl,_,g2⟩,rfl⟩:=h;have z1:=(xa (d:=4) [1] z (p1 _ _ _)).1 e _ _ hu rfl;have z2:=(xa (d:=4) [2] z (p2 _ _ _)).1 e2 _ _ Bk rfl;have hr:reachBytes=140737488351232:=by decide
 rw[he,hr]at z1;rw[Tb,hr]at z2;obtain⟨l,ts,rfl,h2,h3,h4⟩:=Hd r1 g1;obtain⟨v,rfl,hv⟩:=LK r2 g2;rw[iZ]at z2;refine⟨K,l,v,?_,⟨by omega,h4⟩,⟨hv,by omega⟩,⟨.v _,QX h2,.drop _ _,trivial⟩⟩;exact(Ug hK).1
theorem NK {ts:List Tree} (h:IY.ok ts):∃y:List R5,(∀x∈y,x.ok)/\jY ts [.aa false (xd y)]:=by
 obtain⟨_,_,rfl,⟨cp,rows,rfl,_,hr⟩,rfl⟩:=h;obtain⟨y,rfl,hy⟩:=Gi rows hr;exact⟨y,hy,⟨.drop _ _,trivial⟩⟩
theorem Ee (aao:aA Tryz.prog 7 [] ⟨[.val (tb true)],[]⟩) {T U V M M2 e e2:TypeId} (hu:Tryz.prog.underlying M=some (.slice e)) (he:Tryz.prog.bytesOf e=24) (Bk:Tryz.prog.underlying M2=some (.slice e2)) (Tb:Tryz.prog.bytesOf e2=1)
  (p1:∀a b c:Tree,m7 Tryz.prog [1] T [a,b,c]=some (M,[b])) (p2:∀a b c:Tree,m7 Tryz.prog [2] T [a,b,c]=some (M2,[c]))
  (Cd:List (List Tree)) (h:G4 [Hc,.int .u8,IY] Cd) (hz:Cc Tryz.prog 5 [T,U,V] Cd) :
  aA Tryz.prog 5 ((Nq [Hc,.int .u8,IY] Cd).map .val) ⟨[.val (tb true)],[none,none,none]⟩:=by
 obtain⟨t1,_,rfl,h1,_,_,rfl,⟨m,rfl,_⟩,t3,_,rfl,h3,rfl⟩:=h;obtain⟨z,_⟩:=hz;obtain⟨K,l,v,hK,hl,hv,le1⟩:=LL h1 hu he Bk Tb p1 p2 z;obtain⟨y,hy,le3⟩:=NK h3;have c:=Gh aao K hK l hl v hv m y hy;have hle:dO [.val (.agg t1),.val (.c (.v (.int .u8 m))),.val (.agg t3)] [.val (.agg (bQ K l v)),.val (ti .u8 m),.val (.agg [.aa false (xd y)])]:=⟨le1,ab.refl _,le3,trivial⟩;exact aA.Fk hle (aS.refl _) c
end Go.Proofs.YtekefilngojelaaGreat
end
