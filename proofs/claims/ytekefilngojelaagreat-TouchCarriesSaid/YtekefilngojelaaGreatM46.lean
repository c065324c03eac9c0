/- A part. -/
import Derived.SizedLaws
import Derived.Test.YtekefilngojelaaGreatM12
import Derived.Test.YtekefilngojelaaGreatM15
import Derived.Test.YtekefilngojelaaGreatM18
import Derived.Test.YtekefilngojelaaGreatM22
import Derived.Test.YtekefilngojelaaGreatM34
import Derived.Test.YtekefilngojelaaGreatM37
import Derived.Test.YtekefilngojelaaGreatM42
import Derived.Test.YtekefilngojelaaGreatM43
import Derived.Test.YtekefilngojelaaGreatM44
import Derived.Test.YtekefilngojelaaGreatM45
set_option maxHeartbeats 0
set_option maxRecDepth 100000
set_option linter.unusedVariables false
set_option linter.unusedSimpArgs false
set_option linter.unusedSectionVars false
section
namespace Go.Proofs.YtekefilngojelaaGreat
open Go Go.Abs Go.Abs.M Go.Proofs
structure KV (N:Int) (E D:aS):Prop where
 k:Ov N E D
 e:∀p∈E,SP p
 d:∀p∈D,SP p
 v:(E.all (Ei N)&&D.all (Ei N))=true
theorem N6 (N:Int) (E D:aS) (h:KV N E D) (hE:E.length<=3) (hD:D.length<=2) (kd fK:Int) (hk:0<=kd) (ha:0<=fK/\fK<256) (p:List T2) (hp:SP p) :
  ∃(N':Int) (E' D':aS),KV N' E' D'/\E'.length<=E.length+1/\D'.length<=D.length+1 /\
   aH 10 [.val (.agg (kT N E D)),.val (ti .u8 kd),.val (ti .u8 fK),.val (tl (aP p))] ⟨[.val (.agg (kT N' E' D'))],[none,none,none,none]⟩:=by
 have fin:∀(N':Int) (E' D':aS),Ov N' E' D'->(∀p∈E',SP p)->(∀p∈D',SP p)->E'.length<=E.length+1->D'.length<=D.length+1 ->
   (∀b,aH 34 [.val (.agg [.v (.int .i64 N'),.aa false (aj E'),.aa false (aj D')])] ⟨[.val (tb b)],[none]⟩ ->
    aH 10 [.val (.agg [.v (.int .i64 N),.aa false (aj E),.aa false (aj D)]),.val (ti .u8 kd),.val (ti .u8 fK),.val (tl (aP p))] ⟨[.val (.agg (if b=true then [.v (.int .i64 N'),.aa false (aj E'),.aa false (aj D')] else [.v (.int .i64 N),.aa false (aj E),.aa false (aj D)]))],[none,none,none,none]⟩) ->
   ∃(N':Int) (E' D':aS),KV N' E' D'/\E'.length<=E.length+1/\D'.length<=D.length+1 /\
    aH 10 [.val (.agg (kT N E D)),.val (ti .u8 kd),.val (ti .u8 fK),.val (tl (aP p))] ⟨[.val (.agg (kT N' E' D'))],[none,none,none,none]⟩:=by
  intro N' E' D' h1 h2 h3 h4 h5 hc;have c:=hc _ (sD N' E' D' h1);cases hb:(E'.all (Ei N')&&D'.all (Ei N')) with
  | true=>rw[hb,if_pos rfl]at c;exact⟨N',E',D',⟨h1,h2,h3,hb⟩,h4,h5,c⟩
  | false=>rw[hb,if_neg (by decide)]at c;exact⟨N,E,D,h,by omega,by omega,c⟩
 have hK:=h.k;have eEp:∀x∈E ++ [p],SP x:=fun x hx=>by rcases List.mem_append.1 hx with h'|h';exact h.e x h';rw[List.mem_singleton.1 h'];exact hp
 have eDp:∀x∈D ++ [p],SP x:=fun x hx=>by rcases List.mem_append.1 hx with h'|h';exact h.d x h';rw[List.mem_singleton.1 h'];exact hp
 have sub:∀i:Nat,List.Sublist (E.take i++E.drop (i+1)) E:=fun i=>by
  conv=>rhs;rw[<-List.take_append_drop i E]
  exact List.Sublist.append (List.Sublist.refl _) (by rw[<-List.tail_drop];exact List.tail_sublist _)
 have Uc:∀i:Nat,(E.take i++E.drop (i+1)).length<=E.length:=fun i=>(sub i).length_le
 obtain⟨i,hi⟩:∃i:Nat,E≠[]->fK.tmod E.length=i:=by
  refine⟨(fK.tmod E.length).toNat,fun _=>?_⟩;have:=Int.tmod_nonneg (E.length:Int) ha.1;omega
 obtain⟨j,hj⟩:=aq (kd.tmod 8);have hj8:0<=j/\j<8:=by rw[hj];exact⟨Int.tmod_nonneg _ hk,Int.tmod_lt_of_pos _ (by decide)⟩
 rcases(show j=0∨j=1∨j=2∨j=3∨j=4∨j=5∨j=6∨j=7 by omega) with rfl|rfl|rfl|rfl|rfl|rfl|rfl|rfl
 ·exact fin N E D hK h.e h.d (by omega) (by omega) fun b hv=>Iu N kd fK E D hE hD p hj.symm b hv
 ·obtain⟨f1,f2,f3⟩:=iD (plain:=false) eEp
  rw[List.length_append,List.length_singleton]at f3;exact fin N _ D ⟨hK.n,fun x hx=>(f2 x hx).1,hK.pd,f1,hK.sd,by omega,hK.ld⟩ (fun x hx=>(f2 x hx).2.1) h.d f3 (by omega) fun b hv=>
   Iv N kd fK E D hE hD p hj.symm _ (WC (E ++ [p]) false eEp (by simp;omega)) b hv
 ·by_cases he:E=[]
  ·subst he
   exact fin N [] D hK h.e h.d (by simp) (by omega) fun b hv=>yg N kd fK [] D hE hD p hj.symm 0 ⟨fun e=>absurd rfl e,fun _=>rfl⟩ ha b hv
  ·exact fin N _ D ⟨hK.n,fun x hx=>hK.pe x ((sub i).subset hx),hK.pd,List.Pairwise.sublist (sub i) hK.se,hK.sd,by have:=Uc i;omega,hK.ld⟩ (fun x hx=>h.e x ((sub i).subset hx)) h.d (by have:=Uc i;omega) (by omega) fun b hv=>
    yg N kd fK E D hE hD p hj.symm i ⟨hi,fun e=>absurd e he⟩ ha b hv
 ·obtain⟨f1,f2,f3⟩:=iD (plain:=true) eDp
  rw[List.length_append,List.length_singleton]at f3;exact fin N E _ ⟨hK.n,hK.pe,fun x hx=>⟨(f2 x hx).1,(f2 x hx).2.2 rfl⟩,hK.se,f1,hK.le,by omega⟩ h.e (fun x hx=>(f2 x hx).2.1) (by omega) f3 fun b hv=>
   Iw N kd fK E D hE hD p hj.symm _ (WC (D ++ [p]) true eDp (by simp;omega)) b hv
 ·have h4:fK.tmod 4=fK%4:=Int.tmod_eq_emod_of_nonneg ha.1
  exact fin (1+fK.tmod 4) E D ⟨by omega,hK.pe,hK.pd,hK.se,hK.sd,hK.le,hK.ld⟩ h.e h.d (by omega) (by omega) fun b hv=>IA N kd fK E D hE hD p hj.symm _ rfl ha b hv
 ·by_cases he:E=[]
  ·subst he
   exact fin N [] D hK h.e h.d (by simp) (by omega) fun b hv=>yh N kd fK [] D hE hD p hj.symm 0 (fun e=>absurd rfl e) ha [] (fun _=>rfl) (fun e=>absurd rfl e) b hv
  ·have e5:∀x∈[p]++E.take i++E.drop (i+1),SP x:=fun x hx=>by
    rw[List.append_assoc]at hx;rcases List.mem_append.1 hx with h'|h'
    ·rw[List.mem_singleton.1 h'];exact hp
    ·exact h.e x ((sub i).subset h')
   have l5:([p]++E.take i++E.drop (i+1)).length<=E.length+1:=by
    rw[List.append_assoc,List.length_append,List.length_singleton];have:=Uc i;omega
   obtain⟨f1,f2,f3⟩:=iD (plain:=false) e5;exact fin N _ D ⟨hK.n,fun x hx=>(f2 x hx).1,hK.pd,f1,hK.sd,by omega,hK.ld⟩ (fun x hx=>(f2 x hx).2.1) h.d (by omega) (by omega) fun b hv=>
    yh N kd fK E D hE hD p hj.symm i hi ha _ (fun e=>absurd e he) (fun _=>WC _ false e5 (by omega)) b hv
 ·exact fin N E [] ⟨hK.n,hK.pe,by simp,hK.se,List.Pairwise.nil,hK.le,by simp⟩ h.e (by simp) (by omega) (by simp) fun b hv=>Ix N kd fK E D hE hD p hj.symm b hv
 ·exact fin N [] D ⟨hK.n,by simp,hK.pd,List.Pairwise.nil,hK.sd,by simp,hK.ld⟩ (by simp) h.d (by simp) (by omega) fun b hv=>Iy N kd fK E D hE hD p hj.symm b hv
end Go.Proofs.YtekefilngojelaaGreat
end
section
namespace Go.Abs
open Go.RowKit Go.WideShapes Go.ChangeShapes Go.ChangeAt
section
variable {H:Type} {enc:TypeId×Value->H} {P:Program} {w:World} {sp:Nat->Bool} {hd:Bool}
theorem Ln {t e:TypeId} {n:Nat} {cs:List Value} {x:DataW H×List MemPlace} (hu:P.underlying t=some (.slice e)) (hx:DataW.trod enc P w 0 sp hd n t cs=some x) {cp:Bool} {rows:List (List Tree)} (h:jb w [.aa cp rows] cs) :
  rows.length=0∨∃elems spare,x.1=.slice elems spare/\rows.length=elems.length:=by
 have hl:∀b len cap,cs=[.slice b len cap]->rows.length=len:=fun b len cap hc=>by
  have h2:=h.2 0 _ _ rfl (by rw[hc];rfl);cases h2 with
  | aa=>rfl
 rcases DataW.trod_slice hu hx with⟨h1,h2⟩|⟨a,len,cap,elems,rest,n',h0,h1,h2,_,_,_,Rp,_⟩
 ·exact .inl (hl _ _ _ h1)
 ·exact .inr ⟨_,_,by rw[h2],by rw[hl _ _ _ h1,List.length_map,Rp]⟩
def US (P:Program):Nat->TypeId->List Tree->Prop
 | 0,_,_=>True
 | d+1,t,ts=>(∀e cp rows,P.underlying t=some (.slice e)->ts=[.aa cp rows]->rows.length*P.bytesOf e<=reachBytes) /\
   ∀(fs:Array Field) (i:Nat) (f:Field),P.underlying t=some (.struct fs)->fs[i]?=some f->US P d f.type ((ts.drop f.offset).take (P.cellsOf f.type))
def D6 (P:Program) (d:Nat):List TypeId->List (List Tree)->Prop
 | t::NM,ts::D7=>US P d t ts/\D6 P d NM D7
 | _,_=>True
theorem jb.cut {ts:List Tree} {cs:List Value} (h:jb w ts cs) (i m:Nat):jb w ((ts.drop i).take m) ((cs.drop i).take m):=by
 refine⟨by rw[List.length_take,List.length_take,List.length_drop,List.length_drop,h.1],fun j t v ht hv=>?_⟩;rw[List.getElem?_take]at ht hv;split at ht
 ·rename_i hj
  rw[if_pos hj]at hv;rw[List.getElem?_drop]at ht hv;exact h.2 _ t v ht hv
 ·cases ht
theorem N7:∀(d:Nat) {t:TypeId} {n:Nat} {cs:List Value} {x:DataW H×List MemPlace} {ts:List Tree},DataW.trod enc P w 0 sp hd n t cs=some x->jb w ts cs->(∀m∈x.1.weights P t,m<=reachBytes)->US P d t ts
 | 0,_,_,_,_,_,_,_,_=>trivial
 | d+1,t,n,cs,x,ts,hx,hr,hw=>by
  refine⟨fun e cp rows hu ht=>?_,fun fs i f hu hf=>?_⟩
  ·subst ht
   rcases Ln hu hx hr with e0|⟨elems,spare,e1,e2⟩
   ·rw[e0,Nat.zero_mul];exact Nat.zero_le _
   ·rw[e2]
    refine Nat.le_trans (Nat.mul_le_mul_right _ (Nat.le_add_right _ spare.length)) (hw _ ?_);rw[e1];simp[DataW.weights,hu]
  ·obtain⟨xs,n',rfl,rfl,hl,Wj,Gz⟩:=DataW.trod_struct hu hx
   have hi:i<xs.length:=by rw[Wj];exact(Array.getElem?_eq_some_iff.1 hf).1
   have h1:=Gz i f hf;rw[List.getElem?_eq_getElem hi]at h1;refine N7 d h1 (hr.cut _ _) fun m hm=>hw m ?_
   show m∈DataW.weights P t (.agg (xs.map (·.1)))
   simp only[DataW.weights,hu];exact DataW.weights_mem_each (j:=i) (t:=f.type) (d:=xs[i].1) (by rw[List.getElem?_map,Array.getElem?_toList,hf];rfl) (by rw[List.getElem?_map,List.getElem?_eq_getElem hi];rfl) m hm
def oi (P:Program):List Nat->TypeId->List Tree->Option (TypeId×List Tree)
 | [],t,ts=>some (t,ts)
 | i::p,t,ts=>match P.underlying t with
  | some (.struct fs)=>match fs[i]? with
   | some f=>oi P p f.type ((ts.drop f.offset).take (P.cellsOf f.type))
   | none=>none
  | _=>none
theorem yi:∀(p:List Nat) {d:Nat} {t t':TypeId} {ts OX:List Tree},US P (d+p.length) t ts->oi P p t ts=some (t',OX)->US P d t' OX
 | [],d,t,t',ts,OX,h,hp=>by
  simp only[oi,Option.some.injEq,Prod.mk.injEq]at hp;obtain⟨rfl,rfl⟩:=hp;exact h
 | i::p,d,t,t',ts,OX,h,hp=>by
  unfold oi at hp;split at hp
  ·rename_i fs hu
   split at hp
   ·rename_i f hf
    exact yi p (h.2 fs i f hu hf) hp
   ·cases hp
  ·cases hp
theorem oj {D:Nat}:∀ {NM:List TypeId} {Lb:List Shape} {vs:List Value} {ds:List (DataW H)} {ps:List MemPlace},DataW.TrodAll enc P w 0 sp true NM vs ds ps->iP P NM Lb=true ->
  (∀(j:Nat) t v,NM[j]?=some t->vs[j]?=some v->Value.okWide P w .any 0 t v) ->
  (∀(j:Nat) t d,NM[j]?=some t->ds[j]?=some d->∀m∈d.weights P t,m<=reachBytes) ->
  ∃D7,Jt Lb D7/\D6 P D NM D7/\vs.length=(Qm Lb D7).length/\ds.length=Lb.length/\∀(i:Nat) (x:TV),(Qm Lb D7)[i]?=some x->∃v,vs[i]?=some v/\aI EH (gL w) w x.av v
 | [],[],[],[],ps,h,hf,hv,hz=>⟨[],rfl,trivial,rfl,rfl,fun i x hx=>by simp[Qm]at hx⟩
 | t::ts,s::ss,v::vs,d::ds,ps,h,hf,hv,hz=>by
  obtain⟨p,q,⟨n,h1⟩,h2,_⟩:=h;simp only[iP,Bool.and_eq_true]at hf;obtain⟨⟨⟨f1,f2⟩,f3⟩,f4⟩:=hf;obtain⟨D7,g1,g0,g2,g3,g4⟩:=oj h2 f4 (fun j t v ht hx=>hv (j+1) t v (by simpa using ht) (by simpa using hx)) (fun j t d ht hd=>hz (j+1) t d (by simpa using ht) (by simpa using hd));obtain⟨tr,k1,k2⟩:=s.read t f1 n _ _ h1;refine⟨tr::D7,⟨tr,D7,rfl,k1,g1⟩,⟨N7 D h1 k2 (hz 0 t d rfl rfl),g0⟩,by simp[Qm,g2],by simp[g3],fun i x hx=>?_⟩
  cases i with
  | zero=>
   simp only[Qm,List.getElem?_cons_zero,Option.some.injEq]at hx;subst hx;exact⟨v,rfl,Shape.rep f1 (hv 0 t v rfl rfl) k1 k2⟩
  | succ i=>simp only[Qm,List.getElem?_cons_succ]at hx ⊢;exact g4 i x hx
 | [],_::_,_,_,_,_,hf,_,_=>by simp[iP]at hf
 | _::_,[],_,_,_,_,hf,_,_=>by simp[iP]at hf
 | [],[],_::_,_,_,h,_,_,_=>by simp[DataW.TrodAll]at h
 | [],[],[],_::_,_,h,_,_,_=>by simp[DataW.TrodAll]at h
 | _::_,_::_,[],_,_,h,_,_,_=>by simp[DataW.TrodAll]at h
 | _::_,_::_,_::_,[],_,h,_,_,_=>by simp[DataW.TrodAll]at h
theorem D8 {f:FuncId} {fn:Func} {spec:ChangeSpec} {Lb:List Shape} {outs:List (Option aA)} (hl:laidOutB P=true) (hf:iP P fn.params.toList Lb=true) (Gl:spec.vars=[]) {tb0:TypeId} (CT:fn.resultTypes=#[tb0]) (hb4:P.underlying tb0=some .bool)
  {apart fresh handsOn again:Bool} (jx:∀ds:List (DataW H),ds.length=Lb.length->(spec.fn H ds).args=ds/\(spec.fn H ds).results=[.lit (.bool true)]/\(spec.fn H ds).vars=[])
  (hc:∀D7,Jt Lb D7->D6 P 5 fn.params.toList D7->eP P f ((Qm Lb D7).map .val) ⟨[.val (tb true)],outs⟩)
  {W:World} {args:Array Value} {ds gs:List (DataW H)} {before:List MemPlace} (pU:∀(j:Nat) t v,fn.params[j]?=some t->args[j]?=some v->Value.okWide P W .any 0 t v)
  (hW:DataW.Whole enc P fn.params.toList spec.vars apart W args.toList ds gs before) {vt:List TypeId}
  (hz:(DataW.weightsEach P (fn.params.toList++vt) (ds++gs)).all (·<=reachBytes)=true) :
  Calls P f args W fun e W'=>∃v,e=.returned v/\spec.post enc P fn apart fresh handsOn again W args v W':=by
 have hW':=hW;obtain⟨p,q,hA,hV,rfl,GI,oU⟩:=hW;rw[Gl]at hV;have Wf:gs=[]/\q=[]:=by
  cases gs with
  | nil=>exact⟨rfl,hV⟩
  | cons g gs=>exact hV.elim
 obtain⟨rfl,rfl⟩:=Wf;obtain⟨D7,je,dY,hlen,hdl,jB⟩:=oj hA hf (fun j t v ht hv=>pU j t v (by simpa using ht) (by simpa using hv)) (fun j t d ht hd m hm=>by
  have:=List.all_eq_true.1 hz m (DataW.weights_mem_each (j:=j) (t:=t) (by rw[List.getElem?_append_left (List.getElem?_eq_some_iff.1 ht).1];exact ht) (by rw[List.append_nil];exact hd) m hm);simpa using this)
 have h:=K9 (hc D7 je dY) W args.toList hlen jB;have dM:args.toList.toArray=args:=rfl;rw[dM]at h;obtain⟨e1,e2,e3⟩:=jx ds hdl;have QF:∀x∈p,x.block<W.heap.size:=fun x hx=>hW'.lt x (List.mem_append_left _ hx)
 refine h.mono fun e W' ⟨he,hg⟩=>?_
 subst he;refine⟨_,rfl,Ad (pa:=p) (pv:=[]) hW' (fun b sp hd=>?_) (fun sp hs=>?_) (fun sp hs=>?_) rfl hg ?_⟩
 ·rw[List.append_nil,e2,CT]
  exact trodAll_cons_mk (shut_bool hb4 _) trodAll_mk0
 ·rw[List.append_nil,e1]
  exact BY hl hg hA hf QF (fun x hx=>hs x (List.mem_append_left _ hx))
 ·rw[List.append_nil,e3,Gl];rfl
 ·exact ok_one CT rfl (okWide_bool_mk hb4 _)
end
end Go.Abs
end
section
namespace Go.Proofs.YtekefilngojelaaGreat
open Go Go.Abs Go.Abs.M Go.Proofs
def Lo:Shape:=.struct [.slice (.arr 5 (.int .i8))]
def JC:Shape:=.struct [.int .u8,.slice Lo,.slice (.int .i8)]
theorem IB:∀rows:List (List Tree),(∀r∈rows,(Shape.arr 5 (.int .i8)).ok r)->∃l:List R5,rows=Ae l/\∀x∈l,x.ok
 | [],_=>⟨[],rfl,by simp⟩
 | r::rs,h=>by
  obtain⟨l,h1,h2⟩:=IB rs fun r hr=>h r (List.mem_cons_of_mem _ hr)
  obtain⟨_,_,rfl,⟨a,rfl,ha⟩,_,_,rfl,⟨b,rfl,hb⟩,_,_,rfl,⟨c,rfl,hc⟩,_,_,rfl,⟨d,rfl,hd⟩,_,_,rfl,⟨e,rfl,he⟩,rfl⟩:=h r List.mem_cons_self;refine⟨⟨a,b,c,d,e⟩::l,by rw[h1];rfl,fun x hx=>?_⟩;rcases List.mem_cons.1 hx with rfl|hx
  ·exact⟨Jq ha,Jq hb,Jq hc⟩
  ·exact h2 x hx
theorem N8:∀rows:List (List Tree),(∀r∈rows,(Shape.int .i8).ok r)->∃l:List Int,rows=W .i8 l/\∀x∈l,-128<=x/\x<128
 | [],_=>⟨[],rfl,by simp⟩
 | r::rs,h=>by
  obtain⟨l,h1,h2⟩:=N8 rs fun r hr=>h r (List.mem_cons_of_mem _ hr)
  obtain⟨a,rfl,ha⟩:=h r List.mem_cons_self;refine⟨a::l,by rw[h1];rfl,fun x hx=>?_⟩;rcases List.mem_cons.1 hx with rfl|hx
  ·exact Jq ha
  ·exact h2 x hx
theorem JD:∀rows:List (List Tree),(∀r∈rows,Lo.ok r)->∃(l:List (List R5)) (ts:List Tree),rows=ts.map (fun t=>[t])/\ku ts (l.map fun t=>.aa false (Ae t))/\rows.length=l.length/\∀t∈l,∀x∈t,x.ok
 | [],_=>⟨[],[],rfl,trivial,rfl,by simp⟩
 | r::rs,h=>by
  obtain⟨l,ts,h1,h2,h3,h4⟩:=JD rs fun r hr=>h r (List.mem_cons_of_mem _ hr)
  obtain⟨_,_,rfl,⟨cp,rows,rfl,_,hr⟩,rfl⟩:=h r List.mem_cons_self;obtain⟨t,rfl,ht⟩:=IB rows hr;refine⟨t::l,.aa cp (Ae t)::ts,by rw[h1];rfl,⟨aY.drop _ _,h2⟩,by simp[h3],fun x hx=>?_⟩;rcases List.mem_cons.1 hx with rfl|hx
  ·exact ht
  ·exact h4 x hx
theorem Ud {c:Bool} {ts:List Tree} {l:List (List R5)} (h:ku ts (l.map fun t=>.aa false (Ae t))):aY (.aa c (ts.map fun t=>[t])) (.aa false (Ca l)):=by
 have e:Ca l=(l.map fun t=>Tree.aa false (Ae t)).map fun t=>[t]:=by simp[Ca]
 rw[e];exact aY.T1 h
theorem N9 {ts:List Tree} (h:JC.ok ts) {T M M2 e e2:TypeId} (hu:Tryz.prog.underlying M=some (.slice e)) (he:Tryz.prog.bytesOf e=24) (yK:Tryz.prog.underlying M2=some (.slice e2)) (QY:Tryz.prog.bytesOf e2=1)
  (p1:∀a b c:Tree,oi Tryz.prog [1] T [a,b,c]=some (M,[b])) (p2:∀a b c:Tree,oi Tryz.prog [2] T [a,b,c]=some (M2,[c])) (z:US Tryz.prog 5 T ts) :
  ∃(K:Int) (l:List (List R5)) (v:List Int),0<=K/\LI l/\Jn v/\ku ts (mH K l v):=by
 obtain⟨_,_,rfl,⟨K,rfl,hK⟩,_,_,rfl,⟨c1,r1,rfl,_,g1⟩,_,_,rfl,⟨c2,r2,rfl,_,g2⟩,rfl⟩:=h;have z1:=(yi (d:=4) [1] z (p1 _ _ _)).1 e _ _ hu rfl;have z2:=(yi (d:=4) [2] z (p2 _ _ _)).1 e2 _ _ yK rfl;have hr:reachBytes=140737488351232:=by decide
 rw[he,hr]at z1;rw[QY,hr]at z2;obtain⟨l,ts,rfl,h2,h3,h4⟩:=JD r1 g1;obtain⟨v,rfl,hv⟩:=N8 r2 g2;rw[jr]at z2;refine⟨K,l,v,?_,⟨by omega,h4⟩,⟨hv,by omega⟩,⟨.v _,Ud h2,.drop _ _,trivial⟩⟩;exact(Jp hK).1
theorem QG {ts:List Tree} (h:Lo.ok ts):∃y:List R5,(∀x∈y,x.ok)/\ku ts [.aa false (Ae y)]:=by
 obtain⟨_,_,rfl,⟨cp,rows,rfl,_,hr⟩,rfl⟩:=h;obtain⟨y,rfl,hy⟩:=IB rows hr;exact⟨y,hy,⟨.drop _ _,trivial⟩⟩
theorem Xz (l:aS):l.all (Ei 2)=true:=List.all_eq_true.2 fun p _=>by unfold Ei;simp
theorem KV.two {E D:aS} (h:Ov 2 E D) (hE:∀p∈E,SP p) (hD:∀p∈D,SP p):KV 2 E D:=⟨h,hE,hD,by rw[Xz,Xz];rfl⟩
theorem KV.le {N:Int} {E D:aS} (h:KV N E D):LP E:=lpS h.e (by have:=h.k.le;omega)
theorem KV.ld {N:Int} {E D:aS} (h:KV N E D):LP D:=lpS h.d (by have:=h.k.ld;omega)
theorem XA {N:Int} {E D:aS} {k:Int} {aG:aS} {C:fi} {M:Int} {E' D':aS} (h:Jx N E D k aG C M E' D'=true):N<=M:=by
 unfold Jx uY at h;rw[Bool.and_eq_true]at h;have h:=h.1;split at h
 ·simp at h;omega
 ·split at h
  ·simp at h;omega
  ·split at h<;>simp at h<;>omega
theorem QH (K:Int) (hK:0<=K) (l:List (List R5)) (hl:LI l) (v:List Int) (hv:Jn v) (mask:Int) :
  ∃(E D:aS) (k:Int) (Ue:aS) (C0:fi) (aG:aS) (C:fi) (q:jJ),KV 2 E D/\E.length<=2/\D.length<=1/\kf E.length k aG C q /\
   aH 9 [.val (.agg (mH K l v))] ⟨[.val (.agg (fT 2 (.aa false (aj E)) (.aa false (aj D)) k (.aa false (aj Ue)) (.aa false (dL C0)) q))],[none]⟩ /\
   aH 8 [.val (.agg (fT 2 (.aa false (aj E)) (.aa false (aj D)) k (.aa false (aj Ue)) (.aa false (dL C0)) q)),.val (ti .u8 mask)] ⟨[.val (.agg (fT 2 (.aa false (aj E)) (.aa false (aj D)) k (.aa false (aj aG)) (.aa false (dL C)) q))],[none,none]⟩:=by
 obtain⟨E,D,k,aG,C,q,hk,hE,hD,lE,lD,hf,cM⟩:=Gp K hK l hl v hv;exact⟨E,D,k,aG,C,_,_,q,KV.two hk hE hD,lE,lD,hf.thin (sS mask 0) (sS mask 1),cM,Lk 2 k mask E lE (.aa false (aj D)) aG C q hf.sh⟩
end Go.Proofs.YtekefilngojelaaGreat
end
