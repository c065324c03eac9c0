/-
  A part of the proof: GabsLocal2.
-/
import Derived.Test.YtekefilngojelaaGreatM6
set_option maxHeartbeats 0
set_option maxRecDepth 100000
set_option linter.unusedVariables false
set_option linter.unusedSimpArgs false
set_option linter.unusedSectionVars false
section
namespace Go.Abs
theorem E9 {C:dP} {slot:Nat} {σ σ':Operand->AV} {h:Hp} {op:Op} (hs:∀x∈op.operands.toList,σ' x=σ x):evalOp C slot σ' h op=evalOp C slot σ h op:=by
 cases op with
 | build t ps=>
  have:(ps.toList.map fun p=>(p.1,σ' p.2))=ps.toList.map fun p=>(p.1,σ p.2):=List.map_congr_left fun p hp=>by
   rw[hs p.2];simp only[Op.operands,List.mem_map];exact⟨p,hp,rfl⟩
  simp only[evalOp,this]
 | buildSlice t n ps=>
  have:(ps.toList.map fun p=>(p.1,σ' p.2))=ps.toList.map fun p=>(p.1,σ p.2):=List.map_congr_left fun p hp=>by
   rw[hs p.2];simp only[Op.operands,List.mem_map];exact⟨p,hp,rfl⟩
  simp only[evalOp,this]
 | slice t x lo hi mx=>
  have h0:σ' x=σ x:=hs x (by simp[Op.operands]);have h1:lo.map σ'=lo.map σ:=by cases lo with|none=>rfl|some y=>simp[hs y (by simp[Op.operands])]
  have h2:hi.map σ'=hi.map σ:=by cases hi with|none=>rfl|some y=>simp[hs y (by simp[Op.operands])]
  have h3:mx.map σ'=mx.map σ:=by cases mx with|none=>rfl|some y=>simp[hs y (by simp[Op.operands])]
  simp only[evalOp,h0,h1,h2,h3]
 | makeFunc fn first a8=>
  cases fn with
  | func f=>
   have gen:∀l:List Operand,(∀x∈l,σ' x=σ x)->l.mapM (fun x=>nX (σ' x))=l.mapM (fun x=>nX (σ x)):=by
    intro l
    induction l with
    | nil=>intro _;rfl
    | cons x l ih=>intro hl;rw[List.mapM_cons,List.mapM_cons,hl x (by simp),ih fun y hy=>hl y (by simp[hy])]
   have t1:a8.toList.mapM (fun x=>nX (σ' x))=a8.toList.mapM (fun x=>nX (σ x)):=
    gen _ fun x hx=>hs x (by simp[Op.operands];exact .inr (by simpa using hx))
   have t2:first.toList.mapM (fun x=>nX (σ' x))=first.toList.mapM (fun x=>nX (σ x)):=
    gen _ fun x hx=>hs x (by simp[Op.operands];exact .inl (by simpa using hx))
   simp only[evalOp,t1,t2]
  | _=>rfl
 | call c=>
  obtain⟨callee,args,argTypes⟩:=c;cases callee with
  | builtin b=>
   have dx:∀x∈args.toList,σ' x=σ x:=fun x hx=>hs x (by simp[Op.operands,Call.operands];simpa using hx)
   simp only[evalOp];generalize args.toList=l at dx;split
   ·rw[dx _ (by simp)]
   ·rw[dx _ (by simp),dx _ (by simp)]
   ·rw[dx _ (by simp),dx _ (by simp)]
   ·rw[dx _ (by simp),dx _ (by simp)]
   ·rw[dx _ (by simp),dx _ (by simp)]
   ·rfl
  | _=>rfl
 | pick c x y=>simp only[evalOp];rw[hs c (by simp[Op.operands]),hs x (by simp[Op.operands]),hs y (by simp[Op.operands])]
 | move x=>simp only[evalOp];rw[hs x (by simp[Op.operands])]
 | nilCheck x=>simp only[evalOp];rw[hs x (by simp[Op.operands])]
 | assign x=>simp only[evalOp];rw[hs x (by simp[Op.operands])]
 | box t x=>simp only[evalOp];rw[hs x (by simp[Op.operands])]
 | load t x=>simp only[evalOp];rw[hs x (by simp[Op.operands])]
 | store t x y=>simp only[evalOp];rw[hs x (by simp[Op.operands]),hs y (by simp[Op.operands])]
 | binOp o t x y t'=>simp only[evalOp];rw[hs x (by simp[Op.operands]),hs y (by simp[Op.operands])]
 | unOp o t x=>simp only[evalOp];rw[hs x (by simp[Op.operands])]
 | convert s d x=>simp only[evalOp];rw[hs x (by simp[Op.operands])]
 | makeSlice t x y=>simp only[evalOp];rw[hs x (by simp[Op.operands]),hs y (by simp[Op.operands])]
 | fieldAddr t x f=>simp only[evalOp];rw[hs x (by simp[Op.operands])]
 | field t x f=>simp only[evalOp];rw[hs x (by simp[Op.operands])]
 | indexAddr t x y=>simp only[evalOp];rw[hs x (by simp[Op.operands]),hs y (by simp[Op.operands])]
 | index t x y=>simp only[evalOp];rw[hs x (by simp[Op.operands]),hs y (by simp[Op.operands])]
 | extract x i=>simp only[evalOp];rw[hs x (by simp[Op.operands])]
 | lookup t x y ok=>simp only[evalOp];rw[hs x (by simp[Op.operands]),hs y (by simp[Op.operands])]
 | mapUpdate t x y v=>simp only[evalOp];rw[hs x (by simp[Op.operands]),hs y (by simp[Op.operands]),hs v (by simp[Op.operands])]
 | _=>rfl
theorem vC {h h':Hp} {x:AV} {tv:TV} {m:List (Nat×Option aU)} (ht:vc h x=some (tv,m)) (hh:∀b∈ids m,h' b=h b):vc h' x=some (tv,m):=by
 unfold vc at ht ⊢;split at ht
 ·obtain⟨p,h1,h2⟩:=Option.map_eq_some_iff.1 ht
  cases h2;simp only[qC h1 hh,Option.map_some]
 ·obtain⟨p,h1,h2⟩:=Option.map_eq_some_iff.1 ht
  cases h2;simp only[Pt h1 hh,Option.map_some]
 ·cases ht
theorem tC {h:Hp} {x:AV} (cY:∀f a8,x=.c (.dj f a8)->False):dQ h .val x=(vc h x).map fun p=>(.val p.1,p.2,.none):=by
 cases x with
 | c y=>cases y with
  | dj f a8=>exact(cY f a8 rfl).elim
  | _=>rfl
 | _=>rfl
theorem vD {h:Hp} {x:AV} (cY:∀b off len,x=.c (.sl b off len false)->False):dQ h .rd x=(vc h x).map fun p=>(.val p.1,p.2,.none):=by
 cases x with
 | c y=>cases y with
  | sl b off len cp=>cases cp with
   | false=>exact(cY b off len rfl).elim
   | true=>rfl
  | _=>rfl
 | _=>rfl
theorem xk {h h':Hp} {md:Mode} {x:AV} {a:Arg} {m:List (Nat×Option aU)} {bk:bI} (hp:dQ h md x=some (a,m,bk)) (hh:∀b∈ids m,h' b=h b) (hb:∀b,bk.id=some b->h' b=h b):dQ h' md x=some (a,m,bk):=by
 unfold dQ at hp;split at hp
 ·exact hp
 ·rename_i cY
  obtain⟨p,h1,h2⟩:=Option.map_eq_some_iff.1 hp;cases h2;rw[tC cY,vC h1 hh];rfl
 ·rename_i b off len
  split at hp
  ·rename_i sz rows g gz
   split at hp
   ·rename_i hc
    cases hp;simp only[dQ,hb b rfl,gz];rw[if_pos hc]
   ·cases hp
  ·cases hp
 ·rename_i sz b len
  split at hp
  ·rename_i ke rows gz
   split at hp
   ·rename_i hc
    cases hp;simp only[dQ,hb b rfl,gz];rw[if_pos hc]
   ·cases hp
  ·cases hp
 ·exact hp
 ·rename_i b off len
  split at hp
  ·rename_i sz rows g gz
   split at hp
   ·rename_i hc
    cases hp;simp only[dQ,hb b rfl,gz];rw[if_pos hc]
   ·cases hp
  ·cases hp
 ·rename_i cY
  obtain⟨p,h1,h2⟩:=Option.map_eq_some_iff.1 hp;cases h2;rw[vD cY,vC h1 hh];rfl
 ·rename_i b
  split at hp
  ·rename_i cells gz
   split at hp
   ·rename_i ts tg
    cases hp;simp only[dQ,hb b rfl,gz,Pt (h':=h') tg (by simp[ids])]
   ·cases hp
  ·cases hp
 ·cases hp
theorem iW {h h':Hp}:∀ {ms:List Mode} {xs:List AV} {as:List Arg} {m:List (Nat×Option aU)} {dE:List bI},cD h ms xs=some (as,m,dE)->(∀b∈ids m,h' b=h b)->(∀b∈dE.filterMap bI.id,h' b=h b)->cD h' ms xs=some (as,m,dE)
 | [],[],as,m,dE,hp,_,_=>hp
 | [],_::_,_,_,_,hp,_,_=>by simp[cD]at hp
 | _::_,[],_,_,_,hp,_,_=>by simp[cD]at hp
 | md::ms,x::xs,as,m,dE,hp,hh,hb=>by
  unfold cD at hp;split at hp
  ·rename_i a k b as' ks bs h1 h2
   cases hp;rw[oW]at hh;have e1:=xk (h':=h') h1 (fun b hb=>hh b (List.mem_append_left _ hb)) fun i hi=>hb i (List.mem_filterMap.2 ⟨b,by simp,hi⟩)
   have e2:=iW (h':=h') h2 (fun b hb=>hh b (List.mem_append_right _ hb)) fun i hi=>hb i (by
    obtain⟨y,h3,h4⟩:=List.mem_filterMap.1 hi;exact List.mem_filterMap.2 ⟨y,by simp[h3],h4⟩)
   simp only[cD,e1,e2]
  ·cases hp
theorem qD {h h':Hp}:∀ {gs:List Nat} {xT:List Arg},jF h gs=some xT->(∀b∈gs,h' b=h b)->jF h' gs=some xT
 | [],xT,hg,_=>hg
 | b::gs,xT,hg,hh=>by
  unfold jF at hg;split at hg
  ·rename_i cells hb
   split at hg
   ·rename_i ts as h1 h2
    cases hg;have e2:=qD (h':=h') h2 fun b hb=>hh b (.tail _ hb)
    simp only[jF,hh b (.head _),hb,e2,Pt (h':=h') h1 (by simp[ids])]
   ·cases hg
  ·cases hg
theorem x9:∀(gs:List Nat),(qk gs).filterMap bI.id=gs
 | []=>rfl
 | g::gs=>by simp[qk,bI.id,x9 gs]
theorem vE {h h':Hp} {ms:List Mode} {xs:List AV} {as:List Arg} {m:List (Nat×Option aU)} {dE:List bI} (hp:eh h ms xs=some (as,m,dE)) (hh:∀b∈ids m,h' b=h b) (hb:∀b∈dE.filterMap bI.id,h' b=h b):eh h' ms xs=some (as,m,dE):=by
 unfold eh at hp;split at hp
 ·cases hp
 rename_i as0 ks bs h1;split at hp
 ·rename_i hg
  cases hp;unfold eh;simp only[iW (h':=h') h1 hh hb,hg]
 ·rename_i g gs hg
  split at hp
  ·rename_i xT h2
   cases hp;have e1:=iW (h':=h') h1 hh fun b hm=>hb b (by rw[List.filterMap_append];exact List.mem_append_left _ hm)
   have e2:=qD (h':=h') h2 fun b hm=>hb b (by rw[List.filterMap_append,x9];exact List.mem_append_right _ hm)
   unfold eh;simp only[e1,hg,e2]
  ·cases hp
theorem qE {h h':Hp}:∀ {dE:List bI} {outs:List (Option aU)},(∀b∈dE.filterMap bI.id,h' b=h b)->dk h' dE outs=dk h dE outs
 | [],[],_=>rfl
 | [],_::_,_=>rfl
 | b::dE,[],_=>by cases b<;>rfl
 | b::dE,o::outs,hb=>by
  have ih:dk h' dE outs=dk h dE outs:=qE fun i hi=>hb i (by
   obtain⟨y,h3,h4⟩:=List.mem_filterMap.1 hi;exact List.mem_filterMap.2 ⟨y,by simp[h3],h4⟩)
  have Ht:∀i,b.id=some i->h' i=h i:=fun i hi=>hb i (List.mem_filterMap.2 ⟨b,by simp,hi⟩)
  cases b with
  | none=>simp only[dk,ih]
  | own b=>simp only[dk,ih]
  | eP b off len=>
   have:=Ht b rfl;cases o with
   | none=>rfl
   | some aR=>
    cases aR with
    | rows sz r g fz=>cases g<;>cases fz<;>simp only[dk,ih,this]
    | _=>rfl
  | ref b=>
   have:=Ht b rfl;cases o with
   | none=>rfl
   | some aR=>cases aR<;>simp only[dk,ih,this]
theorem xl {h h':Hp} {slot:Nat} {marks:List (Nat×Option aU)} {dE:List bI} {res:lJ} (hb:∀b∈dE.filterMap bI.id,h' b=h b):fU h' slot marks dE res=fU h slot marks dE res:=by
 unfold fU;simp only[qE hb]
theorem Fb {h:Hp} {slot:Nat} {marks:List (Nat×Option aU)} {dE:List bI} {res:lJ} {e:bZ} (he:fU h slot marks dE res=some e):(∀b∈ids marks,b∈e.rd)/\∀b∈dE.filterMap bI.id,b∈e.rd:=by
 unfold fU at he;simp only at he;split at he
 ·rename_i hc
  cases he;simp only[Bool.and_eq_true,List.isEmpty_iff]at hc;exact⟨fun b hb=>hb,fun b hb=>by rw[hc.2]at hb;cases hb⟩
 ·split at he
  ·cases he
  ·split at he
   ·cases he
    exact⟨fun b hb=>List.mem_append_left _ hb,fun b hb=>List.mem_append_right _ hb⟩
   ·cases he
def lf (ops : List Oper) (o : Oper) : List Nat :=
  (o.op.operands.toList.filterMap fun|.tmp t=> some t|_=> none) ++
  (match o.guard with
   | some (g, _)=> ((ops[g]?).bind (·.dst)).toList
   | none=> [])
section
variable {P:Program} {C:dP} {ops:List Oper} {slot:Nat} {o:Oper} {st rY:St} {e:bZ}
theorem Hy (hT:∀t∈lf ops o,rY.tmps.getD t .aj=st.tmps.getD t .aj):∀x∈o.op.operands.toList,rY.get x=st.get x:=by
 intro x hx;cases x with
 | tmp t=>exact hT t (List.mem_append_left _ (List.mem_filterMap.2 ⟨_,hx,rfl⟩))
 | _=>rfl
theorem xm (hT:∀t∈lf ops o,rY.tmps.getD t .aj=st.tmps.getD t .aj):gO rY.tmps ops o=gO st.tmps ops o:=by
 unfold gO;cases hg:o.guard with
 | none=>rfl
 | some p=>
  obtain⟨j,want⟩:=p;simp only;cases hd:(ops[j]?).bind (·.dst) with
  | none=>rfl
  | some d=>
   simp only;rw[hT d (List.mem_append_right _ (by rw[hg];simp[hd]))]
theorem jU {h:Hp}:∀(n:Nat) (l acc:List Nat),∀b∈acc,b∈reach h n l acc
 | 0,l,acc,b,hb=>by unfold reach;exact hb
 | n+1,[],acc,b,hb=>by unfold reach;exact hb
 | n+1,x::l,acc,b,hb=>by
  unfold reach;split
  ·exact jU n l acc b hb
  ·split
   ·exact jU n _ _ b (List.mem_append_left _ hb)
   ·exact jU n _ _ b (List.mem_append_left _ hb)
theorem js {h h':Hp}:∀(n:Nat) (l acc:List Nat),(∀b∈reach h n l acc,h' b=h b)->reach h' n l acc=reach h n l acc
 | 0,l,acc,_=>by unfold reach;rfl
 | n+1,[],acc,_=>by unfold reach;rfl
 | n+1,x::l,acc,hh=>by
  unfold reach at hh ⊢;split
  ·rename_i hc
   simp only[hc]at hh;exact js n l acc hh
  ·rename_i hc
   simp only[hc]at hh;have hx:h' x=h x:=by
    apply hh;split
    ·exact jU n _ _ x (by simp)
    ·exact jU n _ _ x (by simp)
   rw[hx];split
   ·rename_i cells hb
    simp only[hb]at hh;exact js n _ _ hh
   ·rename_i hb
    refine js n _ _ fun b JY=>hh b ?_
    split
    ·rename_i cells bK;exact absurd bK (hb cells)
    ·exact JY
theorem AO {h h':Hp} {bJ:List AV} {ids:List Nat} {s:St} (hv:oT h bJ=some (ids,s)) (hh:∀b∈ids,h' b=h b):oT h' bJ=some (ids,s):=by
 simp only[oT]at hv ⊢;split at hv
 ·rename_i hc
  cases hv;have e1:reach h' 200 (bJ.flatMap AV.refs) []=reach h 200 (bJ.flatMap AV.refs) []:=js _ _ _ hh;rw[e1];have e2:rW h' (reach h 200 (bJ.flatMap AV.refs) []) bJ=rW h (reach h 200 (bJ.flatMap AV.refs) []) bJ:=by
   unfold rW;congr 2;rw[Bool.eq_iff_iff,List.all_eq_true,List.all_eq_true];constructor
   ·intro hx b hb;have:=hx b hb;rw[hh b hb]at this;exact this
   ·intro hx b hb;have:=hx b hb;rw[hh b hb];exact this
  have e3:ej h' (reach h 200 (bJ.flatMap AV.refs) []) bJ=ej h (reach h 200 (bJ.flatMap AV.refs) []) bJ:=by
   unfold ej;congr 1;exact List.map_congr_left fun b hb=>by rw[hh b hb]
  rw[e2,e3,if_pos hc]
 ·cases hv
theorem J6 {ids:List Nat} {slot lC:Nat} {s':St} {e:bZ} (h:vk ids slot lC s'=some e):e.rd=ids:=by
 unfold vk at h;split at h
 ·cases h;rfl
 ·cases h
theorem J7 {k:bZ->Prop} (h:eU P C ops slot o st k):∃e,eU P C ops slot o st (·=e)/\k e:=by
 unfold eU at h;split at h
 ·exact h.elim
 ·rename_i hw
  exact⟨qx,by unfold eU;simp only[hw],h⟩
 ·rename_i hw
  split at h
  ·rename_i f args argTypes dX
   split at h
   ·exact h.elim
   ·rename_i rN bJ hc
    split at h
    ·rename_i n0 Vo LV
     split at h
     ·exact h.elim
     ·rename_i ids s hp
      obtain⟨s',h1,h2⟩:=h;split at h2
      ·rename_i e he
       exact⟨e,by unfold eU;simp only[hw,dX,hc,LV,hp];rw[dX]at he;exact⟨s',h1,by simp only[he]⟩,h2⟩
      ·exact h2.elim
    ·rename_i J2
     split at h
     ·exact h.elim
     ·rename_i as marks dE hp
      obtain⟨res,h1,h2⟩:=h;split at h2
      ·rename_i e he
       refine⟨e,?_,h2⟩;unfold eU;simp only[hw,dX,hc,hp];exact⟨res,h1,by simp only[he]⟩
      ·exact h2.elim
  ·rename_i Ra
   split at h
   ·rename_i e he
    refine⟨e,?_,h⟩;unfold eU;simp only[hw]
    try simp only[he]
   ·exact h.elim
theorem CV (hT:∀t∈lf ops o,rY.tmps.getD t .aj=st.tmps.getD t .aj) (hH:∀b∈e.rd,look rY.heap b=look st.heap b) (h:eU P C ops slot o st (·=e)):eU P C ops slot o rY (·=e):=by
 have iF:=Hy hT;unfold eU at h ⊢;rw[xm hT];split at h
 ·exact h.elim
 ·exact h
 ·rename_i hw
  split at h
  ·rename_i f args argTypes dX
   have e1:rY.get f=st.get f:=iF f (by simp[dX,Op.operands,Call.operands]);have e2:args.toList.map rY.get=args.toList.map st.get:=List.map_congr_left fun x hx=>iF x (by simp[dX,Op.operands,Call.operands];exact .inr (by simpa using hx))
   rw[e1,e2];split at h
   ·exact h.elim
   ·rename_i rN bJ hc
    split at h
    ·rename_i n0 Vo LV
     split at h
     ·exact h.elim
     ·rename_i ids s hp
      obtain⟨s',h1,h2⟩:=h;split at h2
      ·rename_i e' he
       subst h2;have r1:=J6 he;rw[r1]at hH;simp only[LV];rw[AO hp hH];exact⟨s',h1,by simp only[he]⟩
      ·exact h2.elim
    ·rename_i J2
     split at h
     ·exact h.elim
     ·rename_i as marks dE hp
      obtain⟨res,h1,h2⟩:=h;split at h2
      ·rename_i e' he
       subst h2;obtain⟨r1,r2⟩:=Fb he;simp only;rw[vE (h':=look rY.heap) hp (fun b hb=>hH b (r1 b hb)) fun b hb=>hH b (r2 b hb)];refine⟨res,h1,?_⟩;rw[xl fun b hb=>hH b (r2 b hb),he]
      ·exact h2.elim
  ·rename_i Ra
   split at h
   ·rename_i e' he
    subst h;have Tb:evalOp C slot rY.get (look rY.heap) o.op=some e':=by
     rw[E9 iF];exact AN he hH
    try simp only[Tb]
   ·exact h.elim
end
end Go.Abs
end
