/- A part. -/
import Derived.Test.YtekefilngojelaaGreatM6
set_option maxHeartbeats 0
set_option maxRecDepth 100000
set_option linter.unusedVariables false
set_option linter.unusedSimpArgs false
set_option linter.unusedSectionVars false
section
namespace Go.Abs
theorem Ho {C:eA} {slot:Nat} {σ σ':Operand->AV} {h:Hp} {op:Op} (hs:∀x∈op.operands.toList,σ' x=σ x):evalOp C slot σ' h op=evalOp C slot σ h op:=by
 cases op with
 | build t ps=>
  have:(ps.toList.map fun p=>(p.1,σ' p.2))=ps.toList.map fun p=>(p.1,σ p.2):=List.map_congr_left fun p hp=>by
   rw[hs p.2];simp only[Op.operands,List.mem_map];exact⟨p,hp,rfl⟩
  simp only[evalOp,this]
 | buildSlice t n ps=>
  have:(ps.toList.map fun p=>(p.1,σ' p.2))=ps.toList.map fun p=>(p.1,σ p.2):=List.map_congr_left fun p hp=>by
   rw[hs p.2];simp only[Op.operands,List.mem_map];exact⟨p,hp,rfl⟩
  simp only[evalOp,this]
 | slice t x lo hi mx=>
  have h0:σ' x=σ x:=hs x (by simp[Op.operands]);have h1:lo.map σ'=lo.map σ:=by cases lo with|none=>rfl|some y=>simp[hs y (by simp[Op.operands])]
  have h2:hi.map σ'=hi.map σ:=by cases hi with|none=>rfl|some y=>simp[hs y (by simp[Op.operands])]
  have h3:mx.map σ'=mx.map σ:=by cases mx with|none=>rfl|some y=>simp[hs y (by simp[Op.operands])]
  simp only[evalOp,h0,h1,h2,h3]
 | makeFunc fn first aN=>
  cases fn with
  | func f=>
   have gen:∀l:List Operand,(∀x∈l,σ' x=σ x)->l.mapM (fun x=>pf (σ' x))=l.mapM (fun x=>pf (σ x)):=by
    intro l
    induction l with
    | nil=>intro _;rfl
    | cons x l ih=>intro hl;rw[List.mapM_cons,List.mapM_cons,hl x (by simp),ih fun y hy=>hl y (by simp[hy])]
   have t1:aN.toList.mapM (fun x=>pf (σ' x))=aN.toList.mapM (fun x=>pf (σ x)):=
    gen _ fun x hx=>hs x (by simp[Op.operands];exact .inr (by simpa using hx))
   have t2:first.toList.mapM (fun x=>pf (σ' x))=first.toList.mapM (fun x=>pf (σ x)):=
    gen _ fun x hx=>hs x (by simp[Op.operands];exact .inl (by simpa using hx))
   simp only[evalOp,t1,t2]
  | _=>rfl
 | call c=>
  obtain⟨callee,args,argTypes⟩:=c;cases callee with
  | builtin b=>
   have dM:∀x∈args.toList,σ' x=σ x:=fun x hx=>hs x (by simp[Op.operands,Call.operands];simpa using hx)
   simp only[evalOp];generalize args.toList=l at dM;split
   ·rw[dM _ (by simp)]
   ·rw[dM _ (by simp),dM _ (by simp)]
   ·rw[dM _ (by simp),dM _ (by simp)]
   ·rw[dM _ (by simp),dM _ (by simp)]
   ·rw[dM _ (by simp),dM _ (by simp)]
   ·rfl
  | _=>rfl
 | pick c x y=>simp only[evalOp];rw[hs c (by simp[Op.operands]),hs x (by simp[Op.operands]),hs y (by simp[Op.operands])]
 | move x=>simp only[evalOp];rw[hs x (by simp[Op.operands])]
 | nilCheck x=>simp only[evalOp];rw[hs x (by simp[Op.operands])]
 | assign x=>simp only[evalOp];rw[hs x (by simp[Op.operands])]
 | box t x=>simp only[evalOp];rw[hs x (by simp[Op.operands])]
 | load t x=>simp only[evalOp];rw[hs x (by simp[Op.operands])]
 | store t x y=>simp only[evalOp];rw[hs x (by simp[Op.operands]),hs y (by simp[Op.operands])]
 | binOp o t x y t'=>simp only[evalOp];rw[hs x (by simp[Op.operands]),hs y (by simp[Op.operands])]
 | unOp o t x=>simp only[evalOp];rw[hs x (by simp[Op.operands])]
 | convert s d x=>simp only[evalOp];rw[hs x (by simp[Op.operands])]
 | makeSlice t x y=>simp only[evalOp];rw[hs x (by simp[Op.operands]),hs y (by simp[Op.operands])]
 | fieldAddr t x f=>simp only[evalOp];rw[hs x (by simp[Op.operands])]
 | field t x f=>simp only[evalOp];rw[hs x (by simp[Op.operands])]
 | indexAddr t x y=>simp only[evalOp];rw[hs x (by simp[Op.operands]),hs y (by simp[Op.operands])]
 | index t x y=>simp only[evalOp];rw[hs x (by simp[Op.operands]),hs y (by simp[Op.operands])]
 | extract x i=>simp only[evalOp];rw[hs x (by simp[Op.operands])]
 | lookup t x y ok=>simp only[evalOp];rw[hs x (by simp[Op.operands]),hs y (by simp[Op.operands])]
 | mapUpdate t x y v=>simp only[evalOp];rw[hs x (by simp[Op.operands]),hs y (by simp[Op.operands]),hs v (by simp[Op.operands])]
 | _=>rfl
theorem wP {h h':Hp} {x:AV} {tv:TV} {m:List (Nat×Option aA)} (ht:wy h x=some (tv,m)) (hh:∀b∈ids m,h' b=h b):wy h' x=some (tv,m):=by
 unfold wy at ht ⊢;split at ht
 ·obtain⟨p,h1,h2⟩:=Option.map_eq_some_iff.1 ht
  cases h2;simp only[rA h1 hh,Option.map_some]
 ·obtain⟨p,h1,h2⟩:=Option.map_eq_some_iff.1 ht
  cases h2;simp only[Ss h1 hh,Option.map_some]
 ·cases ht
theorem uL {h:Hp} {x:AV} (dh:∀f aN,x=.c (.dA f aN)->False):eG h .val x=(wy h x).map fun p=>(.val p.1,p.2,.none):=by
 cases x with
 | c y=>cases y with
  | dA f aN=>exact(dh f aN rfl).elim
  | _=>rfl
 | _=>rfl
theorem wR {h:Hp} {x:AV} (dh:∀b off len,x=.c (.sl b off len false)->False):eG h .rd x=(wy h x).map fun p=>(.val p.1,p.2,.none):=by
 cases x with
 | c y=>cases y with
  | sl b off len cp=>cases cp with
   | false=>exact(dh b off len rfl).elim
   | true=>rfl
  | _=>rfl
 | _=>rfl
theorem yx {h h':Hp} {md:Mode} {x:AV} {a:Arg} {m:List (Nat×Option aA)} {bk:bK} (hp:eG h md x=some (a,m,bk)) (hh:∀b∈ids m,h' b=h b) (hb:∀b,bk.id=some b->h' b=h b):eG h' md x=some (a,m,bk):=by
 unfold eG at hp;split at hp
 ·exact hp
 ·rename_i dh
  obtain⟨p,h1,h2⟩:=Option.map_eq_some_iff.1 hp;cases h2;rw[uL dh,wP h1 hh];rfl
 ·rename_i b off len
  split at hp
  ·rename_i sz rows g g8
   split at hp
   ·rename_i hc
    cases hp;simp only[eG,hb b rfl,g8];rw[if_pos hc]
   ·cases hp
  ·cases hp
 ·rename_i sz b len
  split at hp
  ·rename_i lA rows g8
   split at hp
   ·rename_i hc
    cases hp;simp only[eG,hb b rfl,g8];rw[if_pos hc]
   ·cases hp
  ·cases hp
 ·exact hp
 ·rename_i b off len
  split at hp
  ·rename_i sz rows g g8
   split at hp
   ·rename_i hc
    cases hp;simp only[eG,hb b rfl,g8];rw[if_pos hc]
   ·cases hp
  ·cases hp
 ·rename_i dh
  obtain⟨p,h1,h2⟩:=Option.map_eq_some_iff.1 hp;cases h2;rw[wR dh,wP h1 hh];rfl
 ·rename_i b
  split at hp
  ·rename_i cells g8
   split at hp
   ·rename_i ts uC
    cases hp;simp only[eG,hb b rfl,g8,Ss (h':=h') uC (by simp[ids])]
   ·cases hp
  ·cases hp
 ·cases hp
theorem jF {h h':Hp}:∀ {ms:List Mode} {xs:List AV} {as:List Arg} {m:List (Nat×Option aA)} {dV:List bK},da h ms xs=some (as,m,dV)->(∀b∈ids m,h' b=h b)->(∀b∈dV.filterMap bK.id,h' b=h b)->da h' ms xs=some (as,m,dV)
 | [],[],as,m,dV,hp,_,_=>hp
 | [],_::_,_,_,_,hp,_,_=>by simp[da]at hp
 | _::_,[],_,_,_,hp,_,_=>by simp[da]at hp
 | md::ms,x::xs,as,m,dV,hp,hh,hb=>by
  unfold da at hp;split at hp
  ·rename_i a k b as' ks bs h1 h2
   cases hp;rw[qi]at hh;have e1:=yx (h':=h') h1 (fun b hb=>hh b (List.mem_append_left _ hb)) fun i hi=>hb i (List.mem_filterMap.2 ⟨b,by simp,hi⟩)
   have e2:=jF (h':=h') h2 (fun b hb=>hh b (List.mem_append_right _ hb)) fun i hi=>hb i (by
    obtain⟨y,h3,h4⟩:=List.mem_filterMap.1 hi;exact List.mem_filterMap.2 ⟨y,by simp[h3],h4⟩)
   simp only[da,e1,e2]
  ·cases hp
theorem rB {h h':Hp}:∀ {gs:List Nat} {As:List Arg},kr h gs=some As->(∀b∈gs,h' b=h b)->kr h' gs=some As
 | [],As,hg,_=>hg
 | b::gs,As,hg,hh=>by
  unfold kr at hg;split at hg
  ·rename_i cells hb
   split at hg
   ·rename_i ts as h1 h2
    cases hg;have e2:=rB (h':=h') h2 fun b hb=>hh b (.tail _ hb)
    simp only[kr,hh b (.head _),hb,e2,Ss (h':=h') h1 (by simp[ids])]
   ·cases hg
  ·cases hg
theorem AE:∀(gs:List Nat),(ri gs).filterMap bK.id=gs
 | []=>rfl
 | g::gs=>by simp[ri,bK.id,AE gs]
theorem wS {h h':Hp} {ms:List Mode} {xs:List AV} {as:List Arg} {m:List (Nat×Option aA)} {dV:List bK} (hp:eW h ms xs=some (as,m,dV)) (hh:∀b∈ids m,h' b=h b) (hb:∀b∈dV.filterMap bK.id,h' b=h b):eW h' ms xs=some (as,m,dV):=by
 unfold eW at hp;split at hp
 ·cases hp
 rename_i as0 ks bs h1;split at hp
 ·rename_i hg
  cases hp;unfold eW;simp only[jF (h':=h') h1 hh hb,hg]
 ·rename_i g gs hg
  split at hp
  ·rename_i As h2
   cases hp;have e1:=jF (h':=h') h1 hh fun b hm=>hb b (by rw[List.filterMap_append];exact List.mem_append_left _ hm)
   have e2:=rB (h':=h') h2 fun b hm=>hb b (by rw[List.filterMap_append,AE];exact List.mem_append_right _ hm)
   unfold eW;simp only[e1,hg,e2]
  ·cases hp
theorem rC {h h':Hp}:∀ {dV:List bK} {outs:List (Option aA)},(∀b∈dV.filterMap bK.id,h' b=h b)->dB h' dV outs=dB h dV outs
 | [],[],_=>rfl
 | [],_::_,_=>rfl
 | b::dV,[],_=>by cases b<;>rfl
 | b::dV,o::outs,hb=>by
  have ih:dB h' dV outs=dB h dV outs:=rC fun i hi=>hb i (by
   obtain⟨y,h3,h4⟩:=List.mem_filterMap.1 hi;exact List.mem_filterMap.2 ⟨y,by simp[h3],h4⟩)
  have JV:∀i,b.id=some i->h' i=h i:=fun i hi=>hb i (List.mem_filterMap.2 ⟨b,by simp,hi⟩)
  cases b with
  | none=>simp only[dB,ih]
  | own b=>simp only[dB,ih]
  | fu b off len=>
   have:=JV b rfl;cases o with
   | none=>rfl
   | some ao=>
    cases ao with
    | rows sz r g fz=>cases g<;>cases fz<;>simp only[dB,ih,this]
    | _=>rfl
  | ref b=>
   have:=JV b rfl;cases o with
   | none=>rfl
   | some ao=>cases ao<;>simp only[dB,ih,this]
theorem yy {h h':Hp} {slot:Nat} {marks:List (Nat×Option aA)} {dV:List bK} {res:ko} (hb:∀b∈dV.filterMap bK.id,h' b=h b):gO h' slot marks dV res=gO h slot marks dV res:=by
 unfold gO;simp only[rC hb]
theorem Hq {h:Hp} {slot:Nat} {marks:List (Nat×Option aA)} {dV:List bK} {res:ko} {e:cR} (he:gO h slot marks dV res=some e):(∀b∈ids marks,b∈e.rd)/\∀b∈dV.filterMap bK.id,b∈e.rd:=by
 unfold gO at he;simp only at he;split at he
 ·rename_i hc
  cases he;simp only[Bool.and_eq_true,List.isEmpty_iff]at hc;exact⟨fun b hb=>hb,fun b hb=>by rw[hc.2]at hb;cases hb⟩
 ·split at he
  ·cases he
  ·split at he
   ·cases he
    exact⟨fun b hb=>List.mem_append_left _ hb,fun b hb=>List.mem_append_right _ hb⟩
   ·cases he
def mM (ops : List Oper) (o : Oper) : List Nat :=
  (o.op.operands.toList.filterMap fun|.tmp t=> some t|_=> none) ++
  (match o.guard with
   | some (g, _)=> ((ops[g]?).bind (·.dst)).toList
   | none=> [])
section
variable {P:Program} {C:eA} {ops:List Oper} {slot:Nat} {o:Oper} {st tE:St} {e:cR}
theorem J0 (hT:∀t∈mM ops o,tE.tmps.getD t .af=st.tmps.getD t .af):∀x∈o.op.operands.toList,tE.get x=st.get x:=by
 intro x hx;cases x with
 | tmp t=>exact hT t (List.mem_append_left _ (List.mem_filterMap.2 ⟨_,hx,rfl⟩))
 | _=>rfl
theorem yz (hT:∀t∈mM ops o,tE.tmps.getD t .af=st.tmps.getD t .af):iJ tE.tmps ops o=iJ st.tmps ops o:=by
 unfold iJ;cases hg:o.guard with
 | none=>rfl
 | some p=>
  obtain⟨j,want⟩:=p;simp only;cases hd:(ops[j]?).bind (·.dst) with
  | none=>rfl
  | some d=>
   simp only;rw[hT d (List.mem_append_right _ (by rw[hg];simp[hd]))]
theorem kO {h:Hp}:∀(n:Nat) (l acc:List Nat),∀b∈acc,b∈reach h n l acc
 | 0,l,acc,b,hb=>by unfold reach;exact hb
 | n+1,[],acc,b,hb=>by unfold reach;exact hb
 | n+1,x::l,acc,b,hb=>by
  unfold reach;split
  ·exact kO n l acc b hb
  ·split
   ·exact kO n _ _ b (List.mem_append_left _ hb)
   ·exact kO n _ _ b (List.mem_append_left _ hb)
theorem jV {h h':Hp}:∀(n:Nat) (l acc:List Nat),(∀b∈reach h n l acc,h' b=h b)->reach h' n l acc=reach h n l acc
 | 0,l,acc,_=>by unfold reach;rfl
 | n+1,[],acc,_=>by unfold reach;rfl
 | n+1,x::l,acc,hh=>by
  unfold reach at hh ⊢;split
  ·rename_i hc
   simp only[hc]at hh;exact jV n l acc hh
  ·rename_i hc
   simp only[hc]at hh;have hx:h' x=h x:=by
    apply hh;split
    ·exact kO n _ _ x (by simp)
    ·exact kO n _ _ x (by simp)
   rw[hx];split
   ·rename_i cells hb
    simp only[hb]at hh;exact jV n _ _ hh
   ·rename_i hb
    refine jV n _ _ fun b Mm=>hh b ?_
    split
    ·rename_i cells bQ;exact absurd bQ (hb cells)
    ·exact Mm
theorem CY {h h':Hp} {bL:List AV} {ids:List Nat} {s:St} (hv:qf h bL=some (ids,s)) (hh:∀b∈ids,h' b=h b):qf h' bL=some (ids,s):=by
 simp only[qf]at hv ⊢;split at hv
 ·rename_i hc
  cases hv;have e1:reach h' 200 (bL.flatMap AV.refs) []=reach h 200 (bL.flatMap AV.refs) []:=jV _ _ _ hh;rw[e1];have e2:tC h' (reach h 200 (bL.flatMap AV.refs) []) bL=tC h (reach h 200 (bL.flatMap AV.refs) []) bL:=by
   unfold tC;congr 2;rw[Bool.eq_iff_iff,List.all_eq_true,List.all_eq_true];constructor
   ·intro hx b hb;have:=hx b hb;rw[hh b hb]at this;exact this
   ·intro hx b hb;have:=hx b hb;rw[hh b hb];exact this
  have e3:eX h' (reach h 200 (bL.flatMap AV.refs) []) bL=eX h (reach h 200 (bL.flatMap AV.refs) []) bL:=by
   unfold eX;congr 1;exact List.map_congr_left fun b hb=>by rw[hh b hb]
  rw[e2,e3,if_pos hc]
 ·cases hv
theorem Mu {ids:List Nat} {slot mP:Nat} {s':St} {e:cR} (h:wE ids slot mP s'=some e):e.rd=ids:=by
 unfold wE at h;split at h
 ·cases h;rfl
 ·cases h
theorem Mv {k:cR->Prop} (h:fF P C ops slot o st k):∃e,fF P C ops slot o st (·=e)/\k e:=by
 unfold fF at h;split at h
 ·exact h.elim
 ·rename_i hw
  exact⟨ru,by unfold fF;simp only[hw],h⟩
 ·rename_i hw
  split at h
  ·rename_i f args argTypes eQ
   split at h
   ·exact h.elim
   ·rename_i sX bL hc
    split at h
    ·rename_i n0 Ye Ol
     split at h
     ·exact h.elim
     ·rename_i ids s hp
      obtain⟨s',h1,h2⟩:=h;split at h2
      ·rename_i e he
       exact⟨e,by unfold fF;simp only[hw,eQ,hc,Ol,hp];rw[eQ]at he;exact⟨s',h1,by simp only[he]⟩,h2⟩
      ·exact h2.elim
    ·rename_i Mq
     split at h
     ·exact h.elim
     ·rename_i as marks dV hp
      obtain⟨res,h1,h2⟩:=h;split at h2
      ·rename_i e he
       refine⟨e,?_,h2⟩;unfold fF;simp only[hw,eQ,hc,hp];exact⟨res,h1,by simp only[he]⟩
      ·exact h2.elim
  ·rename_i Um
   split at h
   ·rename_i e he
    refine⟨e,?_,h⟩;unfold fF;simp only[hw]
    try simp only[he]
   ·exact h.elim
theorem ER (hT:∀t∈mM ops o,tE.tmps.getD t .af=st.tmps.getD t .af) (hH:∀b∈e.rd,look tE.heap b=look st.heap b) (h:fF P C ops slot o st (·=e)):fF P C ops slot o tE (·=e):=by
 have gn:=J0 hT;unfold fF at h ⊢;rw[yz hT];split at h
 ·exact h.elim
 ·exact h
 ·rename_i hw
  split at h
  ·rename_i f args argTypes eQ
   have e1:tE.get f=st.get f:=gn f (by simp[eQ,Op.operands,Call.operands]);have e2:args.toList.map tE.get=args.toList.map st.get:=List.map_congr_left fun x hx=>gn x (by simp[eQ,Op.operands,Call.operands];exact .inr (by simpa using hx))
   rw[e1,e2];split at h
   ·exact h.elim
   ·rename_i sX bL hc
    split at h
    ·rename_i n0 Ye Ol
     split at h
     ·exact h.elim
     ·rename_i ids s hp
      obtain⟨s',h1,h2⟩:=h;split at h2
      ·rename_i e' he
       subst h2;have r1:=Mu he;rw[r1]at hH;simp only[Ol];rw[CY hp hH];exact⟨s',h1,by simp only[he]⟩
      ·exact h2.elim
    ·rename_i Mq
     split at h
     ·exact h.elim
     ·rename_i as marks dV hp
      obtain⟨res,h1,h2⟩:=h;split at h2
      ·rename_i e' he
       subst h2;obtain⟨r1,r2⟩:=Hq he;simp only;rw[wS (h':=look tE.heap) hp (fun b hb=>hH b (r1 b hb)) fun b hb=>hH b (r2 b hb)];refine⟨res,h1,?_⟩;rw[yy fun b hb=>hH b (r2 b hb),he]
      ·exact h2.elim
  ·rename_i Um
   split at h
   ·rename_i e' he
    subst h;have QY:evalOp C slot tE.get (look tE.heap) o.op=some e':=by
     rw[Ho gn];exact CX he hH
    try simp only[QY]
   ·exact h.elim
end
end Go.Abs
end
