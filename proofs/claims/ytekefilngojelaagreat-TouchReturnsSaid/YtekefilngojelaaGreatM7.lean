/- A part of the proof. -/
import Derived.Test.YtekefilngojelaaGreatM6
set_option maxHeartbeats 0
set_option maxRecDepth 100000
set_option linter.unusedVariables false
set_option linter.unusedSimpArgs false
set_option linter.unusedSectionVars false
section
namespace Go.Abs
theorem Hz {C:eh} {slot:Nat} {σ σ':Operand->AV} {h:Hp} {op:Op} (hs:∀x∈op.operands.toList,σ' x=σ x):evalOp C slot σ' h op=evalOp C slot σ h op:=by
 cases op with
 | build t ps=>
  have:(ps.toList.map fun p=>(p.1,σ' p.2))=ps.toList.map fun p=>(p.1,σ p.2):=List.map_congr_left fun p hp=>by
   rw[hs p.2];simp only[Op.operands,List.mem_map];exact⟨p,hp,rfl⟩
  simp only[evalOp,this]
 | buildSlice t n ps=>
  have:(ps.toList.map fun p=>(p.1,σ' p.2))=ps.toList.map fun p=>(p.1,σ p.2):=List.map_congr_left fun p hp=>by
   rw[hs p.2];simp only[Op.operands,List.mem_map];exact⟨p,hp,rfl⟩
  simp only[evalOp,this]
 | slice t x lo hi mx=>
  have h0:σ' x=σ x:=hs x (by simp[Op.operands]);have h1:lo.map σ'=lo.map σ:=by cases lo with|none=>rfl|some y=>simp[hs y (by simp[Op.operands])]
  have h2:hi.map σ'=hi.map σ:=by cases hi with|none=>rfl|some y=>simp[hs y (by simp[Op.operands])]
  have h3:mx.map σ'=mx.map σ:=by cases mx with|none=>rfl|some y=>simp[hs y (by simp[Op.operands])]
  simp only[evalOp,h0,h1,h2,h3]
 | makeFunc fn first aK=>
  cases fn with
  | func f=>
   have gen:∀l:List Operand,(∀x∈l,σ' x=σ x)->l.mapM (fun x=>oV (σ' x))=l.mapM (fun x=>oV (σ x)):=by
    intro l
    induction l with
    | nil=>intro _;rfl
    | cons x l ih=>intro hl;rw[List.mapM_cons,List.mapM_cons,hl x (by simp),ih fun y hy=>hl y (by simp[hy])]
   have t1:aK.toList.mapM (fun x=>oV (σ' x))=aK.toList.mapM (fun x=>oV (σ x)):=
    gen _ fun x hx=>hs x (by simp[Op.operands];exact .inr (by simpa using hx))
   have t2:first.toList.mapM (fun x=>oV (σ' x))=first.toList.mapM (fun x=>oV (σ x)):=
    gen _ fun x hx=>hs x (by simp[Op.operands];exact .inl (by simpa using hx))
   simp only[evalOp,t1,t2]
  | _=>rfl
 | call c=>
  obtain⟨callee,args,argTypes⟩:=c;cases callee with
  | builtin b=>
   have dG:∀x∈args.toList,σ' x=σ x:=fun x hx=>hs x (by simp[Op.operands,Call.operands];simpa using hx)
   simp only[evalOp];generalize args.toList=l at dG;split
   ·rw[dG _ (by simp)]
   ·rw[dG _ (by simp),dG _ (by simp)]
   ·rw[dG _ (by simp),dG _ (by simp)]
   ·rw[dG _ (by simp),dG _ (by simp)]
   ·rw[dG _ (by simp),dG _ (by simp)]
   ·rfl
  | _=>rfl
 | pick c x y=>simp only[evalOp];rw[hs c (by simp[Op.operands]),hs x (by simp[Op.operands]),hs y (by simp[Op.operands])]
 | move x=>simp only[evalOp];rw[hs x (by simp[Op.operands])]
 | nilCheck x=>simp only[evalOp];rw[hs x (by simp[Op.operands])]
 | assign x=>simp only[evalOp];rw[hs x (by simp[Op.operands])]
 | box t x=>simp only[evalOp];rw[hs x (by simp[Op.operands])]
 | load t x=>simp only[evalOp];rw[hs x (by simp[Op.operands])]
 | store t x y=>simp only[evalOp];rw[hs x (by simp[Op.operands]),hs y (by simp[Op.operands])]
 | binOp o t x y t'=>simp only[evalOp];rw[hs x (by simp[Op.operands]),hs y (by simp[Op.operands])]
 | unOp o t x=>simp only[evalOp];rw[hs x (by simp[Op.operands])]
 | convert s d x=>simp only[evalOp];rw[hs x (by simp[Op.operands])]
 | makeSlice t x y=>simp only[evalOp];rw[hs x (by simp[Op.operands]),hs y (by simp[Op.operands])]
 | fieldAddr t x f=>simp only[evalOp];rw[hs x (by simp[Op.operands])]
 | field t x f=>simp only[evalOp];rw[hs x (by simp[Op.operands])]
 | indexAddr t x y=>simp only[evalOp];rw[hs x (by simp[Op.operands]),hs y (by simp[Op.operands])]
 | index t x y=>simp only[evalOp];rw[hs x (by simp[Op.operands]),hs y (by simp[Op.operands])]
 | extract x i=>simp only[evalOp];rw[hs x (by simp[Op.operands])]
 | lookup t x y ok=>simp only[evalOp];rw[hs x (by simp[Op.operands]),hs y (by simp[Op.operands])]
 | mapUpdate t x y v=>simp only[evalOp];rw[hs x (by simp[Op.operands]),hs y (by simp[Op.operands]),hs v (by simp[Op.operands])]
 | _=>rfl
theorem wU {h h':Hp} {x:AV} {tv:TV} {m:List (Nat×Option aC)} (ht:wC h x=some (tv,m)) (hh:∀b∈ids m,h' b=h b):wC h' x=some (tv,m):=by
 unfold wC at ht ⊢;split at ht
 ·obtain⟨p,h1,h2⟩:=Option.map_eq_some_iff.1 ht
  cases h2;simp only[rn h1 hh,Option.map_some]
 ·obtain⟨p,h1,h2⟩:=Option.map_eq_some_iff.1 ht
  cases h2;simp only[SY h1 hh,Option.map_some]
 ·cases ht
theorem uG {h:Hp} {x:AV} (cY:∀f aK,x=.c (.dy f aK)->False):ez h .val x=(wC h x).map fun p=>(.val p.1,p.2,.none):=by
 cases x with
 | c y=>cases y with
  | dy f aK=>exact(cY f aK rfl).elim
  | _=>rfl
 | _=>rfl
theorem wV {h:Hp} {x:AV} (cY:∀b off len,x=.c (.sl b off len false)->False):ez h .rd x=(wC h x).map fun p=>(.val p.1,p.2,.none):=by
 cases x with
 | c y=>cases y with
  | sl b off len cp=>cases cp with
   | false=>exact(cY b off len rfl).elim
   | true=>rfl
  | _=>rfl
 | _=>rfl
theorem yz {h h':Hp} {md:Mode} {x:AV} {a:Arg} {m:List (Nat×Option aC)} {bk:bH} (hp:ez h md x=some (a,m,bk)) (hh:∀b∈ids m,h' b=h b) (hb:∀b,bk.id=some b->h' b=h b):ez h' md x=some (a,m,bk):=by
 unfold ez at hp;split at hp
 ·exact hp
 ·rename_i cY
  obtain⟨p,h1,h2⟩:=Option.map_eq_some_iff.1 hp;cases h2;rw[uG cY,wU h1 hh];rfl
 ·rename_i b off len
  split at hp
  ·rename_i sz rows g gT
   split at hp
   ·rename_i hc
    cases hp;simp only[ez,hb b rfl,gT];rw[if_pos hc]
   ·cases hp
  ·cases hp
 ·rename_i sz b len
  split at hp
  ·rename_i kX rows gT
   split at hp
   ·rename_i hc
    cases hp;simp only[ez,hb b rfl,gT];rw[if_pos hc]
   ·cases hp
  ·cases hp
 ·exact hp
 ·rename_i b off len
  split at hp
  ·rename_i sz rows g gT
   split at hp
   ·rename_i hc
    cases hp;simp only[ez,hb b rfl,gT];rw[if_pos hc]
   ·cases hp
  ·cases hp
 ·rename_i cY
  obtain⟨p,h1,h2⟩:=Option.map_eq_some_iff.1 hp;cases h2;rw[wV cY,wU h1 hh];rfl
 ·rename_i b
  split at hp
  ·rename_i cells gT
   split at hp
   ·rename_i ts uv
    cases hp;simp only[ez,hb b rfl,gT,SY (h':=h') uv (by simp[ids])]
   ·cases hp
  ·cases hp
 ·cases hp
theorem jx {h h':Hp}:∀ {ms:List Mode} {xs:List AV} {as:List Arg} {m:List (Nat×Option aC)} {dQ:List bH},ch h ms xs=some (as,m,dQ)->(∀b∈ids m,h' b=h b)->(∀b∈dQ.filterMap bH.id,h' b=h b)->ch h' ms xs=some (as,m,dQ)
 | [],[],as,m,dQ,hp,_,_=>hp
 | [],_::_,_,_,_,hp,_,_=>by simp[ch]at hp
 | _::_,[],_,_,_,hp,_,_=>by simp[ch]at hp
 | md::ms,x::xs,as,m,dQ,hp,hh,hb=>by
  unfold ch at hp;split at hp
  ·rename_i a k b as' ks bs h1 h2
   cases hp;rw[pV]at hh;have e1:=yz (h':=h') h1 (fun b hb=>hh b (List.mem_append_left _ hb)) fun i hi=>hb i (List.mem_filterMap.2 ⟨b,by simp,hi⟩)
   have e2:=jx (h':=h') h2 (fun b hb=>hh b (List.mem_append_right _ hb)) fun i hi=>hb i (by
    obtain⟨y,h3,h4⟩:=List.mem_filterMap.1 hi;exact List.mem_filterMap.2 ⟨y,by simp[h3],h4⟩)
   simp only[ch,e1,e2]
  ·cases hp
theorem rp {h h':Hp}:∀ {gs:List Nat} {Aw:List Arg},kf h gs=some Aw->(∀b∈gs,h' b=h b)->kf h' gs=some Aw
 | [],Aw,hg,_=>hg
 | b::gs,Aw,hg,hh=>by
  unfold kf at hg;split at hg
  ·rename_i cells hb
   split at hg
   ·rename_i ts as h1 h2
    cases hg;have e2:=rp (h':=h') h2 fun b hb=>hh b (.tail _ hb)
    simp only[kf,hh b (.head _),hb,e2,SY (h':=h') h1 (by simp[ids])]
   ·cases hg
  ·cases hg
theorem AG:∀(gs:List Nat),(qZ gs).filterMap bH.id=gs
 | []=>rfl
 | g::gs=>by simp[qZ,bH.id,AG gs]
theorem wW {h h':Hp} {ms:List Mode} {xs:List AV} {as:List Arg} {m:List (Nat×Option aC)} {dQ:List bH} (hp:eQ h ms xs=some (as,m,dQ)) (hh:∀b∈ids m,h' b=h b) (hb:∀b∈dQ.filterMap bH.id,h' b=h b):eQ h' ms xs=some (as,m,dQ):=by
 unfold eQ at hp;split at hp
 ·cases hp
 rename_i as0 ks bs h1;split at hp
 ·rename_i hg
  cases hp;unfold eQ;simp only[jx (h':=h') h1 hh hb,hg]
 ·rename_i g gs hg
  split at hp
  ·rename_i Aw h2
   cases hp;have e1:=jx (h':=h') h1 hh fun b hm=>hb b (by rw[List.filterMap_append];exact List.mem_append_left _ hm)
   have e2:=rp (h':=h') h2 fun b hm=>hb b (by rw[List.filterMap_append,AG];exact List.mem_append_right _ hm)
   unfold eQ;simp only[e1,hg,e2]
  ·cases hp
theorem rq {h h':Hp}:∀ {dQ:List bH} {outs:List (Option aC)},(∀b∈dQ.filterMap bH.id,h' b=h b)->dz h' dQ outs=dz h dQ outs
 | [],[],_=>rfl
 | [],_::_,_=>rfl
 | b::dQ,[],_=>by cases b<;>rfl
 | b::dQ,o::outs,hb=>by
  have ih:dz h' dQ outs=dz h dQ outs:=rq fun i hi=>hb i (by
   obtain⟨y,h3,h4⟩:=List.mem_filterMap.1 hi;exact List.mem_filterMap.2 ⟨y,by simp[h3],h4⟩)
  have Ki:∀i,b.id=some i->h' i=h i:=fun i hi=>hb i (List.mem_filterMap.2 ⟨b,by simp,hi⟩)
  cases b with
  | none=>simp only[dz,ih]
  | own b=>simp only[dz,ih]
  | fj b off len=>
   have:=Ki b rfl;cases o with
   | none=>rfl
   | some au=>
    cases au with
    | rows sz r g fz=>cases g<;>cases fz<;>simp only[dz,ih,this]
    | _=>rfl
  | ref b=>
   have:=Ki b rfl;cases o with
   | none=>rfl
   | some au=>cases au<;>simp only[dz,ih,this]
theorem yA {h h':Hp} {slot:Nat} {marks:List (Nat×Option aC)} {dQ:List bH} {res:mB} (hb:∀b∈dQ.filterMap bH.id,h' b=h b):gG h' slot marks dQ res=gG h slot marks dQ res:=by
 unfold gG;simp only[rq hb]
theorem HA {h:Hp} {slot:Nat} {marks:List (Nat×Option aC)} {dQ:List bH} {res:mB} {e:bW} (he:gG h slot marks dQ res=some e):(∀b∈ids marks,b∈e.rd)/\∀b∈dQ.filterMap bH.id,b∈e.rd:=by
 unfold gG at he;simp only at he;split at he
 ·rename_i hc
  cases he;simp only[Bool.and_eq_true,List.isEmpty_iff]at hc;exact⟨fun b hb=>hb,fun b hb=>by rw[hc.2]at hb;cases hb⟩
 ·split at he
  ·cases he
  ·split at he
   ·cases he
    exact⟨fun b hb=>List.mem_append_left _ hb,fun b hb=>List.mem_append_right _ hb⟩
   ·cases he
def mC (ops : List Oper) (o : Oper) : List Nat :=
  (o.op.operands.toList.filterMap fun|.tmp t=> some t|_=> none) ++
  (match o.guard with
   | some (g, _)=> ((ops[g]?).bind (·.dst)).toList
   | none=> [])
section
variable {P:Program} {C:eh} {ops:List Oper} {slot:Nat} {o:Oper} {st tu:St} {e:bW}
theorem Ko (hT:∀t∈mC ops o,tu.tmps.getD t .af=st.tmps.getD t .af):∀x∈o.op.operands.toList,tu.get x=st.get x:=by
 intro x hx;cases x with
 | tmp t=>exact hT t (List.mem_append_left _ (List.mem_filterMap.2 ⟨_,hx,rfl⟩))
 | _=>rfl
theorem yC (hT:∀t∈mC ops o,tu.tmps.getD t .af=st.tmps.getD t .af):ir tu.tmps ops o=ir st.tmps ops o:=by
 unfold ir;cases hg:o.guard with
 | none=>rfl
 | some p=>
  obtain⟨j,want⟩:=p;simp only;cases hd:(ops[j]?).bind (·.dst) with
  | none=>rfl
  | some d=>
   simp only;rw[hT d (List.mem_append_right _ (by rw[hg];simp[hd]))]
theorem kG {h:Hp}:∀(n:Nat) (l acc:List Nat),∀b∈acc,b∈reach h n l acc
 | 0,l,acc,b,hb=>by unfold reach;exact hb
 | n+1,[],acc,b,hb=>by unfold reach;exact hb
 | n+1,x::l,acc,b,hb=>by
  unfold reach;split
  ·exact kG n l acc b hb
  ·split
   ·exact kG n _ _ b (List.mem_append_left _ hb)
   ·exact kG n _ _ b (List.mem_append_left _ hb)
theorem jP {h h':Hp}:∀(n:Nat) (l acc:List Nat),(∀b∈reach h n l acc,h' b=h b)->reach h' n l acc=reach h n l acc
 | 0,l,acc,_=>by unfold reach;rfl
 | n+1,[],acc,_=>by unfold reach;rfl
 | n+1,x::l,acc,hh=>by
  unfold reach at hh ⊢;split
  ·rename_i hc
   simp only[hc]at hh;exact jP n l acc hh
  ·rename_i hc
   simp only[hc]at hh;have hx:h' x=h x:=by
    apply hh;split
    ·exact kG n _ _ x (by simp)
    ·exact kG n _ _ x (by simp)
   rw[hx];split
   ·rename_i cells hb
    simp only[hb]at hh;exact jP n _ _ hh
   ·rename_i hb
    refine jP n _ _ fun b MD=>hh b ?_
    split
    ·rename_i cells bK;exact absurd bK (hb cells)
    ·exact MD
theorem CZ {h h':Hp} {bI:List AV} {ids:List Nat} {s:St} (hv:pS h bI=some (ids,s)) (hh:∀b∈ids,h' b=h b):pS h' bI=some (ids,s):=by
 simp only[pS]at hv ⊢;split at hv
 ·rename_i hc
  cases hv;have e1:reach h' 200 (bI.flatMap AV.refs) []=reach h 200 (bI.flatMap AV.refs) []:=jP _ _ _ hh;rw[e1];have e2:tn h' (reach h 200 (bI.flatMap AV.refs) []) bI=tn h (reach h 200 (bI.flatMap AV.refs) []) bI:=by
   unfold tn;congr 2;rw[Bool.eq_iff_iff,List.all_eq_true,List.all_eq_true];constructor
   ·intro hx b hb;have:=hx b hb;rw[hh b hb]at this;exact this
   ·intro hx b hb;have:=hx b hb;rw[hh b hb];exact this
  have e3:eR h' (reach h 200 (bI.flatMap AV.refs) []) bI=eR h (reach h 200 (bI.flatMap AV.refs) []) bI:=by
   unfold eR;congr 1;exact List.map_congr_left fun b hb=>by rw[hh b hb]
  rw[e2,e3,if_pos hc]
 ·cases hv
theorem ML {ids:List Nat} {slot mF:Nat} {s':St} {e:bW} (h:wH ids slot mF s'=some e):e.rd=ids:=by
 unfold wH at h;split at h
 ·cases h;rfl
 ·cases h
theorem MM {k:bW->Prop} (h:fw P C ops slot o st k):∃e,fw P C ops slot o st (·=e)/\k e:=by
 unfold fw at h;split at h
 ·exact h.elim
 ·rename_i hw
  exact⟨ri,by unfold fw;simp only[hw],h⟩
 ·rename_i hw
  split at h
  ·rename_i f args argTypes eJ
   split at h
   ·exact h.elim
   ·rename_i sS bI hc
    split at h
    ·rename_i n0 YO OJ
     split at h
     ·exact h.elim
     ·rename_i ids s hp
      obtain⟨s',h1,h2⟩:=h;split at h2
      ·rename_i e he
       exact⟨e,by unfold fw;simp only[hw,eJ,hc,OJ,hp];rw[eJ]at he;exact⟨s',h1,by simp only[he]⟩,h2⟩
      ·exact h2.elim
    ·rename_i MH
     split at h
     ·exact h.elim
     ·rename_i as marks dQ hp
      obtain⟨res,h1,h2⟩:=h;split at h2
      ·rename_i e he
       refine⟨e,?_,h2⟩;unfold fw;simp only[hw,eJ,hc,hp];exact⟨res,h1,by simp only[he]⟩
      ·exact h2.elim
  ·rename_i UH
   split at h
   ·rename_i e he
    refine⟨e,?_,h⟩;unfold fw;simp only[hw]
    try simp only[he]
   ·exact h.elim
theorem E0 (hT:∀t∈mC ops o,tu.tmps.getD t .af=st.tmps.getD t .af) (hH:∀b∈e.rd,look tu.heap b=look st.heap b) (h:fw P C ops slot o st (·=e)):fw P C ops slot o tu (·=e):=by
 have fX:=Ko hT;unfold fw at h ⊢;rw[yC hT];split at h
 ·exact h.elim
 ·exact h
 ·rename_i hw
  split at h
  ·rename_i f args argTypes eJ
   have e1:tu.get f=st.get f:=fX f (by simp[eJ,Op.operands,Call.operands]);have e2:args.toList.map tu.get=args.toList.map st.get:=List.map_congr_left fun x hx=>fX x (by simp[eJ,Op.operands,Call.operands];exact .inr (by simpa using hx))
   rw[e1,e2];split at h
   ·exact h.elim
   ·rename_i sS bI hc
    split at h
    ·rename_i n0 YO OJ
     split at h
     ·exact h.elim
     ·rename_i ids s hp
      obtain⟨s',h1,h2⟩:=h;split at h2
      ·rename_i e' he
       subst h2;have r1:=ML he;rw[r1]at hH;simp only[OJ];rw[CZ hp hH];exact⟨s',h1,by simp only[he]⟩
      ·exact h2.elim
    ·rename_i MH
     split at h
     ·exact h.elim
     ·rename_i as marks dQ hp
      obtain⟨res,h1,h2⟩:=h;split at h2
      ·rename_i e' he
       subst h2;obtain⟨r1,r2⟩:=HA he;simp only;rw[wW (h':=look tu.heap) hp (fun b hb=>hH b (r1 b hb)) fun b hb=>hH b (r2 b hb)];refine⟨res,h1,?_⟩;rw[yA fun b hb=>hH b (r2 b hb),he]
      ·exact h2.elim
  ·rename_i UH
   split at h
   ·rename_i e' he
    subst h;have Rn:evalOp C slot tu.get (look tu.heap) o.op=some e':=by
     rw[Hz fX];exact CY he hH
    try simp only[Rn]
   ·exact h.elim
end
end Go.Abs
end
