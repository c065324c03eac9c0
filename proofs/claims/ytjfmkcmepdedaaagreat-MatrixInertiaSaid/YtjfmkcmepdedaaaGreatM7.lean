/-
  A part of the proof: GabsLocal2.
-/
import Derived.Test.YtjfmkcmepdedaaaGreatM6
set_option maxHeartbeats 0
set_option maxRecDepth 100000
set_option linter.unusedVariables false
set_option linter.unusedSimpArgs false
set_option linter.unusedSectionVars false
section
namespace Go.Abs
theorem evalOp_sig {C:Cfg} {slot:Nat} {σ σ':Operand->AV} {h:Hp} {op:Op} (hs:∀ x ∈ op.operands.toList,σ' x=σ x):evalOp C slot σ' h op=evalOp C slot σ h op:=by
 cases op with
 | build t ps=>
  have:(ps.toList.map fun p=>(p.1,σ' p.2))=ps.toList.map fun p=>(p.1,σ p.2):=List.map_congr_left fun p hp=>by
   rw [hs p.2]
   simp only [Op.operands,List.mem_map]
   exact ⟨p,hp,rfl⟩
  simp only [evalOp,this]
 | buildSlice t n ps=>
  have:(ps.toList.map fun p=>(p.1,σ' p.2))=ps.toList.map fun p=>(p.1,σ p.2):=List.map_congr_left fun p hp=>by
   rw [hs p.2]
   simp only [Op.operands,List.mem_map]
   exact ⟨p,hp,rfl⟩
  simp only [evalOp,this]
 | slice t x lo hi mx=>
  have h0:σ' x=σ x:=hs x (by simp [Op.operands])
  have h1:lo.map σ'=lo.map σ:=by cases lo with | none=>rfl | some y=>simp [hs y (by simp [Op.operands])]
  have h2:hi.map σ'=hi.map σ:=by cases hi with | none=>rfl | some y=>simp [hs y (by simp [Op.operands])]
  have h3:mx.map σ'=mx.map σ:=by cases mx with | none=>rfl | some y=>simp [hs y (by simp [Op.operands])]
  simp only [evalOp,h0,h1,h2,h3]
 | makeFunc fn first caps=>
  cases fn with
  | func f=>
   have gen:∀ l:List Operand,(∀ x ∈ l,σ' x=σ x)->l.mapM (fun x=>ptrOf (σ' x))=l.mapM (fun x=>ptrOf (σ x)):=by
    intro l
    induction l with
    | nil=>intro _; rfl
    | cons x l ih=>intro hl; rw [List.mapM_cons,List.mapM_cons,hl x (by simp),ih fun y hy=>hl y (by simp [hy])]
   have t1:caps.toList.mapM (fun x=>ptrOf (σ' x))=caps.toList.mapM (fun x=>ptrOf (σ x)):=
    gen _ fun x hx=>hs x (by simp [Op.operands]; exact .inr (by simpa using hx))
   have t2:first.toList.mapM (fun x=>ptrOf (σ' x))=first.toList.mapM (fun x=>ptrOf (σ x)):=
    gen _ fun x hx=>hs x (by simp [Op.operands]; exact .inl (by simpa using hx))
   simp only [evalOp,t1,t2]
  | _=>rfl
 | call c=>
  obtain ⟨callee,args,argTypes⟩:=c
  cases callee with
  | builtin b=>
   have hargs:∀ x ∈ args.toList,σ' x=σ x:=fun x hx=>hs x (by simp [Op.operands,Call.operands]; simpa using hx)
   simp only [evalOp]
   generalize args.toList=l at hargs
   split
   ·rw [hargs _ (by simp)]
   ·rw [hargs _ (by simp),hargs _ (by simp)]
   ·rw [hargs _ (by simp),hargs _ (by simp)]
   ·rw [hargs _ (by simp),hargs _ (by simp)]
   ·rw [hargs _ (by simp),hargs _ (by simp)]
   ·rfl
  | _=>rfl
 | pick c x y=>simp only [evalOp]; rw [hs c (by simp [Op.operands]),hs x (by simp [Op.operands]),hs y (by simp [Op.operands])]
 | move x=>simp only [evalOp]; rw [hs x (by simp [Op.operands])]
 | nilCheck x=>simp only [evalOp]; rw [hs x (by simp [Op.operands])]
 | assign x=>simp only [evalOp]; rw [hs x (by simp [Op.operands])]
 | box t x=>simp only [evalOp]; rw [hs x (by simp [Op.operands])]
 | load t x=>simp only [evalOp]; rw [hs x (by simp [Op.operands])]
 | store t x y=>simp only [evalOp]; rw [hs x (by simp [Op.operands]),hs y (by simp [Op.operands])]
 | binOp o t x y t'=>simp only [evalOp]; rw [hs x (by simp [Op.operands]),hs y (by simp [Op.operands])]
 | unOp o t x=>simp only [evalOp]; rw [hs x (by simp [Op.operands])]
 | convert s d x=>simp only [evalOp]; rw [hs x (by simp [Op.operands])]
 | makeSlice t x y=>simp only [evalOp]; rw [hs x (by simp [Op.operands]),hs y (by simp [Op.operands])]
 | fieldAddr t x f=>simp only [evalOp]; rw [hs x (by simp [Op.operands])]
 | field t x f=>simp only [evalOp]; rw [hs x (by simp [Op.operands])]
 | indexAddr t x y=>simp only [evalOp]; rw [hs x (by simp [Op.operands]),hs y (by simp [Op.operands])]
 | index t x y=>simp only [evalOp]; rw [hs x (by simp [Op.operands]),hs y (by simp [Op.operands])]
 | extract x i=>simp only [evalOp]; rw [hs x (by simp [Op.operands])]
 | lookup t x y ok=>simp only [evalOp]; rw [hs x (by simp [Op.operands]),hs y (by simp [Op.operands])]
 | mapUpdate t x y v=>simp only [evalOp]; rw [hs x (by simp [Op.operands]),hs y (by simp [Op.operands]),hs v (by simp [Op.operands])]
 | _=>rfl
theorem toTV_local {h h':Hp} {x:AV} {tv:TV} {m:List (Nat × Option Blk)} (ht:toTV h x=some (tv,m)) (hh:∀ b ∈ ids m,h' b=h b):toTV h' x=some (tv,m):=by
 unfold toTV at ht ⊢
 split at ht
 ·obtain ⟨p,h1,h2⟩:=Option.map_eq_some_iff.1 ht
  cases h2
  simp only [toTree_local h1 hh,Option.map_some]
 ·obtain ⟨p,h1,h2⟩:=Option.map_eq_some_iff.1 ht
  cases h2
  simp only [qa9 h1 hh,Option.map_some]
 ·cases ht
theorem prepArg_val {h:Hp} {x:AV} (hne:∀ f caps,x=.c (.clo f caps)->False):prepArg h .val x=(toTV h x).map fun p=>(.val p.1,p.2,.none):=by
 cases x with
 | c y=>cases y with
  | clo f caps=>exact (hne f caps rfl).elim
  | _=>rfl
 | _=>rfl
theorem prepArg_rd {h:Hp} {x:AV} (hne:∀ b off len,x=.c (.sl b off len false)->False):prepArg h .rd x=(toTV h x).map fun p=>(.val p.1,p.2,.none):=by
 cases x with
 | c y=>cases y with
  | sl b off len cp=>cases cp with
   | false=>exact (hne b off len rfl).elim
   | true=>rfl
  | _=>rfl
 | _=>rfl
theorem prepArg_local {h h':Hp} {md:Mode} {x:AV} {a:Arg} {m:List (Nat × Option Blk)} {bk:Back} (hp:prepArg h md x=some (a,m,bk)) (hh:∀ b ∈ ids m,h' b=h b) (hb:∀ b,bk.id=some b->h' b=h b):prepArg h' md x=some (a,m,bk):=by
 unfold prepArg at hp
 split at hp
 ·exact hp
 ·rename_i hne
  obtain ⟨p,h1,h2⟩:=Option.map_eq_some_iff.1 hp
  cases h2
  rw [prepArg_val hne,toTV_local h1 hh]; rfl
 ·rename_i b off len
  split at hp
  ·rename_i sz rows g hbk
   split at hp
   ·rename_i hc
    cases hp
    simp only [prepArg,hb b rfl,hbk]
    rw [if_pos hc]
   ·cases hp
  ·cases hp
 ·rename_i sz b len
  split at hp
  ·rename_i sz' rows hbk
   split at hp
   ·rename_i hc
    cases hp
    simp only [prepArg,hb b rfl,hbk]
    rw [if_pos hc]
   ·cases hp
  ·cases hp
 ·exact hp
 ·rename_i b off len
  split at hp
  ·rename_i sz rows g hbk
   split at hp
   ·rename_i hc
    cases hp
    simp only [prepArg,hb b rfl,hbk]
    rw [if_pos hc]
   ·cases hp
  ·cases hp
 ·rename_i hne
  obtain ⟨p,h1,h2⟩:=Option.map_eq_some_iff.1 hp
  cases h2
  rw [prepArg_rd hne,toTV_local h1 hh]; rfl
 ·rename_i b
  split at hp
  ·rename_i cells hbk
   split at hp
   ·rename_i ts hts
    cases hp
    simp only [prepArg,hb b rfl,hbk,qa9 (h':=h') hts (by simp [ids])]
   ·cases hp
  ·cases hp
 ·cases hp
theorem prepArgs_local {h h':Hp}:∀ {ms:List Mode} {xs:List AV} {as:List Arg} {m:List (Nat × Option Blk)} {bks:List Back},prepArgs h ms xs=some (as,m,bks)->(∀ b ∈ ids m,h' b=h b)->(∀ b ∈ bks.filterMap Back.id,h' b=h b)->prepArgs h' ms xs=some (as,m,bks)
 | [],[],as,m,bks,hp,_,_=>hp
 | [],_ :: _,_,_,_,hp,_,_=>by simp [prepArgs] at hp
 | _ :: _,[],_,_,_,hp,_,_=>by simp [prepArgs] at hp
 | md :: ms,x :: xs,as,m,bks,hp,hh,hb=>by
  unfold prepArgs at hp
  split at hp
  ·rename_i a k b as' ks bs h1 h2
   cases hp
   rw [ids_append] at hh
   have e1:=prepArg_local (h':=h') h1 (fun b hb=>hh b (List.mem_append_left _ hb)) fun i hi=>hb i (List.mem_filterMap.2 ⟨b,by simp,hi⟩)
   have e2:=prepArgs_local (h':=h') h2 (fun b hb=>hh b (List.mem_append_right _ hb)) fun i hi=>hb i (by
    obtain ⟨y,h3,h4⟩:=List.mem_filterMap.1 hi
    exact List.mem_filterMap.2 ⟨y,by simp [h3],h4⟩)
   simp only [prepArgs,e1,e2]
  ·cases hp
theorem ghosts_local {h h':Hp}:∀ {gs:List Nat} {gas:List Arg},ghosts h gs=some gas->(∀ b ∈ gs,h' b=h b)->ghosts h' gs=some gas
 | [],gas,hg,_=>hg
 | b :: gs,gas,hg,hh=>by
  unfold ghosts at hg
  split at hg
  ·rename_i cells hb
   split at hg
   ·rename_i ts as h1 h2
    cases hg
    have e2:=ghosts_local (h':=h') h2 fun b hb=>hh b (.tail _ hb)
    simp only [ghosts,hh b (.head _),hb,e2,qa9 (h':=h') h1 (by simp [ids])]
   ·cases hg
  ·cases hg
theorem refsL_ids:∀ (gs:List Nat),(refsL gs).filterMap Back.id=gs
 | []=>rfl
 | g :: gs=>by simp [refsL,Back.id,refsL_ids gs]
theorem prepCall_local {h h':Hp} {ms:List Mode} {xs:List AV} {as:List Arg} {m:List (Nat × Option Blk)} {bks:List Back} (hp:prepCall h ms xs=some (as,m,bks)) (hh:∀ b ∈ ids m,h' b=h b) (hb:∀ b ∈ bks.filterMap Back.id,h' b=h b):prepCall h' ms xs=some (as,m,bks):=by
 unfold prepCall at hp
 split at hp
 ·cases hp
 rename_i as0 ks bs h1
 split at hp
 ·rename_i hg
  cases hp
  unfold prepCall
  simp only [prepArgs_local (h':=h') h1 hh hb,hg]
 ·rename_i g gs hg
  split at hp
  ·rename_i gas h2
   cases hp
   have e1:=prepArgs_local (h':=h') h1 hh fun b hm=>hb b (by rw [List.filterMap_append]; exact List.mem_append_left _ hm)
   have e2:=ghosts_local (h':=h') h2 fun b hm=>hb b (by rw [List.filterMap_append,refsL_ids]; exact List.mem_append_right _ hm)
   unfold prepCall
   simp only [e1,hg,e2]
  ·cases hp
theorem backWr_local {h h':Hp}:∀ {bks:List Back} {outs:List (Option Blk)},(∀ b ∈ bks.filterMap Back.id,h' b=h b)->backWr h' bks outs=backWr h bks outs
 | [],[],_=>rfl
 | [],_ :: _,_=>rfl
 | b :: bks,[],_=>by cases b <;> rfl
 | b :: bks,o :: outs,hb=>by
  have ih:backWr h' bks outs=backWr h bks outs:=backWr_local fun i hi=>hb i (by
   obtain ⟨y,h3,h4⟩:=List.mem_filterMap.1 hi
   exact List.mem_filterMap.2 ⟨y,by simp [h3],h4⟩)
  have hid:∀ i,b.id=some i->h' i=h i:=fun i hi=>hb i (List.mem_filterMap.2 ⟨b,by simp,hi⟩)
  cases b with
  | none=>simp only [backWr,ih]
  | own b=>simp only [backWr,ih]
  | bor b off len=>
   have:=hid b rfl
   cases o with
   | none=>rfl
   | some blk=>
    cases blk with
    | rows sz r g fz=>cases g <;> cases fz <;> simp only [backWr,ih,this]
    | _=>rfl
  | ref b=>
   have:=hid b rfl
   cases o with
   | none=>rfl
   | some blk=>cases blk <;> simp only [backWr,ih,this]
theorem callEff_local {h h':Hp} {slot:Nat} {marks:List (Nat × Option Blk)} {bks:List Back} {res:Res} (hb:∀ b ∈ bks.filterMap Back.id,h' b=h b):callEff h' slot marks bks res=callEff h slot marks bks res:=by
 unfold callEff
 simp only [backWr_local hb]
theorem callEff_rd {h:Hp} {slot:Nat} {marks:List (Nat × Option Blk)} {bks:List Back} {res:Res} {e:Eff} (he:callEff h slot marks bks res=some e):(∀ b ∈ ids marks,b ∈ e.rd)/\∀ b ∈ bks.filterMap Back.id,b ∈ e.rd:=by
 unfold callEff at he
 simp only at he
 split at he
 ·rename_i hc
  cases he
  simp only [Bool.and_eq_true,List.isEmpty_iff] at hc
  exact ⟨fun b hb=>hb,fun b hb=>by rw [hc.2] at hb; cases hb⟩
 ·split at he
  ·cases he
  ·split at he
   ·cases he
    exact ⟨fun b hb=>List.mem_append_left _ hb,fun b hb=>List.mem_append_right _ hb⟩
   ·cases he
def usesT (ops : List Oper) (o : Oper) : List Nat :=
  (o.op.operands.toList.filterMap fun | .tmp t => some t | _ => none) ++
  (match o.guard with
   | some (g, _) => ((ops[g]?).bind (·.dst)).toList
   | none => [])
section
variable {P:Program} {C:Cfg} {ops:List Oper} {slot:Nat} {o:Oper} {st st':St} {e:Eff}
theorem get_local (hT:∀ t ∈ usesT ops o,st'.tmps.getD t .junk=st.tmps.getD t .junk):∀ x ∈ o.op.operands.toList,st'.get x=st.get x:=by
 intro x hx
 cases x with
 | tmp t=>exact hT t (List.mem_append_left _ (List.mem_filterMap.2 ⟨_,hx,rfl⟩))
 | _=>rfl
theorem wantedA_local (hT:∀ t ∈ usesT ops o,st'.tmps.getD t .junk=st.tmps.getD t .junk):wantedA st'.tmps ops o=wantedA st.tmps ops o:=by
 unfold wantedA
 cases hg:o.guard with
 | none=>rfl
 | some p=>
  obtain ⟨j,want⟩:=p
  simp only
  cases hd:(ops[j]?).bind (·.dst) with
  | none=>rfl
  | some d=>
   simp only
   rw [hT d (List.mem_append_right _ (by rw [hg]; simp [hd]))]
theorem reach_acc {h:Hp}:∀ (n:Nat) (l acc:List Nat),∀ b ∈ acc,b ∈ reach h n l acc
 | 0,l,acc,b,hb=>by unfold reach; exact hb
 | n+1,[],acc,b,hb=>by unfold reach; exact hb
 | n+1,x :: l,acc,b,hb=>by
  unfold reach
  split
  ·exact reach_acc n l acc b hb
  ·split
   ·exact reach_acc n _ _ b (List.mem_append_left _ hb)
   ·exact reach_acc n _ _ b (List.mem_append_left _ hb)
theorem reach_local {h h':Hp}:∀ (n:Nat) (l acc:List Nat),(∀ b ∈ reach h n l acc,h' b=h b)->reach h' n l acc=reach h n l acc
 | 0,l,acc,_=>by unfold reach; rfl
 | n+1,[],acc,_=>by unfold reach; rfl
 | n+1,x :: l,acc,hh=>by
  unfold reach at hh ⊢
  split
  ·rename_i hc
   simp only [hc] at hh
   exact reach_local n l acc hh
  ·rename_i hc
   simp only [hc] at hh
   have hx:h' x=h x:=by
    apply hh
    split
    ·exact reach_acc n _ _ x (by simp)
    ·exact reach_acc n _ _ x (by simp)
   rw [hx]
   split
   ·rename_i cells hb
    simp only [hb] at hh
    exact reach_local n _ _ hh
   ·rename_i hb
    refine reach_local n _ _ fun b hbm=>hh b ?_
    split
    ·rename_i cells hb'; exact absurd hb' (hb cells)
    ·exact hbm
theorem viewOf_local {h h':Hp} {avs:List AV} {ids:List Nat} {s:St} (hv:viewOf h avs=some (ids,s)) (hh:∀ b ∈ ids,h' b=h b):viewOf h' avs=some (ids,s):=by
 simp only [viewOf] at hv ⊢
 split at hv
 ·rename_i hc
  cases hv
  have e1:reach h' 200 (avs.flatMap AV.refs) []=reach h 200 (avs.flatMap AV.refs) []:=reach_local _ _ _ hh
  rw [e1]
  have e2:viewOk h' (reach h 200 (avs.flatMap AV.refs) []) avs=viewOk h (reach h 200 (avs.flatMap AV.refs) []) avs:=by
   unfold viewOk
   congr 2
   rw [Bool.eq_iff_iff,List.all_eq_true,List.all_eq_true]
   constructor
   ·intro hx b hb; have:=hx b hb; rw [hh b hb] at this; exact this
   ·intro hx b hb; have:=hx b hb; rw [hh b hb]; exact this
  have e3:viewSt h' (reach h 200 (avs.flatMap AV.refs) []) avs=viewSt h (reach h 200 (avs.flatMap AV.refs) []) avs:=by
   unfold viewSt
   congr 1
   exact List.map_congr_left fun b hb=>by rw [hh b hb]
  rw [e2,e3,if_pos hc]
 ·cases hv
theorem shEff_rd {ids:List Nat} {slot most:Nat} {s':St} {e:Eff} (h:shEff ids slot most s'=some e):e.rd=ids:=by
 unfold shEff at h
 split at h
 ·cases h; rfl
 ·cases h
theorem stepK_ex {k:Eff->Prop} (h:StepK P C ops slot o st k):∃ e,StepK P C ops slot o st (·=e)/\k e:=by
 unfold StepK at h
 split at h
 ·exact h.elim
 ·rename_i hw
  exact ⟨skipEff,by unfold StepK; simp only [hw],h⟩
 ·rename_i hw
  split at h
  ·rename_i f args argTypes hop
   split at h
   ·exact h.elim
   ·rename_i fid avs hc
    split at h
    ·rename_i n0 mds hmd
     split at h
     ·exact h.elim
     ·rename_i ids s hp
      obtain ⟨s',h1,h2⟩:=h
      split at h2
      ·rename_i e he
       exact ⟨e,by unfold StepK; simp only [hw,hop,hc,hmd,hp]; rw [hop] at he; exact ⟨s',h1,by simp only [he]⟩,h2⟩
      ·exact h2.elim
    ·rename_i hnsh
     split at h
     ·exact h.elim
     ·rename_i as marks bks hp
      obtain ⟨res,h1,h2⟩:=h
      split at h2
      ·rename_i e he
       refine ⟨e,?_,h2⟩
       unfold StepK
       simp only [hw,hop,hc,hp]
       exact ⟨res,h1,by simp only [he]⟩
      ·exact h2.elim
  ·rename_i hnc
   split at h
   ·rename_i e he
    refine ⟨e,?_,h⟩
    unfold StepK
    simp only [hw]
    try simp only [he]
   ·exact h.elim
theorem stepK_local (hT:∀ t ∈ usesT ops o,st'.tmps.getD t .junk=st.tmps.getD t .junk) (hH:∀ b ∈ e.rd,look st'.heap b=look st.heap b) (h:StepK P C ops slot o st (·=e)):StepK P C ops slot o st' (·=e):=by
 have hget:=get_local hT
 unfold StepK at h ⊢
 rw [wantedA_local hT]
 split at h
 ·exact h.elim
 ·exact h
 ·rename_i hw
  split at h
  ·rename_i f args argTypes hop
   have e1:st'.get f=st.get f:=hget f (by simp [hop,Op.operands,Call.operands])
   have e2:args.toList.map st'.get=args.toList.map st.get:=List.map_congr_left fun x hx=>hget x (by simp [hop,Op.operands,Call.operands]; exact .inr (by simpa using hx))
   rw [e1,e2]
   split at h
   ·exact h.elim
   ·rename_i fid avs hc
    split at h
    ·rename_i n0 mds hmd
     split at h
     ·exact h.elim
     ·rename_i ids s hp
      obtain ⟨s',h1,h2⟩:=h
      split at h2
      ·rename_i e' he
       subst h2
       have r1:=shEff_rd he
       rw [r1] at hH
       simp only [hmd]
       rw [viewOf_local hp hH]
       exact ⟨s',h1,by simp only [he]⟩
      ·exact h2.elim
    ·rename_i hnsh
     split at h
     ·exact h.elim
     ·rename_i as marks bks hp
      obtain ⟨res,h1,h2⟩:=h
      split at h2
      ·rename_i e' he
       subst h2
       obtain ⟨r1,r2⟩:=callEff_rd he
       simp only
       rw [prepCall_local (h':=look st'.heap) hp (fun b hb=>hH b (r1 b hb)) fun b hb=>hH b (r2 b hb)]
       refine ⟨res,h1,?_⟩
       rw [callEff_local fun b hb=>hH b (r2 b hb),he]
      ·exact h2.elim
  ·rename_i hnc
   split at h
   ·rename_i e' he
    subst h
    have he2:evalOp C slot st'.get (look st'.heap) o.op=some e':=by
     rw [evalOp_sig hget]
     exact evalOp_local he hH
    try simp only [he2]
   ·exact h.elim
end
end Go.Abs
end
