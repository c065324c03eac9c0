/-
  A part of the proof: GabsOps3, GabsOps4.
-/
import Derived.Test.YtjfmkcmepdedaaaGreatM2
import Derived.Laws.Small
set_option maxHeartbeats 0
set_option maxRecDepth 100000
set_option linter.unusedVariables false
set_option linter.unusedSimpArgs false
set_option linter.unusedSectionVars false
section
namespace Go.Abs
section
variable {P:Program} {C:Cfg} {K:Ctx} {β:Nat->Option Reg} {S:Place} {st:St} {a:Act} {w:World} {slot:Nat} {e:Eff} {o:Oper}
theorem qbk (k:IntKind) (n:Int):one (.int k n):=fun l=>by simp
theorem qbf (b:Bool):one (.bool b):=fun l=>by simp
theorem one_string (b:ByteArray):one (.string b):=fun l=>by simp
theorem abin_run {op : BinOp} {x y v : Value} (h : abin op x y = some v) (t : TypeId) (u z : Operand) (P : Program) (w : World) :
    (do eqGuard op t u z x y; binOp op t x y : Sem Value).run P w = .ok v w /\ one v := by
  unfold abin at h
  split at h
  · rename_i k a k' b
    rw [eqGuard_at_int]
    split at h
    · split at h
      · cases h
      · rename_i hb; cases h
        refine ⟨?_, qbk _ _⟩
        simp only [Sem.run_bind, Sem.run_pure, Result.andThen, binOp_shl, Op.shift, if_neg hb]
    · split at h
      · cases h
      · rename_i hb; cases h
        refine ⟨?_, qbk _ _⟩
        simp only [Sem.run_bind, Sem.run_pure, Result.andThen, binOp_shr, Op.shift, if_neg hb]
    · split at h
      · rename_i hk
        subst hk
        split at h
        all_goals first
          | (cases h
             refine ⟨?_, by first | exact qbk _ _ | exact qbf _⟩
             simp only [Sem.run_bind, Sem.run_pure, Result.andThen, binOp_add, binOp_sub, binOp_mul, binOp_and, binOp_or, binOp_xor, binOp_andNot, binOp_eql, binOp_neq, binOp_lss, binOp_leq, binOp_gtr, binOp_geq, Op.intArith, Op.intBits]
             done)
          | (split at h
             · cases h
             · rename_i hb; cases h
               refine ⟨?_, qbk _ _⟩
               simp only [Sem.run_bind, Sem.run_pure, Result.andThen, binOp_quo, binOp_rem, Op.intDiv, if_neg hb])
          | (cases h; done)
      · cases h
  · rename_i a b
    rw [eqGuard_at_string]
    split at h
    · cases h; exact ⟨by simp [binOp, Op.stringOp], qbf _⟩
    · cases h; exact ⟨by simp [binOp, Op.stringOp], qbf _⟩
    · cases h
  · cases h
theorem q_eqArr (hC:CfgOk P C) {op:BinOp} {t t':TypeId} {x y:Operand} {A B:List Cell} (ho:o.op=.binOp op t x y t')
  (hx:VRep β S w (.agg A) (a.eval x)) (hy:VRep β S w (.agg B) (a.eval y)) (he:evEqArr C op t (eqInts A B) A.length B.length=some e):Quiet P β S a w o e:=by
 unfold evEqArr at he
 split at he
 ·rename_i ti hti
  have hty:=qah (hC t ti hti)
  split at he
  ·rename_i len el hk
   split at he
   ·rename_i te hte
    have htye:=qah (hC _ te hte)
    split at he
    ·rename_i k0 hk0
     split at he
     ·rename_i hc
      obtain ⟨hs1,hn,hm⟩:=hc
      obtain ⟨r,hr,he⟩:=Option.bind_eq_some_iff.1 he
      obtain ⟨xs,hx1,hx2,hx3⟩:=hx.aggE
      obtain ⟨ys,hy1,hy2,hy3⟩:=hy.aggE
      obtain ⟨i,hi1,hi2,_⟩:=htye.info
      have hcell:P.cellsOf el=1:=by unfold Program.cellsOf; rw [hi1]; simp [hi2,hs1]
      have hrun:=run_eqInts htye (by rw [hk0]; rfl) (htye.int hk0) hx2 hy2 hx3 hy3 9998 A B 0 r (by simp) (by simp) hr
      have hag:=run_equalIn_array (P:=P) w 9999 xs.toArray ys.toArray (hty.array hk) hi1
      rw [hcell,List.range_eq_range',<- hn,hrun] at hag
      have hgd:=run_eqGuard_agg (P:=P) w op t x y xs.toArray ys.toArray (hty.guard _ _ (hty.array hk))
      unfold eqRes at he
      split at he
      ·cases he
       refine ⟨rfl,.bool r,?_,VRep.of1 (qbf _)⟩
       simp only [execOp,ho,hx1,hy1,Sem.run_bind,hgd,Sem.run_pure,Result.andThen,run_eql_struct,hag]
      ·cases he
       refine ⟨rfl,.bool (!r),?_,VRep.of1 (qbf _)⟩
       simp only [execOp,ho,hx1,hy1,Sem.run_bind,hgd,Sem.run_pure,Result.andThen,run_neq_struct,hag]
      ·cases he
     ·cases he
    ·cases he
   ·cases he
  ·cases he
 ·cases he
theorem run_equalIn_sliceNil (w:World) (d:Nat) {t e:TypeId} {A:Addr} {n c:Nat} (h:P.underlying t=some (.slice e)):(Op.equalIn (d+1) t (.slice (some A) n c) (.slice none 0 0)).run P w=.ok false w:=by
 simp [Op.equalIn,run_underlying h]
theorem run_equalIn_nilNil (w:World) (d:Nat) {t e:TypeId} {n c:Nat} (h:P.underlying t=some (.slice e)):(Op.equalIn (d+1) t (.slice none n c) (.slice none 0 0)).run P w=.ok true w:=by
 simp [Op.equalIn,run_underlying h]
theorem q_nil (hC:CfgOk P C) {op:BinOp} {t t':TypeId} {x y:Operand} {A:Addr} {n c:Nat} (ho:o.op=.binOp op t x y t')
  (hx:a.eval x=.slice (some A) n c) (he:evNil C op t y=some e):Quiet P β S a w o e:=by
 unfold evNil at he
 split at he
 ·split at he
  ·rename_i ti hti
   have hty:=qah (hC t ti hti)
   split at he
   ·rename_i el hk
    have hy:a.eval (.const (.slice none 0 0))=.slice none 0 0:=rfl
    have hu:=hty.slice hk
    have heq:(Op.equal t (.slice (some A) n c) (.slice none 0 0)).run P w=.ok false w:=by
     exact run_equalIn_sliceNil w 9999 hu
    unfold eqRes at he
    split at he
    ·cases he
     refine ⟨rfl,.bool false,?_,VRep.of1 (qbf _)⟩
     simp [execOp,ho,hx,hy,eqGuard,binOp,heq,Result.andThen]
    ·cases he
     refine ⟨rfl,.bool (!false),?_,VRep.of1 (qbf _)⟩
     simp [execOp,ho,hx,hy,eqGuard,binOp,heq,Result.andThen]
    ·cases he
   ·cases he
  ·cases he
 ·cases he
theorem q_nilX (hC:CfgOk P C) {op:BinOp} {t t':TypeId} {x y:Operand} {base:Option Addr} {n c:Nat} (ho:o.op=.binOp op t x y t')
  (hx:a.eval x=.slice base n c) (he:evNilX C op t y base=some e):Quiet P β S a w o e:=by
 unfold evNilX at he
 split at he
 ·split at he
  ·rename_i ti hti
   have hty:=qah (hC t ti hti)
   split at he
   ·rename_i el hk
    have hy:a.eval (.const (.slice none 0 0))=.slice none 0 0:=rfl
    have hu:=hty.slice hk
    have heq:(Op.equal t (.slice base n c) (.slice none 0 0)).run P w=.ok base.isNone w:=by
     cases base with
     | some A=>exact run_equalIn_sliceNil w 9999 hu
     | none=>exact run_equalIn_nilNil w 9999 hu
    unfold eqRes at he
    split at he
    ·cases he
     refine ⟨rfl,.bool base.isNone,?_,VRep.of1 (qbf _)⟩
     simp [execOp,ho,hx,hy,eqGuard,binOp,heq,Result.andThen]
    ·cases he
     refine ⟨rfl,.bool (!base.isNone),?_,VRep.of1 (qbf _)⟩
     simp [execOp,ho,hx,hy,eqGuard,binOp,heq,Result.andThen]
    ·cases he
   ·cases he
  ·cases he
 ·cases he
theorem q_binOp (hC:CfgOk P C) (h:Sat K β S st a w) {op:BinOp} {t t':TypeId} {x y:Operand} (ho:o.op=.binOp op t x y t')
  (he:evalOp C slot st.get (look st.heap) (.binOp op t x y t')=some e):Quiet P β S a w o e:=by
 simp only [evalOp] at he
 have hx:=h.get x
 have hy:=h.get y
 split at he
 ·rename_i b c hgx hgy
  rw [hgx] at hx; rw [hgy] at hy
  obtain ⟨hx,_⟩:=hx.scalar
  obtain ⟨hy,_⟩:=hy.scalar
  split at he
  ·rename_i ti hti
   have hty:=qah (hC t ti hti)
   split at he
   ·rename_i hk
    cases he
    refine ⟨rfl,.bool (b == c),?_,VRep.of1 (qbf _)⟩
    simp only [execOp,ho,hx,hy,eqGuard_at_bool,Sem.run_bind,Sem.run_pure,Result.andThen,binOp,run_equal_bool w t b c (hty.bool hk)]
   ·rename_i hk
    cases he
    refine ⟨rfl,.bool (!(b == c)),?_,VRep.of1 (qbf _)⟩
    simp only [execOp,ho,hx,hy,eqGuard_at_bool,Sem.run_bind,Sem.run_pure,Result.andThen,binOp,run_equal_bool w t b c (hty.bool hk)]
   ·cases he
  ·cases he
 ·rename_i hgx
  rw [hgx] at hx
  obtain ⟨hx,_⟩:=hx.scalar
  exact q_nilX hC ho hx he
 ·rename_i b c _ _ hgx hgy
  rw [hgx] at hx; rw [hgy] at hy
  obtain ⟨hx,_⟩:=hx.scalar
  obtain ⟨hy,_⟩:=hy.scalar
  obtain ⟨v,hv,rfl⟩:=Option.map_eq_some_iff.1 he
  obtain ⟨h1,h2⟩:=abin_run hv t x y P w
  refine ⟨rfl,v,?_,VRep.of1 h2⟩
  rw [<- hx,<- hy] at h1
  simp only [execOp,ho,Sem.run_bind,Sem.run_pure,Result.andThen] at h1 ⊢
  rw [h1]
 ·rename_i A B hgx hgy
  rw [hgx] at hx; rw [hgy] at hy
  exact q_eqArr hC ho hx hy he
 ·rename_i hgx
  rw [hgx] at hx
  generalize hav:a.eval x=av at hx
  cases hx with | c hx=>
  cases hx with | t hx=>
  cases hx with | lst _ _ base cb co stride cap val h1 h2 h3 h4 h5=>
  obtain rfl:=h5 (by simp)
  exact q_nil hC ho hav he
 ·rename_i hgx
  rw [hgx] at hx
  generalize hav:a.eval x=av at hx
  cases hx with | c hx=>
  cases hx with | sl R base cap hR h1 h2 h3 h4 h5=>
  obtain rfl:=h5 (by omega)
  exact q_nil hC ho hav he
 ·cases he
theorem q_unOp (h:Sat K β S st a w) {op:UnOp} {t:TypeId} {x:Operand} (ho:o.op=.unOp op t x)
  (he:evalOp C slot st.get (look st.heap) (.unOp op t x)=some e):Quiet P β S a w o e:=by
 simp only [evalOp] at he
 have hx:=h.get x
 split at he
 ·rename_i b hgx
  rw [hgx] at hx
  obtain ⟨hx,_⟩:=hx.scalar
  obtain ⟨v,hv,rfl⟩:=Option.map_eq_some_iff.1 he
  unfold aun at hv
  split at hv
  ·cases hv
   exact ⟨rfl,_,by simp [execOp,ho,hx,Op.unary,Op.intArith,Result.andThen],VRep.of1 (qbk _ _)⟩
  ·cases hv
   exact ⟨rfl,_,by simp [execOp,ho,hx,Op.unary,Result.andThen],VRep.of1 (qbf _)⟩
  ·cases hv
 ·cases he
theorem q_index (hC:CfgOk P C) (h:Sat K β S st a w) {t:TypeId} {x i:Operand} (ho:o.op=.index t x i)
  (he:evalOp C slot st.get (look st.heap) (.index t x i)=some e):Quiet P β S a w o e:=by
 simp only [evalOp] at he
 have hx:=h.get x
 have hi:=h.get i
 split at he
 ·rename_i ti n hti hn
  have hty:=qah (hC t ti hti)
  obtain ⟨k,hav2,_⟩:=hi.int hn
  split at he
  ·rename_i len el l hk hg
   rw [hg] at hx
   obtain ⟨vs,hav,hlen,hcs⟩:=hx.aggE
   split at he
   ·rename_i te hte
    have htye:=qah (hC _ te hte)
    split at he
    ·rename_i hr
     obtain ⟨v,hv,rfl⟩:=Option.map_eq_some_iff.1 he
     obtain ⟨u,h3,h4⟩:=part_rep (P:=P) (w:=w) htye hv hlen hcs
     refine ⟨rfl,u,?_,h4⟩
     simp only [execOp,ho,Instr.index,hav2,asIntOf,hav,Sem.run_bind,Sem.run_pure,Result.andThen,run_underlying (hty.array hk),if_pos hr,htye.sizeOf,h3]
    ·cases he
   ·cases he
  ·rename_i s hk hg
   rw [hg] at hx
   obtain ⟨hx,_⟩:=hx.scalar
   split at he
   ·rename_i hn0
    split at he
    ·rename_i b hb
     cases he
     refine ⟨rfl,.int .u8 b.toNat,?_,VRep.of1 (qbk _ _)⟩
     simp only [execOp,ho,Instr.index,hav2,asIntOf,hx,Sem.run_bind,Sem.run_pure,Result.andThen,run_underlying (hty.string hk),if_pos hn0,hb]
    ·cases he
   ·cases he
  ·cases he
 ·cases he
theorem q_len (hC:CfgOk P C) (h:Sat K β S st a w) {args:Array Operand} {argTypes:Array TypeId} {t:TypeId} {x:Operand} (ho:o.op=.call { callee:=.builtin .len,args,argTypes })
  (ha:args.toList=[x]) (ht:argTypes[0]?=some t) (he:evLen C (look st.heap) t (st.get x)=some e):Quiet P β S a w o e:=by
 have hx:=h.get x
 have hargs:args=#[x]:=by rw [<- Array.toArray_toList (xs:=args),ha]
 subst hargs
 have hrun:∀ v,(Builtin.len_ argTypes o.type #[a.eval x]).run P w=.ok v w->(execOp a.eval o).run P w=.ok (.value v) w:=by
  intro v hv
  simp only [execOp,ho,resolve,invoke,builtin,Sem.run_bind,Sem.run_pure,Result.andThen,List.map_toArray,List.map_cons,List.map_nil,hv]
 unfold evLen at he
 split at he
 ·cases he
 ·rename_i ti hti
  have hty:=qah (hC t ti hti)
  split at he
  ·rename_i el b off len cp hk hg
   cases he
   rw [hg] at hx
   cases hx with | c hx=>
   generalize hav:a.eval x=av at hx
   cases hx with | sl R base cap hR h1 h2 h3 h4 h5=>
   refine ⟨rfl,.int .i64 len,hrun _ ?_,VRep.of1 (qbk _ _)⟩
   simp [Builtin.len_,ht,hav,run_underlying (hty.slice hk),Result.andThen,goInt]
  ·rename_i el cp rows hk hg
   cases he
   rw [hg] at hx
   cases hx with | c hx=>
   cases hx with | t hx=>
   generalize hav:a.eval x=av at hx
   cases hx with | lst _ _ base cb co stride cap val h1 h2 h3 h4 h5 h5' h6 h7 h8=>
   refine ⟨rfl,.int .i64 rows.length,hrun _ ?_,VRep.of1 (qbk _ _)⟩
   simp [Builtin.len_,ht,hav,run_underlying (hty.slice hk),Result.andThen,goInt]
  ·rename_i s hk hg
   cases he
   rw [hg] at hx
   obtain ⟨hx,_⟩:=hx.scalar
   refine ⟨rfl,.int .i64 s.size,hrun _ ?_,VRep.of1 (qbk _ _)⟩
   simp [Builtin.len_,ht,hx,run_underlying (hty.string hk),Result.andThen,goInt]
  ·rename_i n el hk
   cases he
   refine ⟨rfl,.int .i64 n,hrun _ ?_,VRep.of1 (qbk _ _)⟩
   simp [Builtin.len_,ht,run_underlying (hty.array hk),Result.andThen,goInt]
  ·rename_i k el b hk hg
   rw [hg] at hx
   cases hx with | c hx=>
   generalize hav:a.eval x=av at hx
   cases hx with | mp R hR=>
   split at he
   ·rename_i ents hb
    cases he
    obtain ⟨R',h6,h7,_⟩:=h.blk b _ hb
    rw [hR] at h6; cases h6
    obtain ⟨_,es,clock,h8,h9,_⟩:=h7
    refine ⟨rfl,.int .i64 ents.length,hrun _ ?_,VRep.of1 (qbk _ _)⟩
    simp [Builtin.len_,ht,hav,run_underlying (hty.map hk),Result.andThen,goInt,getObj,Sem.run,h8,h9]
   ·cases he
  ·cases he
theorem q_max (h:Sat K β S st a w) {args:Array Operand} {argTypes:Array TypeId} {gt:Bool} {x y:Operand} (ho:o.op=.call { callee:=.builtin (if gt then .max else .min),args,argTypes })
  (ha:args.toList=[x,y]) (he:evMax gt [st.get x,st.get y]=some e):Quiet P β S a w o e:=by
 have hargs:args=#[x,y]:=by rw [<- Array.toArray_toList (xs:=args),ha]
 subst hargs
 unfold evMax at he
 split at he
 ·rename_i k p k' q heq
  simp only [List.cons.injEq,and_true] at heq
  have hx:=h.get x
  have hy:=h.get y
  rw [heq.1] at hx; rw [heq.2] at hy
  obtain ⟨hx,_⟩:=hx.scalar
  obtain ⟨hy,_⟩:=hy.scalar
  split at he
  ·cases he
   cases gt
   ·refine ⟨rfl,_,?_,VRep.of1 (qbk _ _)⟩
    simp [execOp,ho,resolve,invoke,builtin,Builtin.min_,hx,hy,Builtin.min2,Result.andThen]
   ·refine ⟨rfl,_,?_,VRep.of1 (qbk _ _)⟩
    simp [execOp,ho,resolve,invoke,builtin,Builtin.max_,hx,hy,Builtin.max2,Result.andThen]
  ·cases he
 ·cases he
end
theorem at2_cut {α:Type} {rows:List (List α)} {l n i j:Nat} {t:α} (h:at2 ((rows.drop l).take n) i j=some t):i < n/\at2 rows (l+i) j=some t:=by
 obtain ⟨row,h1,h2,_,_⟩:=at2_lt h
 rw [List.getElem?_take] at h1
 split at h1
 ·rename_i hi
  rw [List.getElem?_drop] at h1
  exact ⟨hi,qas h1 h2⟩
 ·cases h1
theorem mem_cut {α:Type} {rows:List α} {l n:Nat} {r:α} (h:r ∈ (rows.drop l).take n):r ∈ rows:=
 List.mem_of_mem_drop (List.mem_of_mem_take h)
section
variable {P:Program} {w:World}
theorem run_bound {v:Value} {k:IntKind} {n:Int} (hv:v=.int k n) {y:Nat} (h0:0<=n) (h1:n<=y) (code:BoundsCode) :
  (Instr.sliceBound v y code).run P w=.ok n.toNat w:=by
 subst hv
 simp [Instr.sliceBound,asIntOf,Result.andThen,h0,h1]
def BoundIs (v:Option Value) (n:Option Int):Prop:=match v,n with
 | none,none=>True
 | some v,some n=>∃ k,v=.int k n
 | _,_=>False
theorem run_bounds {isSlice:Bool} {len cap:Nat} {lo hi mx:Option Value} {l:Int} {h m:Option Int}
  (hlo:BoundIs lo (some l) ∨ (lo=none/\l=0)) (hhi:BoundIs hi h) (hmx:BoundIs mx m) (hm:m.isSome=true->h.isSome=true)
  (h0:0<=l) (h1:l<=h.getD len) (h2:h.getD len<=m.getD cap) (h3:m.getD cap<=cap) :
  (Instr.sliceBounds isSlice len cap lo hi mx).run P w=.ok (l.toNat,(h.getD len).toNat,(m.getD cap).toNat) w:=by
 have e0:(lo=none/\l=0) ∨ (∃ v k,lo=some v/\v=Value.int k l):=by
  rcases hlo with hlo | h
  ·cases lo with
   | none=>exact hlo.elim
   | some v=>obtain ⟨k,hk⟩:=hlo; exact .inr ⟨v,k,rfl,hk⟩
  ·exact .inl h
 clear hlo
 unfold Instr.sliceBounds
 cases mx with
 | none=>
  cases m with
  | some m=>exact hmx.elim
  | none=>
   simp only [Option.getD_none] at h2 h3
   cases hi with
   | none=>
    cases h with
    | some h=>exact hhi.elim
    | none=>
     simp only [Option.getD_none] at h1 h2
     rcases e0 with ⟨rfl,rfl⟩ | ⟨v0,k0,rfl,hk0⟩
     ·simp [Result.andThen]
     ·have e1:=run_bound (P:=P) (w:=w) (y:=len) hk0 h0 h1 BoundsCode.sliceB
      simp [Result.andThen,e1]
   | some v=>
    cases h with
    | none=>exact hhi.elim
    | some h=>
     obtain ⟨k,hk⟩:=hhi
     simp only [Option.getD_some] at h1 h2
     have e2:=run_bound (P:=P) (w:=w) hk (by omega) h2 (if isSlice then BoundsCode.sliceAcap else BoundsCode.sliceAlen)
     rcases e0 with ⟨rfl,rfl⟩ | ⟨v0,k0,rfl,hk0⟩
     ·simp [Result.andThen,e2]
     ·have e1:=run_bound (P:=P) (w:=w) (y:=h.toNat) hk0 h0 (by omega) BoundsCode.sliceB
      simp [Result.andThen,e1,e2]
 | some vm=>
  cases m with
  | none=>exact hmx.elim
  | some m=>
   obtain ⟨km,hkm⟩:=hmx
   simp only [Option.getD_some] at h2 h3
   cases hi with
   | none=>
    cases h with
    | some h=>exact hhi.elim
    | none=>simp at hm
   | some v=>
    cases h with
    | none=>exact hhi.elim
    | some h=>
     obtain ⟨k,hk⟩:=hhi
     simp only [Option.getD_some] at h1 h2
     have e3:=run_bound (P:=P) (w:=w) hkm (by omega) h3 (if isSlice then BoundsCode.slice3Acap else BoundsCode.slice3Alen)
     have e2:=run_bound (P:=P) (w:=w) (y:=m.toNat) hk (by omega) (by omega) BoundsCode.slice3B
     rcases e0 with ⟨rfl,rfl⟩ | ⟨v0,k0,rfl,hk0⟩
     ·simp [Result.andThen,e2,e3]
     ·have e1:=run_bound (P:=P) (w:=w) (y:=h.toNat) hk0 h0 (by omega) BoundsCode.slice3C
      simp [Result.andThen,e1,e2,e3]
theorem BoundIs.of {β:Nat->Option Reg} {S:Place} {K:Ctx} {st:St} {a:Act} (h:Sat K β S st a w) {x:Option Operand} {n:Option Int}
  (hx:(match x.map st.get with | none=>some none | some v=>v.int?.map some)=some n):BoundIs (x.map a.eval) n:=by
 cases x with
 | none=>simp at hx; subst hx; trivial
 | some x=>
  simp only [Option.map_some] at hx
  obtain ⟨m,h1,rfl⟩:=Option.map_eq_some_iff.1 hx
  obtain ⟨k,h2,_⟩:=(h.get x).int h1
  exact ⟨k,h2⟩
theorem BoundIs.low {β:Nat->Option Reg} {S:Place} {K:Ctx} {st:St} {a:Act} (h:Sat K β S st a w) {x:Option Operand} {n:Int}
  (hx:(match x.map st.get with | none=>some 0 | some v=>v.int?)=some n):BoundIs (x.map a.eval) (some n) ∨ (x.map a.eval=none/\n=0):=by
 cases x with
 | none=>simp at hx; subst hx; exact .inr ⟨rfl,rfl⟩
 | some x=>
  simp only [Option.map_some] at hx
  obtain ⟨k,h2,_⟩:=(h.get x).int hx
  exact .inl ⟨k,h2⟩
end
section
variable {P:Program} {C:Cfg} {K:Ctx} {β:Nat->Option Reg} {S:Place} {st:St} {a:Act} {w:World} {slot:Nat} {e:Eff} {o:Oper}
theorem q_slice (hC:CfgOk P C) (h:Sat K β S st a w) {t:TypeId} {x:Operand} {lo hi mx:Option Operand} (ho:o.op=.slice t x lo hi mx) (hna:∀ ti n el,C.ty t=some ti->ti.kind ≠ .array n el)
  (he:evSlice C (look st.heap) t (st.get x) (lo.map st.get) (hi.map st.get) (mx.map st.get)=some e):Quiet P β S a w o e:=by
 unfold evSlice at he
 have hx:=h.get x
 split at he
 ·cases he
 ·rename_i ti hti
  have hty:=qah (hC t ti hti)
  split at he
  ·rename_i l hi' m hl hh hm
   have bl:=BoundIs.low h hl
   have bh:=BoundIs.of h hh
   have bm:=BoundIs.of h hm
   split at he
   ·rename_i s hk hg
    rw [hg] at hx
    obtain ⟨hx,_⟩:=hx.scalar
    simp only at he
    split at he
    ·rename_i hr
     obtain ⟨r1,r2,r3,rfl⟩:=hr
     cases he
     have hmn:mx.map a.eval=none:=by
      cases hmx:mx.map a.eval with
      | none=>rfl
      | some v=>rw [hmx] at bm; exact bm.elim
     have:=run_bounds (P:=P) (w:=w) (isSlice:=false) (len:=s.size) (cap:=s.size) (mx:=none) (m:=none) bl bh trivial (by simp) r1 r2 (by simpa using r3) (by simp)
     refine ⟨rfl,.string (s.extract l.toNat (hi'.getD s.size).toNat),?_,VRep.of1 (one_string _)⟩
     simp only [execOp,ho,Instr.sliceAt,Instr.slice,run_underlying (hty.string hk),Sem.run_bind,Sem.run_pure,Result.andThen,hx,hmn,Option.isSome_none,Bool.false_eq_true,if_false,this]
    ·cases he
   ·rename_i el b off len cp hk hg
    rw [hg] at hx
    cases hx with | c hx=>
    generalize hav:a.eval x=av at hx
    cases hx with | sl R base cap hR h1 h2 h3 h4 h5=>
    simp only at he
    split at he
    ·rename_i hr
     obtain ⟨r1,r2,r3⟩:=hr
     split at he
     ·rename_i sz rows g fz te hb hte
      split at he
      ·rename_i hr2
       obtain ⟨q1,q2⟩:=hr2
       cases he
       have htye:=qah (hC _ te hte)
       obtain ⟨R',h6,h7,_⟩:=h.blk b _ hb
       rw [hR] at h6; cases h6
       have hmn:mx.map a.eval=none:=by
        cases hmx:mx.map a.eval with
        | none=>rfl
        | some v=>rw [hmx] at bm; exact bm.elim
       have hst:l.toNat*te.size=l.toNat*R.stride:=by rw [<- q2,h7.1]
       have:=run_bounds (P:=P) (w:=w) (isSlice:=true) (len:=len) (cap:=cap) (mx:=none) (m:=none) bl bh trivial (by simp) r1 r2 (by simp; omega) (by simp)
       refine ⟨rfl,.slice (if cap=l.toNat then base else base.map (·.add (l.toNat*te.size))) ((hi'.getD len).toNat - l.toNat) (cap - l.toNat),?_,.c (.sl R _ _ hR ?_ ?_ ?_ ?_ ?_)⟩
       ·simp only [execOp,ho,Instr.sliceAt,Instr.slice,run_underlying (hty.slice hk),Sem.run_bind,Sem.run_pure,Result.andThen,hav,hmn,this,htye.sizeOf,Option.getD_none,Int.toNat_natCast]
       ·intro hcp
        have:=q1 hcp; have:=h1 hcp; omega
       ·intro hcp
        have:=h2 hcp; omega
       ·omega
       ·omega
       ·intro h0
        rw [if_neg (by omega),h5 (by omega)]
        simp only [Option.map_some,qbe,hst,Nat.add_mul,Nat.add_assoc]
      ·cases he
     ·rename_i m' sz rows g fz te hb hte
      split at he
      ·rename_i hr2
       obtain ⟨q0,q1,q2⟩:=hr2
       cases he
       have htye:=qah (hC _ te hte)
       obtain ⟨R',h6,h7,_⟩:=h.blk b _ hb
       rw [hR] at h6; cases h6
       have hst:l.toNat*te.size=l.toNat*R.stride:=by rw [<- q2,h7.1]
       have:=run_bounds (P:=P) (w:=w) (isSlice:=true) (len:=len) (cap:=cap) bl bh bm (fun _=>q1) r1 r2 (by simp; omega) (by simp; omega)
       refine ⟨rfl,.slice (if m'.toNat=l.toNat then base else base.map (·.add (l.toNat*te.size))) ((hi'.getD len).toNat - l.toNat) (m'.toNat - l.toNat),?_,.c (.sl R _ _ hR ?_ ?_ ?_ ?_ ?_)⟩
       ·simp only [execOp,ho,Instr.sliceAt,Instr.slice,run_underlying (hty.slice hk),Sem.run_bind,Sem.run_pure,Result.andThen,hav,this,htye.sizeOf,Option.getD_some]
       ·intro _; omega
       ·simp
       ·omega
       ·omega
       ·intro h0
        rw [if_neg (by omega),h5 (by omega)]
        simp only [Option.map_some,qbe,hst,Nat.add_mul,Nat.add_assoc]
      ·cases he
     ·rename_i cells te hb hte
      split at he
      ·rename_i hr2
       obtain ⟨q1,q2⟩:=hr2
       cases he
       have htye:=qah (hC _ te hte)
       obtain ⟨R',h6,h7,_⟩:=h.blk b _ hb
       rw [hR] at h6; cases h6
       have hmn:mx.map a.eval=none:=by
        cases hmx:mx.map a.eval with
        | none=>rfl
        | some v=>rw [hmx] at bm; exact bm.elim
       have hst:l.toNat*te.size=l.toNat*R.stride:=by rw [q2,h7.1.2.1]
       have:=run_bounds (P:=P) (w:=w) (isSlice:=true) (len:=len) (cap:=cap) (mx:=none) (m:=none) bl bh trivial (by simp) r1 r2 (by simp; omega) (by simp)
       refine ⟨rfl,.slice (if cap=l.toNat then base else base.map (·.add (l.toNat*te.size))) ((hi'.getD len).toNat - l.toNat) (cap - l.toNat),?_,.c (.sl R _ _ hR ?_ ?_ ?_ ?_ ?_)⟩
       ·simp only [execOp,ho,Instr.sliceAt,Instr.slice,run_underlying (hty.slice hk),Sem.run_bind,Sem.run_pure,Result.andThen,hav,hmn,this,htye.sizeOf,Option.getD_none,Int.toNat_natCast]
       ·intro hcp
        have:=q1 hcp; have:=h1 hcp; omega
       ·intro hcp
        have:=h2 hcp; omega
       ·omega
       ·omega
       ·intro h0
        rw [if_neg (by omega),h5 (by omega)]
        simp only [Option.map_some,qbe,hst,Nat.add_mul,Nat.add_assoc]
      ·cases he
     ·cases he
    ·cases he
   ·rename_i el cp rows hk hg
    rw [hg] at hx
    cases hx with | c hx=>
    cases hx with | t hx=>
    generalize hav:a.eval x=av at hx
    cases hx with | lst _ _ base cb co stride cap val h1 h2 h3 h4 h5 h5' h6 h7 h8=>
    simp only at he
    split at he
    ·rename_i hr
     obtain ⟨r1,r2,r3⟩:=hr
     have hst:∀ te:TI,(rows.all fun r=>r.length == te.size)=true->l.toNat*te.size=l.toNat*stride:=by
      intro te q2
      rcases Nat.eq_zero_or_pos l.toNat with h0 | h0
      ·rw [h0]; simp
      ·have hpos:0 < rows.length:=by omega
       cases hrw:rows with
       | nil=>rw [hrw] at hpos; simp at hpos
       | cons r0 rs=>
        have e1:=h6 r0 (by rw [hrw]; simp)
        have e2:=List.all_eq_true.1 q2 r0 (by rw [hrw]; simp)
        rw [beq_iff_eq] at e2; rw [<- e1,e2]
     have hlenc:((rows.drop l.toNat).take ((hi'.getD rows.length).toNat - l.toNat)).length=(hi'.getD rows.length).toNat - l.toNat:=by
      rw [List.length_take,List.length_drop]; omega
     have key:∀ (cp':Bool) (m2:Nat) (te:TI),(rows.all fun r=>r.length == te.size)=true->(hi'.getD rows.length).toNat<=m2->m2<=cap->(cp'=true->m2=(hi'.getD rows.length).toNat) ->
       TRep S w (.lst cp' ((rows.drop l.toNat).take ((hi'.getD rows.length).toNat - l.toNat)))
        (.slice (if m2=l.toNat then base else base.map (·.add (l.toNat*te.size))) ((hi'.getD rows.length).toNat - l.toNat) (m2 - l.toNat)):=by
      intro cp' m2 te q2 hm1 hm2 hcp
      have hcut:∀ i j t,at2 ((rows.drop l.toNat).take ((hi'.getD rows.length).toNat - l.toNat)) i j=some t->at2 rows (l.toNat+i) j=some t:=fun i j t ht=>(at2_cut ht).2
      have hmem:∀ r,r ∈ ((rows.drop l.toNat).take ((hi'.getD rows.length).toNat - l.toNat))->r ∈ rows:=fun r hr=>mem_cut hr
      generalize ((rows.drop l.toNat).take ((hi'.getD rows.length).toNat - l.toNat))=rs at hlenc hcut hmem ⊢
      rw [<- hlenc]
      refine .lst cp' _ _ cb (co+l.toNat*stride) stride _ (fun i j=>val (l.toNat+i) j) ?_ ?_ ?_ ?_ ?_ ?_ ?_ ?_ ?_
      ·rw [hlenc]; omega
      ·omega
      ·rw [hlenc]; omega
      ·intro hh; rw [hlenc,hcp hh]
      ·intro hne
       have:0 < (hi'.getD rows.length).toNat - l.toNat:=by rw [<- hlenc]; exact List.length_pos_iff.2 hne
       have hpos:0 < rows.length:=by omega
       rw [if_neg (by omega),h5 (List.length_pos_iff.1 hpos)]
       simp only [Option.map_some,qbe,hst te q2]
      ·intro hb
       split at hb
       ·rename_i hml; omega
       ·simp at hb; have:=h5' hb; omega
      ·intro r hr; exact h6 r (hmem r hr)
      ·intro i j t ht
       have h9:=hcut _ _ _ ht
       have:=h7 _ _ _ h9
       rw [Nat.add_mul,<- Nat.add_assoc] at this
       exact this
      ·intro i j t ht
       exact h8 _ _ _ (hcut _ _ _ ht)
     split at he
     ·rename_i te hte
      split at he
      ·rename_i q2
       cases he
       have htye:=qah (hC _ te hte)
       have hmn:mx.map a.eval=none:=by
        cases hmx:mx.map a.eval with
        | none=>rfl
        | some v=>rw [hmx] at bm; exact bm.elim
       have:=run_bounds (P:=P) (w:=w) (isSlice:=true) (len:=rows.length) (cap:=cap) (mx:=none) (m:=none) bl bh trivial (by simp) r1 r2 (by simp; omega) (by simp)
       refine ⟨rfl,_,?_,.c (.t (key _ cap te q2 (by omega) (by omega) ?_))⟩
       ·simp only [execOp,ho,Instr.sliceAt,Instr.slice,run_underlying (hty.slice hk),Sem.run_bind,Sem.run_pure,Result.andThen,hav,hmn,this,htye.sizeOf,Option.getD_none,Int.toNat_natCast]
       ·intro hcp
        simp only [Bool.and_eq_true,beq_iff_eq] at hcp
        rw [h4 hcp.1,hcp.2]; simp
      ·cases he
     ·rename_i m' te hte
      split at he
      ·rename_i hr2
       obtain ⟨q0,q1,q2⟩:=hr2
       cases he
       have htye:=qah (hC _ te hte)
       have:=run_bounds (P:=P) (w:=w) (isSlice:=true) (len:=rows.length) (cap:=cap) bl bh bm (fun _=>q1) r1 r2 (by simp; omega) (by simp; omega)
       refine ⟨rfl,_,?_,.c (.t (key _ m'.toNat te q2 (by omega) (by omega) (fun _=>by omega)))⟩
       simp only [execOp,ho,Instr.sliceAt,Instr.slice,run_underlying (hty.slice hk),Sem.run_bind,Sem.run_pure,Result.andThen,hav,this,htye.sizeOf,Option.getD_some]
      ·cases he
     ·cases he
    ·cases he
   ·rename_i n el b r c hk hg
    exact absurd hk (hna ti n el hti)
   ·cases he
  ·cases he
theorem mapM_some {α γ:Type} {f:α->Option γ}:∀ {l:List α} {r:List γ},l.mapM f=some r->r.length=l.length/\∀ (i:Nat) (y:γ),r[i]?=some y->∃ x:α,l[i]?=some x/\f x=some y
 | [],r,h=>by simp at h; subst h; simp
 | x :: l,r,h=>by
  rw [List.mapM_cons] at h
  cases hx:f x with
  | none=>rw [hx] at h; cases h
  | some y=>
   cases hl:l.mapM f with
   | none=>rw [hx,hl] at h; cases h
   | some r'=>
    rw [hx,hl] at h; cases h
    obtain ⟨h1,h2⟩:=mapM_some hl
    refine ⟨by simp [h1],fun i z hz=>?_⟩
    cases i with
    | zero=>simp at hz; subst hz; exact ⟨x,rfl,hx⟩
    | succ i=>simpa using h2 i z (by simpa using hz)
theorem capEff_val {h:Hp} {f:FuncId} {l:List (Nat × Nat × Nat)} {e:Eff} (he:capEff h f l=some e):e.val=.c (.clo f l)/\capFix h l=some e.wr:=by
 unfold capEff at he
 split at he
 ·rename_i ws hw; cases he; exact ⟨rfl,hw⟩
 ·cases he
theorem ptrs_get (h:Sat K β S st a w) {xs:List Operand} {l:List (Nat × Nat × Nat)} (hl:xs.mapM (fun x=>ptrOf (st.get x))=some l) :
  (xs.map a.eval).length=l.length/\∀ (i b r c:Nat),l[i]?=some (b,r,c)->∃ R:Reg,β b=some R/\(xs.map a.eval)[i]?=some (Value.pointer (some ⟨R.cb,R.co+r*R.stride+c,none⟩)):=by
 obtain ⟨h1,h2⟩:=mapM_some hl
 refine ⟨by simp; exact h1.symm,fun i b r c hi=>?_⟩
 obtain ⟨x,hx,hfx⟩:=h2 i _ hi
 have hr:=h.get x
 unfold ptrOf at hfx
 split at hfx
 ·rename_i b' r' c' hg
  cases hfx
  rw [hg] at hr
  cases hr with | c hr=>
  generalize hav:a.eval x=av at hr
  cases hr with | ptr R hR=>
  exact ⟨R,hR,by rw [List.getElem?_map,hx,Option.map_some,hav]⟩
 ·cases hfx
theorem q_makeFunc (h:Sat K β S st a w) {f:FuncId} {first caps:Array Operand} (ho:o.op=.makeFunc (.func f) first caps)
  (he:evalOp C slot st.get (look st.heap) (.makeFunc (.func f) first caps)=some e) :
  ∃ g l v,e.val=.c (.clo g l)/\(capFix (look st.heap) l=some e.wr ∨ e.wr=[])/\(execOp a.eval o).run P w=.ok (.value v) w/\VRep β S w (.c (.clo g l)) v:=by
 simp only [evalOp] at he
 split at he
 ·rename_i hf
  have hf':first=#[]:=Array.eq_empty_of_size_eq_zero hf
  subst hf'
  split at he
  ·rename_i l hb hl
   obtain ⟨ev,ew⟩:=capEff_val he
   obtain ⟨h1,h2⟩:=ptrs_get h hl
   refine ⟨f,l,cloVal f (caps.toList.map a.eval),ev,.inl ew,?_,.c (.clo _ h1 h2)⟩
   have:Array.map a.eval caps=(List.map a.eval caps.toList).toArray:=by apply Array.ext'; simp
   rw [cloVal_lt hb]
   simp [execOp,ho,Instr.makeFunc,Result.andThen,this]
  ·cases he
 ·split at he
  ·rename_i l hb hl
   cases he
   have hc':caps=#[]:=Array.eq_empty_of_size_eq_zero hb
   subst hc'
   obtain ⟨h1,h2⟩:=ptrs_get h hl
   refine ⟨f+bndF,l,cloVal (f+bndF) (first.toList.map a.eval),rfl,.inr rfl,?_,.c (.clo _ h1 h2)⟩
   have:Array.map a.eval first=(List.map a.eval first.toList).toArray:=by apply Array.ext'; simp
   rw [cloVal_add]
   simp [execOp,ho,Instr.makeFunc,Result.andThen,this]
  ·cases he
theorem sameNow_of {kd:TypeDesc} {key k:Value} {b:Bool} (hk:(∃ q,kd=.int q) ∨ kd=.string ∨ kd=.bool) (h:sameKey key k=some b)
  (hi:∀ q,kd=.int q->∃ q' n,key=.int q' n) (hs:kd=.string->∃ n,key=.string n) (hb:kd=.bool->∃ n,key=.bool n):Instr.sameNow kd key k=some b:=by
 rcases hk with ⟨q,rfl⟩ | rfl | rfl
 ·obtain ⟨q',n,rfl⟩:=hi q rfl
  cases k <;> simp_all [sameKey,Instr.sameNow]
 ·obtain ⟨n,rfl⟩:=hs rfl
  cases k <;> simp_all [sameKey,Instr.sameNow]
 ·obtain ⟨n,rfl⟩:=hb rfl
  cases k <;> simp_all [sameKey,Instr.sameNow]
theorem keyFits_now {tk:TI} {k:TypeId} (hty:TyOk P k tk) {key:Value} (hf:keyFits tk.kind key=true) :
  ∃ kd,P.underlying k=some kd/\(∀ x b,sameKey key x=some b->Instr.sameNow kd key x=some b)/\∀ em n w,(Instr.checkKey em (n+1) k key).run P w=.ok () w:=by
 unfold keyFits at hf
 split at hf
 ·rename_i q q' n hq
  have hu:=hty.int hq
  refine ⟨_,hu,fun x b hx=>sameNow_of (.inl ⟨_,rfl⟩) hx (fun _ _=>⟨_,_,rfl⟩) (by simp) (by simp),fun em n w=>by simp [Instr.checkKey,run_underlying hu,Result.andThen]⟩
 ·rename_i q hq
  have hu:=hty.string hq
  refine ⟨_,hu,fun x b hx=>sameNow_of (.inr (.inl rfl)) hx (by simp) (fun _=>⟨_,rfl⟩) (by simp),fun em n w=>by simp [Instr.checkKey,run_underlying hu,Result.andThen]⟩
 ·rename_i q hq
  have hu:=hty.bool hq
  refine ⟨_,hu,fun x b hx=>sameNow_of (.inr (.inr rfl)) hx (by simp) (by simp) (fun _=>⟨_,rfl⟩),fun em n w=>by simp [Instr.checkKey,run_underlying hu,Result.andThen]⟩
 ·cases hf
theorem findEnt_run {kd:TypeDesc} {key:Value} (hs:∀ x b,sameKey key x=some b->Instr.sameNow kd key x=some b) :
  ∀ (ents:List (Value × Tree)) (es:List MapEntry) (i:Nat) (r:Option Tree),findEnt key ents=some r->es.length=ents.length ->
  (∀ (i:Nat) (k:Value) (t:Tree),ents[i]?=some (k,t)->∃ e:MapEntry,es[i]?=some e/\e.key=k/\TRep S w t e.val) ->
  (match r with
   | none=>Instr.findNow kd key es i=some none
   | some t=>∃ (j:Nat) (e:MapEntry),Instr.findNow kd key es i=some (some (i+j,e.val))/\es[j]?=some e/\TRep S w t e.val)
 | [],es,i,r,h,hl,_=>by
  simp [findEnt] at h; subst h
  have:es=[]:=List.eq_nil_of_length_eq_zero (by simpa using hl)
  subst this
  simp [Instr.findNow]
 | (k,t) :: ents,[],_,_,_,hl,_=>by simp at hl
 | (k,t) :: ents,e :: es,i,r,h,hl,hr=>by
  obtain ⟨e',he',hke,hte⟩:=hr 0 k t rfl
  simp at he'; subst he'
  unfold findEnt at h
  simp only at h
  split at h
  ·rename_i hsk
   cases h
   have:=hs _ _ hsk
   refine ⟨0,e,?_,rfl,hte⟩
   simp [Instr.findNow,hke,this]
  ·rename_i hsk
   have hn:=hs _ _ hsk
   have ih:=findEnt_run hs ents es (i+1) r h (by simpa using hl) (fun j k' t' hj=>by simpa using hr (j+1) k' t' (by simpa using hj))
   cases r with
   | none=>simp only [Instr.findNow,hke,hn]; exact ih
   | some t0=>
    obtain ⟨j,e0,h1,h2,h3⟩:=ih
    exact ⟨j+1,e0,by simp only [Instr.findNow,hke,hn]; rw [h1]; congr 3; omega,by simpa using h2,h3⟩
  ·cases h
theorem q_lookup (hC:CfgOk P C) (h:Sat K β S st a w) {t:TypeId} {x i:Operand} {ok:Bool} (ho:o.op=.lookup t x i ok)
  (he:evalOp C slot st.get (look st.heap) (.lookup t x i ok)=some e):Quiet P β S a w o e:=by
 simp only [evalOp] at he
 have hx:=h.get x
 have hi:=h.get i
 split at he
 ·rename_i ti hti
  have hty:=qah (hC t ti hti)
  split at he
  ·rename_i k el b key hk hgx hgi
   rw [hgx] at hx; rw [hgi] at hi
   obtain ⟨hi,_⟩:=hi.scalar
   cases hx with | c hx=>
   generalize hav:a.eval x=av at hx
   cases hx with | mp R hR=>
   split at he
   ·rename_i ents tk te hb htk hte
    have htyk:=qah (hC _ tk htk)
    have htye:=qah (hC _ te hte)
    obtain ⟨R',h6,h7,_⟩:=h.blk b _ hb
    rw [hR] at h6; cases h6
    obtain ⟨_,es,clock,h8,h9,h10⟩:=h7
    split at he
    ·cases he
    ·rename_i hfit
     simp only [Bool.or_eq_true,Bool.not_eq_true',not_or,Bool.not_eq_false,Bool.not_eq_true] at hfit
     obtain ⟨hf1,hf2⟩:=hfit
     obtain ⟨kd,hkd,hnow,hchk⟩:=keyFits_now htyk hf1
     have hget:(getObj R.cb).run P w=.ok (.map es clock) w:=by simp [getObj,Sem.run,h8]
     have hcc:=hchk es.isEmpty 9999 w
     have hrun:∀ (v:Value) (b:Bool),(match (Instr.findNow kd key es.toList 0) with
       | some (some (_,u))=>v=u/\b=true
       | some none=>(zeroValue el).run P w=.ok v w/\b=false
       | none=>False)->(execOp a.eval o).run P w=.ok (.value (if ok then .tuple #[v,.bool b] else v)) w:=by
      intro v b hv
      simp only [execOp,ho,Instr.lookup,run_underlying (hty.map hk),hav,hi,Sem.run_bind,Sem.run_pure,Result.andThen,hget,hcc,Instr.findKey,run_underlying hkd]
      split at hv
      ·rename_i hfn
       obtain ⟨rfl,rfl⟩:=hv
       simp only [hfn,Sem.run_pure,Sem.run_bind,Result.andThen]
      ·rename_i hfn
       obtain ⟨hz,rfl⟩:=hv
       simp only [hfn,Sem.run_pure,Sem.run_bind,Result.andThen,hz]
      ·exact hv.elim
     split at he
     ·rename_i tt hfe
      cases he
      obtain ⟨j,en,h11,h12,h13⟩:=findEnt_run (S:=S) (w:=w) hnow ents es.toList 0 _ hfe (by simpa using h9) (fun i k t hi=>by obtain ⟨e,a,b⟩:=h10 i k t hi; exact ⟨e,by simpa using a,b⟩)
      refine ⟨rfl,_,hrun en.val true (by rw [h11]; exact ⟨rfl,rfl⟩),?_⟩
      cases ok
      ·exact .c (.t h13)
      ·refine .tup [en.val,.bool true] (fun i=>[en.val,.bool true].getD i undef) rfl (fun i y hy=>?_) fun i y hy=>?_
       ·match i with
        | 0=>rfl
        | 1=>rfl
        | i+2=>simp at hy
       ·match i with
        | 0=>simp at hy; subst hy; exact .c (.t h13)
        | 1=>simp at hy; subst hy; exact VRep.of1 (qbf _)
        | i+2=>simp at hy
     ·rename_i z hfe hz
      cases he
      have h11:=findEnt_run (S:=S) (w:=w) hnow ents es.toList 0 _ hfe (by simpa using h9) (fun i k t hi=>by obtain ⟨e,a,b⟩:=h10 i k t hi; exact ⟨e,by simpa using a,b⟩)
      obtain ⟨zv,hz1,hz2,hz3,hz4,hz5⟩:=htye.zeroValue w S
      obtain ⟨v0,hv0,hv1⟩:=hz3 0 z (by rw [hz]; rfl)
      rw [one_cells (hz4 hf2)] at hv0
      simp at hv0; subst hv0
      refine ⟨rfl,_,hrun zv false (by rw [h11]; exact ⟨hz1,rfl⟩),?_⟩
      cases ok
      ·exact .c (.t hv1)
      ·refine .tup [zv,.bool false] (fun i=>[zv,.bool false].getD i undef) rfl (fun i y hy=>?_) fun i y hy=>?_
       ·match i with
        | 0=>rfl
        | 1=>rfl
        | i+2=>simp at hy
       ·match i with
        | 0=>simp at hy; subst hy; exact .c (.t hv1)
        | 1=>simp at hy; subst hy; exact VRep.of1 (qbf _)
        | i+2=>simp at hy
     ·cases he
   ·cases he
  ·cases he
 ·cases he
end
end Go.Abs
end
