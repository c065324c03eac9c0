/-
  A part of the proof: GabsOps3, GabsOps4.
-/
import Derived.Laws.Small
import Derived.Test.YtekefilngojelaaGreatM1
import Derived.Test.YtekefilngojelaaGreatM2
set_option maxHeartbeats 0
set_option maxRecDepth 100000
set_option linter.unusedVariables false
set_option linter.unusedSimpArgs false
set_option linter.unusedSectionVars false
section
namespace Go.Abs
section
variable {P:Program} {C:dP} {K:Ctx} {β:Nat->Option bS} {S:Place} {st:St} {a:Act} {w:World} {slot:Nat} {e:bZ} {o:Oper}
theorem Ej (k:IntKind) (n:Int):one (.int k n):=fun l=>by simp
theorem Ek (b:Bool):one (.bool b):=fun l=>by simp
theorem oG (b:ByteArray):one (.string b):=fun l=>by simp
theorem Jx {op : BinOp} {x y v : Value} (h : Jr op x y = some v) (t : TypeId) (u z : Operand) (P : Program) (w : World) :
    (do eqGuard op t u z x y;binOp op t x y : Sem Value).run P w = .ok v w /\ one v := by
  unfold Jr at h;split at h
  · rename_i k a k' b
    rw[eqGuard_at_int];split at h
    · split at h
      · cases h
      · rename_i hb;cases h
        refine⟨?_, Ej _ _⟩;simp only[Sem.run_bind, Sem.run_pure, Result.andThen, binOp_shl, Op.shift, if_neg hb]
    · split at h
      · cases h
      · rename_i hb;cases h
        refine⟨?_, Ej _ _⟩;simp only[Sem.run_bind, Sem.run_pure, Result.andThen, binOp_shr, Op.shift, if_neg hb]
    · split at h
      · rename_i hk
        subst hk;split at h
        all_goals first
          | (cases h
             refine⟨?_, by first|exact Ej _ _|exact Ek _⟩;simp only[Sem.run_bind, Sem.run_pure, Result.andThen, binOp_add, binOp_sub, binOp_mul, binOp_and, binOp_or, binOp_xor, binOp_andNot, binOp_eql, binOp_neq, binOp_lss, binOp_leq, binOp_gtr, binOp_geq, Op.intArith, Op.intBits]
             done)
          | (split at h
             · cases h
             · rename_i hb;cases h
               refine⟨?_, Ej _ _⟩;simp only[Sem.run_bind, Sem.run_pure, Result.andThen, binOp_quo, binOp_rem, Op.intDiv, if_neg hb])
          | (cases h;done)
      · cases h
  · rename_i a b
    rw[eqGuard_at_string];split at h
    · cases h;exact⟨by simp[binOp, Op.stringOp], Ek _⟩
    · cases h;exact⟨by simp[binOp, Op.stringOp], Ek _⟩
    · cases h
  · cases h
theorem Mf (hC:bt P C) {op:BinOp} {t t':TypeId} {x y:Operand} {A B:List Cell} (ho:o.op=.binOp op t x y t')
  (hx:aY β S w (.agg A) (a.eval x)) (hy:aY β S w (.agg B) (a.eval y)) (he:ue C op t (jC A B) A.length B.length=some e):eM P β S a w o e:=by
 unfold ue at he;split at he
 ·rename_i ti cB
  have dB:=iw (hC t ti cB);split at he
  ·rename_i len el hk
   split at he
   ·rename_i te de
    have dS:=iw (hC _ te de);split at he
    ·rename_i k0 LO
     split at he
     ·rename_i hc
      obtain⟨ji,hn,hm⟩:=hc;obtain⟨r,hr,he⟩:=Option.bind_eq_some_iff.1 he;obtain⟨xs,EM,OQ,Wf⟩:=hx.Ah;obtain⟨ys,R7,Wg,Wh⟩:=hy.Ah;obtain⟨i,Mg,OR,_⟩:=dS.info;have uO:P.cellsOf el=1:=by unfold Program.cellsOf;rw[Mg];simp[OR,ji]
      have cL:=uN dS (by rw[LO];rfl) (dS.int LO) OQ Wg Wf Wh 9998 A B 0 r (by simp) (by simp) hr;have LM:=run_equalIn_array (P:=P) w 9999 xs.toArray ys.toArray (dB.array hk) Mg;rw[uO,List.range_eq_range',<-hn,cL]at LM;have Ch:=run_eqGuard_agg (P:=P) w op t x y xs.toArray ys.toArray (dB.guard _ _ (dB.array hk));unfold s9 at he;split at he
      ·cases he
       refine⟨rfl,.bool r,?_,aY.rJ (Ek _)⟩;simp only[execOp,ho,EM,R7,Sem.run_bind,Ch,Sem.run_pure,Result.andThen,run_eql_struct,LM]
      ·cases he
       refine⟨rfl,.bool (!r),?_,aY.rJ (Ek _)⟩;simp only[execOp,ho,EM,R7,Sem.run_bind,Ch,Sem.run_pure,Result.andThen,run_neq_struct,LM]
      ·cases he
     ·cases he
    ·cases he
   ·cases he
  ·cases he
 ·cases he
theorem uP:∀ {A:List Cell},EF A=true->∀ {i:Nat},i<A.length->A[i]?=some (.t (.v (.bool false)))
 | [],_,i,hi=>by simp at hi
 | c::A,h,i,hi=>by
  unfold EF at h;split at h
  ·rename_i heq;cases heq
  ·rename_i xs heq
   cases heq;cases i with
   | zero=>rfl
   | succ i=>exact uP h (by simpa using hi)
  ·cases h
theorem uQ {e:TypeId} {te:TI} (de:gA P e te) (ha:te.kind.agg=false) {A:List Cell} {vs:List Value} (hlen:vs.length=A.length)
  (hc:∀(j:Nat) (y:Cell),A[j]?=some y->∃v,vs[j]?=some v/\dd β S w y v) {i:Nat} (hi:A[i]?=some (.t (.v (.bool false)))) :
  (part e vs.toArray i).run P w=.ok (.bool false) w:=by
 have hg:da te A i=some (.c (.t (.v (.bool false)))):=by unfold da;rw[if_neg (by simp[ha]),hi];rfl
 obtain⟨v,h1,h2⟩:=pX (P:=P) (w:=w) de hg hlen hc;rw[h1,h2.scalar.1]
theorem nY {A B:List Cell} {xs ys:List Value} (hx:xs.length=A.length) (hy:ys.length=B.length)
  (cx:∀(j:Nat) (y:Cell),A[j]?=some y->∃v,xs[j]?=some v/\dd β S w y v) (cy:∀(j:Nat) (y:Cell),B[j]?=some y->∃v,ys[j]?=some v/\dd β S w y v)
  (hA:EF A=true) (hB:EF B=true) (d:Nat) :
  ∀fs:List Field,(∀f∈fs,f.offset<A.length/\f.offset<B.length/\P.underlying f.type=some .bool/\∃te,gA P f.type te/\te.kind.agg=false)->(Op.eqFields (d+1) xs.toArray ys.toArray fs).run P w=.ok true w
 | [],_=>by simp[Op.eqFields]
 | f::fs,h=>by
  obtain⟨h1,h2,h3,te,h4,h5⟩:=h f List.mem_cons_self;have ih:=nY hx hy cx cy hA hB d fs fun g hg=>h g (List.mem_cons_of_mem _ hg)
  unfold Op.eqFields;split
  ·simp only[Sem.run_bind,uQ h4 h5 hx cx (uP hA h1),uQ h4 h5 hy cy (uP hB h2),Result.andThen_ok,run_equalIn_bool' w d f.type false false h3]
   simpa using ih
  ·exact ih
theorem OS (hC:bt P C) {op:BinOp} {t t':TypeId} {x y:Operand} {A B:List Cell} (ho:o.op=.binOp op t x y t')
  (hx:aY β S w (.agg A) (a.eval x)) (hy:aY β S w (.agg B) (a.eval y)) (he:Ae C op t A B=some e):eM P β S a w o e:=by
 unfold Ae at he;split at he
 ·rename_i ti cB
  have dB:=iw (hC t ti cB);split at he
  ·rename_i fs hk
   split at he
   ·rename_i hc
    simp only[Bool.and_eq_true,List.all_eq_true,decide_eq_true_eq]at hc;obtain⟨⟨⟨hA,hB⟩,cY⟩,Eh⟩:=hc;obtain⟨xs,EM,OQ,Wf⟩:=hx.Ah;obtain⟨ys,R7,Wg,Wh⟩:=hy.Ah;obtain⟨fields,hu,Jy⟩:=dB.struct hk;have lF:∀f∈fields.toList,f.offset<A.length/\f.offset<B.length/\P.underlying f.type=some .bool/\∃te,gA P f.type te/\te.kind.agg=false:=fun f hf=>by
     have hm:(f.offset,f.type)∈fs:=by rw[<-Jy];exact List.mem_map.2 ⟨f,hf,rfl⟩
     obtain⟨⟨g1,g2⟩,g3⟩:=Eh _ hm;refine⟨g1,g2,?_⟩;split at g3
     ·rename_i te de
      have dS:=iw (hC _ te de);split at g3
      ·rename_i hkb
       exact⟨dS.bool hkb,te,dS,by rw[hkb];rfl⟩
      ·cases g3
     ·cases g3
    have Wi:fields.toList≠[]:=fun e=>by rw[e]at Jy;rw[<-Jy]at cY;simp at cY
    obtain⟨dC,hgt⟩:=dB.stb fields hu (fun f hf=>(lF f hf).2.2.1) Wi;have UX:P.fieldsOf t=fields:=by unfold Program.fieldsOf;rw[hu]
    have LM:=run_equalIn_struct (P:=P) w 9999 t xs.toArray ys.toArray (by rw[UX];exact hu) dC;rw[UX,nY OQ Wg Wf Wh hA hB 9998 fields.toList lF]at LM;have Ch:=run_eqGuard_agg (P:=P) w op t x y xs.toArray ys.toArray hgt;unfold s9 at he;split at he
    ·cases he
     refine⟨rfl,.bool true,?_,aY.rJ (Ek _)⟩;simp only[execOp,ho,EM,R7,Sem.run_bind,Ch,Sem.run_pure,Result.andThen,run_eql_struct,LM]
    ·cases he
     refine⟨rfl,.bool (!true),?_,aY.rJ (Ek _)⟩;simp only[execOp,ho,EM,R7,Sem.run_bind,Ch,Sem.run_pure,Result.andThen,run_neq_struct,LM]
    ·cases he
   ·cases he
  ·cases he
 ·cases he
theorem gW (w:World) (d:Nat) {t e:TypeId} {A:Addr} {n c:Nat} (h:P.underlying t=some (.slice e)):(Op.equalIn (d+1) t (.slice (some A) n c) (.slice none 0 0)).run P w=.ok false w:=by
 simp[Op.equalIn,run_underlying h]
theorem oH (w:World) (d:Nat) {t e:TypeId} {n c:Nat} (h:P.underlying t=some (.slice e)):(Op.equalIn (d+1) t (.slice none n c) (.slice none 0 0)).run P w=.ok true w:=by
 simp[Op.equalIn,run_underlying h]
theorem NO (hC:bt P C) {op:BinOp} {t t':TypeId} {x y:Operand} {A:Addr} {n c:Nat} (ho:o.op=.binOp op t x y t')
  (hx:a.eval x=.slice (some A) n c) (he:Gj C op t y=some e):eM P β S a w o e:=by
 unfold Gj at he;split at he
 ·split at he
  ·rename_i ti cB
   have dB:=iw (hC t ti cB);split at he
   ·rename_i el hk
    have hy:a.eval (.const (.slice none 0 0))=.slice none 0 0:=rfl;have hu:=dB.slice hk;have heq:(Op.equal t (.slice (some A) n c) (.slice none 0 0)).run P w=.ok false w:=by
     exact gW w 9999 hu
    unfold s9 at he;split at he
    ·cases he
     refine⟨rfl,.bool false,?_,aY.rJ (Ek _)⟩;simp[execOp,ho,hx,hy,eqGuard,binOp,heq,Result.andThen]
    ·cases he
     refine⟨rfl,.bool (!false),?_,aY.rJ (Ek _)⟩;simp[execOp,ho,hx,hy,eqGuard,binOp,heq,Result.andThen]
    ·cases he
   ·cases he
  ·cases he
 ·cases he
theorem OT (hC:bt P C) {op:BinOp} {t t':TypeId} {x y:Operand} {base:Option Addr} {n c:Nat} (ho:o.op=.binOp op t x y t')
  (hx:a.eval x=.slice base n c) (he:EG C op t y base=some e):eM P β S a w o e:=by
 unfold EG at he;split at he
 ·split at he
  ·rename_i ti cB
   have dB:=iw (hC t ti cB);split at he
   ·rename_i el hk
    have hy:a.eval (.const (.slice none 0 0))=.slice none 0 0:=rfl;have hu:=dB.slice hk;have heq:(Op.equal t (.slice base n c) (.slice none 0 0)).run P w=.ok base.isNone w:=by
     cases base with
     | some A=>exact gW w 9999 hu
     | none=>exact oH w 9999 hu
    unfold s9 at he;split at he
    ·cases he
     refine⟨rfl,.bool base.isNone,?_,aY.rJ (Ek _)⟩;simp[execOp,ho,hx,hy,eqGuard,binOp,heq,Result.andThen]
    ·cases he
     refine⟨rfl,.bool (!base.isNone),?_,aY.rJ (Ek _)⟩;simp[execOp,ho,hx,hy,eqGuard,binOp,heq,Result.andThen]
    ·cases he
   ·cases he
  ·cases he
 ·cases he
theorem Mh (hC:bt P C) (h:Sat K β S st a w) {op:BinOp} {t t':TypeId} {x y:Operand} (ho:o.op=.binOp op t x y t')
  (he:evalOp C slot st.get (look st.heap) (.binOp op t x y t')=some e):eM P β S a w o e:=by
 simp only[evalOp]at he;have hx:=h.get x;have hy:=h.get y;split at he
 ·rename_i b c Ak R9
  rw[Ak]at hx;rw[R9]at hy;obtain⟨hx,_⟩:=hx.scalar;obtain⟨hy,_⟩:=hy.scalar;split at he
  ·rename_i ti cB
   have dB:=iw (hC t ti cB);split at he
   ·rename_i hk
    cases he;refine⟨rfl,.bool (b==c),?_,aY.rJ (Ek _)⟩;simp only[execOp,ho,hx,hy,eqGuard_at_bool,Sem.run_bind,Sem.run_pure,Result.andThen,binOp,run_equal_bool w t b c (dB.bool hk)]
   ·rename_i hk
    cases he;refine⟨rfl,.bool (!(b==c)),?_,aY.rJ (Ek _)⟩;simp only[execOp,ho,hx,hy,eqGuard_at_bool,Sem.run_bind,Sem.run_pure,Result.andThen,binOp,run_equal_bool w t b c (dB.bool hk)]
   ·cases he
  ·cases he
 ·rename_i Ak
  rw[Ak]at hx;obtain⟨hx,_⟩:=hx.scalar;exact OT hC ho hx he
 ·rename_i b c _ _ Ak R9
  rw[Ak]at hx;rw[R9]at hy;obtain⟨hx,_⟩:=hx.scalar;obtain⟨hy,_⟩:=hy.scalar;obtain⟨v,hv,rfl⟩:=Option.map_eq_some_iff.1 he;obtain⟨h1,h2⟩:=Jx hv t x y P w;refine⟨rfl,v,?_,aY.rJ h2⟩;rw[<-hx,<-hy]at h1;simp only[execOp,ho,Sem.run_bind,Sem.run_pure,Result.andThen]at h1 ⊢;rw[h1]
 ·rename_i A B Ak R9
  rw[Ak]at hx;rw[R9]at hy;split at he
  ·rename_i e1 h1
   cases he;exact Mf hC ho hx hy h1
  ·exact OS hC ho hx hy he
 ·rename_i Ak
  rw[Ak]at hx;generalize dW:a.eval x=av at hx;cases hx with|c hx=>
  cases hx with|t hx=>
  cases hx with|aa _ _ base cb co af cap val h1 h2 h3 h4 h5=>
  obtain rfl:=h5 (by simp);exact NO hC ho dW he
 ·rename_i Ak
  rw[Ak]at hx;generalize dW:a.eval x=av at hx;cases hx with|c hx=>
  cases hx with|sl R base cap hR h1 h2 h3 h4 h5=>
  obtain rfl:=h5 (by omega);exact NO hC ho dW he
 ·cases he
theorem OV (h:Sat K β S st a w) {op:UnOp} {t:TypeId} {x:Operand} (ho:o.op=.unOp op t x)
  (he:evalOp C slot st.get (look st.heap) (.unOp op t x)=some e):eM P β S a w o e:=by
 simp only[evalOp]at he;have hx:=h.get x;split at he
 ·rename_i b Ak
  rw[Ak]at hx;obtain⟨hx,_⟩:=hx.scalar;obtain⟨v,hv,rfl⟩:=Option.map_eq_some_iff.1 he;unfold US at hv;split at hv
  ·cases hv
   exact⟨rfl,_,by simp[execOp,ho,hx,Op.unary,Op.intArith,Result.andThen],aY.rJ (Ej _ _)⟩
  ·cases hv
   exact⟨rfl,_,by simp[execOp,ho,hx,Op.unary,Result.andThen],aY.rJ (Ek _)⟩
  ·cases hv
 ·cases he
theorem Mi (hC:bt P C) (h:Sat K β S st a w) {t:TypeId} {x i:Operand} (ho:o.op=.index t x i)
  (he:evalOp C slot st.get (look st.heap) (.index t x i)=some e):eM P β S a w o e:=by
 simp only[evalOp]at he;have hx:=h.get x;have hi:=h.get i;split at he
 ·rename_i ti n cB hn
  have dB:=iw (hC t ti cB);obtain⟨k,Jv,_⟩:=hi.int hn;split at he
  ·rename_i len el l hk hg
   rw[hg]at hx;obtain⟨vs,dW,hlen,oF⟩:=hx.Ah;split at he
   ·rename_i te de
    have dS:=iw (hC _ te de);split at he
    ·rename_i hr
     obtain⟨v,hv,rfl⟩:=Option.map_eq_some_iff.1 he;obtain⟨u,h3,h4⟩:=pX (P:=P) (w:=w) dS hv hlen oF;refine⟨rfl,u,?_,h4⟩;simp only[execOp,ho,Instr.index,Jv,asIntOf,dW,Sem.run_bind,Sem.run_pure,Result.andThen,run_underlying (dB.array hk),if_pos hr,dS.sizeOf,h3]
    ·cases he
   ·cases he
  ·rename_i s hk hg
   rw[hg]at hx;obtain⟨hx,_⟩:=hx.scalar;split at he
   ·rename_i Me
    split at he
    ·rename_i b hb
     cases he;refine⟨rfl,.int .u8 b.toNat,?_,aY.rJ (Ej _ _)⟩;simp only[execOp,ho,Instr.index,Jv,asIntOf,hx,Sem.run_bind,Sem.run_pure,Result.andThen,run_underlying (dB.string hk),if_pos Me,hb]
    ·cases he
   ·cases he
  ·cases he
 ·cases he
theorem Sa (hC:bt P C) (h:Sat K β S st a w) {args:Array Operand} {argTypes:Array TypeId} {t:TypeId} {x:Operand} (ho:o.op=.call { callee:=.builtin .len,args,argTypes })
  (ha:args.toList=[x]) (ht:argTypes[0]?=some t) (he:nW C (look st.heap) t (st.get x)=some e):eM P β S a w o e:=by
 have hx:=h.get x;have dx:args=#[x]:=by rw[<-Array.toArray_toList (xs:=args),ha]
 subst dx;have cL:∀v,(Builtin.len_ argTypes o.type #[a.eval x]).run P w=.ok v w->(execOp a.eval o).run P w=.ok (.value v) w:=by
  intro v hv;simp only[execOp,ho,resolve,invoke,builtin,Sem.run_bind,Sem.run_pure,Result.andThen,List.map_toArray,List.map_cons,List.map_nil,hv]
 unfold nW at he;split at he
 ·cases he
 ·rename_i ti cB
  have dB:=iw (hC t ti cB);split at he
  ·rename_i el b off len cp hk hg
   cases he;rw[hg]at hx;cases hx with|c hx=>
   generalize dW:a.eval x=av at hx;cases hx with|sl R base cap hR h1 h2 h3 h4 h5=>
   refine⟨rfl,.int .i64 len,cL _ ?_,aY.rJ (Ej _ _)⟩;simp[Builtin.len_,ht,dW,run_underlying (dB.slice hk),Result.andThen,goInt]
  ·rename_i el cp rows hk hg
   cases he;rw[hg]at hx;cases hx with|c hx=>
   cases hx with|t hx=>
   generalize dW:a.eval x=av at hx;cases hx with|aa _ _ base cb co af cap val h1 h2 h3 h4 h5 NL h6 h7 h8=>
   refine⟨rfl,.int .i64 rows.length,cL _ ?_,aY.rJ (Ej _ _)⟩;simp[Builtin.len_,ht,dW,run_underlying (dB.slice hk),Result.andThen,goInt]
  ·rename_i s hk hg
   cases he;rw[hg]at hx;obtain⟨hx,_⟩:=hx.scalar;refine⟨rfl,.int .i64 s.size,cL _ ?_,aY.rJ (Ej _ _)⟩;simp[Builtin.len_,ht,hx,run_underlying (dB.string hk),Result.andThen,goInt]
  ·rename_i n el hk
   cases he;refine⟨rfl,.int .i64 n,cL _ ?_,aY.rJ (Ej _ _)⟩;simp[Builtin.len_,ht,run_underlying (dB.array hk),Result.andThen,goInt]
  ·rename_i k el b hk hg
   rw[hg]at hx;cases hx with|c hx=>
   generalize dW:a.eval x=av at hx;cases hx with|mp R hR=>
   split at he
   ·rename_i cF hb
    cases he;obtain⟨R',h6,h7,_⟩:=h.aR b _ hb;rw[hR]at h6;cases h6;obtain⟨_,es,clock,h8,h9,_⟩:=h7;refine⟨rfl,.int .i64 cF.length,cL _ ?_,aY.rJ (Ej _ _)⟩;simp[Builtin.len_,ht,dW,run_underlying (dB.map hk),Result.andThen,goInt,getObj,Sem.run,h8,h9]
   ·cases he
  ·cases he
theorem NP (h:Sat K β S st a w) {args:Array Operand} {argTypes:Array TypeId} {gt:Bool} {x y:Operand} (ho:o.op=.call { callee:=.builtin (if gt then .max else .min),args,argTypes })
  (ha:args.toList=[x,y]) (he:xI gt [st.get x,st.get y]=some e):eM P β S a w o e:=by
 have dx:args=#[x,y]:=by rw[<-Array.toArray_toList (xs:=args),ha]
 subst dx;unfold xI at he;split at he
 ·rename_i k p k' q heq
  simp only[List.cons.injEq,and_true]at heq;have hx:=h.get x;have hy:=h.get y;rw[heq.1]at hx;rw[heq.2]at hy;obtain⟨hx,_⟩:=hx.scalar;obtain⟨hy,_⟩:=hy.scalar;split at he
  ·cases he
   cases gt
   ·refine⟨rfl,_,?_,aY.rJ (Ej _ _)⟩
    simp[execOp,ho,resolve,invoke,builtin,Builtin.min_,hx,hy,Builtin.min2,Result.andThen]
   ·refine⟨rfl,_,?_,aY.rJ (Ej _ _)⟩
    simp[execOp,ho,resolve,invoke,builtin,Builtin.max_,hx,hy,Builtin.max2,Result.andThen]
  ·cases he
 ·cases he
end
theorem fS {α:Type} {rows:List (List α)} {l n i j:Nat} {t:α} (h:eJ ((rows.drop l).take n) i j=some t):i<n/\eJ rows (l+i) j=some t:=by
 obtain⟨row,h1,h2,_,_⟩:=ij h;rw[List.getElem?_take]at h1;split at h1
 ·rename_i hi
  rw[List.getElem?_drop]at h1;exact⟨hi,Eg h1 h2⟩
 ·cases h1
theorem qe {α:Type} {rows:List α} {l n:Nat} {r:α} (h:r∈(rows.drop l).take n):r∈rows:=
 List.mem_of_mem_drop (List.mem_of_mem_take h)
section
variable {P:Program} {w:World}
theorem iM {v:Value} {k:IntKind} {n:Int} (hv:v=.int k n) {y:Nat} (h0:0<=n) (h1:n<=y) (code:BoundsCode) :
  (Instr.sliceBound v y code).run P w=.ok n.toNat w:=by
 subst hv;simp[Instr.sliceBound,asIntOf,Result.andThen,h0,h1]
def eX (v:Option Value) (n:Option Int):Prop:=match v,n with
 | none,none=>True
 | some v,some n=>∃k,v=.int k n
 | _,_=>False
theorem fu {isSlice:Bool} {len cap:Nat} {lo hi mx:Option Value} {l:Int} {h m:Option Int}
  (LQ:eX lo (some l)∨(lo=none/\l=0)) (QZ:eX hi h) (Hg:eX mx m) (hm:m.isSome=true->h.isSome=true)
  (h0:0<=l) (h1:l<=h.getD len) (h2:h.getD len<=m.getD cap) (h3:m.getD cap<=cap) :
  (Instr.sliceBounds isSlice len cap lo hi mx).run P w=.ok (l.toNat,(h.getD len).toNat,(m.getD cap).toNat) w:=by
 have e0:(lo=none/\l=0)∨(∃v k,lo=some v/\v=Value.int k l):=by
  rcases LQ with LQ|h
  ·cases lo with
   | none=>exact LQ.elim
   | some v=>obtain⟨k,hk⟩:=LQ;exact .inr ⟨v,k,rfl,hk⟩
  ·exact .inl h
 clear LQ;unfold Instr.sliceBounds;cases mx with
 | none=>
  cases m with
  | some m=>exact Hg.elim
  | none=>
   simp only[Option.getD_none]at h2 h3;cases hi with
   | none=>
    cases h with
    | some h=>exact QZ.elim
    | none=>
     simp only[Option.getD_none]at h1 h2;rcases e0 with⟨rfl,rfl⟩|⟨v0,k0,rfl,LO⟩
     ·simp[Result.andThen]
     ·have e1:=iM (P:=P) (w:=w) (y:=len) LO h0 h1 BoundsCode.sliceB
      simp[Result.andThen,e1]
   | some v=>
    cases h with
    | none=>exact QZ.elim
    | some h=>
     obtain⟨k,hk⟩:=QZ;simp only[Option.getD_some]at h1 h2;have e2:=iM (P:=P) (w:=w) hk (by omega) h2 (if isSlice then BoundsCode.sliceAcap else BoundsCode.sliceAlen);rcases e0 with⟨rfl,rfl⟩|⟨v0,k0,rfl,LO⟩
     ·simp[Result.andThen,e2]
     ·have e1:=iM (P:=P) (w:=w) (y:=h.toNat) LO h0 (by omega) BoundsCode.sliceB
      simp[Result.andThen,e1,e2]
 | some vm=>
  cases m with
  | none=>exact Hg.elim
  | some m=>
   obtain⟨km,hkm⟩:=Hg;simp only[Option.getD_some]at h2 h3;cases hi with
   | none=>
    cases h with
    | some h=>exact QZ.elim
    | none=>simp at hm
   | some v=>
    cases h with
    | none=>exact QZ.elim
    | some h=>
     obtain⟨k,hk⟩:=QZ;simp only[Option.getD_some]at h1 h2;have e3:=iM (P:=P) (w:=w) hkm (by omega) h3 (if isSlice then BoundsCode.slice3Acap else BoundsCode.slice3Alen);have e2:=iM (P:=P) (w:=w) (y:=m.toNat) hk (by omega) (by omega) BoundsCode.slice3B;rcases e0 with⟨rfl,rfl⟩|⟨v0,k0,rfl,LO⟩
     ·simp[Result.andThen,e2,e3]
     ·have e1:=iM (P:=P) (w:=w) (y:=h.toNat) LO h0 (by omega) BoundsCode.slice3C
      simp[Result.andThen,e1,e2,e3]
theorem eX.of {β:Nat->Option bS} {S:Place} {K:Ctx} {st:St} {a:Act} (h:Sat K β S st a w) {x:Option Operand} {n:Option Int}
  (hx:(match x.map st.get with|none=>some none|some v=>v.int?.map some)=some n):eX (x.map a.eval) n:=by
 cases x with
 | none=>simp at hx;subst hx;trivial
 | some x=>
  simp only[Option.map_some]at hx;obtain⟨m,h1,rfl⟩:=Option.map_eq_some_iff.1 hx;obtain⟨k,h2,_⟩:=(h.get x).int h1;exact⟨k,h2⟩
theorem eX.low {β:Nat->Option bS} {S:Place} {K:Ctx} {st:St} {a:Act} (h:Sat K β S st a w) {x:Option Operand} {n:Int}
  (hx:(match x.map st.get with|none=>some 0|some v=>v.int?)=some n):eX (x.map a.eval) (some n)∨(x.map a.eval=none/\n=0):=by
 cases x with
 | none=>simp at hx;subst hx;exact .inr ⟨rfl,rfl⟩
 | some x=>
  simp only[Option.map_some]at hx;obtain⟨k,h2,_⟩:=(h.get x).int hx;exact .inl ⟨k,h2⟩
end
section
variable {P:Program} {C:dP} {K:Ctx} {β:Nat->Option bS} {S:Place} {st:St} {a:Act} {w:World} {slot:Nat} {e:bZ} {o:Oper}
theorem Mj (hC:bt P C) (h:Sat K β S st a w) {t:TypeId} {x:Operand} {lo hi mx:Option Operand} (ho:o.op=.slice t x lo hi mx) (LR:∀ti n el,C.ty t=some ti->ti.kind ≠ .array n el)
  (he:db C (look st.heap) t (st.get x) (lo.map st.get) (hi.map st.get) (mx.map st.get)=some e):eM P β S a w o e:=by
 unfold db at he;have hx:=h.get x;split at he
 ·cases he
 ·rename_i ti cB
  have dB:=iw (hC t ti cB);split at he
  ·rename_i l oI m hl hh hm
   have bl:=eX.low h hl;have bh:=eX.of h hh;have bm:=eX.of h hm;split at he
   ·rename_i s hk hg
    rw[hg]at hx;obtain⟨hx,_⟩:=hx.scalar;simp only at he;split at he
    ·rename_i hr
     obtain⟨r1,r2,r3,rfl⟩:=hr;cases he;have EN:mx.map a.eval=none:=by
      cases Hg:mx.map a.eval with
      | none=>rfl
      | some v=>rw[Hg]at bm;exact bm.elim
     have:=fu (P:=P) (w:=w) (isSlice:=false) (len:=s.size) (cap:=s.size) (mx:=none) (m:=none) bl bh trivial (by simp) r1 r2 (by simpa using r3) (by simp);refine⟨rfl,.string (s.extract l.toNat (oI.getD s.size).toNat),?_,aY.rJ (oG _)⟩;simp only[execOp,ho,Instr.sliceAt,Instr.slice,run_underlying (dB.string hk),Sem.run_bind,Sem.run_pure,Result.andThen,hx,EN,Option.isSome_none,Bool.false_eq_true,if_false,this]
    ·cases he
   ·rename_i el b off len cp hk hg
    rw[hg]at hx;cases hx with|c hx=>
    generalize dW:a.eval x=av at hx;cases hx with|sl R base cap hR h1 h2 h3 h4 h5=>
    simp only at he;split at he
    ·rename_i hr
     obtain⟨r1,r2,r3⟩:=hr;split at he
     ·rename_i sz rows g fz te hb de
      split at he
      ·rename_i eL
       obtain⟨q1,q2⟩:=eL;cases he;have dS:=iw (hC _ te de);obtain⟨R',h6,h7,_⟩:=h.aR b _ hb;rw[hR]at h6;cases h6;have EN:mx.map a.eval=none:=by
        cases Hg:mx.map a.eval with
        | none=>rfl
        | some v=>rw[Hg]at bm;exact bm.elim
       have dC:l.toNat*te.size=l.toNat*R.af:=by rw[<-q2,h7.1]
       have:=fu (P:=P) (w:=w) (isSlice:=true) (len:=len) (cap:=cap) (mx:=none) (m:=none) bl bh trivial (by simp) r1 r2 (by simp;omega) (by simp);refine⟨rfl,.slice (if cap=l.toNat then base else base.map (·.add (l.toNat*te.size))) ((oI.getD len).toNat-l.toNat) (cap-l.toNat),?_,.c (.sl R _ _ hR ?_ ?_ ?_ ?_ ?_)⟩
       ·simp only[execOp,ho,Instr.sliceAt,Instr.slice,run_underlying (dB.slice hk),Sem.run_bind,Sem.run_pure,Result.andThen,dW,EN,this,dS.sizeOf,Option.getD_none,Int.toNat_natCast]
       ·intro xe
        have:=q1 xe;have:=h1 xe;omega
       ·intro xe
        have:=h2 xe;omega
       ·omega
       ·omega
       ·intro h0
        rw[if_neg (by omega),h5 (by omega)];simp only[Option.map_some,Gl,dC,Nat.add_mul,Nat.add_assoc]
      ·cases he
     ·rename_i m' sz rows g fz te hb de
      split at he
      ·rename_i eL
       obtain⟨q0,q1,q2⟩:=eL;cases he;have dS:=iw (hC _ te de);obtain⟨R',h6,h7,_⟩:=h.aR b _ hb;rw[hR]at h6;cases h6;have dC:l.toNat*te.size=l.toNat*R.af:=by rw[<-q2,h7.1]
       have:=fu (P:=P) (w:=w) (isSlice:=true) (len:=len) (cap:=cap) bl bh bm (fun _=>q1) r1 r2 (by simp;omega) (by simp;omega);refine⟨rfl,.slice (if m'.toNat=l.toNat then base else base.map (·.add (l.toNat*te.size))) ((oI.getD len).toNat-l.toNat) (m'.toNat-l.toNat),?_,.c (.sl R _ _ hR ?_ ?_ ?_ ?_ ?_)⟩
       ·simp only[execOp,ho,Instr.sliceAt,Instr.slice,run_underlying (dB.slice hk),Sem.run_bind,Sem.run_pure,Result.andThen,dW,this,dS.sizeOf,Option.getD_some]
       ·intro _;omega
       ·simp
       ·omega
       ·omega
       ·intro h0
        rw[if_neg (by omega),h5 (by omega)];simp only[Option.map_some,Gl,dC,Nat.add_mul,Nat.add_assoc]
      ·cases he
     ·rename_i cells te hb de
      split at he
      ·rename_i eL
       obtain⟨q1,q2⟩:=eL;cases he;have dS:=iw (hC _ te de);obtain⟨R',h6,h7,_⟩:=h.aR b _ hb;rw[hR]at h6;cases h6;have EN:mx.map a.eval=none:=by
        cases Hg:mx.map a.eval with
        | none=>rfl
        | some v=>rw[Hg]at bm;exact bm.elim
       have dC:l.toNat*te.size=l.toNat*R.af:=by rw[q2,h7.1.2.1]
       have:=fu (P:=P) (w:=w) (isSlice:=true) (len:=len) (cap:=cap) (mx:=none) (m:=none) bl bh trivial (by simp) r1 r2 (by simp;omega) (by simp);refine⟨rfl,.slice (if cap=l.toNat then base else base.map (·.add (l.toNat*te.size))) ((oI.getD len).toNat-l.toNat) (cap-l.toNat),?_,.c (.sl R _ _ hR ?_ ?_ ?_ ?_ ?_)⟩
       ·simp only[execOp,ho,Instr.sliceAt,Instr.slice,run_underlying (dB.slice hk),Sem.run_bind,Sem.run_pure,Result.andThen,dW,EN,this,dS.sizeOf,Option.getD_none,Int.toNat_natCast]
       ·intro xe
        have:=q1 xe;have:=h1 xe;omega
       ·intro xe
        have:=h2 xe;omega
       ·omega
       ·omega
       ·intro h0
        rw[if_neg (by omega),h5 (by omega)];simp only[Option.map_some,Gl,dC,Nat.add_mul,Nat.add_assoc]
      ·cases he
     ·cases he
    ·cases he
   ·rename_i el cp rows hk hg
    rw[hg]at hx;cases hx with|c hx=>
    cases hx with|t hx=>
    generalize dW:a.eval x=av at hx;cases hx with|aa _ _ base cb co af cap val h1 h2 h3 h4 h5 NL h6 h7 h8=>
    simp only at he;split at he
    ·rename_i hr
     obtain⟨r1,r2,r3⟩:=hr;have dC:∀te:TI,(rows.all fun r=>r.length==te.size)=true->l.toNat*te.size=l.toNat*af:=by
      intro te q2;rcases Nat.eq_zero_or_pos l.toNat with h0|h0
      ·rw[h0];simp
      ·have qf:0<rows.length:=by omega
       cases oJ:rows with
       | nil=>rw[oJ]at qf;simp at qf
       | cons r0 rs=>
        have e1:=h6 r0 (by rw[oJ];simp);have e2:=List.all_eq_true.1 q2 r0 (by rw[oJ];simp);rw[beq_iff_eq]at e2;rw[<-e1,e2]
     have xK:((rows.drop l.toNat).take ((oI.getD rows.length).toNat-l.toNat)).length=(oI.getD rows.length).toNat-l.toNat:=by
      rw[List.length_take,List.length_drop];omega
     have key:∀(El:Bool) (m2:Nat) (te:TI),(rows.all fun r=>r.length==te.size)=true->(oI.getD rows.length).toNat<=m2->m2<=cap->(El=true->m2=(oI.getD rows.length).toNat) ->
       dF S w (.aa El ((rows.drop l.toNat).take ((oI.getD rows.length).toNat-l.toNat)))
        (.slice (if m2=l.toNat then base else base.map (·.add (l.toNat*te.size))) ((oI.getD rows.length).toNat-l.toNat) (m2-l.toNat)):=by
      intro El m2 te q2 xL Hh xe;have Hi:∀i j t,eJ ((rows.drop l.toNat).take ((oI.getD rows.length).toNat-l.toNat)) i j=some t->eJ rows (l.toNat+i) j=some t:=fun i j t ht=>(fS ht).2
      have EO:∀r,r∈((rows.drop l.toNat).take ((oI.getD rows.length).toNat-l.toNat))->r∈rows:=fun r hr=>qe hr
      generalize ((rows.drop l.toNat).take ((oI.getD rows.length).toNat-l.toNat))=rs at xK Hi EO ⊢;rw[<-xK];refine .aa El _ _ cb (co+l.toNat*af) af _ (fun i j=>val (l.toNat+i) j) ?_ ?_ ?_ ?_ ?_ ?_ ?_ ?_ ?_
      ·rw[xK];omega
      ·omega
      ·rw[xK];omega
      ·intro hh;rw[xK,xe hh]
      ·intro cY
       have:0<(oI.getD rows.length).toNat-l.toNat:=by rw[<-xK];exact List.length_pos_iff.2 cY
       have qf:0<rows.length:=by omega
       rw[if_neg (by omega),h5 (List.length_pos_iff.1 qf)];simp only[Option.map_some,Gl,dC te q2]
      ·intro hb
       split at hb
       ·rename_i Q0;omega
       ·simp at hb;have:=NL hb;omega
      ·intro r hr;exact h6 r (EO r hr)
      ·intro i j t ht
       have h9:=Hi _ _ _ ht;have:=h7 _ _ _ h9;rw[Nat.add_mul,<-Nat.add_assoc]at this;exact this
      ·intro i j t ht
       exact h8 _ _ _ (Hi _ _ _ ht)
     split at he
     ·rename_i te de
      split at he
      ·rename_i q2
       cases he;have dS:=iw (hC _ te de);have EN:mx.map a.eval=none:=by
        cases Hg:mx.map a.eval with
        | none=>rfl
        | some v=>rw[Hg]at bm;exact bm.elim
       have:=fu (P:=P) (w:=w) (isSlice:=true) (len:=rows.length) (cap:=cap) (mx:=none) (m:=none) bl bh trivial (by simp) r1 r2 (by simp;omega) (by simp);refine⟨rfl,_,?_,.c (.t (key _ cap te q2 (by omega) (by omega) ?_))⟩
       ·simp only[execOp,ho,Instr.sliceAt,Instr.slice,run_underlying (dB.slice hk),Sem.run_bind,Sem.run_pure,Result.andThen,dW,EN,this,dS.sizeOf,Option.getD_none,Int.toNat_natCast]
       ·intro xe
        simp only[Bool.and_eq_true,beq_iff_eq]at xe;rw[h4 xe.1,xe.2];simp
      ·cases he
     ·rename_i m' te de
      split at he
      ·rename_i eL
       obtain⟨q0,q1,q2⟩:=eL;cases he;have dS:=iw (hC _ te de);have:=fu (P:=P) (w:=w) (isSlice:=true) (len:=rows.length) (cap:=cap) bl bh bm (fun _=>q1) r1 r2 (by simp;omega) (by simp;omega);refine⟨rfl,_,?_,.c (.t (key _ m'.toNat te q2 (by omega) (by omega) (fun _=>by omega)))⟩;simp only[execOp,ho,Instr.sliceAt,Instr.slice,run_underlying (dB.slice hk),Sem.run_bind,Sem.run_pure,Result.andThen,dW,this,dS.sizeOf,Option.getD_some]
      ·cases he
     ·cases he
    ·cases he
   ·rename_i n el b r c hk hg
    exact absurd hk (LR ti n el cB)
   ·cases he
  ·cases he
theorem mapM_some {α γ:Type} {f:α->Option γ}:∀ {l:List α} {r:List γ},l.mapM f=some r->r.length=l.length/\∀(i:Nat) (y:γ),r[i]?=some y->∃x:α,l[i]?=some x/\f x=some y
 | [],r,h=>by simp at h;subst h;simp
 | x::l,r,h=>by
  rw[List.mapM_cons]at h;cases hx:f x with
  | none=>rw[hx]at h;cases h
  | some y=>
   cases hl:l.mapM f with
   | none=>rw[hx,hl]at h;cases h
   | some r'=>
    rw[hx,hl]at h;cases h;obtain⟨h1,h2⟩:=mapM_some hl;refine⟨by simp[h1],fun i z hz=>?_⟩;cases i with
    | zero=>simp at hz;subst hz;exact⟨x,rfl,hx⟩
    | succ i=>simpa using h2 i z (by simpa using hz)
theorem EP {h:Hp} {f:FuncId} {l:List (Nat×Nat×Nat)} {e:bZ} (he:rP h f l=some e):e.val=.c (.dj f l)/\eS h l=some e.wr:=by
 unfold rP at he;split at he
 ·rename_i ws hw;cases he;exact⟨rfl,hw⟩
 ·cases he
theorem Cw (h:Sat K β S st a w) {xs:List Operand} {l:List (Nat×Nat×Nat)} (hl:xs.mapM (fun x=>nX (st.get x))=some l) :
  (xs.map a.eval).length=l.length/\∀(i b r c:Nat),l[i]?=some (b,r,c)->∃R:bS,β b=some R/\(xs.map a.eval)[i]?=some (Value.pointer (some ⟨R.cb,R.co+r*R.af+c,none⟩)):=by
 obtain⟨h1,h2⟩:=mapM_some hl;refine⟨by simp;exact h1.symm,fun i b r c hi=>?_⟩;obtain⟨x,hx,Q1⟩:=h2 i _ hi;have hr:=h.get x;unfold nX at Q1;split at Q1
 ·rename_i b' r' c' hg
  cases Q1;rw[hg]at hr;cases hr with|c hr=>
  generalize dW:a.eval x=av at hr;cases hr with|ptr R hR=>
  exact⟨R,hR,by rw[List.getElem?_map,hx,Option.map_some,dW]⟩
 ·cases Q1
theorem ER (h:Sat K β S st a w) {f:FuncId} {first a8:Array Operand} (ho:o.op=.makeFunc (.func f) first a8)
  (he:evalOp C slot st.get (look st.heap) (.makeFunc (.func f) first a8)=some e) :
  ∃g l v,e.val=.c (.dj g l)/\(eS (look st.heap) l=some e.wr∨e.wr=[])/\(execOp a.eval o).run P w=.ok (.value v) w/\aY β S w (.c (.dj g l)) v:=by
 simp only[evalOp]at he;split at he
 ·rename_i hf
  have Md:first=#[]:=Array.eq_empty_of_size_eq_zero hf
  subst Md;split at he
  ·rename_i l hb hl
   obtain⟨ev,ew⟩:=EP he;obtain⟨h1,h2⟩:=Cw h hl;refine⟨f,l,jB f (a8.toList.map a.eval),ev,.inl ew,?_,.c (.dj _ h1 h2)⟩;have:Array.map a.eval a8=(List.map a.eval a8.toList).toArray:=by apply Array.ext';simp
   rw[xG hb];simp[execOp,ho,Instr.makeFunc,Result.andThen,this]
  ·cases he
 ·split at he
  ·rename_i l hb hl
   cases he;have UY:a8=#[]:=Array.eq_empty_of_size_eq_zero hb;subst UY;obtain⟨h1,h2⟩:=Cw h hl;refine⟨f+nC,l,jB (f+nC) (first.toList.map a.eval),rfl,.inr rfl,?_,.c (.dj _ h1 h2)⟩;have:Array.map a.eval first=(List.map a.eval first.toList).toArray:=by apply Array.ext';simp
   rw[EE];simp[execOp,ho,Instr.makeFunc,Result.andThen,this]
  ·cases he
theorem oK {kd:TypeDesc} {key k:Value} {b:Bool} (hk:(∃q,kd=.int q)∨kd=.string∨kd=.bool) (h:sameKey key k=some b)
  (hi:∀q,kd=.int q->∃q' n,key=.int q' n) (hs:kd=.string->∃n,key=.string n) (hb:kd=.bool->∃n,key=.bool n):Instr.sameNow kd key k=some b:=by
 rcases hk with⟨q,rfl⟩|rfl|rfl
 ·obtain⟨q',n,rfl⟩:=hi q rfl
  cases k<;>simp_all[sameKey,Instr.sameNow]
 ·obtain⟨n,rfl⟩:=hs rfl
  cases k<;>simp_all[sameKey,Instr.sameNow]
 ·obtain⟨n,rfl⟩:=hb rfl
  cases k<;>simp_all[sameKey,Instr.sameNow]
theorem tc {tk:TI} {k:TypeId} (dB:gA P k tk) {key:Value} (hf:iE tk.kind key=true) :
  ∃kd,P.underlying k=some kd/\(∀x b,sameKey key x=some b->Instr.sameNow kd key x=some b)/\∀em n w,(Instr.checkKey em (n+1) k key).run P w=.ok () w:=by
 unfold iE at hf;split at hf
 ·rename_i q q' n hq
  have hu:=dB.int hq;refine⟨_,hu,fun x b hx=>oK (.inl ⟨_,rfl⟩) hx (fun _ _=>⟨_,_,rfl⟩) (by simp) (by simp),fun em n w=>by simp[Instr.checkKey,run_underlying hu,Result.andThen]⟩
 ·rename_i q hq
  have hu:=dB.string hq;refine⟨_,hu,fun x b hx=>oK (.inr (.inl rfl)) hx (by simp) (fun _=>⟨_,rfl⟩) (by simp),fun em n w=>by simp[Instr.checkKey,run_underlying hu,Result.andThen]⟩
 ·rename_i q hq
  have hu:=dB.bool hq;refine⟨_,hu,fun x b hx=>oK (.inr (.inr rfl)) hx (by simp) (by simp) (fun _=>⟨_,rfl⟩),fun em n w=>by simp[Instr.checkKey,run_underlying hu,Result.andThen]⟩
 ·cases hf
theorem l9 {kd:TypeDesc} {key:Value} (hs:∀x b,sameKey key x=some b->Instr.sameNow kd key x=some b) :
  ∀(cF:List (Value×Tree)) (es:List MapEntry) (i:Nat) (r:Option Tree),cJ key cF=some r->es.length=cF.length ->
  (∀(i:Nat) (k:Value) (t:Tree),cF[i]?=some (k,t)->∃e:MapEntry,es[i]?=some e/\e.key=k/\dF S w t e.val) ->
  (match r with
   | none=>Instr.findNow kd key es i=some none
   | some t=>∃(j:Nat) (e:MapEntry),Instr.findNow kd key es i=some (some (i+j,e.val))/\es[j]?=some e/\dF S w t e.val)
 | [],es,i,r,h,hl,_=>by
  simp[cJ]at h;subst h;have:es=[]:=List.eq_nil_of_length_eq_zero (by simpa using hl);subst this;simp[Instr.findNow]
 | (k,t)::cF,[],_,_,_,hl,_=>by simp at hl
 | (k,t)::cF,e::es,i,r,h,hl,hr=>by
  obtain⟨e',OW,Hj,de⟩:=hr 0 k t rfl;simp at OW;subst OW;unfold cJ at h;simp only at h;split at h
  ·rename_i I0
   cases h;have:=hs _ _ I0;refine⟨0,e,?_,rfl,de⟩;simp[Instr.findNow,Hj,this]
  ·rename_i I0
   have hn:=hs _ _ I0;have ih:=l9 hs cF es (i+1) r h (by simpa using hl) (fun j k' t' hj=>by simpa using hr (j+1) k' t' (by simpa using hj));cases r with
   | none=>simp only[Instr.findNow,Hj,hn];exact ih
   | some t0=>
    obtain⟨j,e0,h1,h2,h3⟩:=ih;exact⟨j+1,e0,by simp only[Instr.findNow,Hj,hn];rw[h1];congr 3;omega,by simpa using h2,h3⟩
  ·cases h
theorem Jz (hC:bt P C) (h:Sat K β S st a w) {t:TypeId} {x i:Operand} {ok:Bool} (ho:o.op=.lookup t x i ok)
  (he:evalOp C slot st.get (look st.heap) (.lookup t x i ok)=some e):eM P β S a w o e:=by
 simp only[evalOp]at he;have hx:=h.get x;have hi:=h.get i;split at he
 ·rename_i ti cB
  have dB:=iw (hC t ti cB);split at he
  ·rename_i k el b key hk Ak I1
   rw[Ak]at hx;rw[I1]at hi;obtain⟨hi,_⟩:=hi.scalar;cases hx with|c hx=>
   generalize dW:a.eval x=av at hx;cases hx with|mp R hR=>
   split at he
   ·rename_i cF tk te hb il de
    have OX:=iw (hC _ tk il);have dS:=iw (hC _ te de);obtain⟨R',h6,h7,_⟩:=h.aR b _ hb;rw[hR]at h6;cases h6;obtain⟨_,es,clock,h8,h9,Gm⟩:=h7;split at he
    ·cases he
    ·rename_i jP
     simp only[Bool.or_eq_true,Bool.not_eq_true',not_or,Bool.not_eq_false,Bool.not_eq_true]at jP;obtain⟨Wj,Sb⟩:=jP;obtain⟨kd,UZ,Mk,Al⟩:=tc OX Wj;have iF:(getObj R.cb).run P w=.ok (.map es clock) w:=by simp[getObj,Sem.run,h8]
     have Ml:=Al es.isEmpty 9999 w;have cL:∀(v:Value) (b:Bool),(match(Instr.findNow kd key es.toList 0) with
       | some (some (_,u))=>v=u/\b=true
       | some none=>(zeroValue el).run P w=.ok v w/\b=false
       | none=>False)->(execOp a.eval o).run P w=.ok (.value (if ok then .tuple #[v,.bool b] else v)) w:=by
      intro v b hv;simp only[execOp,ho,Instr.lookup,run_underlying (dB.map hk),dW,hi,Sem.run_bind,Sem.run_pure,Result.andThen,iF,Ml,Instr.findKey,run_underlying UZ];split at hv
      ·rename_i iN
       obtain⟨rfl,rfl⟩:=hv;simp only[iN,Sem.run_pure,Sem.run_bind,Result.andThen]
      ·rename_i iN
       obtain⟨hz,rfl⟩:=hv;simp only[iN,Sem.run_pure,Sem.run_bind,Result.andThen,hz]
      ·exact hv.elim
     split at he
     ·rename_i tt Cg
      cases he;obtain⟨j,en,Mm,ug,U8⟩:=l9 (S:=S) (w:=w) Mk cF es.toList 0 _ Cg (by simpa using h9) (fun i k t hi=>by obtain⟨e,a,b⟩:=Gm i k t hi;exact⟨e,by simpa using a,b⟩);refine⟨rfl,_,cL en.val true (by rw[Mm];exact⟨rfl,rfl⟩),?_⟩;cases ok
      ·exact .c (.t U8)
      ·refine .oD [en.val,.bool true] (fun i=>[en.val,.bool true].getD i undef) rfl (fun i y hy=>?_) fun i y hy=>?_
       ·match i with
        | 0=>rfl
        | 1=>rfl
        | i+2=>simp at hy
       ·match i with
        | 0=>simp at hy;subst hy;exact .c (.t U8)
        | 1=>simp at hy;subst hy;exact aY.rJ (Ek _)
        | i+2=>simp at hy
     ·rename_i z Cg hz
      cases he;have Mm:=l9 (S:=S) (w:=w) Mk cF es.toList 0 _ Cg (by simpa using h9) (fun i k t hi=>by obtain⟨e,a,b⟩:=Gm i k t hi;exact⟨e,by simpa using a,b⟩);obtain⟨zv,Sc,hz2,hz3,hz4,hz5⟩:=dS.zeroValue w S;obtain⟨v0,OY,ES⟩:=hz3 0 z (by rw[hz];rfl);rw[rR (hz4 Sb)]at OY;simp at OY;subst OY;refine⟨rfl,_,cL zv false (by rw[Mm];exact⟨Sc,rfl⟩),?_⟩;cases ok
      ·exact .c (.t ES)
      ·refine .oD [zv,.bool false] (fun i=>[zv,.bool false].getD i undef) rfl (fun i y hy=>?_) fun i y hy=>?_
       ·match i with
        | 0=>rfl
        | 1=>rfl
        | i+2=>simp at hy
       ·match i with
        | 0=>simp at hy;subst hy;exact .c (.t ES)
        | 1=>simp at hy;subst hy;exact aY.rJ (Ek _)
        | i+2=>simp at hy
     ·cases he
   ·cases he
  ·cases he
 ·cases he
end
end Go.Abs
end
