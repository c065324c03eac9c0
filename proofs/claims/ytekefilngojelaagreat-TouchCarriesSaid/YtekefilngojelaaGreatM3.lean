/- A part. -/
import Derived.Laws.Small
import Derived.Test.YtekefilngojelaaGreatM1
import Derived.Test.YtekefilngojelaaGreatM2
set_option maxHeartbeats 0
set_option maxRecDepth 100000
set_option linter.unusedVariables false
set_option linter.unusedSimpArgs false
set_option linter.unusedSectionVars false
section
namespace Go.Abs
section
variable {P:Program} {C:eA} {K:Ctx} {β:Nat->Option bZ} {S:Place} {st:St} {a:Act} {w:World} {slot:Nat} {e:cR} {o:Oper}
theorem GB (k:IntKind) (n:Int):one (.int k n):=fun l=>by simp
theorem GC (b:Bool):one (.bool b):=fun l=>by simp
theorem pQ (b:ByteArray):one (.string b):=fun l=>by simp
theorem LU {op : BinOp} {x y v : Value} (h : JF op x y = some v) (t : TypeId) (u z : Operand) (P : Program) (w : World) :
    (do eqGuard op t u z x y;binOp op t x y : Sem Value).run P w = .ok v w /\ one v := by
  unfold JF at h;split at h
  · rename_i k a k' b
    rw[eqGuard_at_int];split at h
    · split at h
      · cases h
      · rename_i hb;cases h
        refine⟨?_, GB _ _⟩;simp only[Sem.run_bind, Sem.run_pure, Result.andThen, binOp_shl, Op.shift, if_neg hb]
    · split at h
      · cases h
      · rename_i hb;cases h
        refine⟨?_, GB _ _⟩;simp only[Sem.run_bind, Sem.run_pure, Result.andThen, binOp_shr, Op.shift, if_neg hb]
    · split at h
      · rename_i hk
        subst hk;split at h
        all_goals first
          | (cases h
             refine⟨?_, by first|exact GB _ _|exact GC _⟩;simp only[Sem.run_bind, Sem.run_pure, Result.andThen, binOp_add, binOp_sub, binOp_mul, binOp_and, binOp_or, binOp_xor, binOp_andNot, binOp_eql, binOp_neq, binOp_lss, binOp_leq, binOp_gtr, binOp_geq, Op.intArith, Op.intBits]
             done)
          | (split at h
             · cases h
             · rename_i hb;cases h
               refine⟨?_, GB _ _⟩;simp only[Sem.run_bind, Sem.run_pure, Result.andThen, binOp_quo, binOp_rem, Op.intDiv, if_neg hb])
          | (cases h;done)
      · cases h
  · rename_i a b
    rw[eqGuard_at_string];split at h
    · cases h;exact⟨by simp[binOp, Op.stringOp], GC _⟩
    · cases h;exact⟨by simp[binOp, Op.stringOp], GC _⟩
    · cases h
  · cases h
theorem OH (hC:bC P C) {op:BinOp} {t t':TypeId} {x y:Operand} {A B:List Cell} (ho:o.op=.binOp op t x y t')
  (hx:aI β S w (.agg A) (a.eval x)) (hy:aI β S w (.agg B) (a.eval y)) (he:vw C op t (kj A B) A.length B.length=some e):fw P β S a w o e:=by
 unfold vw at he;split at he
 ·rename_i ti cZ
  have dQ:=jh (hC t ti cZ);split at he
  ·rename_i len el hk
   split at he
   ·rename_i te dx
    have eI:=jh (hC _ te dx);split at he
    ·rename_i k0 Of
     split at he
     ·rename_i hc
      obtain⟨ji,hn,hm⟩:=hc;obtain⟨r,hr,he⟩:=Option.bind_eq_some_iff.1 he;obtain⟨xs,G4,RP,Zu⟩:=hx.Cp;obtain⟨ys,U9,Zv,Zw⟩:=hy.Cp;obtain⟨i,OI,RQ,_⟩:=eI.info;have v8:P.cellsOf el=1:=by unfold Program.cellsOf;rw[OI];simp[RQ,ji]
      have di:=vZ eI (by rw[Of];rfl) (eI.int Of) RP Zv Zu Zw 9998 A B 0 r (by simp) (by simp) hr;have Oe:=run_equalIn_array (P:=P) w 9999 xs.toArray ys.toArray (dQ.array hk) OI;rw[v8,List.range_eq_range',<-hn,di]at Oe;have Eb:=run_eqGuard_agg (P:=P) w op t x y xs.toArray ys.toArray (dQ.guard _ _ (dQ.array hk));unfold uy at he;split at he
      ·cases he
       refine⟨rfl,.bool r,?_,aI.sU (GC _)⟩;simp only[execOp,ho,G4,U9,Sem.run_bind,Eb,Sem.run_pure,Result.andThen,run_eql_struct,Oe]
      ·cases he
       refine⟨rfl,.bool (!r),?_,aI.sU (GC _)⟩;simp only[execOp,ho,G4,U9,Sem.run_bind,Eb,Sem.run_pure,Result.andThen,run_neq_struct,Oe]
      ·cases he
     ·cases he
    ·cases he
   ·cases he
  ·cases he
 ·cases he
theorem wa:∀ {A:List Cell},GW A=true->∀ {i:Nat},i<A.length->A[i]?=some (.t (.v (.bool false)))
 | [],_,i,hi=>by simp at hi
 | c::A,h,i,hi=>by
  unfold GW at h;split at h
  ·rename_i heq;cases heq
  ·rename_i xs heq
   cases heq;cases i with
   | zero=>rfl
   | succ i=>exact wa h (by simpa using hi)
  ·cases h
theorem wb {e:TypeId} {te:TI} (dx:g9 P e te) (ha:te.kind.agg=false) {A:List Cell} {vs:List Value} (hlen:vs.length=A.length)
  (hc:∀(j:Nat) (y:Cell),A[j]?=some y->∃v,vs[j]?=some v/\dv β S w y v) {i:Nat} (hi:A[i]?=some (.t (.v (.bool false)))) :
  (part e vs.toArray i).run P w=.ok (.bool false) w:=by
 have hg:dn te A i=some (.c (.t (.v (.bool false)))):=by unfold dn;rw[if_neg (by simp[ha]),hi];rfl
 obtain⟨v,h1,h2⟩:=qY (P:=P) (w:=w) dx hg hlen hc;rw[h1,h2.scalar.1]
theorem pg {A B:List Cell} {xs ys:List Value} (hx:xs.length=A.length) (hy:ys.length=B.length)
  (cx:∀(j:Nat) (y:Cell),A[j]?=some y->∃v,xs[j]?=some v/\dv β S w y v) (cy:∀(j:Nat) (y:Cell),B[j]?=some y->∃v,ys[j]?=some v/\dv β S w y v)
  (hA:GW A=true) (hB:GW B=true) (d:Nat) :
  ∀fs:List Field,(∀f∈fs,f.offset<A.length/\f.offset<B.length/\P.underlying f.type=some .bool/\∃te,g9 P f.type te/\te.kind.agg=false)->(Op.eqFields (d+1) xs.toArray ys.toArray fs).run P w=.ok true w
 | [],_=>by simp[Op.eqFields]
 | f::fs,h=>by
  obtain⟨h1,h2,h3,te,h4,h5⟩:=h f List.mem_cons_self;have ih:=pg hx hy cx cy hA hB d fs fun g hg=>h g (List.mem_cons_of_mem _ hg)
  unfold Op.eqFields;split
  ·simp only[Sem.run_bind,wb h4 h5 hx cx (wa hA h1),wb h4 h5 hy cy (wa hB h2),Result.andThen_ok,run_equalIn_bool' w d f.type false false h3]
   simpa using ih
  ·exact ih
theorem RR (hC:bC P C) {op:BinOp} {t t':TypeId} {x y:Operand} {A B:List Cell} (ho:o.op=.binOp op t x y t')
  (hx:aI β S w (.agg A) (a.eval x)) (hy:aI β S w (.agg B) (a.eval y)) (he:Cm C op t A B=some e):fw P β S a w o e:=by
 unfold Cm at he;split at he
 ·rename_i ti cZ
  have dQ:=jh (hC t ti cZ);split at he
  ·rename_i fs hk
   split at he
   ·rename_i hc
    simp only[Bool.and_eq_true,List.all_eq_true,decide_eq_true_eq]at hc;obtain⟨⟨⟨hA,hB⟩,dh⟩,Gz⟩:=hc;obtain⟨xs,G4,RP,Zu⟩:=hx.Cp;obtain⟨ys,U9,Zv,Zw⟩:=hy.Cp;obtain⟨fields,hu,LV⟩:=dQ.struct hk;have jA:∀f∈fields.toList,f.offset<A.length/\f.offset<B.length/\P.underlying f.type=some .bool/\∃te,g9 P f.type te/\te.kind.agg=false:=fun f hf=>by
     have hm:(f.offset,f.type)∈fs:=by rw[<-LV];exact List.mem_map.2 ⟨f,hf,rfl⟩
     obtain⟨⟨g1,g2⟩,g3⟩:=Gz _ hm;refine⟨g1,g2,?_⟩;split at g3
     ·rename_i te dx
      have eI:=jh (hC _ te dx);split at g3
      ·rename_i hkb
       exact⟨eI.bool hkb,te,eI,by rw[hkb];rfl⟩
      ·cases g3
     ·cases g3
    have Zx:fields.toList≠[]:=fun e=>by rw[e]at LV;rw[<-LV]at dh;simp at dh
    obtain⟨dR,hgt⟩:=dQ.stb fields hu (fun f hf=>(jA f hf).2.2.1) Zx;have XJ:P.fieldsOf t=fields:=by unfold Program.fieldsOf;rw[hu]
    have Oe:=run_equalIn_struct (P:=P) w 9999 t xs.toArray ys.toArray (by rw[XJ];exact hu) dR;rw[XJ,pg RP Zv Zu Zw hA hB 9998 fields.toList jA]at Oe;have Eb:=run_eqGuard_agg (P:=P) w op t x y xs.toArray ys.toArray hgt;unfold uy at he;split at he
    ·cases he
     refine⟨rfl,.bool true,?_,aI.sU (GC _)⟩;simp only[execOp,ho,G4,U9,Sem.run_bind,Eb,Sem.run_pure,Result.andThen,run_eql_struct,Oe]
    ·cases he
     refine⟨rfl,.bool (!true),?_,aI.sU (GC _)⟩;simp only[execOp,ho,G4,U9,Sem.run_bind,Eb,Sem.run_pure,Result.andThen,run_neq_struct,Oe]
    ·cases he
   ·cases he
  ·cases he
 ·cases he
theorem iR (w:World) (d:Nat) {t e:TypeId} {A:Addr} {n c:Nat} (h:P.underlying t=some (.slice e)):(Op.equalIn (d+1) t (.slice (some A) n c) (.slice none 0 0)).run P w=.ok false w:=by
 simp[Op.equalIn,run_underlying h]
theorem pR (w:World) (d:Nat) {t e:TypeId} {n c:Nat} (h:P.underlying t=some (.slice e)):(Op.equalIn (d+1) t (.slice none n c) (.slice none 0 0)).run P w=.ok true w:=by
 simp[Op.equalIn,run_underlying h]
theorem QL (hC:bC P C) {op:BinOp} {t t':TypeId} {x y:Operand} {A:Addr} {n c:Nat} (ho:o.op=.binOp op t x y t')
  (hx:a.eval x=.slice (some A) n c) (he:IC C op t y=some e):fw P β S a w o e:=by
 unfold IC at he;split at he
 ·split at he
  ·rename_i ti cZ
   have dQ:=jh (hC t ti cZ);split at he
   ·rename_i el hk
    have hy:a.eval (.const (.slice none 0 0))=.slice none 0 0:=rfl;have hu:=dQ.slice hk;have heq:(Op.equal t (.slice (some A) n c) (.slice none 0 0)).run P w=.ok false w:=by
     exact iR w 9999 hu
    unfold uy at he;split at he
    ·cases he
     refine⟨rfl,.bool false,?_,aI.sU (GC _)⟩;simp[execOp,ho,hx,hy,eqGuard,binOp,heq,Result.andThen]
    ·cases he
     refine⟨rfl,.bool (!false),?_,aI.sU (GC _)⟩;simp[execOp,ho,hx,hy,eqGuard,binOp,heq,Result.andThen]
    ·cases he
   ·cases he
  ·cases he
 ·cases he
theorem RS (hC:bC P C) {op:BinOp} {t t':TypeId} {x y:Operand} {base:Option Addr} {n c:Nat} (ho:o.op=.binOp op t x y t')
  (hx:a.eval x=.slice base n c) (he:GX C op t y base=some e):fw P β S a w o e:=by
 unfold GX at he;split at he
 ·split at he
  ·rename_i ti cZ
   have dQ:=jh (hC t ti cZ);split at he
   ·rename_i el hk
    have hy:a.eval (.const (.slice none 0 0))=.slice none 0 0:=rfl;have hu:=dQ.slice hk;have heq:(Op.equal t (.slice base n c) (.slice none 0 0)).run P w=.ok base.isNone w:=by
     cases base with
     | some A=>exact iR w 9999 hu
     | none=>exact pR w 9999 hu
    unfold uy at he;split at he
    ·cases he
     refine⟨rfl,.bool base.isNone,?_,aI.sU (GC _)⟩;simp[execOp,ho,hx,hy,eqGuard,binOp,heq,Result.andThen]
    ·cases he
     refine⟨rfl,.bool (!base.isNone),?_,aI.sU (GC _)⟩;simp[execOp,ho,hx,hy,eqGuard,binOp,heq,Result.andThen]
    ·cases he
   ·cases he
  ·cases he
 ·cases he
theorem OJ (hC:bC P C) (h:Sat K β S st a w) {op:BinOp} {t t':TypeId} {x y:Operand} (ho:o.op=.binOp op t x y t')
  (he:evalOp C slot st.get (look st.heap) (.binOp op t x y t')=some e):fw P β S a w o e:=by
 simp only[evalOp]at he;have hx:=h.get x;have hy:=h.get y;split at he
 ·rename_i b c Cs Va
  rw[Cs]at hx;rw[Va]at hy;obtain⟨hx,_⟩:=hx.scalar;obtain⟨hy,_⟩:=hy.scalar;split at he
  ·rename_i ti cZ
   have dQ:=jh (hC t ti cZ);split at he
   ·rename_i hk
    cases he;refine⟨rfl,.bool (b==c),?_,aI.sU (GC _)⟩;simp only[execOp,ho,hx,hy,eqGuard_at_bool,Sem.run_bind,Sem.run_pure,Result.andThen,binOp,run_equal_bool w t b c (dQ.bool hk)]
   ·rename_i hk
    cases he;refine⟨rfl,.bool (!(b==c)),?_,aI.sU (GC _)⟩;simp only[execOp,ho,hx,hy,eqGuard_at_bool,Sem.run_bind,Sem.run_pure,Result.andThen,binOp,run_equal_bool w t b c (dQ.bool hk)]
   ·cases he
  ·cases he
 ·rename_i Cs
  rw[Cs]at hx;obtain⟨hx,_⟩:=hx.scalar;exact RS hC ho hx he
 ·rename_i b c _ _ Cs Va
  rw[Cs]at hx;rw[Va]at hy;obtain⟨hx,_⟩:=hx.scalar;obtain⟨hy,_⟩:=hy.scalar;obtain⟨v,hv,rfl⟩:=Option.map_eq_some_iff.1 he;obtain⟨h1,h2⟩:=LU hv t x y P w;refine⟨rfl,v,?_,aI.sU h2⟩;rw[<-hx,<-hy]at h1;simp only[execOp,ho,Sem.run_bind,Sem.run_pure,Result.andThen]at h1 ⊢;rw[h1]
 ·rename_i A B Cs Va
  rw[Cs]at hx;rw[Va]at hy;split at he
  ·rename_i e1 h1
   cases he;exact OH hC ho hx hy h1
  ·exact RR hC ho hx hy he
 ·rename_i Cs
  rw[Cs]at hx;generalize eL:a.eval x=av at hx;cases hx with|c hx=>
  cases hx with|t hx=>
  cases hx with|aa _ _ base cb co ah cap val h1 h2 h3 h4 h5=>
  obtain rfl:=h5 (by simp);exact QL hC ho eL he
 ·rename_i Cs
  rw[Cs]at hx;generalize eL:a.eval x=av at hx;cases hx with|c hx=>
  cases hx with|sl R base cap hR h1 h2 h3 h4 h5=>
  obtain rfl:=h5 (by omega);exact QL hC ho eL he
 ·cases he
theorem RT (h:Sat K β S st a w) {op:UnOp} {t:TypeId} {x:Operand} (ho:o.op=.unOp op t x)
  (he:evalOp C slot st.get (look st.heap) (.unOp op t x)=some e):fw P β S a w o e:=by
 simp only[evalOp]at he;have hx:=h.get x;split at he
 ·rename_i b Cs
  rw[Cs]at hx;obtain⟨hx,_⟩:=hx.scalar;obtain⟨v,hv,rfl⟩:=Option.map_eq_some_iff.1 he;unfold XH at hv;split at hv
  ·cases hv
   exact⟨rfl,_,by simp[execOp,ho,hx,Op.unary,Op.intArith,Result.andThen],aI.sU (GB _ _)⟩
  ·cases hv
   exact⟨rfl,_,by simp[execOp,ho,hx,Op.unary,Result.andThen],aI.sU (GC _)⟩
  ·cases hv
 ·cases he
theorem OK (hC:bC P C) (h:Sat K β S st a w) {t:TypeId} {x i:Operand} (ho:o.op=.index t x i)
  (he:evalOp C slot st.get (look st.heap) (.index t x i)=some e):fw P β S a w o e:=by
 simp only[evalOp]at he;have hx:=h.get x;have hi:=h.get i;split at he
 ·rename_i ti n cZ hn
  have dQ:=jh (hC t ti cZ);obtain⟨k,LR,_⟩:=hi.int hn;split at he
  ·rename_i len el l hk hg
   rw[hg]at hx;obtain⟨vs,eL,hlen,pP⟩:=hx.Cp;split at he
   ·rename_i te dx
    have eI:=jh (hC _ te dx);split at he
    ·rename_i hr
     obtain⟨v,hv,rfl⟩:=Option.map_eq_some_iff.1 he;obtain⟨u,h3,h4⟩:=qY (P:=P) (w:=w) eI hv hlen pP;refine⟨rfl,u,?_,h4⟩;simp only[execOp,ho,Instr.index,LR,asIntOf,eL,Sem.run_bind,Sem.run_pure,Result.andThen,run_underlying (dQ.array hk),if_pos hr,eI.sizeOf,h3]
    ·cases he
   ·cases he
  ·rename_i s hk hg
   rw[hg]at hx;obtain⟨hx,_⟩:=hx.scalar;split at he
   ·rename_i JH
    split at he
    ·rename_i b hb
     cases he;refine⟨rfl,.int .u8 b.toNat,?_,aI.sU (GB _ _)⟩;simp only[execOp,ho,Instr.index,LR,asIntOf,hx,Sem.run_bind,Sem.run_pure,Result.andThen,run_underlying (dQ.string hk),if_pos JH,hb]
    ·cases he
   ·cases he
  ·cases he
 ·cases he
theorem Vb (hC:bC P C) (h:Sat K β S st a w) {args:Array Operand} {argTypes:Array TypeId} {t:TypeId} {x:Operand} (ho:o.op=.call { callee:=.builtin .len,args,argTypes })
  (ha:args.toList=[x]) (ht:argTypes[0]?=some t) (he:pb C (look st.heap) t (st.get x)=some e):fw P β S a w o e:=by
 have hx:=h.get x;have dM:args=#[x]:=by rw[<-Array.toArray_toList (xs:=args),ha]
 subst dM;have di:∀v,(Builtin.len_ argTypes o.type #[a.eval x]).run P w=.ok v w->(execOp a.eval o).run P w=.ok (.value v) w:=by
  intro v hv;simp only[execOp,ho,resolve,invoke,builtin,Sem.run_bind,Sem.run_pure,Result.andThen,List.map_toArray,List.map_cons,List.map_nil,hv]
 unfold pb at he;split at he
 ·cases he
 ·rename_i ti cZ
  have dQ:=jh (hC t ti cZ);split at he
  ·rename_i el b off len cp hk hg
   cases he;rw[hg]at hx;cases hx with|c hx=>
   generalize eL:a.eval x=av at hx;cases hx with|sl R base cap hR h1 h2 h3 h4 h5=>
   refine⟨rfl,.int .i64 len,di _ ?_,aI.sU (GB _ _)⟩;simp[Builtin.len_,ht,eL,run_underlying (dQ.slice hk),Result.andThen,goInt]
  ·rename_i el cp rows hk hg
   cases he;rw[hg]at hx;cases hx with|c hx=>
   cases hx with|t hx=>
   generalize eL:a.eval x=av at hx;cases hx with|aa _ _ base cb co ah cap val h1 h2 h3 h4 h5 QI h6 h7 h8=>
   refine⟨rfl,.int .i64 rows.length,di _ ?_,aI.sU (GB _ _)⟩;simp[Builtin.len_,ht,eL,run_underlying (dQ.slice hk),Result.andThen,goInt]
  ·rename_i s hk hg
   cases he;rw[hg]at hx;obtain⟨hx,_⟩:=hx.scalar;refine⟨rfl,.int .i64 s.size,di _ ?_,aI.sU (GB _ _)⟩;simp[Builtin.len_,ht,hx,run_underlying (dQ.string hk),Result.andThen,goInt]
  ·rename_i n el hk
   cases he;refine⟨rfl,.int .i64 n,di _ ?_,aI.sU (GB _ _)⟩;simp[Builtin.len_,ht,run_underlying (dQ.array hk),Result.andThen,goInt]
  ·rename_i k el b hk hg
   rw[hg]at hx;cases hx with|c hx=>
   generalize eL:a.eval x=av at hx;cases hx with|mp R hR=>
   split at he
   ·rename_i de hb
    cases he;obtain⟨R',h6,h7,_⟩:=h.ao b _ hb;rw[hR]at h6;cases h6;obtain⟨_,es,clock,h8,h9,_⟩:=h7;refine⟨rfl,.int .i64 de.length,di _ ?_,aI.sU (GB _ _)⟩;simp[Builtin.len_,ht,eL,run_underlying (dQ.map hk),Result.andThen,goInt,getObj,Sem.run,h8,h9]
   ·cases he
  ·cases he
theorem QM (h:Sat K β S st a w) {args:Array Operand} {argTypes:Array TypeId} {gt:Bool} {x y:Operand} (ho:o.op=.call { callee:=.builtin (if gt then .max else .min),args,argTypes })
  (ha:args.toList=[x,y]) (he:Ah gt [st.get x,st.get y]=some e):fw P β S a w o e:=by
 have dM:args=#[x,y]:=by rw[<-Array.toArray_toList (xs:=args),ha]
 subst dM;unfold Ah at he;split at he
 ·rename_i k p k' q heq
  simp only[List.cons.injEq,and_true]at heq;have hx:=h.get x;have hy:=h.get y;rw[heq.1]at hx;rw[heq.2]at hy;obtain⟨hx,_⟩:=hx.scalar;obtain⟨hy,_⟩:=hy.scalar;split at he
  ·cases he
   cases gt
   ·refine⟨rfl,_,?_,aI.sU (GB _ _)⟩
    simp[execOp,ho,resolve,invoke,builtin,Builtin.min_,hx,hy,Builtin.min2,Result.andThen]
   ·refine⟨rfl,_,?_,aI.sU (GB _ _)⟩
    simp[execOp,ho,resolve,invoke,builtin,Builtin.max_,hx,hy,Builtin.max2,Result.andThen]
  ·cases he
 ·cases he
end
theorem gN {α:Type} {rows:List (List α)} {l n i j:Nat} {t:α} (h:fo ((rows.drop l).take n) i j=some t):i<n/\fo rows (l+i) j=some t:=by
 obtain⟨row,h1,h2,_,_⟩:=jd h;rw[List.getElem?_take]at h1;split at h1
 ·rename_i hi
  rw[List.getElem?_drop]at h1;exact⟨hi,Gy h1 h2⟩
 ·cases h1
theorem ra {α:Type} {rows:List α} {l n:Nat} {r:α} (h:r∈(rows.drop l).take n):r∈rows:=
 List.mem_of_mem_drop (List.mem_of_mem_take h)
section
variable {P:Program} {w:World}
theorem jw {v:Value} {k:IntKind} {n:Int} (hv:v=.int k n) {y:Nat} (h0:0<=n) (h1:n<=y) (code:BoundsCode) :
  (Instr.sliceBound v y code).run P w=.ok n.toNat w:=by
 subst hv;simp[Instr.sliceBound,asIntOf,Result.andThen,h0,h1]
def fI (v:Option Value) (n:Option Int):Prop:=match v,n with
 | none,none=>True
 | some v,some n=>∃k,v=.int k n
 | _,_=>False
theorem gl {isSlice:Bool} {len cap:Nat} {lo hi mx:Option Value} {l:Int} {h m:Option Int}
  (Og:fI lo (some l)∨(lo=none/\l=0)) (Ug:fI hi h) (JJ:fI mx m) (hm:m.isSome=true->h.isSome=true)
  (h0:0<=l) (h1:l<=h.getD len) (h2:h.getD len<=m.getD cap) (h3:m.getD cap<=cap) :
  (Instr.sliceBounds isSlice len cap lo hi mx).run P w=.ok (l.toNat,(h.getD len).toNat,(m.getD cap).toNat) w:=by
 have e0:(lo=none/\l=0)∨(∃v k,lo=some v/\v=Value.int k l):=by
  rcases Og with Og|h
  ·cases lo with
   | none=>exact Og.elim
   | some v=>obtain⟨k,hk⟩:=Og;exact .inr ⟨v,k,rfl,hk⟩
  ·exact .inl h
 clear Og;unfold Instr.sliceBounds;cases mx with
 | none=>
  cases m with
  | some m=>exact JJ.elim
  | none=>
   simp only[Option.getD_none]at h2 h3;cases hi with
   | none=>
    cases h with
    | some h=>exact Ug.elim
    | none=>
     simp only[Option.getD_none]at h1 h2;rcases e0 with⟨rfl,rfl⟩|⟨v0,k0,rfl,Of⟩
     ·simp[Result.andThen]
     ·have e1:=jw (P:=P) (w:=w) (y:=len) Of h0 h1 BoundsCode.sliceB
      simp[Result.andThen,e1]
   | some v=>
    cases h with
    | none=>exact Ug.elim
    | some h=>
     obtain⟨k,hk⟩:=Ug;simp only[Option.getD_some]at h1 h2;have e2:=jw (P:=P) (w:=w) hk (by omega) h2 (if isSlice then BoundsCode.sliceAcap else BoundsCode.sliceAlen);rcases e0 with⟨rfl,rfl⟩|⟨v0,k0,rfl,Of⟩
     ·simp[Result.andThen,e2]
     ·have e1:=jw (P:=P) (w:=w) (y:=h.toNat) Of h0 (by omega) BoundsCode.sliceB
      simp[Result.andThen,e1,e2]
 | some vm=>
  cases m with
  | none=>exact JJ.elim
  | some m=>
   obtain⟨km,hkm⟩:=JJ;simp only[Option.getD_some]at h2 h3;cases hi with
   | none=>
    cases h with
    | some h=>exact Ug.elim
    | none=>simp at hm
   | some v=>
    cases h with
    | none=>exact Ug.elim
    | some h=>
     obtain⟨k,hk⟩:=Ug;simp only[Option.getD_some]at h1 h2;have e3:=jw (P:=P) (w:=w) hkm (by omega) h3 (if isSlice then BoundsCode.slice3Acap else BoundsCode.slice3Alen);have e2:=jw (P:=P) (w:=w) (y:=m.toNat) hk (by omega) (by omega) BoundsCode.slice3B;rcases e0 with⟨rfl,rfl⟩|⟨v0,k0,rfl,Of⟩
     ·simp[Result.andThen,e2,e3]
     ·have e1:=jw (P:=P) (w:=w) (y:=h.toNat) Of h0 (by omega) BoundsCode.slice3C
      simp[Result.andThen,e1,e2,e3]
theorem fI.of {β:Nat->Option bZ} {S:Place} {K:Ctx} {st:St} {a:Act} (h:Sat K β S st a w) {x:Option Operand} {n:Option Int}
  (hx:(match x.map st.get with|none=>some none|some v=>v.int?.map some)=some n):fI (x.map a.eval) n:=by
 cases x with
 | none=>simp at hx;subst hx;trivial
 | some x=>
  simp only[Option.map_some]at hx;obtain⟨m,h1,rfl⟩:=Option.map_eq_some_iff.1 hx;obtain⟨k,h2,_⟩:=(h.get x).int h1;exact⟨k,h2⟩
theorem fI.low {β:Nat->Option bZ} {S:Place} {K:Ctx} {st:St} {a:Act} (h:Sat K β S st a w) {x:Option Operand} {n:Int}
  (hx:(match x.map st.get with|none=>some 0|some v=>v.int?)=some n):fI (x.map a.eval) (some n)∨(x.map a.eval=none/\n=0):=by
 cases x with
 | none=>simp at hx;subst hx;exact .inr ⟨rfl,rfl⟩
 | some x=>
  simp only[Option.map_some]at hx;obtain⟨k,h2,_⟩:=(h.get x).int hx;exact .inl ⟨k,h2⟩
end
section
variable {P:Program} {C:eA} {K:Ctx} {β:Nat->Option bZ} {S:Place} {st:St} {a:Act} {w:World} {slot:Nat} {e:cR} {o:Oper}
theorem OL (hC:bC P C) (h:Sat K β S st a w) {t:TypeId} {x:Operand} {lo hi mx:Option Operand} (ho:o.op=.slice t x lo hi mx) (Oh:∀ti n el,C.ty t=some ti->ti.kind ≠ .array n el)
  (he:dq C (look st.heap) t (st.get x) (lo.map st.get) (hi.map st.get) (mx.map st.get)=some e):fw P β S a w o e:=by
 unfold dq at he;have hx:=h.get x;split at he
 ·cases he
 ·rename_i ti cZ
  have dQ:=jh (hC t ti cZ);split at he
  ·rename_i l lH m hl hh hm
   have bl:=fI.low h hl;have bh:=fI.of h hh;have bm:=fI.of h hm;split at he
   ·rename_i s hk hg
    rw[hg]at hx;obtain⟨hx,_⟩:=hx.scalar;simp only at he;split at he
    ·rename_i hr
     obtain⟨r1,r2,r3,rfl⟩:=hr;cases he;have G5:mx.map a.eval=none:=by
      cases JJ:mx.map a.eval with
      | none=>rfl
      | some v=>rw[JJ]at bm;exact bm.elim
     have:=gl (P:=P) (w:=w) (isSlice:=false) (len:=s.size) (cap:=s.size) (mx:=none) (m:=none) bl bh trivial (by simp) r1 r2 (by simpa using r3) (by simp);refine⟨rfl,.string (s.extract l.toNat (lH.getD s.size).toNat),?_,aI.sU (pQ _)⟩;simp only[execOp,ho,Instr.sliceAt,Instr.slice,run_underlying (dQ.string hk),Sem.run_bind,Sem.run_pure,Result.andThen,hx,G5,Option.isSome_none,Bool.false_eq_true,if_false,this]
    ·cases he
   ·rename_i el b off len cp hk hg
    rw[hg]at hx;cases hx with|c hx=>
    generalize eL:a.eval x=av at hx;cases hx with|sl R base cap hR h1 h2 h3 h4 h5=>
    simp only at he;split at he
    ·rename_i hr
     obtain⟨r1,r2,r3⟩:=hr;split at he
     ·rename_i sz rows g fz te hb dx
      split at he
      ·rename_i kH
       obtain⟨q1,q2⟩:=kH;cases he;have eI:=jh (hC _ te dx);obtain⟨R',h6,h7,_⟩:=h.ao b _ hb;rw[hR]at h6;cases h6;have G5:mx.map a.eval=none:=by
        cases JJ:mx.map a.eval with
        | none=>rfl
        | some v=>rw[JJ]at bm;exact bm.elim
       have dR:l.toNat*te.size=l.toNat*R.ah:=by rw[<-q2,h7.1]
       have:=gl (P:=P) (w:=w) (isSlice:=true) (len:=len) (cap:=cap) (mx:=none) (m:=none) bl bh trivial (by simp) r1 r2 (by simp;omega) (by simp);refine⟨rfl,.slice (if cap=l.toNat then base else base.map (·.add (l.toNat*te.size))) ((lH.getD len).toNat-l.toNat) (cap-l.toNat),?_,.c (.sl R _ _ hR ?_ ?_ ?_ ?_ ?_)⟩
       ·simp only[execOp,ho,Instr.sliceAt,Instr.slice,run_underlying (dQ.slice hk),Sem.run_bind,Sem.run_pure,Result.andThen,eL,G5,this,eI.sizeOf,Option.getD_none,Int.toNat_natCast]
       ·intro yq
        have:=q1 yq;have:=h1 yq;omega
       ·intro yq
        have:=h2 yq;omega
       ·omega
       ·omega
       ·intro h0
        rw[if_neg (by omega),h5 (by omega)];simp only[Option.map_some,IE,dR,Nat.add_mul,Nat.add_assoc]
      ·cases he
     ·rename_i m' sz rows g fz te hb dx
      split at he
      ·rename_i kH
       obtain⟨q0,q1,q2⟩:=kH;cases he;have eI:=jh (hC _ te dx);obtain⟨R',h6,h7,_⟩:=h.ao b _ hb;rw[hR]at h6;cases h6;have dR:l.toNat*te.size=l.toNat*R.ah:=by rw[<-q2,h7.1]
       have:=gl (P:=P) (w:=w) (isSlice:=true) (len:=len) (cap:=cap) bl bh bm (fun _=>q1) r1 r2 (by simp;omega) (by simp;omega);refine⟨rfl,.slice (if m'.toNat=l.toNat then base else base.map (·.add (l.toNat*te.size))) ((lH.getD len).toNat-l.toNat) (m'.toNat-l.toNat),?_,.c (.sl R _ _ hR ?_ ?_ ?_ ?_ ?_)⟩
       ·simp only[execOp,ho,Instr.sliceAt,Instr.slice,run_underlying (dQ.slice hk),Sem.run_bind,Sem.run_pure,Result.andThen,eL,this,eI.sizeOf,Option.getD_some]
       ·intro _;omega
       ·simp
       ·omega
       ·omega
       ·intro h0
        rw[if_neg (by omega),h5 (by omega)];simp only[Option.map_some,IE,dR,Nat.add_mul,Nat.add_assoc]
      ·cases he
     ·rename_i cells te hb dx
      split at he
      ·rename_i kH
       obtain⟨q1,q2⟩:=kH;cases he;have eI:=jh (hC _ te dx);obtain⟨R',h6,h7,_⟩:=h.ao b _ hb;rw[hR]at h6;cases h6;have G5:mx.map a.eval=none:=by
        cases JJ:mx.map a.eval with
        | none=>rfl
        | some v=>rw[JJ]at bm;exact bm.elim
       have dR:l.toNat*te.size=l.toNat*R.ah:=by rw[q2,h7.1.2.1]
       have:=gl (P:=P) (w:=w) (isSlice:=true) (len:=len) (cap:=cap) (mx:=none) (m:=none) bl bh trivial (by simp) r1 r2 (by simp;omega) (by simp);refine⟨rfl,.slice (if cap=l.toNat then base else base.map (·.add (l.toNat*te.size))) ((lH.getD len).toNat-l.toNat) (cap-l.toNat),?_,.c (.sl R _ _ hR ?_ ?_ ?_ ?_ ?_)⟩
       ·simp only[execOp,ho,Instr.sliceAt,Instr.slice,run_underlying (dQ.slice hk),Sem.run_bind,Sem.run_pure,Result.andThen,eL,G5,this,eI.sizeOf,Option.getD_none,Int.toNat_natCast]
       ·intro yq
        have:=q1 yq;have:=h1 yq;omega
       ·intro yq
        have:=h2 yq;omega
       ·omega
       ·omega
       ·intro h0
        rw[if_neg (by omega),h5 (by omega)];simp only[Option.map_some,IE,dR,Nat.add_mul,Nat.add_assoc]
      ·cases he
     ·cases he
    ·cases he
   ·rename_i el cp rows hk hg
    rw[hg]at hx;cases hx with|c hx=>
    cases hx with|t hx=>
    generalize eL:a.eval x=av at hx;cases hx with|aa _ _ base cb co ah cap val h1 h2 h3 h4 h5 QI h6 h7 h8=>
    simp only at he;split at he
    ·rename_i hr
     obtain⟨r1,r2,r3⟩:=hr;have dR:∀te:TI,(rows.all fun r=>r.length==te.size)=true->l.toNat*te.size=l.toNat*ah:=by
      intro te q2;rcases Nat.eq_zero_or_pos l.toNat with h0|h0
      ·rw[h0];simp
      ·have ng:0<rows.length:=by omega
       cases pS:rows with
       | nil=>rw[pS]at ng;simp at ng
       | cons r0 rs=>
        have e1:=h6 r0 (by rw[pS];simp);have e2:=List.all_eq_true.1 q2 r0 (by rw[pS];simp);rw[beq_iff_eq]at e2;rw[<-e1,e2]
     have Aj:((rows.drop l.toNat).take ((lH.getD rows.length).toNat-l.toNat)).length=(lH.getD rows.length).toNat-l.toNat:=by
      rw[List.length_take,List.length_drop];omega
     have key:∀(GD:Bool) (m2:Nat) (te:TI),(rows.all fun r=>r.length==te.size)=true->(lH.getD rows.length).toNat<=m2->m2<=cap->(GD=true->m2=(lH.getD rows.length).toNat) ->
       dX S w (.aa GD ((rows.drop l.toNat).take ((lH.getD rows.length).toNat-l.toNat)))
        (.slice (if m2=l.toNat then base else base.map (·.add (l.toNat*te.size))) ((lH.getD rows.length).toNat-l.toNat) (m2-l.toNat)):=by
      intro GD m2 te q2 Ak JK yq;have JL:∀i j t,fo ((rows.drop l.toNat).take ((lH.getD rows.length).toNat-l.toNat)) i j=some t->fo rows (l.toNat+i) j=some t:=fun i j t ht=>(gN ht).2
      have G6:∀r,r∈((rows.drop l.toNat).take ((lH.getD rows.length).toNat-l.toNat))->r∈rows:=fun r hr=>ra hr
      generalize ((rows.drop l.toNat).take ((lH.getD rows.length).toNat-l.toNat))=rs at Aj JL G6 ⊢;rw[<-Aj];refine .aa GD _ _ cb (co+l.toNat*ah) ah _ (fun i j=>val (l.toNat+i) j) ?_ ?_ ?_ ?_ ?_ ?_ ?_ ?_ ?_
      ·rw[Aj];omega
      ·omega
      ·rw[Aj];omega
      ·intro hh;rw[Aj,yq hh]
      ·intro dh
       have:0<(lH.getD rows.length).toNat-l.toNat:=by rw[<-Aj];exact List.length_pos_iff.2 dh
       have ng:0<rows.length:=by omega
       rw[if_neg (by omega),h5 (List.length_pos_iff.1 ng)];simp only[Option.map_some,IE,dR te q2]
      ·intro hb
       split at hb
       ·rename_i Uh;omega
       ·simp at hb;have:=QI hb;omega
      ·intro r hr;exact h6 r (G6 r hr)
      ·intro i j t ht
       have h9:=JL _ _ _ ht;have:=h7 _ _ _ h9;rw[Nat.add_mul,<-Nat.add_assoc]at this;exact this
      ·intro i j t ht
       exact h8 _ _ _ (JL _ _ _ ht)
     split at he
     ·rename_i te dx
      split at he
      ·rename_i q2
       cases he;have eI:=jh (hC _ te dx);have G5:mx.map a.eval=none:=by
        cases JJ:mx.map a.eval with
        | none=>rfl
        | some v=>rw[JJ]at bm;exact bm.elim
       have:=gl (P:=P) (w:=w) (isSlice:=true) (len:=rows.length) (cap:=cap) (mx:=none) (m:=none) bl bh trivial (by simp) r1 r2 (by simp;omega) (by simp);refine⟨rfl,_,?_,.c (.t (key _ cap te q2 (by omega) (by omega) ?_))⟩
       ·simp only[execOp,ho,Instr.sliceAt,Instr.slice,run_underlying (dQ.slice hk),Sem.run_bind,Sem.run_pure,Result.andThen,eL,G5,this,eI.sizeOf,Option.getD_none,Int.toNat_natCast]
       ·intro yq
        simp only[Bool.and_eq_true,beq_iff_eq]at yq;rw[h4 yq.1,yq.2];simp
      ·cases he
     ·rename_i m' te dx
      split at he
      ·rename_i kH
       obtain⟨q0,q1,q2⟩:=kH;cases he;have eI:=jh (hC _ te dx);have:=gl (P:=P) (w:=w) (isSlice:=true) (len:=rows.length) (cap:=cap) bl bh bm (fun _=>q1) r1 r2 (by simp;omega) (by simp;omega);refine⟨rfl,_,?_,.c (.t (key _ m'.toNat te q2 (by omega) (by omega) (fun _=>by omega)))⟩;simp only[execOp,ho,Instr.sliceAt,Instr.slice,run_underlying (dQ.slice hk),Sem.run_bind,Sem.run_pure,Result.andThen,eL,this,eI.sizeOf,Option.getD_some]
      ·cases he
     ·cases he
    ·cases he
   ·rename_i n el b r c hk hg
    exact absurd hk (Oh ti n el cZ)
   ·cases he
  ·cases he
theorem mapM_some {α γ:Type} {f:α->Option γ}:∀ {l:List α} {r:List γ},l.mapM f=some r->r.length=l.length/\∀(i:Nat) (y:γ),r[i]?=some y->∃x:α,l[i]?=some x/\f x=some y
 | [],r,h=>by simp at h;subst h;simp
 | x::l,r,h=>by
  rw[List.mapM_cons]at h;cases hx:f x with
  | none=>rw[hx]at h;cases h
  | some y=>
   cases hl:l.mapM f with
   | none=>rw[hx,hl]at h;cases h
   | some r'=>
    rw[hx,hl]at h;cases h;obtain⟨h1,h2⟩:=mapM_some hl;refine⟨by simp[h1],fun i z hz=>?_⟩;cases i with
    | zero=>simp at hz;subst hz;exact⟨x,rfl,hx⟩
    | succ i=>simpa using h2 i z (by simpa using hz)
theorem G7 {h:Hp} {f:FuncId} {l:List (Nat×Nat×Nat)} {e:cR} (he:tg h f l=some e):e.val=.c (.dA f l)/\fD h l=some e.wr:=by
 unfold tg at he;split at he
 ·rename_i ws hw;cases he;exact⟨rfl,hw⟩
 ·cases he
theorem Eu (h:Sat K β S st a w) {xs:List Operand} {l:List (Nat×Nat×Nat)} (hl:xs.mapM (fun x=>pf (st.get x))=some l) :
  (xs.map a.eval).length=l.length/\∀(i b r c:Nat),l[i]?=some (b,r,c)->∃R:bZ,β b=some R/\(xs.map a.eval)[i]?=some (Value.pointer (some ⟨R.cb,R.co+r*R.ah+c,none⟩)):=by
 obtain⟨h1,h2⟩:=mapM_some hl;refine⟨by simp;exact h1.symm,fun i b r c hi=>?_⟩;obtain⟨x,hx,Ui⟩:=h2 i _ hi;have hr:=h.get x;unfold pf at Ui;split at Ui
 ·rename_i b' r' c' hg
  cases Ui;rw[hg]at hr;cases hr with|c hr=>
  generalize eL:a.eval x=av at hr;cases hr with|ptr R hR=>
  exact⟨R,hR,by rw[List.getElem?_map,hx,Option.map_some,eL]⟩
 ·cases Ui
theorem G8 (h:Sat K β S st a w) {f:FuncId} {first aN:Array Operand} (ho:o.op=.makeFunc (.func f) first aN)
  (he:evalOp C slot st.get (look st.heap) (.makeFunc (.func f) first aN)=some e) :
  ∃g l v,e.val=.c (.dA g l)/\(fD (look st.heap) l=some e.wr∨e.wr=[])/\(execOp a.eval o).run P w=.ok (.value v) w/\aI β S w (.c (.dA g l)) v:=by
 simp only[evalOp]at he;split at he
 ·rename_i hf
  have OG:first=#[]:=Array.eq_empty_of_size_eq_zero hf
  subst OG;split at he
  ·rename_i l hb hl
   obtain⟨ev,ew⟩:=G7 he;obtain⟨h1,h2⟩:=Eu h hl;refine⟨f,l,kh f (aN.toList.map a.eval),ev,.inl ew,?_,.c (.dA _ h1 h2)⟩;have:Array.map a.eval aN=(List.map a.eval aN.toList).toArray:=by apply Array.ext';simp
   rw[Af hb];simp[execOp,ho,Instr.makeFunc,Result.andThen,this]
  ·cases he
 ·split at he
  ·rename_i l hb hl
   cases he;have LW:aN=#[]:=Array.eq_empty_of_size_eq_zero hb;subst LW;obtain⟨h1,h2⟩:=Eu h hl;refine⟨f+oQ,l,kh (f+oQ) (first.toList.map a.eval),rfl,.inr rfl,?_,.c (.dA _ h1 h2)⟩;have:Array.map a.eval first=(List.map a.eval first.toList).toArray:=by apply Array.ext';simp
   rw[GV];simp[execOp,ho,Instr.makeFunc,Result.andThen,this]
  ·cases he
theorem pT {kd:TypeDesc} {key k:Value} {b:Bool} (hk:(∃q,kd=.int q)∨kd=.string∨kd=.bool) (h:sameKey key k=some b)
  (hi:∀q,kd=.int q->∃q' n,key=.int q' n) (hs:kd=.string->∃n,key=.string n) (hb:kd=.bool->∃n,key=.bool n):Instr.sameNow kd key k=some b:=by
 rcases hk with⟨q,rfl⟩|rfl|rfl
 ·obtain⟨q',n,rfl⟩:=hi q rfl
  cases k<;>simp_all[sameKey,Instr.sameNow]
 ·obtain⟨n,rfl⟩:=hs rfl
  cases k<;>simp_all[sameKey,Instr.sameNow]
 ·obtain⟨n,rfl⟩:=hb rfl
  cases k<;>simp_all[sameKey,Instr.sameNow]
theorem uA {tk:TI} {k:TypeId} (dQ:g9 P k tk) {key:Value} (hf:jm tk.kind key=true) :
  ∃kd,P.underlying k=some kd/\(∀x b,sameKey key x=some b->Instr.sameNow kd key x=some b)/\∀em n w,(Instr.checkKey em (n+1) k key).run P w=.ok () w:=by
 unfold jm at hf;split at hf
 ·rename_i q q' n hq
  have hu:=dQ.int hq;refine⟨_,hu,fun x b hx=>pT (.inl ⟨_,rfl⟩) hx (fun _ _=>⟨_,_,rfl⟩) (by simp) (by simp),fun em n w=>by simp[Instr.checkKey,run_underlying hu,Result.andThen]⟩
 ·rename_i q hq
  have hu:=dQ.string hq;refine⟨_,hu,fun x b hx=>pT (.inr (.inl rfl)) hx (by simp) (fun _=>⟨_,rfl⟩) (by simp),fun em n w=>by simp[Instr.checkKey,run_underlying hu,Result.andThen]⟩
 ·rename_i q hq
  have hu:=dQ.bool hq;refine⟨_,hu,fun x b hx=>pT (.inr (.inr rfl)) hx (by simp) (by simp) (fun _=>⟨_,rfl⟩),fun em n w=>by simp[Instr.checkKey,run_underlying hu,Result.andThen]⟩
 ·cases hf
theorem nh {kd:TypeDesc} {key:Value} (hs:∀x b,sameKey key x=some b->Instr.sameNow kd key x=some b) :
  ∀(de:List (Value×Tree)) (es:List MapEntry) (i:Nat) (r:Option Tree),df key de=some r->es.length=de.length ->
  (∀(i:Nat) (k:Value) (t:Tree),de[i]?=some (k,t)->∃e:MapEntry,es[i]?=some e/\e.key=k/\dX S w t e.val) ->
  (match r with
   | none=>Instr.findNow kd key es i=some none
   | some t=>∃(j:Nat) (e:MapEntry),Instr.findNow kd key es i=some (some (i+j,e.val))/\es[j]?=some e/\dX S w t e.val)
 | [],es,i,r,h,hl,_=>by
  simp[df]at h;subst h;have:es=[]:=List.eq_nil_of_length_eq_zero (by simpa using hl);subst this;simp[Instr.findNow]
 | (k,t)::de,[],_,_,_,hl,_=>by simp at hl
 | (k,t)::de,e::es,i,r,h,hl,hr=>by
  obtain⟨e',OM,JM,dx⟩:=hr 0 k t rfl;simp at OM;subst OM;unfold df at h;simp only at h;split at h
  ·rename_i Lq
   cases h;have:=hs _ _ Lq;refine⟨0,e,?_,rfl,dx⟩;simp[Instr.findNow,JM,this]
  ·rename_i Lq
   have hn:=hs _ _ Lq;have ih:=nh hs de es (i+1) r h (by simpa using hl) (fun j k' t' hj=>by simpa using hr (j+1) k' t' (by simpa using hj));cases r with
   | none=>simp only[Instr.findNow,JM,hn];exact ih
   | some t0=>
    obtain⟨j,e0,h1,h2,h3⟩:=ih;exact⟨j+1,e0,by simp only[Instr.findNow,JM,hn];rw[h1];congr 3;omega,by simpa using h2,h3⟩
  ·cases h
theorem LX (hC:bC P C) (h:Sat K β S st a w) {t:TypeId} {x i:Operand} {ok:Bool} (ho:o.op=.lookup t x i ok)
  (he:evalOp C slot st.get (look st.heap) (.lookup t x i ok)=some e):fw P β S a w o e:=by
 simp only[evalOp]at he;have hx:=h.get x;have hi:=h.get i;split at he
 ·rename_i ti cZ
  have dQ:=jh (hC t ti cZ);split at he
  ·rename_i k el b key hk Cs Ls
   rw[Cs]at hx;rw[Ls]at hi;obtain⟨hi,_⟩:=hi.scalar;cases hx with|c hx=>
   generalize eL:a.eval x=av at hx;cases hx with|mp R hR=>
   split at he
   ·rename_i de tk te hb fc dx
    have RU:=jh (hC _ tk fc);have eI:=jh (hC _ te dx);obtain⟨R',h6,h7,_⟩:=h.ao b _ hb;rw[hR]at h6;cases h6;obtain⟨_,es,clock,h8,h9,Ev⟩:=h7;split at he
    ·cases he
    ·rename_i kJ
     simp only[Bool.or_eq_true,Bool.not_eq_true',not_or,Bool.not_eq_false,Bool.not_eq_true]at kJ;obtain⟨Zy,Vc⟩:=kJ;obtain⟨kd,XK,ON,Ct⟩:=uA RU Zy;have gn:(getObj R.cb).run P w=.ok (.map es clock) w:=by simp[getObj,Sem.run,h8]
     have OO:=Ct es.isEmpty 9999 w;have di:∀(v:Value) (b:Bool),(match(Instr.findNow kd key es.toList 0) with
       | some (some (_,u))=>v=u/\b=true
       | some none=>(zeroValue el).run P w=.ok v w/\b=false
       | none=>False)->(execOp a.eval o).run P w=.ok (.value (if ok then .tuple #[v,.bool b] else v)) w:=by
      intro v b hv;simp only[execOp,ho,Instr.lookup,run_underlying (dQ.map hk),eL,hi,Sem.run_bind,Sem.run_pure,Result.andThen,gn,OO,Instr.findKey,run_underlying XK];split at hv
      ·rename_i jx
       obtain⟨rfl,rfl⟩:=hv;simp only[jx,Sem.run_pure,Sem.run_bind,Result.andThen]
      ·rename_i jx
       obtain⟨hz,rfl⟩:=hv;simp only[jx,Sem.run_pure,Sem.run_bind,Result.andThen,hz]
      ·exact hv.elim
     split at he
     ·rename_i tt Ea
      cases he;obtain⟨j,en,QN,iH,XM⟩:=nh (S:=S) (w:=w) ON de es.toList 0 _ Ea (by simpa using h9) (fun i k t hi=>by obtain⟨e,a,b⟩:=Ev i k t hi;exact⟨e,by simpa using a,b⟩);refine⟨rfl,_,di en.val true (by rw[QN];exact⟨rfl,rfl⟩),?_⟩;cases ok
      ·exact .c (.t XM)
      ·refine .pN [en.val,.bool true] (fun i=>[en.val,.bool true].getD i undef) rfl (fun i y hy=>?_) fun i y hy=>?_
       ·match i with
        | 0=>rfl
        | 1=>rfl
        | i+2=>simp at hy
       ·match i with
        | 0=>simp at hy;subst hy;exact .c (.t XM)
        | 1=>simp at hy;subst hy;exact aI.sU (GC _)
        | i+2=>simp at hy
     ·rename_i z Ea hz
      cases he;have QN:=nh (S:=S) (w:=w) ON de es.toList 0 _ Ea (by simpa using h9) (fun i k t hi=>by obtain⟨e,a,b⟩:=Ev i k t hi;exact⟨e,by simpa using a,b⟩);obtain⟨zv,Cu,Uj,hz3,hz4,hz5⟩:=eI.zeroValue w S;obtain⟨v0,OP,Al⟩:=hz3 0 z (by rw[hz];rfl);rw[tq (hz4 Vc)]at OP;simp at OP;subst OP;refine⟨rfl,_,di zv false (by rw[QN];exact⟨Cu,rfl⟩),?_⟩;cases ok
      ·exact .c (.t Al)
      ·refine .pN [zv,.bool false] (fun i=>[zv,.bool false].getD i undef) rfl (fun i y hy=>?_) fun i y hy=>?_
       ·match i with
        | 0=>rfl
        | 1=>rfl
        | i+2=>simp at hy
       ·match i with
        | 0=>simp at hy;subst hy;exact .c (.t Al)
        | 1=>simp at hy;subst hy;exact aI.sU (GC _)
        | i+2=>simp at hy
     ·cases he
   ·cases he
  ·cases he
 ·cases he
end
end Go.Abs
end
