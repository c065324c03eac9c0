/-
  A part of the proof: GabsCore, GabsEval, GabsSat, GabsOps1, GabsOps2.
-/
import Derived.Calls
import Derived.Laws.Cells
import Derived.Below
set_option maxHeartbeats 0
set_option maxRecDepth 100000
set_option linter.unusedVariables false
set_option linter.unusedSimpArgs false
set_option linter.unusedSectionVars false
section
namespace Go.Abs
inductive Tree where
 | v (x:Value)
 | lst (cp:Bool) (rows:List (List Tree))
 deriving Inhabited
inductive Cell where
 | t (t:Tree)
 | ptr (b r c:Nat)
 | tp (row:List Tree) (c:Nat)
 | sl (b off len:Nat) (cp:Bool)
 | mp (b:Nat)
 | clo (f:FuncId) (caps:List (Nat × Nat × Nat))
 deriving Inhabited
inductive AV where
 | c (x:Cell)
 | agg (l:List Cell)
 | tup (l:List AV)
 | junk
 deriving Inhabited
inductive Blk where
 | var (cells:List Cell)
 | rows (sz:Nat) (rows:List (List Tree)) (grow fz:Bool)
 | map (ents:List (Value × Tree))
 | old (sz:Nat) (rows:List (List Tree))
 deriving Inhabited
abbrev Heap:=List (Option Blk)
structure St where
 tmps:List AV
 heap:Heap
structure Reg where
 cb:Nat
 co:Nat
 stride:Nat
 cap:Nat
abbrev Place:=Nat->Nat->Prop
def one (v:Value):Prop:=∀ l,v ≠ .agg l/\v ≠ .tuple l
def at2 {α:Type} (rows:List (List α)) (i j:Nat):Option α:=rows[i]?.bind (·[j]?)
inductive TRep (S:Place) (w:World):Tree->Value->Prop where
 | v (x:Value):one x->TRep S w (.v x) x
 | lst (cp:Bool) (rows:List (List Tree)) (base:Option Addr) (cb co stride cap:Nat) (val:Nat->Nat->Value) :
   rows.length<=cap->cap < 2 ^ 63->rows.length < 2 ^ 63->(cp=true->cap=rows.length)->(rows ≠ []->base=some ⟨cb,co,none⟩)->(base=none->cap=0)->(∀ r ∈ rows,r.length=stride) ->
   (∀ i j t,at2 rows i j=some t->S cb (co+i*stride+j)/\w.cell? ⟨cb,co+i*stride+j,none⟩=some (val i j)) ->
   (∀ i j t,at2 rows i j=some t->TRep S w t (val i j)) ->
   TRep S w (.lst cp rows) (.slice base rows.length cap)
theorem TRep.one {S:Place} {w:World} {t:Tree} {v:Value} (h:TRep S w t v):one v:=by
 cases h with
 | v x hx=>exact hx
 | lst=>intro l; exact ⟨by simp,by simp⟩
theorem TRep.mono {S S':Place} {w w':World} {t:Tree} {v:Value} (h:TRep S w t v) (hS:∀ b o,S b o->S' b o)
  (hw:∀ b o,S b o->w'.cell? ⟨b,o,none⟩=w.cell? ⟨b,o,none⟩):TRep S' w' t v:=by
 induction h with
 | v x hx=>exact .v x hx
 | lst cp rows base cb co stride cap val h1 h2 h3 h4 h5 h5' h6 h7 _ ih=>
  refine .lst cp rows base cb co stride cap val h1 h2 h3 h4 h5 h5' h6 (fun i j t ht=>?_) (fun i j t ht=>ih i j t ht)
  obtain ⟨a,b⟩:=h7 i j t ht
  exact ⟨hS _ _ a,by rw [hw _ _ a]; exact b⟩
def bndF:Nat:=1000000000000
def cloVal (f:FuncId) (vs:List Value):Value:=match Nat.blt f bndF with
 | true=>.func (.func f) #[] vs.toArray
 | false=>.func (.func (f - bndF)) vs.toArray #[]
theorem blt_ge (f n:Nat):Nat.blt (f+n) n=false:=by
 cases h:Nat.blt (f+n) n with
 | false=>rfl
 | true=>rw [Nat.blt_eq] at h; omega
theorem cloVal_lt {f:FuncId} (h:Nat.blt f bndF=true) (vs:List Value):cloVal f vs=.func (.func f) #[] vs.toArray:=by unfold cloVal; rw [h]
theorem cloVal_ge {f:FuncId} (h:Nat.blt f bndF=false) (vs:List Value):cloVal f vs=.func (.func (f - bndF)) vs.toArray #[]:=by unfold cloVal; rw [h]
theorem cloVal_add (f:FuncId) (vs:List Value):cloVal (f+bndF) vs=.func (.func f) vs.toArray #[]:=by rw [cloVal_ge (blt_ge f bndF),Nat.add_sub_cancel]
inductive CRep (β:Nat->Option Reg) (S:Place) (w:World):Cell->Value->Prop where
 | t {t:Tree} {v:Value}:TRep S w t v->CRep β S w (.t t) v
 | ptr {b r c:Nat} (R:Reg):β b=some R->CRep β S w (.ptr b r c) (.pointer (some ⟨R.cb,R.co+r*R.stride+c,none⟩))
 | tp {row:List Tree} {c:Nat} (cb co:Nat) (val:Nat->Value) :
   (∀ j t,row[j]?=some t->S cb (co+j)/\w.cell? ⟨cb,co+j,none⟩=some (val j)/\TRep S w t (val j)) ->
   CRep β S w (.tp row c) (.pointer (some ⟨cb,co+c,none⟩))
 | sl {b off len:Nat} {cp:Bool} (R:Reg) (base:Option Addr) (cap:Nat):β b=some R->(cp=true->cap=len)->(cp=false->off+cap=R.cap)->len<=cap->off+cap<=R.cap ->
   (0 < cap->base=some ⟨R.cb,R.co+off*R.stride,none⟩)->CRep β S w (.sl b off len cp) (.slice base len cap)
 | mp {b:Nat} (R:Reg):β b=some R->CRep β S w (.mp b) (.map (some R.cb))
 | clo {f:FuncId} {caps:List (Nat × Nat × Nat)} (vs:List Value):vs.length=caps.length ->
   (∀ (i b r c:Nat),caps[i]?=some (b,r,c)->∃ R:Reg,β b=some R/\vs[i]?=some (Value.pointer (some ⟨R.cb,R.co+r*R.stride+c,none⟩))) ->
   CRep β S w (.clo f caps) (cloVal f vs)
theorem CRep.one {β:Nat->Option Reg} {S:Place} {w:World} {c:Cell} {v:Value} (h:CRep β S w c v):one v:=by
 cases h with
 | t h=>exact h.one
 | clo vs h1 h2=>intro l; unfold cloVal; split <;> exact ⟨by simp,by simp⟩
 | _=>intro l; exact ⟨by simp,by simp⟩
theorem CRep.mono {β β':Nat->Option Reg} {S S':Place} {w w':World} {c:Cell} {v:Value} (h:CRep β S w c v)
  (hβ:∀ b R,β b=some R->β' b=some R) (hS:∀ b o,S b o->S' b o)
  (hw:∀ b o,S b o->w'.cell? ⟨b,o,none⟩=w.cell? ⟨b,o,none⟩):CRep β' S' w' c v:=by
 cases h with
 | t h=>exact .t (h.mono hS hw)
 | ptr R h=>exact .ptr R (hβ _ _ h)
 | tp cb co val h=>
  refine .tp cb co val fun j t ht=>?_
  obtain ⟨a,b,c⟩:=h j t ht
  exact ⟨hS _ _ a,by rw [hw _ _ a]; exact b,c.mono hS hw⟩
 | sl R base cap h h1 h2 h3 h4 h5=>exact .sl R base cap (hβ _ _ h) h1 h2 h3 h4 h5
 | mp R h=>exact .mp R (hβ _ _ h)
 | clo vs h1 h2=>exact .clo vs h1 fun i b r c hi=>by obtain ⟨R,a,b⟩:=h2 i b r c hi; exact ⟨R,hβ _ _ a,b⟩
inductive VRep (β:Nat->Option Reg) (S:Place) (w:World):AV->Value->Prop where
 | c {x:Cell} {v:Value}:CRep β S w x v->VRep β S w (.c x) v
 | agg {l:List Cell} (vs:List Value):vs.length=l.length->(∀ (i:Nat) (c:Cell),l[i]?=some c->∃ v:Value,vs[i]?=some v/\CRep β S w c v)->VRep β S w (.agg l) (.agg vs.toArray)
 | tup {l:List AV} (vs:List Value) (val:Nat->Value):vs.length=l.length->(∀ (i:Nat) (x:AV),l[i]?=some x->vs[i]?=some (val i))->(∀ (i:Nat) (x:AV),l[i]?=some x->VRep β S w x (val i))->VRep β S w (.tup l) (.tuple vs.toArray)
 | junk (v:Value):VRep β S w .junk v
theorem VRep.mono {β β':Nat->Option Reg} {S S':Place} {w w':World} {x:AV} {v:Value} (h:VRep β S w x v)
  (hβ:∀ b R,β b=some R->β' b=some R) (hS:∀ b o,S b o->S' b o)
  (hw:∀ b o,S b o->w'.cell? ⟨b,o,none⟩=w.cell? ⟨b,o,none⟩):VRep β' S' w' x v:=by
 induction h with
 | c h=>exact .c (h.mono hβ hS hw)
 | agg vs h1 h2=>exact .agg vs h1 fun i c hi=>by obtain ⟨v,a,b⟩:=h2 i c hi; exact ⟨v,a,b.mono hβ hS hw⟩
 | tup vs val h1 h2 _ ih=>exact .tup vs val h1 h2 ih
 | junk v=>exact .junk v
inductive TK where
 | int (k:IntKind) | bool | string | slice (e:TypeId) | array (n:Nat) (e:TypeId) | struct (fs:List (Nat × TypeId)) | map (k e:TypeId) | other
 deriving Inhabited
structure TI where
 kind:TK
 size:Nat
 bytes:Nat
 zero:List Tree
 deriving Inhabited
def TK.agg:TK->Bool
 | .struct _ | .array _ _=>true
 | _=>false
inductive Mode where
 | val | bor | own (sz:Nat) | ref | rd | sh (most:Nat)
 deriving Inhabited
structure Cfg where
 ty:TypeId->Option TI
 md:FuncId->List Mode
 cs:TypeId->Bool
structure Eff where
 val:AV:=.junk
 wr:List (Nat × Option Blk):=[]
 rd:List Nat:=[]
def AV.cells:AV->Option (List Cell)
 | .c x=>some [x]
 | .agg l=>some l
 | _=>none
def oneB:Value->Bool
 | .agg _ | .tuple _=>false
 | _=>true
def ofConstCell:Value->Cell
 | .slice none 0 0=>.t (.lst true [])
 | v=>.t (.v v)
def ofConst:Value->AV
 | .agg cs=>if cs.toList.all oneB then .agg (cs.toList.map ofConstCell) else .junk
 | .tuple _=>.junk
 | v=>.c (ofConstCell v)
def St.get (st:St):Operand->AV
 | .tmp t=>st.tmps.getD t .junk
 | .const v=>ofConst v
 | .func f=>.c (.t (.v (.func (.func f) #[] #[])))
 | .global _=>.junk
abbrev Hp:=Nat->Option Blk
def look (h:Heap):Hp:=fun b=>(h[b]?).join
def setRange {α:Type} (l:List α) (c:Nat) (xs:List α):List α:=l.take c ++ xs ++ l.drop (c+xs.length)
def getCells (ti:TI) (cells:List Cell) (c:Nat):Option AV:=
 if ti.kind.agg then (if c+ti.size<=cells.length then some (.agg ((cells.drop c).take ti.size)) else none)
 else (cells[c]?).map .c
def toTree (h:Hp):Cell->Option (Tree × List (Nat × Option Blk))
 | .t t=>some (t,[])
 | .sl b off len cp=>
  match h b with
  | some (.rows sz rows g _)=>if off+len<=rows.length then some (.lst cp ((rows.drop off).take len),[(b,some (.rows sz rows g true))]) else none
  | _=>none
 | _=>none
def toTrees (h:Hp):List Cell->Option (List Tree × List (Nat × Option Blk))
 | []=>some ([],[])
 | c :: cs=>
  match toTree h c with
  | some (t,m)=>match toTrees h cs with
   | some (ts,ms)=>some (t :: ts,m ++ ms)
   | none=>none
  | none=>none
def ids (wr:List (Nat × Option Blk)):List Nat:=wr.map (·.1)
def AV.int?:AV->Option Int
 | .c (.t (.v (.int _ n)))=>some n
 | _=>none
def AV.bool?:AV->Option Bool
 | .c (.t (.v (.bool b)))=>some b
 | _=>none
def val1 (v:Value):AV:=.c (.t (.v v))
def abin (op:BinOp) (x y:Value):Option Value:=
 match x,y with
 | .int k a,.int k' b=>
  match op with
  | .shl=>if b < 0 then none else some (.int k (k.wrap (a*2 ^ (min b.toNat k.bits))))
  | .shr=>if b < 0 then none else some (.int k (a.fdiv (2 ^ (min b.toNat k.bits))))
  | _=>
   if k=k' then
    match op with
    | .add=>some (.int k (k.wrap (a+b)))
    | .sub=>some (.int k (k.wrap (a - b)))
    | .mul=>some (.int k (k.wrap (a*b)))
    | .quo=>if b=0 then none else some (.int k (k.wrap (a.tdiv b)))
    | .rem=>if b=0 then none else some (.int k (a.tmod b))
    | .and=>some (.int k (k.wrap ((BitVec.ofInt k.bits a &&& BitVec.ofInt k.bits b).toNat)))
    | .or=>some (.int k (k.wrap ((BitVec.ofInt k.bits a ||| BitVec.ofInt k.bits b).toNat)))
    | .xor=>some (.int k (k.wrap ((BitVec.ofInt k.bits a ^^^ BitVec.ofInt k.bits b).toNat)))
    | .andNot=>some (.int k (k.wrap ((BitVec.ofInt k.bits a &&& ~~~ BitVec.ofInt k.bits b).toNat)))
    | .eql=>some (.bool (a == b))
    | .neq=>some (.bool (a != b))
    | .lss=>some (.bool (decide (a < b)))
    | .leq=>some (.bool (decide (a<=b)))
    | .gtr=>some (.bool (decide (a > b)))
    | .geq=>some (.bool (decide (a ≥ b)))
    | _=>none
   else none
 | .string a,.string b=>
  match op with
  | .eql=>some (.bool (a.toList == b.toList))
  | .neq=>some (.bool (!(a.toList == b.toList)))
  | _=>none
 | _,_=>none
def eqInts:List Cell->List Cell->Option Bool
 | [],[]=>some true
 | .t (.v (.int k a)) :: xs,.t (.v (.int k' b)) :: ys=>if k=k' then (eqInts xs ys).map fun r=>decide (a=b) && r else none
 | _,_=>none
def eqRes (op:BinOp) (r:Bool):Option Eff:=
 match op with
 | .eql=>some { val:=val1 (.bool r) }
 | .neq=>some { val:=val1 (.bool (!r)) }
 | _=>none
def evEqArr (C:Cfg) (op:BinOp) (t:TypeId) (x:Option Bool) (n m:Nat):Option Eff:=
 match C.ty t with
 | some ti=>match ti.kind with
  | .array len e=>match C.ty e with
   | some te=>match te.kind with
    | .int _=>if te.size=1/\n=len/\m=len then x.bind (eqRes op) else none
    | _=>none
   | none=>none
  | _=>none
 | none=>none
def evNil (C:Cfg) (op:BinOp) (t:TypeId) (y:Operand):Option Eff:=
 match y with
 | .const (.slice none 0 0)=>match C.ty t with
  | some ti=>match ti.kind with
   | .slice _=>eqRes op false
   | _=>none
  | none=>none
 | _=>none
def evNilX (C:Cfg) (op:BinOp) (t:TypeId) (y:Operand) (base:Option Addr):Option Eff:=
 match y with
 | .const (.slice none 0 0)=>match C.ty t with
  | some ti=>match ti.kind with
   | .slice _=>eqRes op base.isNone
   | _=>none
  | none=>none
 | _=>none
def aun (op:UnOp) (x:Value):Option Value:=
 match op,x with
 | .neg,.int k n=>some (.int k (k.wrap (0 - n)))
 | .not,.bool b=>some (.bool (!b))
 | _,_=>none
def rowsBytes:List (List Tree)->Option (List UInt8)
 | []=>some []
 | [.v (.int .u8 n)] :: rs=>(rowsBytes rs).map (UInt8.ofNat n.toNat :: ·)
 | _=>none
def bytesRows (l:List UInt8):List (List Tree):=l.map fun b=>[.v (.int .u8 b.toNat)]
def sameKey:Value->Value->Option Bool
 | .int k a,.int k' b=>if k=k' then some (a == b) else none
 | .string a,.string b=>some (a == b)
 | .bool a,.bool b=>some (a == b)
 | _,_=>none
def findEnt (k:Value):List (Value × Tree)->Option (Option Tree)
 | []=>some none
 | e :: es=>match sameKey k e.1 with
  | some true=>some (some e.2)
  | some false=>findEnt k es
  | none=>none
def setEnt (k:Value) (t:Tree):List (Value × Tree)->Option (List (Value × Tree))
 | []=>some [(k,t)]
 | e :: es=>match sameKey k e.1 with
  | some true=>some ((k,t) :: es)
  | some false=>(setEnt k t es).map (e :: ·)
  | none=>none
def rowsOf (h:Hp):AV->Option (List (List Tree) × List Nat)
 | .c (.t (.lst _ rows))=>some (rows,[])
 | .c (.sl b off len _)=>
  match h b with
  | some (.rows _ rows _ _)=>if off+len<=rows.length then some ((rows.drop off).take len,[b]) else none
  | some (.old _ rows)=>if off+len<=rows.length then some ((rows.drop off).take len,[b]) else none
  | _=>none
 | .c (.t (.v (.string s)))=>some (bytesRows s.data.toList,[])
 | .c (.t (.v (.slice _ 0 _)))=>some ([],[])
 | _=>none
def capBytes:Nat:=140737488355328
def isSl:AV->Bool
 | .c (.t (.lst _ _))=>true
 | .c (.sl _ _ _ _)=>true
 | _=>false
def oldOf (sz:Nat) (rows:List (List Tree)):Bool->Option Blk
 | true=>some (.old sz rows)
 | false=>none
def evAppC (ti:TI) (slot:Nat) (h:Hp) (s x:AV):Option Eff:=
 match s,x with
 | .c (.sl b off len false),.c (.sl b' off' len' _)=>
  match h b,h b' with
  | some (.var cs),some (.var ns)=>
   if off=0/\off'=0/\len=cs.length/\len'=ns.length/\0 < ns.length/\ti.size=1/\(cs.length+ns.length)*ti.bytes<=capBytes then
    some { val:=.c (.sl slot 0 (len+len') false),wr:=[(b,none),(slot,some (.var (cs ++ ns)))],rd:=[b,b'] } else none
  | _,_=>none
 | _,_=>none
def evBuildC (C:Cfg) (slot:Nat) (t:TypeId) (size len:Nat) (ps:List (Nat × AV)):Option Eff:=
 match C.cs (t+1000000),size,len,ps with
 | true,1,0,[]=>some { val:=.c (.sl slot 0 0 false),wr:=[(slot,some (.var []))] }
 | true,1,1,[(0,.c x)]=>some { val:=.c (.sl slot 0 1 false),wr:=[(slot,some (.var [x]))] }
 | _,_,_,_=>none
def evAppend (ti:TI) (slot:Nat) (h:Hp) (s x:AV):Option Eff:=
 match rowsOf h x with
 | none=>evAppC ti slot h s x
 | some (new,rdx)=>
  if new.length=0 then (if isSl s then some { val:=s,rd:=rdx } else none) else
  if !(new.all fun r=>r.length == ti.size) then none else
  match s with
  | .c (.t (.lst true rows))=>
   if (rows.all fun r=>r.length == ti.size) && (rows.length+new.length)*ti.bytes<=capBytes then
    some { val:=.c (.sl slot 0 (rows.length+new.length) false),wr:=[(slot,some (.rows ti.size (rows ++ new) true false))],rd:=rdx }
   else none
  | .c (.sl b off len cp)=>
   match h b with
   | some (.rows sz rows g fz)=>
    if ¬ (sz=ti.size/\(len+new.length)*ti.bytes<=capBytes/\off+len<=rows.length) then none else
    if cp then some { val:=.c (.sl slot 0 (len+new.length) false),wr:=[(slot,some (.rows ti.size ((rows.drop off).take len ++ new) true false))],rd:=b :: rdx }
    else if off+len=rows.length then
     (if g then some { val:=.c (.sl slot 0 (len+new.length) false),wr:=[(b,oldOf sz rows fz),(slot,some (.rows sz (rows.drop off ++ new) true fz))],rd:=b :: rdx } else none)
    else if off+len+new.length<=rows.length/\fz=false then
     some { val:=.c (.sl b off (len+new.length) false),wr:=[(b,some (.rows sz (setRange rows (off+len) new) g false))],rd:=b :: rdx }
    else none
   | _=>none
  | _=>none
def evCopy (ti:TI) (h:Hp) (d x:AV):Option Eff:=
 match rowsOf h x,d with
 | some (src,rdx),.c (.sl b off len _)=>
  match h b with
  | some (.rows sz rows g false)=>
   if off+len<=rows.length/\(src.all fun r=>r.length == ti.size)/\sz=ti.size then
    some { val:=val1 (.int .i64 (min src.length len:Nat)),wr:=[(b,some (.rows sz (setRange rows off (src.take (min src.length len))) g false))],rd:=b :: rdx }
   else none
  | _=>none
 | _,_=>none
def evLen (C:Cfg) (h:Hp) (t:TypeId) (x:AV):Option Eff:=
 match C.ty t with
 | none=>none
 | some ti=>
  match ti.kind,x with
  | .slice _,.c (.sl _ _ len _)=>some { val:=val1 (.int .i64 len) }
  | .slice _,.c (.t (.lst _ rows))=>some { val:=val1 (.int .i64 rows.length) }
  | .string,.c (.t (.v (.string s)))=>some { val:=val1 (.int .i64 s.size) }
  | .array n _,_=>some { val:=val1 (.int .i64 n) }
  | .map _ _,.c (.mp b)=>match h b with
   | some (.map ents)=>some { val:=val1 (.int .i64 ents.length),rd:=[b] }
   | _=>none
  | _,_=>none
def evMax (gt:Bool):List AV->Option Eff
 | [.c (.t (.v (.int k a))),.c (.t (.v (.int k' b)))]=>if k=k' then some { val:=val1 (.int k (if gt then (if b > a then b else a) else (if b < a then b else a))) } else none
 | _=>none
def fillA (place:Nat->Option (Nat × Nat)):List Cell->List (Nat × AV)->Option (List Cell)
 | cs,[]=>some cs
 | cs,(i,v) :: rest=>
  match place i,v.cells with
  | some (off,size),some x=>if x.length=size/\off+size<=cs.length then fillA place (setRange cs off x) rest else none
  | _,_=>none
def fieldPl (C:Cfg) (fs:List (Nat × TypeId)) (i:Nat):Option (Nat × Nat):=
 match fs[i]? with
 | some (off,t)=>(C.ty t).map fun ti=>(off,ti.size)
 | none=>none
def fillRows (h:Hp) (size:Nat):List (List Tree)->List (Nat × AV)->Option (List (List Tree) × List (Nat × Option Blk))
 | rows,[]=>some (rows,[])
 | rows,(i,v) :: rest=>
  match v.cells with
  | some x=>if x.length=size/\i < rows.length then
    match toTrees h x with
    | some (ts,m)=>match fillRows h size (rows.set i ts) rest with
     | some (r,ms)=>some (r,m ++ ms)
     | none=>none
    | none=>none
   else none
  | none=>none
def treesOf:List Cell->Option (List Tree)
 | []=>some []
 | .t x :: cs=>(treesOf cs).map (x :: ·)
 | _ :: _=>none
def evSlice (C:Cfg) (h:Hp) (t:TypeId) (x:AV) (lo hi mx:Option AV):Option Eff:=
 match C.ty t with
 | none=>none
 | some ti=>
  match (match lo with | none=>some 0 | some v=>v.int?),(match hi with | none=>some none | some v=>v.int?.map some),(match mx with | none=>some none | some v=>v.int?.map some) with
  | some l,some hi,some m=>
   match ti.kind,x with
   | .string,.c (.t (.v (.string s)))=>
    let e:Int:=hi.getD s.size
    if 0<=l/\l<=e/\e<=s.size/\m=none then some { val:=val1 (.string (s.extract l.toNat e.toNat)) } else none
   | .slice e,.c (.sl b off len cp)=>
    let e':Int:=hi.getD len
    if 0<=l/\l<=e'/\e'<=len then
     match m,h b,C.ty e with
     | none,some (.rows sz _ _ _),some te=>
      if (cp=true->e'=len)/\sz=te.size then
       some { val:=.c (.sl b (off+l.toNat) (e'.toNat - l.toNat) cp),rd:=[b] } else none
     | some m',some (.rows sz _ _ _),some te=>
      if m'=e'/\hi.isSome/\sz=te.size then
       some { val:=.c (.sl b (off+l.toNat) (e'.toNat - l.toNat) true),rd:=[b] } else none
     | none,some (.var _),some te=>
      if (cp=true->e'=len)/\te.size=1 then
       some { val:=.c (.sl b (off+l.toNat) (e'.toNat - l.toNat) cp),rd:=[b] } else none
     | _,_,_=>none
    else none
   | .slice e,.c (.t (.lst cp rows))=>
    let e':Int:=hi.getD rows.length
    if 0<=l/\l<=e'/\e'<=rows.length then
     match m,C.ty e with
     | none,some te=>
      if (rows.all fun r=>r.length == te.size) then
       some { val:=.c (.t (.lst (cp && e' == rows.length) ((rows.drop l.toNat).take (e'.toNat - l.toNat)))) } else none
     | some m',some te=>
      if m'=e'/\hi.isSome/\(rows.all fun r=>r.length == te.size) then
       some { val:=.c (.t (.lst true ((rows.drop l.toNat).take (e'.toNat - l.toNat)))) } else none
     | _,_=>none
    else none
   | .array n el,.c (.ptr b r c)=>
    let e':Int:=hi.getD n
    match h b,C.ty el with
    | some (.var cells),some te=>
     if r=0/\c=0/\l=0/\0<=e'/\e'<=n/\m=none/\te.size=1/\cells.length=n/\n < 9223372036854775808 then
      match treesOf cells with
      | some ts=>some { val:=.c (.t (.lst false ((ts.take e'.toNat).map fun t=>[t]))),wr:=[(b,none)],rd:=[b] }
      | none=>none
     else none
    | _,_=>none
   | _,_=>none
  | _,_,_=>none
def evConvert (C:Cfg) (h:Hp) (src dst:TypeId) (x:AV):Option Eff:=
 match C.ty src,C.ty dst with
 | some ts,some td=>
  match ts.kind,td.kind,x with
  | .int _,.int k,.c (.t (.v (.int _ n)))=>some { val:=val1 (.int k (k.wrap n)) }
  | .string,.string,.c (.t (.v (.string s)))=>some { val:=val1 (.string s) }
  | .slice e,.string,x=>
   match C.ty e,rowsOf h x with
   | some te,some (rows,rd)=>
    match te.kind,rowsBytes rows,isSl x with
    | .int .u8,some l,true=>some { val:=val1 (.string ⟨l.toArray⟩),rd:=rd }
    | _,_,_=>none
   | _,_=>none
  | _,_,_=>none
 | _,_=>none
def ptrOf:AV->Option (Nat × Nat × Nat)
 | .c (.ptr b r c)=>some (b,r,c)
 | _=>none
def hasSl:List Cell->Bool
 | []=>false
 | .sl _ _ _ _ :: _=>true
 | _ :: l=>hasSl l
def updH (h:Hp):List (Nat × Option Blk)->Hp
 | []=>h
 | p :: l=>updH (fun b=>match Nat.beq b p.1 with | true=>p.2 | false=>h b) l
def capFix:Hp->List (Nat × Nat × Nat)->Option (List (Nat × Option Blk))
 | _,[]=>some []
 | h,(b,_,_) :: l=>match h b with
  | some (.var cells)=>match hasSl cells with
   | true=>match toTrees h cells with
    | some (ts,m)=>match capFix (updH h (m ++ [(b,some (.var (ts.map .t)))])) l with
     | some ws=>some (m ++ (b,some (.var (ts.map .t))) :: ws)
     | none=>none
    | none=>none
   | false=>capFix h l
  | _=>capFix h l
def capIds1:List (Nat × Nat × Nat)->List Nat
 | []=>[]
 | (b,_,_) :: l=>b :: capIds1 l
def capEff (h:Hp) (f:FuncId) (l:List (Nat × Nat × Nat)):Option Eff:=
 match capFix h l with
 | some ws=>some { val:=.c (.clo f l),wr:=ws,rd:=capIds1 l ++ ids ws }
 | none=>none
def keyFits:TK->Value->Bool
 | .int _,.int _ _=>true
 | .string,.string _=>true
 | .bool,.bool _=>true
 | _,_=>false
def evalOp (C:Cfg) (slot:Nat) (σ:Operand->AV) (h:Hp):Op->Option Eff
 | .move x=>some { val:=σ x }
 | .assign x=>some { val:=σ x }
 | .nilCheck x=>match σ x with
  | .c (.ptr b r c)=>some { val:=.c (.ptr b r c) }
  | .c (.tp row c)=>some { val:=.c (.tp row c) }
  | _=>none
 | .pick c a b=>match (σ c).bool? with
  | some true=>some { val:=σ a }
  | some false=>some { val:=σ b }
  | none=>none
 | .alloc t=>match C.ty t with
  | some ti=>some { val:=.c (.ptr slot 0 0),wr:=[(slot,some (.var (ti.zero.map .t)))] }
  | none=>none
 | .box t x=>match C.ty t,(σ x).cells with
  | some ti,some cs=>if cs.length=ti.size then some { val:=.c (.ptr slot 0 0),wr:=[(slot,some (.var cs))] } else none
  | _,_=>none
 | .build t parts=>match C.ty t with
  | some ti=>match ti.kind with
   | .struct fs=>match fillA (fieldPl C fs) (ti.zero.map .t) (parts.toList.map fun p=>(p.1,σ p.2)) with
    | some cs=>some { val:=.agg cs }
    | none=>none
   | .array _ e=>match C.ty e with
    | some te=>match fillA (fun i=>some (i*te.size,te.size)) (ti.zero.map .t) (parts.toList.map fun p=>(p.1,σ p.2)) with
     | some cs=>some { val:=.agg cs }
     | none=>none
    | none=>none
   | _=>none
  | none=>none
 | .buildSlice t len parts=>match C.ty t with
  | some ti=>match ti.kind with
   | .slice e=>match C.ty e with
    | some te=>if len*te.size<=2 ^ 24/\te.size ≠ 0 then
      match evBuildC C slot t te.size len (parts.toList.map fun p=>(p.1,σ p.2)) with
      | some e=>some e
      | none=>match fillRows h te.size (List.replicate len te.zero) (parts.toList.map fun p=>(p.1,σ p.2)) with
       | some (rows,m)=>some { val:=.c (.sl slot 0 len false),wr:=m ++ [(slot,some (.rows te.size rows true false))],rd:=ids m }
       | none=>none
     else none
    | none=>none
   | _=>none
  | none=>none
 | .load t a=>match C.ty t with
  | some ti=>match σ a with
   | .c (.ptr b r c)=>match h b with
    | some (.var cells)=>if r=0 then (getCells ti cells c).map fun v=>{ val:=v,rd:=[b] } else none
    | some (.rows _ rows _ _)=>match rows[r]? with
     | some row=>(getCells ti (row.map .t) c).map fun v=>{ val:=v,rd:=[b] }
     | none=>none
    | _=>none
   | .c (.tp row c)=>(getCells ti (row.map .t) c).map fun v=>{ val:=v }
   | _=>none
  | none=>none
 | .store t a x=>match C.ty t,(σ x).cells with
  | some ti,some cs=>if cs.length=ti.size then
    match σ a with
    | .c (.ptr b r c)=>match h b with
     | some (.var cells)=>if r=0/\c+cs.length<=cells.length then some { wr:=[(b,some (.var (setRange cells c cs)))],rd:=[b] } else none
     | some (.rows sz rows g false)=>match rows[r]?,toTrees h cs with
      | some row,some (ts,m)=>if c+ts.length<=row.length/\!(ids m).contains b then some { wr:=m ++ [(b,some (.rows sz (rows.set r (setRange row c ts)) g false))],rd:=b :: ids m } else none
      | _,_=>none
     | _=>none
    | _=>none
   else none
  | _,_=>none
 | .binOp op t x y _=>match σ x,σ y with
  | .c (.t (.v (.bool a))),.c (.t (.v (.bool b)))=>match C.ty t with
   | some ti=>match ti.kind,op with
    | .bool,.eql=>some { val:=val1 (.bool (a == b)) }
    | .bool,.neq=>some { val:=val1 (.bool (!(a == b))) }
    | _,_=>none
   | none=>none
  | .c (.t (.v (.slice base _ _))),_=>evNilX C op t y base
  | .c (.t (.v a)),.c (.t (.v b))=>(abin op a b).map fun v=>{ val:=val1 v }
  | .agg a,.agg b=>evEqArr C op t (eqInts a b) a.length b.length
  | .c (.t (.lst _ (_ :: _))),_=>evNil C op t y
  | .c (.sl _ _ (_+1) _),_=>evNil C op t y
  | _,_=>none
 | .unOp op _ x=>match σ x with
  | .c (.t (.v a))=>(aun op a).map fun v=>{ val:=val1 v }
  | _=>none
 | .convert src dst x=>evConvert C h src dst (σ x)
 | .makeSlice t l c=>match C.ty t with
  | some ti=>match ti.kind with
   | .slice e=>match C.ty e,(σ l).int?,(σ c).int? with
    | some te,some n,some m=>if 0<=n/\n<=m/\m*te.bytes<=capBytes/\1<=te.bytes/\te.size ≠ 0 then
      match C.cs t,te.zero with
      | true,[z]=>some { val:=.c (.sl slot 0 n.toNat false),wr:=[(slot,some (.var (List.replicate n.toNat (.t z))))] }
      | _,_=>some { val:=.c (.sl slot 0 n.toNat false),wr:=[(slot,some (.rows te.size (List.replicate n.toNat te.zero) true false))] } else none
    | _,_,_=>none
   | _=>none
  | none=>none
 | .slice t x lo hi mx=>evSlice C h t (σ x) (lo.map σ) (hi.map σ) (mx.map σ)
 | .fieldAddr t x f=>match C.ty t with
  | some ti=>match ti.kind with
   | .struct fs=>match fieldPl C fs f with
    | some (off,size)=>if size=0 then none else match σ x with
     | .c (.ptr b r c)=>some { val:=.c (.ptr b r (c+off)) }
     | .c (.tp row c)=>some { val:=.c (.tp row (c+off)) }
     | _=>none
    | none=>none
   | _=>none
  | none=>none
 | .field t x f=>match C.ty t with
  | some ti=>match ti.kind with
   | .struct fs=>match fs[f]? with
    | some (off,ft)=>match C.ty ft,σ x with
     | some tf,.agg l=>(getCells tf l off).map fun v=>{ val:=v }
     | _,_=>none
    | none=>none
   | _=>none
  | none=>none
 | .indexAddr t x i=>match C.ty t,(σ i).int? with
  | some ti,some n=>match ti.kind with
   | .array len e=>match C.ty e with
    | some te=>if 0<=n/\n < len then
      match σ x with
      | .c (.ptr b r c)=>some { val:=.c (.ptr b r (c+n.toNat*te.size)) }
      | .c (.tp row c)=>some { val:=.c (.tp row (c+n.toNat*te.size)) }
      | _=>none
     else none
    | none=>none
   | .slice e=>match C.ty e with
    | some te=>match σ x with
     | .c (.sl b off len _)=>match h b with
      | some (.rows sz _ _ _)=>if 0<=n/\n < len/\sz=te.size then
        some { val:=.c (.ptr b (off+n.toNat) 0),rd:=[b] } else none
      | some (.var _)=>if 0<=n/\n < len/\te.size=1 then
        some { val:=.c (.ptr b 0 (off+n.toNat)),rd:=[b] } else none
      | _=>none
     | .c (.t (.lst _ rows))=>if 0<=n then
       match rows[n.toNat]? with
       | some row=>if row.length=te.size then some { val:=.c (.tp row 0) } else none
       | none=>none
      else none
     | _=>none
    | none=>none
   | _=>none
  | _,_=>none
 | .index t x i=>match C.ty t,(σ i).int? with
  | some ti,some n=>match ti.kind,σ x with
   | .array len e,.agg l=>match C.ty e with
    | some te=>if 0<=n/\n < len then (getCells te l (n.toNat*te.size)).map fun v=>{ val:=v } else none
    | none=>none
   | .string,.c (.t (.v (.string s)))=>if 0<=n then
     match s[n.toNat]? with
     | some b=>some { val:=val1 (.int .u8 b.toNat) }
     | none=>none
    else none
   | _,_=>none
  | _,_=>none
 | .extract x i=>match σ x with
  | .tup l=>match l[i]? with
   | some v=>some { val:=v }
   | none=>none
  | _=>none
 | .makeFunc (.func f) first caps=>if first.size=0 then
   match Nat.blt f bndF,caps.toList.mapM (fun x=>ptrOf (σ x)) with
   | true,some l=>capEff h f l
   | _,_=>none
  else match caps.size,first.toList.mapM (fun x=>ptrOf (σ x)) with
   | 0,some l=>some { val:=.c (.clo (f+bndF) l),rd:=capIds1 l }
   | _,_=>none
 | .makeMap t r=>match C.ty t with
  | some ti=>match ti.kind,r with
   | .map _ _,none=>some { val:=.c (.mp slot),wr:=[(slot,some (.map []))] }
   | _,_=>none
  | none=>none
 | .lookup t x i ok=>match C.ty t with
  | some ti=>match ti.kind,σ x,σ i with
   | .map k e,.c (.mp b),.c (.t (.v key))=>match h b,C.ty k,C.ty e with
    | some (.map ents),some tk,some te=>if !keyFits tk.kind key || te.kind.agg then none else
      match findEnt key ents,te.zero with
      | some (some t),_=>some { val:=if ok then .tup [.c (.t t),val1 (.bool true)] else .c (.t t),rd:=[b] }
      | some none,[z]=>some { val:=if ok then .tup [.c (.t z),val1 (.bool false)] else .c (.t z),rd:=[b] }
      | _,_=>none
    | _,_,_=>none
   | _,_,_=>none
  | none=>none
 | .mapUpdate t x i v=>match C.ty t with
  | some ti=>match ti.kind,σ x,σ i,σ v with
   | .map k _,.c (.mp b),.c (.t (.v key)),.c (.t tv)=>match h b,C.ty k with
    | some (.map ents),some tk=>if !keyFits tk.kind key then none else
     match setEnt key tv ents with
     | some es=>some { wr:=[(b,some (.map es))],rd:=[b] }
     | none=>none
    | _,_=>none
   | _,_,_,_=>none
  | none=>none
 | .call { callee:=.builtin b,args,argTypes }=>
  match b,args.toList,argTypes[0]? with
  | .len,[x],some t=>evLen C h t (σ x)
  | .append,[s,x],some t=>match C.ty t with
   | some ti=>match ti.kind with
    | .slice e=>match C.ty e,argTypes[1]? with
     | some te,some t1=>match C.ty t1 with
      | some ti1=>match ti1.kind with
       | .slice _ | .string=>if te.size=0 ∨ te.bytes=0 then none else evAppend te slot h (σ s) (σ x)
       | _=>none
      | none=>none
     | _,_=>none
    | _=>none
   | none=>none
  | .copy,[d,x],some t=>match C.ty t with
   | some ti=>match ti.kind with
    | .slice e=>match C.ty e with
     | some te=>if te.size=0 then none else evCopy te h (σ d) (σ x)
     | none=>none
    | _=>none
   | none=>none
  | .max,[x,y],_=>evMax true [σ x,σ y]
  | .min,[x,y],_=>evMax false [σ x,σ y]
  | _,_,_=>none
 | _=>none
def ObjKeep (W:Place) (k:Nat):Obj->Option Obj->Prop
 | .cells c el fr,o'=>∃ c':Array Value,o'=some (.cells c' el fr)/\c'.size=c.size/\∀ i,¬ W k i->c'[i]?=c[i]?
 | .map es cl,o'=>∃ es' cl',o'=some (.map es' cl')/\((∀ i,¬ W k i)->es'=es/\cl'=cl)
 | ob,o'=>o'=some ob
structure Keep (W:Place) (w w':World):Prop where
 os:w'.os=w.os
 tape:w'.tape=w.tape
 output:w'.output=w.output
 size:w.heap.size<=w'.heap.size
 obj:∀ k ob,w.heap[k]?=some ob->ObjKeep W k ob (w'.heap[k]?)
theorem ObjKeep.refl (W:Place) (k:Nat) (ob:Obj):ObjKeep W k ob (some ob):=by
 cases ob <;> simp only [ObjKeep]
 ·exact ⟨_,rfl,rfl,fun _ _=>rfl⟩
 ·exact ⟨_,_,rfl,fun _=>⟨rfl,rfl⟩⟩
theorem Keep.refl (W:Place) (w:World):Keep W w w:=
 ⟨rfl,rfl,rfl,Nat.le_refl _,fun k ob h=>by rw [h]; exact ObjKeep.refl W k ob⟩
theorem Keep.trans {W Wr:Place} {w0 w w':World} (h:Keep W w0 w) (h':Keep Wr w w') (hW:∀ c o,c < w0.heap.size->Wr c o->W c o):Keep W w0 w':=by
 refine ⟨h'.os.trans h.os,h'.tape.trans h.tape,h'.output.trans h.output,Nat.le_trans h.size h'.size,fun k ob hk=>?_⟩
 have hlt:k < w0.heap.size:=by
  rcases Nat.lt_or_ge k w0.heap.size with h | h
  ·exact h
  ·rw [Array.getElem?_eq_none h] at hk; cases hk
 have h1:=h.obj k ob hk
 cases ob with
 | cells c el fr=>
  obtain ⟨c1,e1,s1,f1⟩:=h1
  obtain ⟨c2,e2,s2,f2⟩:=h'.obj k _ e1
  exact ⟨c2,e2,s2.trans s1,fun i hi=>(f2 i fun x=>hi (hW _ _ hlt x)).trans (f1 i hi)⟩
 | map es cl=>
  obtain ⟨es1,cl1,e1,f1⟩:=h1
  obtain ⟨es2,cl2,e2,f2⟩:=h'.obj k _ e1
  refine ⟨es2,cl2,e2,fun hn=>?_⟩
  obtain ⟨a,b⟩:=f2 fun i x=>hn i (hW _ _ hlt x)
  obtain ⟨c,d⟩:=f1 hn
  exact ⟨a.trans c,b.trans d⟩
 | _=>exact h'.obj k _ h1
theorem Keep.mono {W W':Place} {w w':World} (h:Keep W w w') (hW:∀ c o,c < w.heap.size->W c o->W' c o):Keep W' w w':=
 (Keep.refl W' w).trans h hW
theorem Keep.cell {W:Place} {w w':World} (h:Keep W w w') {b o:Nat} (hb:b < w.heap.size) (hW:¬ W b o) :
  w'.cell? ⟨b,o,none⟩=w.cell? ⟨b,o,none⟩/\w'.frozen? ⟨b,o,none⟩=w.frozen? ⟨b,o,none⟩:=by
 have hg:w.heap[b]?=some w.heap[b]:=Array.getElem?_eq_getElem hb
 have:=h.obj b _ hg
 unfold World.cell? World.frozen?
 cases hx:w.heap[b] with
 | cells c el fr=>
  rw [hx] at this
  obtain ⟨c1,e1,s1,f1⟩:=this
  simp only [hg,hx,e1]
  exact ⟨by simpa using f1 o hW,trivial⟩
 | map es cl=>
  rw [hx] at this
  obtain ⟨es1,cl1,e1,f1⟩:=this
  simp only [hg,hx,e1]
  exact ⟨trivial,trivial⟩
 | _=>
  rw [hx] at this
  simp only [ObjKeep] at this
  simp only [hg,hx,this]
  exact ⟨trivial,trivial⟩
def there (w:World) (cb co n:Nat):Prop:=∀ o,co<=o->o < co+n->(w.cell? ⟨cb,o,none⟩).isSome=true/\w.frozen? ⟨cb,o,none⟩=false
def Blk.ext (blk:Blk) (R:Reg):Place:=fun b o=>b=R.cb/\match blk with
 | .var cells=>R.co<=o/\o < R.co+max cells.length R.cap
 | .rows _ l g _=>R.co<=o/\o < R.co+(if g then R.cap else l.length)*R.stride
 | .map _=>True
 | .old _ _=>False
def Blk.wr (blk:Blk) (R:Reg):Place:=fun b o=>b=R.cb/\match blk with
 | .var cells=>R.co<=o/\o < R.co+max cells.length R.cap
 | .rows _ l g fz=>R.co+(if fz then l.length*R.stride else 0)<=o/\o < R.co+(if g then R.cap else l.length)*R.stride
 | .map _=>True
 | .old _ _=>False
theorem Blk.wr_ext {blk:Blk} {R:Reg} {b o:Nat} (h:blk.wr R b o):blk.ext R b o:=by
 unfold Blk.wr Blk.ext at *
 refine ⟨h.1,?_⟩
 have:=h.2
 cases blk with
 | var=>exact this
 | rows sz rows g fz=>exact ⟨by have:=this.1; omega,this.2⟩
 | map=>trivial
 | old=>exact this
def BlkOk (β:Nat->Option Reg) (S:Place) (w:World) (B0:Nat) (R:Reg):Blk->Prop
 | .var cells=>(there w R.cb R.co (max cells.length R.cap)/\R.stride=1/\R.cap < 2 ^ 63)/\∀ j c,cells[j]?=some c->∃ v,w.cell? ⟨R.cb,R.co+j,none⟩=some v/\CRep β S w c v
 | .rows sz rows g fz=>sz=R.stride/\(∀ r ∈ rows,r.length=R.stride)/\rows.length<=R.cap/\R.cap < 2 ^ 63/\rows.length < 2 ^ 60/\there w R.cb R.co ((if g then R.cap else rows.length)*R.stride) /\
   (∀ i j t,at2 rows i j=some t->∃ v,w.cell? ⟨R.cb,R.co+i*R.stride+j,none⟩=some v/\TRep S w t v) /\
   (fz=true->∀ o,R.co<=o->o < R.co+rows.length*R.stride->S R.cb o)
 | .map ents=>B0<=R.cb/\∃ (es:Array MapEntry) (clock:Nat),w.heap[R.cb]?=some (.map es clock)/\es.size=ents.length /\
   ∀ (i:Nat) (k:Value) (t:Tree),ents[i]?=some (k,t)->∃ e:MapEntry,es[i]?=some e/\e.key=k/\TRep S w t e.val
 | .old sz rows=>sz=R.stride/\(∀ r ∈ rows,r.length=R.stride)/\R.cap < 2 ^ 63/\∃ cap,TRep S w (.lst false rows) (.slice (some ⟨R.cb,R.co,none⟩) rows.length cap)
structure Ctx where
 w0:World
 W:Place
 S0:Place
 β0:Nat->Option Reg
abbrev Ctx.B0 (K:Ctx):Nat:=K.w0.heap.size
structure Sat (K:Ctx) (β:Nat->Option Reg) (S:Place) (st:St) (a:Act) (w:World):Prop where
 len:a.tmps.size=st.tmps.length
 defers:a.defers=[]
 tmps:∀ t x,st.tmps[t]?=some x->VRep β S w x (a.tmps.getD t undef)
 top:∀ b R,β b=some R->b < st.heap.length
 blk:∀ b blk,look st.heap b=some blk->∃ R,β b=some R/\BlkOk β S w K.B0 R blk/\(∀ c o,blk.ext R c o->c < w.heap.size/\(K.B0<=c ∨ K.W c o))/\(∀ c o,blk.wr R c o->¬ S c o)
 dis:∀ b b' blk blk' R R',b ≠ b'->look st.heap b=some blk->look st.heap b'=some blk'->β b=some R->β b'=some R'->∀ c o,blk.ext R c o->¬ blk'.ext R' c o
 sex:∀ c o,S c o->c < w.heap.size
 sin:∀ c o,S c o->K.S0 c o ∨ K.B0<=c ∨ K.W c o
 sub:∀ c o,K.S0 c o->S c o
 keep:Keep K.W K.w0 w
 arg:∀ i R,K.β0 i=some R->β i=some R
theorem qaw {h:Heap} {b:Nat} {blk:Blk} (e:look h b=some blk):b < h.length:=by
 unfold look at e
 rcases Nat.lt_or_ge b h.length with h1 | h1
 ·exact h1
 ·simp [List.getElem?_eq_none h1] at e
theorem BlkOk.keep {β β':Nat->Option Reg} {S S':Place} {w w':World} {B0:Nat} {R:Reg} {blk:Blk} {Wr:Place}
  (h:BlkOk β S w B0 R blk) (hk:Keep Wr w w') (hβ:∀ b R,β b=some R->β' b=some R) (hS:∀ b o,S b o->S' b o)
  (hw:∀ b o,S b o->w'.cell? ⟨b,o,none⟩=w.cell? ⟨b,o,none⟩)
  (hx:∀ c o,blk.ext R c o->c < w.heap.size/\¬ Wr c o):BlkOk β' S' w' B0 R blk:=by
 have th:∀ n,(∀ o,R.co<=o->o < R.co+n->blk.ext R R.cb o)->there w R.cb R.co n->there w' R.cb R.co n:=by
  intro n hn ht o h1 h2
  obtain ⟨a,b⟩:=hx _ _ (hn o h1 h2)
  obtain ⟨c,d⟩:=hk.cell a b
  rw [c,d]
  exact ht o h1 h2
 cases blk with
 | var cells=>
  refine ⟨⟨th _ (fun o h1 h2=>⟨rfl,h1,h2⟩) h.1.1,h.1.2⟩,fun j c hj=>?_⟩
  obtain ⟨v,a,b⟩:=h.2 j c hj
  have hlt:j < cells.length:=by
   rcases Nat.lt_or_ge j cells.length with h1 | h1
   ·exact h1
   ·rw [List.getElem?_eq_none h1] at hj; cases hj
  obtain ⟨p,q⟩:=hx R.cb (R.co+j) ⟨rfl,by omega,by omega⟩
  exact ⟨v,by rw [(hk.cell p q).1]; exact a,b.mono hβ hS hw⟩
 | rows sz rows g fz=>
  obtain ⟨h0,h1,h2,h3,h3',h4,h5,h6⟩:=h
  refine ⟨h0,h1,h2,h3,h3',th _ (fun o a b=>⟨rfl,a,b⟩) h4,fun i j t ht=>?_,fun hf o a b=>hS _ _ (h6 hf o a b)⟩
  obtain ⟨v,a,b⟩:=h5 i j t ht
  have hin:R.co+i*R.stride+j < R.co+(if g then R.cap else rows.length)*R.stride:=by
   unfold at2 at ht
   obtain ⟨row,hr,hj⟩:=Option.bind_eq_some_iff.1 ht
   have hi:i < rows.length:=by
    rcases Nat.lt_or_ge i rows.length with h1 | h1
    ·exact h1
    ·rw [List.getElem?_eq_none h1] at hr; cases hr
   have hjl:j < R.stride:=by
    rw [<- h1 row (List.mem_of_getElem? hr)]
    rcases Nat.lt_or_ge j row.length with h1 | h1
    ·exact h1
    ·rw [List.getElem?_eq_none h1] at hj; cases hj
   have:i+1<=(if g then R.cap else rows.length):=by split <;> omega
   have:=Nat.mul_le_mul_right R.stride this
   rw [Nat.succ_mul] at this
   omega
  obtain ⟨p,q⟩:=hx R.cb _ ⟨rfl,by omega,hin⟩
  exact ⟨v,by rw [(hk.cell p q).1]; exact a,b.mono hS hw⟩
 | map ents=>
  obtain ⟨h1,es,cl,h2,h3,h4⟩:=h
  obtain ⟨p,q⟩:=hx R.cb 0 ⟨rfl,trivial⟩
  obtain ⟨es',cl',e,f⟩:=hk.obj R.cb _ h2
  obtain ⟨rfl,rfl⟩:=f fun i=>(hx R.cb i ⟨rfl,trivial⟩).2
  refine ⟨h1,_,_,e,h3,fun i k t hi=>?_⟩
  obtain ⟨en,a,b,c⟩:=h4 i k t hi
  exact ⟨en,a,b,c.mono hS hw⟩
 | old sz rows=>
  obtain ⟨h1,h2,h3,cap,h4⟩:=h
  exact ⟨h1,h2,h3,cap,h4.mono hS hw⟩
theorem Sat.step {K:Ctx} {β:Nat->Option Reg} {S:Place} {st:St} {a:Act} {w:World} (h:Sat K β S st a w)
  {w':World} {β':Nat->Option Reg} {S':Place} {heap':Heap} {Wr:Place} (D:Nat->Prop)
  (hk:Keep Wr w w')
  (hWr:∀ c o,Wr c o->c < w.heap.size->¬ S c o/\(K.B0<=c ∨ K.W c o)/\(∀ b blk R,¬ D b->look st.heap b=some blk->β b=some R->¬ blk.ext R c o))
  (hβ:∀ b R,β b=some R->β' b=some R) (htop:∀ b R,β' b=some R->b < heap'.length)
  (hS:∀ c o,S c o->S' c o)
  (hSn:∀ c o,S' c o->S c o ∨ (c < w'.heap.size/\(K.B0<=c ∨ K.W c o)/\(∀ b blk R,¬ D b->look st.heap b=some blk->β b=some R->¬ blk.wr R c o)))
  (hclean:∀ b blk,¬ D b->look heap' b=some blk->look st.heap b=some blk)
  (hdirty:∀ b blk,D b->look heap' b=some blk->∃ R,β' b=some R/\BlkOk β' S' w' K.B0 R blk /\
   (∀ c o,blk.ext R c o->c < w'.heap.size/\(K.B0<=c ∨ K.W c o))/\(∀ c o,blk.wr R c o->¬ S' c o) /\
   (∀ b' blk' R',b' ≠ b->look heap' b'=some blk'->β' b'=some R'->∀ c o,blk.ext R c o->¬ blk'.ext R' c o)) :
  Sat K β' S' ⟨st.tmps,heap'⟩ a w':=by
 have hw:∀ c o,S c o->w'.cell? ⟨c,o,none⟩=w.cell? ⟨c,o,none⟩:=fun c o hs=>
  (hk.cell (h.sex c o hs) fun hx=>(hWr c o hx (h.sex c o hs)).1 hs).1
 refine ⟨h.len,h.defers,fun t x ht=>(h.tmps t x ht).mono hβ hS hw,htop,fun b blk hb=>?_,fun b b' blk blk' R R' hne hb hb' hR hR' c o=>?_,fun c o hs=>?_,fun c o hs=>?_,fun c o hs=>hS _ _ (h.sub c o hs),?_,fun i R hi=>hβ _ _ (h.arg i R hi)⟩
 ·by_cases hD:D b
  ·obtain ⟨R,h1,h2,h3,h4,_⟩:=hdirty b blk hD hb
   exact ⟨R,h1,h2,h3,h4⟩
  ·have hb0:=hclean b blk hD hb
   obtain ⟨R,h1,h2,h3,h4⟩:=h.blk b blk hb0
   refine ⟨R,hβ _ _ h1,h2.keep hk hβ hS hw fun c o hx=>⟨(h3 c o hx).1,fun hy=>(hWr c o hy (h3 c o hx).1).2.2 b blk R hD hb0 h1 hx⟩,fun c o hx=>⟨Nat.lt_of_lt_of_le (h3 c o hx).1 hk.size,(h3 c o hx).2⟩,fun c o hx hs=>?_⟩
   rcases hSn c o hs with hs | ⟨_,_,hs⟩
   ·exact h4 c o hx hs
   ·exact hs b blk R hD hb0 h1 hx
 ·by_cases hD:D b
  ·obtain ⟨R1,h1,_,_,_,h5⟩:=hdirty b blk hD hb
   rw [hR] at h1; cases h1
   exact h5 b' blk' R' (Ne.symm hne) hb' hR' c o
  ·by_cases hD':D b'
   ·obtain ⟨R1,h1,_,_,_,h5⟩:=hdirty b' blk' hD' hb'
    rw [hR'] at h1; cases h1
    intro hx hy
    exact h5 b blk R hne hb hR c o hy hx
   ·have hb0:=hclean b blk hD hb
    have hb0':=hclean b' blk' hD' hb'
    obtain ⟨R1,h1,_⟩:=h.blk b blk hb0
    obtain ⟨R1',h1',_⟩:=h.blk b' blk' hb0'
    have e:=hβ _ _ h1; rw [hR] at e; cases e
    have e:=hβ _ _ h1'; rw [hR'] at e; cases e
    exact h.dis b b' blk blk' R R' hne hb0 hb0' h1 h1' c o
 ·rcases hSn c o hs with hs | ⟨h1,_,_⟩
  ·exact Nat.lt_of_lt_of_le (h.sex c o hs) hk.size
  ·exact h1
 ·rcases hSn c o hs with hs | ⟨_,h1,_⟩
  ·exact h.sin c o hs
  ·exact .inr h1
 ·exact h.keep.trans hk fun c o hlt hx=>by
   rcases (hWr c o hx (Nat.lt_of_lt_of_le hlt h.keep.size)).2.1 with h1 | h1
   ·exact absurd hlt (Nat.not_lt.2 h1)
   ·exact h1
theorem Sat.put {K:Ctx} {β:Nat->Option Reg} {S:Place} {st:St} {a:Act} {w:World} (h:Sat K β S st a w) {x:AV} {v:Value}
  (hv:VRep β S w x v) (d:Option Tmp):Sat K β S ⟨(match d with | some d=>st.tmps.set d x | none=>st.tmps),st.heap⟩ (a.put d v) w:=by
 cases d with
 | none=>exact ⟨h.len,h.defers,h.tmps,h.top,h.blk,h.dis,h.sex,h.sin,h.sub,h.keep,h.arg⟩
 | some d=>
  refine ⟨by simp [Act.put,h.len],h.defers,fun t y ht=>?_,h.top,h.blk,h.dis,h.sex,h.sin,h.sub,h.keep,h.arg⟩
  have hl:=h.len
  have h3:=h.tmps t y
  simp only [Act.put] at *
  rw [List.getElem?_set] at ht
  split at ht
  ·rename_i hdt
   subst hdt
   split at ht
   ·cases ht
    rename_i hlt
    rw [<- hl] at hlt
    simp [Array.getD,hlt,hv]
   ·cases ht
  ·rename_i hdt
   have:=h3 ht
   simp only [Array.getD_eq_getD_getElem?,Array.getElem?_setIfInBounds] at *
   rw [if_neg hdt]
   exact this
def zeroCell:Tree->Value->Bool
 | .v (.int k a),.int k' b=>k == k' && a == b
 | .v (.bool a),.bool b=>a == b
 | .v (.string a),.string b=>decide (a=b)
 | .lst true [],.slice none 0 0=>true
 | .v (.map none),.map none=>true
 | .v .nilFunc,.nilFunc=>true
 | .v .nilIface,.nilIface=>true
 | .v (.pointer none),.pointer none=>true
 | _,_=>false
def zeroCells:List Tree->List Value->Bool
 | [],[]=>true
 | t :: ts,v :: vs=>zeroCell t v && zeroCells ts vs
 | _,_=>false
def zeroOk (agg:Bool) (ts:List Tree) (z:Value):Bool:=
 match agg,z with
 | true,.agg cs=>zeroCells ts cs.toList
 | false,v=>zeroCells ts [v]
 | _,_=>false
def kindOk:TK->TypeDesc->Bool
 | .int k,.int k'=>k == k'
 | .bool,.bool=>true
 | .string,.string=>true
 | .slice e,.slice e'=>e == e'
 | .array n e,.array n' e'=>n == n' && e == e'
 | .struct fs,.struct fields=>fields.toList.map (fun f=>(f.offset,f.type)) == fs
 | .map k e,.map k' e'=>k == k' && e == e'
 | .other,d=>!(d matches .struct _ | .array .. )
 | _,_=>false
def tyB (P:Program) (t:TypeId) (ti:TI):Bool:=
 match P.info? t,P.underlying t with
 | some i,some d=>i.size == ti.size && i.bytes == ti.bytes && (match i.zero with | some z=>zeroOk ti.kind.agg ti.zero z | none=>false) && kindOk ti.kind d && ti.zero.length == ti.size && decide (ti.bytes<=1048576) && (match d with | .struct fields=>fields.toList.all (fun f=>(P.info? f.type).isSome) | .array _ _=>!P.eqGuardType P.depth t | _=>true)
 | _,_=>false
def CfgOk (P:Program) (C:Cfg):Prop:=∀ t ti,C.ty t=some ti->tyB P t ti=true
structure TyOk (P:Program) (t:TypeId) (ti:TI):Prop where
 info:∃ i,P.info? t=some i/\i.size=ti.size/\i.bytes=ti.bytes/\∃ z,i.zero=some z/\zeroOk ti.kind.agg ti.zero z=true
 und:∃ d,P.underlying t=some d/\kindOk ti.kind d=true
 len:ti.zero.length=ti.size
 small:ti.bytes<=1048576
 fields:∀ fields,P.underlying t=some (.struct fields)->∀ f ∈ fields.toList,(P.info? f.type).isSome=true
 guard:∀ n e,P.underlying t=some (.array n e)->P.eqGuardType P.depth t=false
theorem qah {P:Program} {t:TypeId} {ti:TI} (h:tyB P t ti=true):TyOk P t ti:=by
 unfold tyB at h
 split at h
 ·rename_i i d hi hd
  simp only [Bool.and_eq_true,beq_iff_eq] at h
  obtain ⟨⟨⟨⟨⟨⟨h1,h2⟩,h3⟩,h4⟩,h5⟩,h6⟩,h7⟩:=h
  split at h3
  ·rename_i z hz
   exact ⟨⟨i,hi,h1,h2,z,hz,h3⟩,⟨d,hd,h4⟩,h5,by simpa using h6,fun fields hf f hm=>by rw [hd] at hf; cases hf; exact List.all_eq_true.1 h7 f hm,fun n e hf=>by rw [hd] at hf; cases hf; simpa using h7⟩
  ·cases h3
 ·cases h
theorem zeroCell_rep {t:Tree} {v:Value} (h:zeroCell t v=true) (S:Place) (w:World):TRep S w t v:=by
 unfold zeroCell at h
 split at h
 ·simp only [Bool.and_eq_true,beq_iff_eq] at h
  obtain ⟨rfl,rfl⟩:=h
  exact .v _ fun l=>by simp
 ·simp only [beq_iff_eq] at h; subst h; exact .v _ fun l=>by simp
 ·simp only [decide_eq_true_eq] at h; subst h; exact .v _ fun l=>by simp
 ·exact .lst true [] none 0 0 0 0 (fun _ _=>undef) (by simp) (by omega) (by simp) (by simp) (by simp) (by simp) (by simp) (by simp [at2]) (by simp [at2])
 ·exact .v _ fun l=>by simp
 ·exact .v _ fun l=>by simp
 ·exact .v _ fun l=>by simp
 ·exact .v _ fun l=>by simp
 ·cases h
theorem zeroCells_rep:∀ {ts:List Tree} {vs:List Value},zeroCells ts vs=true->∀ (S:Place) (w:World),vs.length=ts.length/\∀ (i:Nat) (t:Tree),ts[i]?=some t->∃ v:Value,vs[i]?=some v/\TRep S w t v
 | [],[],_,S,w=>⟨rfl,by simp⟩
 | t :: ts,v :: vs,h,S,w=>by
  simp only [zeroCells,Bool.and_eq_true] at h
  obtain ⟨h1,h2⟩:=zeroCells_rep h.2 S w
  refine ⟨by simp [h1],fun i t' ht=>?_⟩
  cases i with
  | zero=>simp at ht; subst ht; exact ⟨v,rfl,zeroCell_rep h.1 S w⟩
  | succ i=>simpa using h2 i t' (by simpa using ht)
 | [],_ :: _,h,_,_=>by simp [zeroCells] at h
 | _ :: _,[],h,_,_=>by simp [zeroCells] at h
section
variable {P:Program} {t:TypeId} {ti:TI} (h:TyOk P t ti) (w:World)
include h
theorem TyOk.sizeOf:(sizeOf t).run P w=.ok ti.size w:=by
 obtain ⟨i,h1,h2,h3,_⟩:=h.info
 simp [Go.sizeOf,typeInfo,h1,h2,Result.andThen]
theorem TyOk.typeInfo:∃ i:TypeInfo,(typeInfo t).run P w=.ok i w/\i.bytes=ti.bytes/\i.size=ti.size:=by
 obtain ⟨i,h1,h2,h3,_⟩:=h.info
 exact ⟨i,by simp [Go.typeInfo,h1,Result.andThen],h3,h2⟩
theorem TyOk.zeroValue (S:Place):∃ z,(zeroValue t).run P w=.ok z w/\z.cells.size=ti.size/\(∀ (i:Nat) (t:Tree),ti.zero[i]?=some t->∃ v:Value,z.cells.toList[i]?=some v/\TRep S w t v)/\(ti.kind.agg=false->one z)/\(ti.kind.agg=true->∃ cs,z=.agg cs):=by
 obtain ⟨i,h1,h2,h3,z,h4,h5⟩:=h.info
 refine ⟨z,by simp [Go.zeroValue,Go.typeInfo,h1,h4,Result.andThen],?_⟩
 cases hag:ti.kind.agg with
 | true=>
  rw [hag] at h5
  cases z with
  | agg cs=>
   obtain ⟨h6,h7⟩:=zeroCells_rep (ts:=ti.zero) (vs:=cs.toList) h5 S w
   exact ⟨by rw [<- h.len,<- h6]; rfl,h7,by simp,fun _=>⟨cs,rfl⟩⟩
  | _=>simp [zeroOk] at h5
 | false=>
  rw [hag] at h5
  simp only [zeroOk] at h5
  obtain ⟨h6,h7⟩:=zeroCells_rep h5 S w
  have hone:one z:=by
   cases hz:ti.zero with
   | nil=>rw [hz] at h5; simp [zeroCells] at h5
   | cons t0 ts=>
    obtain ⟨v,hv,hr⟩:=h7 0 t0 (by simp [hz])
    simp at hv; subst hv; exact hr.one
  have hc:z.cells=#[z]:=by
   unfold Value.cells
   split
   ·rename_i cs; exact absurd rfl (hone cs).1
   ·rfl
  rw [hc]
  exact ⟨by rw [<- h.len,<- h6]; rfl,by simpa using h7,fun _=>hone,by simp⟩
theorem TyOk.isAgg:(isAgg t).run P w=.ok ti.kind.agg w:=by
 obtain ⟨d,h1,h2⟩:=h.und
 simp only [Go.isAgg,Sem.run_bind,run_underlying h1,Result.andThen]
 cases hk:ti.kind <;> cases d <;> simp_all [kindOk,TK.agg]
theorem TyOk.slice {e:TypeId} (hk:ti.kind=.slice e):P.underlying t=some (.slice e):=by
 obtain ⟨d,h1,h2⟩:=h.und
 rw [hk] at h2; cases d <;> simp [kindOk] at h2; rw [h1,h2]
theorem TyOk.array {n:Nat} {e:TypeId} (hk:ti.kind=.array n e):P.underlying t=some (.array n e):=by
 obtain ⟨d,h1,h2⟩:=h.und
 rw [hk] at h2; cases d <;> simp [kindOk] at h2; rw [h1,h2.1,h2.2]
theorem TyOk.struct {fs:List (Nat × TypeId)} (hk:ti.kind=.struct fs):∃ fields:Array Field,P.underlying t=some (.struct fields)/\fields.toList.map (fun f=>(f.offset,f.type))=fs:=by
 obtain ⟨d,h1,h2⟩:=h.und
 rw [hk] at h2; cases d <;> simp only [kindOk,beq_iff_eq] at h2 <;> first | (cases h2; done) | exact ⟨_,h1,h2⟩
theorem TyOk.map {k e:TypeId} (hk:ti.kind=.map k e):P.underlying t=some (.map k e):=by
 obtain ⟨d,h1,h2⟩:=h.und
 rw [hk] at h2; cases d <;> simp [kindOk] at h2; rw [h1,h2.1,h2.2]
theorem TyOk.string (hk:ti.kind=.string):P.underlying t=some .string:=by
 obtain ⟨d,h1,h2⟩:=h.und
 rw [hk] at h2; cases d <;> simp [kindOk] at h2; rw [h1]
theorem TyOk.bool (hk:ti.kind=.bool):P.underlying t=some .bool:=by
 obtain ⟨d,h1,h2⟩:=h.und
 rw [hk] at h2; cases d <;> simp [kindOk] at h2; rw [h1]
theorem TyOk.int {k:IntKind} (hk:ti.kind=.int k):P.underlying t=some (.int k):=by
 obtain ⟨d,h1,h2⟩:=h.und
 rw [hk] at h2; cases d <;> simp [kindOk] at h2; rw [h1,h2]
end
theorem one_cells {v:Value} (h:one v):v.cells=#[v]:=by
 unfold Value.cells
 split
 ·rename_i cs; exact absurd rfl (h cs).1
 ·rfl
theorem one_oneCell {v:Value} (h:one v):v.oneCell'=true:=by
 unfold Value.oneCell'
 split
 ·rename_i cs; exact absurd rfl (h cs).1
 ·rename_i cs; exact absurd rfl (h cs).2
 ·rfl
theorem one_of_oneB {v:Value} (h:oneB v=true):one v:=by
 intro l; constructor <;> rintro rfl <;> simp [oneB] at h
theorem ofConstCell_rep {v:Value} (h:oneB v=true) (β:Nat->Option Reg) (S:Place) (w:World):CRep β S w (ofConstCell v) v:=by
 unfold ofConstCell
 split
 ·exact .t (.lst true [] none 0 0 0 0 (fun _ _=>undef) (by simp) (by omega) (by simp) (by simp) (by simp) (by simp) (by simp) (by simp [at2]) (by simp [at2]))
 ·exact .t (.v _ (one_of_oneB h))
theorem ofConst_rep (v:Value) (β:Nat->Option Reg) (S:Place) (w:World):VRep β S w (ofConst v) v:=by
 unfold ofConst
 split
 ·rename_i cs
  split
  ·rename_i hall
   refine .agg cs.toList (by simp) fun i c hi=>?_
   rw [List.getElem?_map] at hi
   obtain ⟨v,hv,rfl⟩:=Option.map_eq_some_iff.1 hi
   exact ⟨v,hv,ofConstCell_rep (List.all_eq_true.1 hall v (List.mem_of_getElem? hv)) _ _ _⟩
  ·exact .junk _
 ·exact .junk _
 ·rename_i h1 h2
  refine .c (ofConstCell_rep ?_ _ _ _)
  unfold oneB
  split
  ·rename_i cs; exact absurd rfl (h1 cs)
  ·rename_i cs; exact absurd rfl (h2 cs)
  ·rfl
theorem Sat.get {K:Ctx} {β:Nat->Option Reg} {S:Place} {st:St} {a:Act} {w:World} (h:Sat K β S st a w) (x:Operand):VRep β S w (st.get x) (a.eval x):=by
 cases x with
 | tmp t=>
  unfold St.get Act.eval
  rcases Nat.lt_or_ge t st.tmps.length with hlt | hge
  ·simp only [List.getD_eq_getElem?_getD,List.getElem?_eq_getElem hlt,Option.getD_some]
   exact h.tmps t _ (List.getElem?_eq_getElem hlt)
  ·simp only [List.getD_eq_getElem?_getD,List.getElem?_eq_none hge,Option.getD_none]
   exact .junk _
 | const v=>exact ofConst_rep v _ _ _
 | global g=>exact .junk _
 | func f=>exact .c (.t (.v _ fun l=>by simp))
theorem VRep.int {β:Nat->Option Reg} {S:Place} {w:World} {x:AV} {v:Value} {n:Int} (h:VRep β S w x v) (hx:x.int?=some n):∃ k,v=.int k n/\x=.c (.t (.v (.int k n))):=by
 unfold AV.int? at hx
 split at hx
 ·cases hx; cases h with | c h=>cases h with | t h=>cases h; exact ⟨_,rfl,rfl⟩
 ·cases hx
theorem VRep.bool {β:Nat->Option Reg} {S:Place} {w:World} {x:AV} {v:Value} {n:Bool} (h:VRep β S w x v) (hx:x.bool?=some n):v=.bool n:=by
 unfold AV.bool? at hx
 split at hx
 ·cases hx; cases h with | c h=>cases h with | t h=>cases h; rfl
 ·cases hx
theorem VRep.scalar {β:Nat->Option Reg} {S:Place} {w:World} {v y:Value} (h:VRep β S w (.c (.t (.v y))) v):v=y/\one y:=by
 cases h with | c h=>cases h with | t h=>cases h with | v _ h=>exact ⟨rfl,h⟩
theorem VRep.of1 {β:Nat->Option Reg} {S:Place} {w:World} {v:Value} (h:one v):VRep β S w (val1 v) v:=.c (.t (.v v h))
theorem VRep.aggE {β:Nat->Option Reg} {S:Place} {w:World} {l:List Cell} {v:Value} (h:VRep β S w (.agg l) v) :
  ∃ vs:List Value,v=.agg vs.toArray/\vs.length=l.length/\∀ (i:Nat) (c:Cell),l[i]?=some c->∃ v:Value,vs[i]?=some v/\CRep β S w c v:=by
 cases h with | agg vs h1 h2=>exact ⟨vs,rfl,h1,h2⟩
theorem VRep.cellsE {β:Nat->Option Reg} {S:Place} {w:World} {x:AV} {l:List Cell} {v:Value} (h:VRep β S w x v) (hx:x.cells=some l) :
  v.cells.toList.length=l.length/\∀ (i:Nat) (c:Cell),l[i]?=some c->∃ u:Value,v.cells.toList[i]?=some u/\CRep β S w c u:=by
 unfold AV.cells at hx
 split at hx
 ·cases hx
  cases h with | c h=>
  rw [one_cells h.one]
  refine ⟨rfl,fun i c hi=>?_⟩
  cases i with
  | zero=>simp at hi; subst hi; exact ⟨v,rfl,h⟩
  | succ i=>simp at hi
 ·cases hx
  obtain ⟨vs,rfl,h1,h2⟩:=h.aggE
  exact ⟨by simpa [Value.cells] using h1,by simpa [Value.cells] using h2⟩
 ·cases hx
theorem qbe (b o n:Nat):(⟨b,o,none⟩:Addr).add n=⟨b,o+n,none⟩:=Addr.add_lit b o n
theorem exists_list {α:Type} {Q:Nat->α->Prop}:∀ (n:Nat),(∀ i,i < n->∃ v,Q i v)->∃ vs:List α,vs.length=n/\∀ i v,vs[i]?=some v->Q i v
 | 0,_=>⟨[],rfl,by simp⟩
 | n+1,h=>by
  obtain ⟨vs,h1,h2⟩:=exists_list n fun i hi=>h i (by omega)
  obtain ⟨v,hv⟩:=h n (by omega)
  refine ⟨vs ++ [v],by simp [h1],fun i u hu=>?_⟩
  rw [List.getElem?_append] at hu
  split at hu
  ·exact h2 i u hu
  ·rename_i hge
   have:i=n:=by
    rcases Nat.lt_or_ge (i - vs.length) 1 with h3 | h3
    ·omega
    ·rw [List.getElem?_eq_none (by simpa using h3)] at hu; cases hu
   subst this
   simp [h1] at hu
   subst hu; exact hv
theorem getCells_agg {ti:TI} {cells:List Cell} {c:Nat} {x:AV} (h:getCells ti cells c=some x) (ha:ti.kind.agg=true) :
  c+ti.size<=cells.length/\x=.agg ((cells.drop c).take ti.size):=by
 unfold getCells at h
 rw [if_pos ha] at h
 split at h
 ·exact ⟨by assumption,by cases h; rfl⟩
 ·cases h
theorem getCells_one {ti:TI} {cells:List Cell} {c:Nat} {x:AV} (h:getCells ti cells c=some x) (ha:ti.kind.agg=false) :
  ∃ y,cells[c]?=some y/\x=.c y:=by
 unfold getCells at h
 rw [ha] at h
 simp only [Bool.false_eq_true,if_false] at h
 obtain ⟨y,h1,h2⟩:=Option.map_eq_some_iff.1 h
 exact ⟨y,h1,h2.symm⟩
section
variable {P:Program} {t:TypeId} {ti:TI} {β:Nat->Option Reg} {S:Place} {w:World}
theorem load_rep (hti:TyOk P t ti) {cells:List Cell} {c:Nat} {x:AV} (hx:getCells ti cells c=some x) {cb co:Nat}
  (hc:∀ (j:Nat) (y:Cell),cells[j]?=some y->∃ v,w.cell? ⟨cb,co+j,none⟩=some v/\CRep β S w y v) :
  ∃ v,(loadVar t ⟨cb,co+c,none⟩).run P w=.ok v w/\VRep β S w x v:=by
 cases ha:ti.kind.agg with
 | true=>
  obtain ⟨h1,rfl⟩:=getCells_agg hx ha
  obtain ⟨vs,h2,h3⟩:=exists_list (Q:=fun i v=>∀ y,cells[c+i]?=some y->w.cell? ⟨cb,co+(c+i),none⟩=some v/\CRep β S w y v) ti.size (fun i hi=>by
   obtain ⟨v,hv⟩:=hc (c+i) (cells[c+i]'(by omega)) (List.getElem?_eq_getElem _)
   refine ⟨v,fun y hy=>?_⟩
   rw [List.getElem?_eq_getElem (by omega)] at hy; cases hy
   exact hv)
  have hrun:=run_loadCells_list (P:=P) w ⟨cb,co+c,none⟩ vs (fun j v hv=>by
   rw [qbe]
   have hj:j < ti.size:=by
    rcases Nat.lt_or_ge j vs.length with h | h
    ·omega
    ·rw [List.getElem?_eq_none h] at hv; cases hv
   have:=(h3 j v hv _ (List.getElem?_eq_getElem (show c+j < cells.length by omega))).1
   rw [Nat.add_assoc]; exact this)
  refine ⟨.agg vs.toArray,?_,.agg vs (by simp [h2]; omega) fun i y hy=>?_⟩
  ·simp only [loadVar,Sem.run_bind,hti.isAgg,ha,Result.andThen,if_true,hti.sizeOf,Sem.run_pure]
   rw [h2] at hrun; rw [hrun]
  ·have hi:i < ti.size:=by
    rcases Nat.lt_or_ge i ti.size with h | h
    ·exact h
    ·rw [List.getElem?_eq_none (by simp; omega)] at hy; cases hy
   refine ⟨vs[i]'(by omega),List.getElem?_eq_getElem _,(h3 i _ (List.getElem?_eq_getElem _) y ?_).2⟩
   rw [List.getElem?_take,if_pos hi,List.getElem?_drop] at hy
   exact hy
 | false=>
  obtain ⟨y,h1,rfl⟩:=getCells_one hx ha
  obtain ⟨v,h2,h3⟩:=hc c y h1
  exact ⟨v,by simp [loadVar,hti.isAgg,ha,Result.andThen,h2],.c h3⟩
theorem part_rep (hti:TyOk P t ti) {cells:List Cell} {c:Nat} {x:AV} (hx:getCells ti cells c=some x) {vs:List Value} (hlen:vs.length=cells.length)
  (hc:∀ (j:Nat) (y:Cell),cells[j]?=some y->∃ v,vs[j]?=some v/\CRep β S w y v) :
  ∃ v,(part t vs.toArray c).run P w=.ok v w/\VRep β S w x v:=by
 cases ha:ti.kind.agg with
 | true=>
  obtain ⟨h1,rfl⟩:=getCells_agg hx ha
  refine ⟨.agg (vs.toArray.extract c (c+ti.size)),by simp [part,hti.isAgg,ha,Result.andThen,hti.sizeOf],?_⟩
  rw [show vs.toArray.extract c (c+ti.size)=((vs.drop c).take ti.size).toArray by simp]
  refine .agg _ (by simp [hlen]) fun i y hy=>?_
  rw [List.getElem?_take] at hy ⊢
  split at hy
  ·rename_i hi
   rw [if_pos hi]
   rw [List.getElem?_drop] at hy ⊢
   exact hc _ y hy
  ·cases hy
 | false=>
  obtain ⟨y,h1,rfl⟩:=getCells_one hx ha
  obtain ⟨v,h2,h3⟩:=hc c y h1
  exact ⟨v,by simp [part,hti.isAgg,ha,Result.andThen,h2],.c h3⟩
end
theorem qas {α:Type} {rows:List (List α)} {i j:Nat} {row:List α} {t:α} (hr:rows[i]?=some row) (hj:row[j]?=some t):at2 rows i j=some t:=by
 simp [at2,hr,hj]
theorem qag {α:Type} {l:List α} {i:Nat} {x:α} (h:l[i]?=some x):i < l.length:=by
 rcases Nat.lt_or_ge i l.length with h1 | h1
 ·exact h1
 ·rw [List.getElem?_eq_none h1] at h; cases h
theorem at2_lt {α:Type} {rows:List (List α)} {i j:Nat} {t:α} (h:at2 rows i j=some t):∃ row,rows[i]?=some row/\row[j]?=some t/\i < rows.length/\j < row.length:=by
 unfold at2 at h
 obtain ⟨row,hr,hj⟩:=Option.bind_eq_some_iff.1 h
 exact ⟨row,hr,hj,qag hr,qag hj⟩
theorem map_t {row:List Tree} {j:Nat} {y:Cell} (h:(row.map Cell.t)[j]?=some y):∃ t,row[j]?=some t/\y=.t t:=by
 rw [List.getElem?_map] at h
 obtain ⟨t,h1,h2⟩:=Option.map_eq_some_iff.1 h
 exact ⟨t,h1,h2.symm⟩
section
variable {P:Program} {C:Cfg} {K:Ctx} {β:Nat->Option Reg} {S:Place} {st:St} {a:Act} {w:World} {slot:Nat} {e:Eff} {o:Oper}
def Quiet (P:Program) (β:Nat->Option Reg) (S:Place) (a:Act) (w:World) (o:Oper) (e:Eff):Prop:=
 e.wr=[]/\∃ v,(execOp a.eval o).run P w=.ok (.value v) w/\VRep β S w e.val v
theorem q_load (hC:CfgOk P C) (h:Sat K β S st a w) {t:TypeId} {x:Operand} (ho:o.op=.load t x)
  (he:evalOp C slot st.get (look st.heap) (.load t x)=some e):Quiet P β S a w o e:=by
 simp only [evalOp] at he
 have hx:=h.get x
 split at he
 ·rename_i ti hti
  have hty:=qah (hC t ti hti)
  split at he
  ·rename_i b r c hg
   rw [hg] at hx
   cases hx with | c hx=>
   generalize hav:a.eval x=av at hx
   cases hx with | ptr R hR=>
   split at he
   ·rename_i cells hb
    split at he
    ·rename_i hr
     subst hr
     obtain ⟨v,hv,rfl⟩:=Option.map_eq_some_iff.1 he
     obtain ⟨R',h1,h2,_⟩:=h.blk b _ hb
     rw [hR] at h1; cases h1
     obtain ⟨u,h3,h4⟩:=load_rep hty hv h2.2
     refine ⟨rfl,u,?_,h4⟩
     simp only [execOp,ho,Instr.loadAt,hav,Instr.sureAddr,Sem.run_bind,Sem.run_pure,Result.andThen]
     rw [show R.co+0*R.stride+c=R.co+c by omega,h3]
    ·cases he
   ·rename_i sz rows g fz hb
    split at he
    ·rename_i row hrow
     obtain ⟨v,hv,rfl⟩:=Option.map_eq_some_iff.1 he
     obtain ⟨R',h1,h2,_⟩:=h.blk b _ hb
     rw [hR] at h1; cases h1
     obtain ⟨u,h3,h4⟩:=load_rep (β:=β) (S:=S) (w:=w) (cb:=R.cb) (co:=R.co+r*R.stride) hty hv (fun j y hy=>by
      obtain ⟨t',h5,rfl⟩:=map_t hy
      obtain ⟨v',h6,h7⟩:=h2.2.2.2.2.2.2.1 r j t' (qas hrow h5)
      exact ⟨v',h6,.t h7⟩)
     refine ⟨rfl,u,?_,h4⟩
     simp only [execOp,ho,Instr.loadAt,hav,Instr.sureAddr,Sem.run_bind,Sem.run_pure,Result.andThen]
     rw [h3]
    ·cases he
   ·cases he
  ·rename_i row c hg
   rw [hg] at hx
   cases hx with | c hx=>
   generalize hav:a.eval x=av at hx
   cases hx with | tp cb co val hR=>
   obtain ⟨v,hv,rfl⟩:=Option.map_eq_some_iff.1 he
   obtain ⟨u,h3,h4⟩:=load_rep (β:=β) (S:=S) (w:=w) (cb:=cb) (co:=co) hty hv (fun j y hy=>by
    obtain ⟨t',h5,rfl⟩:=map_t hy
    exact ⟨val j,(hR j t' h5).2.1,.t (hR j t' h5).2.2⟩)
   refine ⟨rfl,u,?_,h4⟩
   simp only [execOp,ho,Instr.loadAt,hav,Instr.sureAddr,Sem.run_bind,Sem.run_pure,Result.andThen]
   rw [h3]
  ·cases he
 ·cases he
theorem q_field (hC:CfgOk P C) (h:Sat K β S st a w) {t:TypeId} {x:Operand} {f:Nat} (ho:o.op=.field t x f)
  (he:evalOp C slot st.get (look st.heap) (.field t x f)=some e):Quiet P β S a w o e:=by
 simp only [evalOp] at he
 have hx:=h.get x
 split at he
 ·rename_i ti hti
  have hty:=qah (hC t ti hti)
  split at he
  ·rename_i fs hk
   obtain ⟨fields,hu,hfs⟩:=hty.struct hk
   split at he
   ·rename_i off ft hf
    split at he
    ·rename_i tf l htf hg
     rw [hg] at hx
     obtain ⟨vs,hav,hlen,hcs⟩:=hx.aggE
     obtain ⟨v,hv,rfl⟩:=Option.map_eq_some_iff.1 he
     rw [<- hfs,List.getElem?_map] at hf
     obtain ⟨fl,hfl,hfe⟩:=Option.map_eq_some_iff.1 hf
     simp only [Prod.mk.injEq] at hfe
     obtain ⟨rfl,rfl⟩:=hfe
     obtain ⟨u,h3,h4⟩:=part_rep (P:=P) (w:=w) (qah (hC _ tf htf)) hv hlen hcs
     refine ⟨rfl,u,?_,h4⟩
     have hfl':fields[f]?=some fl:=by simpa using hfl
     simp only [execOp,ho,Instr.field,run_underlying hu,Sem.run_bind,Result.andThen,hfl',hav,asAgg,Sem.run_pure,h3]
    ·cases he
   ·cases he
  ·cases he
 ·cases he
theorem q_fieldAddr (hC:CfgOk P C) (h:Sat K β S st a w) {t:TypeId} {x:Operand} {f:Nat} (ho:o.op=.fieldAddr t x f)
  (he:evalOp C slot st.get (look st.heap) (.fieldAddr t x f)=some e):Quiet P β S a w o e:=by
 simp only [evalOp] at he
 have hx:=h.get x
 split at he
 ·rename_i ti hti
  have hty:=qah (hC t ti hti)
  split at he
  ·rename_i fs hk
   obtain ⟨fields,hu,hfs⟩:=hty.struct hk
   split at he
   ·rename_i off size hf
    unfold fieldPl at hf
    split at hf
    ·rename_i off' ft hf'
     obtain ⟨tf,htf,htf'⟩:=Option.map_eq_some_iff.1 hf
     simp only [Prod.mk.injEq] at htf'
     obtain ⟨rfl,rfl⟩:=htf'
     rw [<- hfs,List.getElem?_map] at hf'
     obtain ⟨fl,hfl,hfe⟩:=Option.map_eq_some_iff.1 hf'
     simp only [Prod.mk.injEq] at hfe
     obtain ⟨rfl,rfl⟩:=hfe
     have hfl':fields[f]?=some fl:=by simpa using hfl
     have htyf:=qah (hC _ tf htf)
     split at he
     ·cases he
     ·rename_i hsz
      have hrun:∀ b o',a.eval x=.pointer (some ⟨b,o',none⟩)->(execOp a.eval o).run P w=.ok (.value (.pointer (some ⟨b,o'+fl.offset,none⟩))) w:=by
       intro b o' hav
       simp only [execOp,ho,Instr.fieldAt,run_underlying hu,Sem.run_bind,Result.andThen,hfl',hav,Instr.sureAddr,Sem.run_pure,fieldPlace,htyf.sizeOf,if_neg hsz,qbe]
      split at he
      ·rename_i b r c hg
       rw [hg] at hx
       cases hx with | c hx=>
       generalize hav:a.eval x=av at hx
       cases hx with | ptr R hR=>
       cases he
       exact ⟨rfl,_,hrun _ _ hav,.c (by rw [Nat.add_assoc]; exact .ptr R hR)⟩
      ·rename_i row c hg
       rw [hg] at hx
       cases hx with | c hx=>
       generalize hav:a.eval x=av at hx
       cases hx with | tp cb co val hR=>
       cases he
       exact ⟨rfl,_,hrun _ _ hav,.c (by rw [Nat.add_assoc]; exact .tp cb co val hR)⟩
      ·cases he
    ·cases hf
   ·cases he
  ·cases he
 ·cases he
theorem q_indexAddr (hC:CfgOk P C) (h:Sat K β S st a w) {t:TypeId} {x i:Operand} (ho:o.op=.indexAddr t x i)
  (he:evalOp C slot st.get (look st.heap) (.indexAddr t x i)=some e):Quiet P β S a w o e:=by
 simp only [evalOp] at he
 have hx:=h.get x
 have hi:=h.get i
 split at he
 ·rename_i ti n hti hn
  have hty:=qah (hC t ti hti)
  obtain ⟨k,hav2,_⟩:=hi.int hn
  split at he
  ·rename_i len el hk
   split at he
   ·rename_i te hte
    have htye:=qah (hC _ te hte)
    split at he
    ·rename_i hr
     have hrun:∀ b o',a.eval x=.pointer (some ⟨b,o',none⟩)->(execOp a.eval o).run P w=.ok (.value (.pointer (some ⟨b,o'+n.toNat*te.size,none⟩))) w:=by
      intro b o' hav
      simp only [execOp,ho,Instr.indexAt,hav2,asIntOf,hav,Sem.run_bind,Sem.run_pure,Result.andThen,run_underlying (hty.array hk),Instr.sureAddr,if_pos hr,Sem.run_ite,htye.sizeOf,qbe]
     split at he
     ·rename_i b r c hg
      rw [hg] at hx
      cases hx with | c hx=>
      generalize hav:a.eval x=av at hx
      cases hx with | ptr R hR=>
      cases he
      exact ⟨rfl,_,hrun _ _ hav,.c (by rw [Nat.add_assoc]; exact .ptr R hR)⟩
     ·rename_i row c hg
      rw [hg] at hx
      cases hx with | c hx=>
      generalize hav:a.eval x=av at hx
      cases hx with | tp cb co val hR=>
      cases he
      exact ⟨rfl,_,hrun _ _ hav,.c (by rw [Nat.add_assoc]; exact .tp cb co val hR)⟩
     ·cases he
    ·cases he
   ·cases he
  ·rename_i el hk
   split at he
   ·rename_i te hte
    have htye:=qah (hC _ te hte)
    have hrun:∀ b o' (len cap:Nat),0<=n/\n < len->a.eval x=.slice (some ⟨b,o',none⟩) len cap->(execOp a.eval o).run P w=.ok (.value (.pointer (some ⟨b,o'+n.toNat*te.size,none⟩))) w:=by
     intro b o' len cap hr hav
     simp only [execOp,ho,Instr.indexAt,hav2,asIntOf,hav,Sem.run_bind,Sem.run_pure,Result.andThen,run_underlying (hty.slice hk),if_pos hr,Sem.run_ite,htye.sizeOf,qbe]
    split at he
    ·rename_i b off len cp hg
     rw [hg] at hx
     cases hx with | c hx=>
     generalize hav:a.eval x=av at hx
     cases hx with | sl R base cap hR h1 h2 h3 h4 h5=>
     split at he
     ·rename_i sz rows g fz hb
      split at he
      ·rename_i hr
       obtain ⟨hr1,hr2,hr3⟩:=hr
       cases he
       obtain ⟨R',h6,h7,_⟩:=h.blk b _ hb
       rw [hR] at h6; cases h6
       have hst:R.stride=te.size:=by rw [<- hr3]; exact h7.1.symm
       rw [h5 (by omega)] at hav
       refine ⟨rfl,_,hrun _ _ _ _ ⟨hr1,hr2⟩ hav,.c ?_⟩
       have:=CRep.ptr (S:=S) (w:=w) (r:=off+n.toNat) (c:=0) R hR
       rw [<- hst,Nat.add_assoc,<- Nat.add_mul]
       exact this
      ·cases he
     ·rename_i cells hb
      split at he
      ·rename_i hr
       obtain ⟨hr1,hr2,hr3⟩:=hr
       cases he
       obtain ⟨R',h6,h7,_⟩:=h.blk b _ hb
       rw [hR] at h6; cases h6
       have hst:R.stride=1:=h7.1.2.1
       rw [h5 (by omega)] at hav
       refine ⟨rfl,_,hrun _ _ _ _ ⟨hr1,hr2⟩ hav,.c ?_⟩
       have:=CRep.ptr (S:=S) (w:=w) (r:=0) (c:=off+n.toNat) R hR
       rw [hst,hr3,Nat.mul_one,Nat.mul_one]
       rw [Nat.zero_mul,Nat.add_zero,<- Nat.add_assoc] at this
       exact this
      ·cases he
     ·cases he
    ·rename_i cp rows hg
     rw [hg] at hx
     cases hx with | c hx=>
     cases hx with | t hx=>
     generalize hav:a.eval x=av at hx
     cases hx with | lst _ _ base cb co stride cap val h1 h2 h3 h4 h5 h5' h6 h7 h8=>
     split at he
     ·rename_i hn0
      split at he
      ·rename_i row hrow
       split at he
       ·rename_i hl
        cases he
        have hlt:=qag hrow
        rw [h5 (by rintro rfl; simp at hlt)] at hav
        have hst:stride=te.size:=by rw [<- hl,h6 row (List.mem_of_getElem? hrow)]
        refine ⟨rfl,_,hrun _ _ _ _ ⟨hn0,by omega⟩ hav,.c ?_⟩
        have:=CRep.tp (β:=β) (S:=S) (w:=w) (row:=row) (c:=0) cb (co+n.toNat*stride) (val n.toNat) (fun j t hj=>
         ⟨(h7 n.toNat j t (qas hrow hj)).1,(h7 n.toNat j t (qas hrow hj)).2,h8 n.toNat j t (qas hrow hj)⟩)
        rw [<- hst]
        exact this
       ·cases he
      ·cases he
     ·cases he
    ·cases he
   ·cases he
  ·cases he
 ·cases he
theorem q_extract (h:Sat K β S st a w) {x:Operand} {i:Nat} (ho:o.op=.extract x i)
  (he:evalOp C slot st.get (look st.heap) (.extract x i)=some e):Quiet P β S a w o e:=by
 simp only [evalOp] at he
 have hx:=h.get x
 split at he
 ·rename_i l hg
  rw [hg] at hx
  split at he
  ·rename_i v hv
   cases he
   generalize hav:a.eval x=av at hx
   cases hx with | tup vs val h1 h2 h3=>
   have:=h2 i v hv
   refine ⟨rfl,val i,?_,h3 i v hv⟩
   have hvs:vs.toArray[i]?=some (val i):=by simpa using this
   simp only [execOp,ho,Instr.extract,hav,hvs,Sem.run_bind,Sem.run_pure,Result.andThen]
  ·cases he
 ·cases he
theorem q_move (h:Sat K β S st a w) {x:Operand} (ho:o.op=.move x ∨ o.op=.assign x)
  (he:e.val=st.get x) (hw:e.wr=[]):Quiet P β S a w o e:=by
 refine ⟨hw,a.eval x,?_,by rw [he]; exact h.get x⟩
 rcases ho with ho | ho <;> simp [execOp,ho]
theorem q_nilCheck (h:Sat K β S st a w) {x:Operand} (ho:o.op=.nilCheck x)
  (he:evalOp C slot st.get (look st.heap) (.nilCheck x)=some e):Quiet P β S a w o e:=by
 simp only [evalOp] at he
 have hx:=h.get x
 split at he
 ·rename_i b r c hg
  cases he
  rw [hg] at hx
  refine ⟨rfl,a.eval x,?_,hx⟩
  cases hx with | c hx=>
  generalize hav:a.eval x=av at hx
  cases hx with | ptr R hR=>simp [execOp,ho,hav]
 ·rename_i row c hg
  cases he
  rw [hg] at hx
  refine ⟨rfl,a.eval x,?_,hx⟩
  cases hx with | c hx=>
  generalize hav:a.eval x=av at hx
  cases hx with | tp cb co val hR=>simp [execOp,ho,hav]
 ·cases he
theorem q_pick (h:Sat K β S st a w) {c x y:Operand} (ho:o.op=.pick c x y)
  (he:evalOp C slot st.get (look st.heap) (.pick c x y)=some e):Quiet P β S a w o e:=by
 simp only [evalOp] at he
 have hc:=h.get c
 split at he
 ·rename_i hb
  cases he
  exact ⟨rfl,a.eval x,by simp [execOp,ho,hc.bool hb,asBool,Result.andThen],h.get x⟩
 ·rename_i hb
  cases he
  exact ⟨rfl,a.eval y,by simp [execOp,ho,hc.bool hb,asBool,Result.andThen],h.get y⟩
 ·cases he
end
end Go.Abs
end
