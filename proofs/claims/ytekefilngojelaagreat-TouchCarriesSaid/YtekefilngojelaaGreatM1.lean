/- A part. -/
import Derived.Calls
import Derived.Laws.Cells
import Derived.Below
set_option maxHeartbeats 0
set_option maxRecDepth 100000
set_option linter.unusedVariables false
set_option linter.unusedSimpArgs false
set_option linter.unusedSectionVars false
section
namespace Go.Abs
inductive Tree where
 | v (x:Value)
 | aa (cp:Bool) (rows:List (List Tree))
 deriving Inhabited
inductive Cell where
 | t (t:Tree)
 | ptr (b r c:Nat)
 | tp (row:List Tree) (c:Nat)
 | sl (b off len:Nat) (cp:Bool)
 | mp (b:Nat)
 | dA (f:FuncId) (aN:List (Nat×Nat×Nat))
 deriving Inhabited
inductive AV where
 | c (x:Cell)
 | agg (l:List Cell)
 | pN (l:List AV)
 | af
 deriving Inhabited
inductive aA where
 | var (cells:List Cell)
 | rows (sz:Nat) (rows:List (List Tree)) (grow fz:Bool)
 | map (de:List (Value×Tree))
 | gL (sz:Nat) (rows:List (List Tree))
 deriving Inhabited
abbrev bU:=List (Option aA)
structure St where
 tmps:List AV
 heap:bU
structure bZ where
 cb:Nat
 co:Nat
 ah:Nat
 cap:Nat
abbrev Place:=Nat->Nat->Prop
def one (v:Value):Prop:=∀l,v ≠ .agg l/\v ≠ .tuple l
def fo {α:Type} (rows:List (List α)) (i j:Nat):Option α:=rows[i]?.bind (·[j]?)
inductive dX (S:Place) (w:World):Tree->Value->Prop where
 | v (x:Value):one x->dX S w (.v x) x
 | aa (cp:Bool) (rows:List (List Tree)) (base:Option Addr) (cb co ah cap:Nat) (val:Nat->Nat->Value) :
   rows.length<=cap->cap<2^63->rows.length<2^63->(cp=true->cap=rows.length)->(rows≠[]->base=some ⟨cb,co,none⟩)->(base=none->cap=0)->(∀r∈rows,r.length=ah) ->
   (∀i j t,fo rows i j=some t->S cb (co+i*ah+j)/\w.cell? ⟨cb,co+i*ah+j,none⟩=some (val i j)) ->
   (∀i j t,fo rows i j=some t->dX S w t (val i j)) ->
   dX S w (.aa cp rows) (.slice base rows.length cap)
theorem dX.one {S:Place} {w:World} {t:Tree} {v:Value} (h:dX S w t v):one v:=by
 cases h with
 | v x hx=>exact hx
 | aa=>intro l;exact⟨by simp,by simp⟩
theorem dX.mono {S S':Place} {w w':World} {t:Tree} {v:Value} (h:dX S w t v) (hS:∀b o,S b o->S' b o)
  (hw:∀b o,S b o->w'.cell? ⟨b,o,none⟩=w.cell? ⟨b,o,none⟩):dX S' w' t v:=by
 induction h with
 | v x hx=>exact .v x hx
 | aa cp rows base cb co ah cap val h1 h2 h3 h4 h5 QI h6 h7 _ ih=>
  refine .aa cp rows base cb co ah cap val h1 h2 h3 h4 h5 QI h6 (fun i j t ht=>?_) (fun i j t ht=>ih i j t ht);obtain⟨a,b⟩:=h7 i j t ht;exact⟨hS _ _ a,by rw[hw _ _ a];exact b⟩
def oQ:Nat:=1000000000000
def kh (f:FuncId) (vs:List Value):Value:=match Nat.blt f oQ with
 | true=>.func (.func f) #[] vs.toArray
 | false=>.func (.func (f-oQ)) vs.toArray #[]
theorem RK (f n:Nat):Nat.blt (f+n) n=false:=by
 cases h:Nat.blt (f+n) n with
 | false=>rfl
 | true=>rw[Nat.blt_eq]at h;omega
theorem Af {f:FuncId} (h:Nat.blt f oQ=true) (vs:List Value):kh f vs=.func (.func f) #[] vs.toArray:=by unfold kh;rw[h]
theorem Ag {f:FuncId} (h:Nat.blt f oQ=false) (vs:List Value):kh f vs=.func (.func (f-oQ)) vs.toArray #[]:=by unfold kh;rw[h]
theorem GV (f:FuncId) (vs:List Value):kh (f+oQ) vs=.func (.func f) vs.toArray #[]:=by rw[Ag (RK f oQ),Nat.add_sub_cancel]
inductive dv (β:Nat->Option bZ) (S:Place) (w:World):Cell->Value->Prop where
 | t {t:Tree} {v:Value}:dX S w t v->dv β S w (.t t) v
 | ptr {b r c:Nat} (R:bZ):β b=some R->dv β S w (.ptr b r c) (.pointer (some ⟨R.cb,R.co+r*R.ah+c,none⟩))
 | tp {row:List Tree} {c:Nat} (cb co:Nat) (val:Nat->Value) :
   (∀j t,row[j]?=some t->S cb (co+j)/\w.cell? ⟨cb,co+j,none⟩=some (val j)/\dX S w t (val j)) ->
   dv β S w (.tp row c) (.pointer (some ⟨cb,co+c,none⟩))
 | sl {b off len:Nat} {cp:Bool} (R:bZ) (base:Option Addr) (cap:Nat):β b=some R->(cp=true->cap=len)->(cp=false->off+cap=R.cap)->len<=cap->off+cap<=R.cap ->
   (0<cap->base=some ⟨R.cb,R.co+off*R.ah,none⟩)->dv β S w (.sl b off len cp) (.slice base len cap)
 | mp {b:Nat} (R:bZ):β b=some R->dv β S w (.mp b) (.map (some R.cb))
 | dA {f:FuncId} {aN:List (Nat×Nat×Nat)} (vs:List Value):vs.length=aN.length ->
   (∀(i b r c:Nat),aN[i]?=some (b,r,c)->∃R:bZ,β b=some R/\vs[i]?=some (Value.pointer (some ⟨R.cb,R.co+r*R.ah+c,none⟩))) ->
   dv β S w (.dA f aN) (kh f vs)
theorem dv.one {β:Nat->Option bZ} {S:Place} {w:World} {c:Cell} {v:Value} (h:dv β S w c v):one v:=by
 cases h with
 | t h=>exact h.one
 | dA vs h1 h2=>intro l;unfold kh;split<;>exact⟨by simp,by simp⟩
 | _=>intro l;exact⟨by simp,by simp⟩
theorem dv.mono {β β':Nat->Option bZ} {S S':Place} {w w':World} {c:Cell} {v:Value} (h:dv β S w c v)
  (hβ:∀b R,β b=some R->β' b=some R) (hS:∀b o,S b o->S' b o)
  (hw:∀b o,S b o->w'.cell? ⟨b,o,none⟩=w.cell? ⟨b,o,none⟩):dv β' S' w' c v:=by
 cases h with
 | t h=>exact .t (h.mono hS hw)
 | ptr R h=>exact .ptr R (hβ _ _ h)
 | tp cb co val h=>
  refine .tp cb co val fun j t ht=>?_
  obtain⟨a,b,c⟩:=h j t ht;exact⟨hS _ _ a,by rw[hw _ _ a];exact b,c.mono hS hw⟩
 | sl R base cap h h1 h2 h3 h4 h5=>exact .sl R base cap (hβ _ _ h) h1 h2 h3 h4 h5
 | mp R h=>exact .mp R (hβ _ _ h)
 | dA vs h1 h2=>exact .dA vs h1 fun i b r c hi=>by obtain⟨R,a,b⟩:=h2 i b r c hi;exact⟨R,hβ _ _ a,b⟩
inductive aI (β:Nat->Option bZ) (S:Place) (w:World):AV->Value->Prop where
 | c {x:Cell} {v:Value}:dv β S w x v->aI β S w (.c x) v
 | agg {l:List Cell} (vs:List Value):vs.length=l.length->(∀(i:Nat) (c:Cell),l[i]?=some c->∃v:Value,vs[i]?=some v/\dv β S w c v)->aI β S w (.agg l) (.agg vs.toArray)
 | pN {l:List AV} (vs:List Value) (val:Nat->Value):vs.length=l.length->(∀(i:Nat) (x:AV),l[i]?=some x->vs[i]?=some (val i))->(∀(i:Nat) (x:AV),l[i]?=some x->aI β S w x (val i))->aI β S w (.pN l) (.tuple vs.toArray)
 | af (v:Value):aI β S w .af v
theorem aI.mono {β β':Nat->Option bZ} {S S':Place} {w w':World} {x:AV} {v:Value} (h:aI β S w x v)
  (hβ:∀b R,β b=some R->β' b=some R) (hS:∀b o,S b o->S' b o)
  (hw:∀b o,S b o->w'.cell? ⟨b,o,none⟩=w.cell? ⟨b,o,none⟩):aI β' S' w' x v:=by
 induction h with
 | c h=>exact .c (h.mono hβ hS hw)
 | agg vs h1 h2=>exact .agg vs h1 fun i c hi=>by obtain⟨v,a,b⟩:=h2 i c hi;exact⟨v,a,b.mono hβ hS hw⟩
 | pN vs val h1 h2 _ ih=>exact .pN vs val h1 h2 ih
 | af v=>exact .af v
inductive TK where
 | int (k:IntKind)|bool|string|slice (e:TypeId)|array (n:Nat) (e:TypeId)|struct (fs:List (Nat×TypeId))|map (k e:TypeId)|other
 deriving Inhabited
structure TI where
 kind:TK
 size:Nat
 bytes:Nat
 zero:List Tree
 deriving Inhabited
def TK.agg:TK->Bool
 | .struct _|.array _ _=>true
 | _=>false
inductive Mode where
 | val|fu|own (sz:Nat)|ref|rd|sh (mP:Nat)
 deriving Inhabited
structure eA where
 ty:TypeId->Option TI
 md:FuncId->List Mode
 cs:TypeId->Bool
structure cR where
 val:AV:=.af
 wr:List (Nat×Option aA):=[]
 rd:List Nat:=[]
def AV.cells:AV->Option (List Cell)
 | .c x=>some [x]
 | .agg l=>some l
 | _=>none
def LL:Value->Bool
 | .agg _|.tuple _=>false
 | _=>true
def jS:Value->Cell
 | .slice none 0 0=>.t (.aa true [])
 | v=>.t (.v v)
def ofConst:Value->AV
 | .agg cs=>if cs.toList.all LL then .agg (cs.toList.map jS) else .af
 | .tuple _=>.af
 | v=>.c (jS v)
def St.get (st:St):Operand->AV
 | .tmp t=>st.tmps.getD t .af
 | .const v=>ofConst v
 | .func f=>.c (.t (.v (.func (.func f) #[] #[])))
 | .global _=>.af
abbrev Hp:=Nat->Option aA
def look (h:bU):Hp:=fun b=>(h[b]?).join
def aZ {α:Type} (l:List α) (c:Nat) (xs:List α):List α:=l.take c++xs++l.drop (c+xs.length)
def dn (ti:TI) (cells:List Cell) (c:Nat):Option AV:=
 if ti.kind.agg then(if c+ti.size<=cells.length then some (.agg ((cells.drop c).take ti.size)) else none)
 else(cells[c]?).map .c
def toTree (h:Hp):Cell->Option (Tree×List (Nat×Option aA))
 | .t t=>some (t,[])
 | .sl b off len cp=>
  match h b with
  | some (.rows sz rows g _)=>if off+len<=rows.length then some (.aa cp ((rows.drop off).take len),[(b,some (.rows sz rows g true))]) else none
  | _=>none
 | _=>none
def bS (h:Hp):List Cell->Option (List Tree×List (Nat×Option aA))
 | []=>some ([],[])
 | c::cs=>
  match toTree h c with
  | some (t,m)=>match bS h cs with
   | some (ts,ms)=>some (t::ts,m++ms)
   | none=>none
  | none=>none
def ids (wr:List (Nat×Option aA)):List Nat:=wr.map (·.1)
def AV.int?:AV->Option Int
 | .c (.t (.v (.int _ n)))=>some n
 | _=>none
def AV.bool?:AV->Option Bool
 | .c (.t (.v (.bool b)))=>some b
 | _=>none
def ep (v:Value):AV:=.c (.t (.v v))
def JF (op:BinOp) (x y:Value):Option Value:=
 match x,y with
 | .int k a,.int k' b=>
  match op with
  | .shl=>if b<0 then none else some (.int k (k.wrap (a*2^(min b.toNat k.bits))))
  | .shr=>if b<0 then none else some (.int k (a.fdiv (2^(min b.toNat k.bits))))
  | _=>
   if k=k' then
    match op with
    | .add=>some (.int k (k.wrap (a+b)))
    | .sub=>some (.int k (k.wrap (a-b)))
    | .mul=>some (.int k (k.wrap (a*b)))
    | .quo=>if b=0 then none else some (.int k (k.wrap (a.tdiv b)))
    | .rem=>if b=0 then none else some (.int k (a.tmod b))
    | .and=>some (.int k (k.wrap ((BitVec.ofInt k.bits a &&& BitVec.ofInt k.bits b).toNat)))
    | .or=>some (.int k (k.wrap ((BitVec.ofInt k.bits a ||| BitVec.ofInt k.bits b).toNat)))
    | .xor=>some (.int k (k.wrap ((BitVec.ofInt k.bits a ^^^ BitVec.ofInt k.bits b).toNat)))
    | .andNot=>some (.int k (k.wrap ((BitVec.ofInt k.bits a &&& ~~~ BitVec.ofInt k.bits b).toNat)))
    | .eql=>some (.bool (a==b))
    | .neq=>some (.bool (a != b))
    | .lss=>some (.bool (decide (a<b)))
    | .leq=>some (.bool (decide (a<=b)))
    | .gtr=>some (.bool (decide (a>b)))
    | .geq=>some (.bool (decide (a≥b)))
    | _=>none
   else none
 | .string a,.string b=>
  match op with
  | .eql=>some (.bool (a.toList==b.toList))
  | .neq=>some (.bool (!(a.toList==b.toList)))
  | _=>none
 | _,_=>none
def kj:List Cell->List Cell->Option Bool
 | [],[]=>some true
 | .t (.v (.int k a))::xs,.t (.v (.int k' b))::ys=>if k=k' then(kj xs ys).map fun r=>decide (a=b)&&r else none
 | _,_=>none
def uy (op:BinOp) (r:Bool):Option cR:=
 match op with
 | .eql=>some { val:=ep (.bool r) }
 | .neq=>some { val:=ep (.bool (!r)) }
 | _=>none
def vw (C:eA) (op:BinOp) (t:TypeId) (x:Option Bool) (n m:Nat):Option cR:=
 match C.ty t with
 | some ti=>match ti.kind with
  | .array len e=>match C.ty e with
   | some te=>match te.kind with
    | .int _=>if te.size=1/\n=len/\m=len then x.bind (uy op) else none
    | _=>none
   | none=>none
  | _=>none
 | none=>none
def GW:List Cell->Bool
 | []=>true
 | .t (.v (.bool false))::xs=>GW xs
 | _=>false
def Cm (C:eA) (op:BinOp) (t:TypeId) (a b:List Cell):Option cR:=
 match C.ty t with
 | some ti=>match ti.kind with
  | .struct fs=>if(GW a&&GW b && !fs.isEmpty&&fs.all (fun f=>decide (f.1<a.length)&&decide (f.1<b.length)&&(match C.ty f.2 with
    | some te=>(match te.kind with
     | .bool=>true
     | _=>false)
    | none=>false)))=true then uy op true else none
  | _=>none
 | none=>none
def IC (C:eA) (op:BinOp) (t:TypeId) (y:Operand):Option cR:=
 match y with
 | .const (.slice none 0 0)=>match C.ty t with
  | some ti=>match ti.kind with
   | .slice _=>uy op false
   | _=>none
  | none=>none
 | _=>none
def GX (C:eA) (op:BinOp) (t:TypeId) (y:Operand) (base:Option Addr):Option cR:=
 match y with
 | .const (.slice none 0 0)=>match C.ty t with
  | some ti=>match ti.kind with
   | .slice _=>uy op base.isNone
   | _=>none
  | none=>none
 | _=>none
def XH (op:UnOp) (x:Value):Option Value:=
 match op,x with
 | .neg,.int k n=>some (.int k (k.wrap (0-n)))
 | .not,.bool b=>some (.bool (!b))
 | _,_=>none
def ez:List (List Tree)->Option (List UInt8)
 | []=>some []
 | [.v (.int .u8 n)]::rs=>(ez rs).map (UInt8.ofNat n.toNat :: ·)
 | _=>none
def gE (l:List UInt8):List (List Tree):=l.map fun b=>[.v (.int .u8 b.toNat)]
def sameKey:Value->Value->Option Bool
 | .int k a,.int k' b=>if k=k' then some (a==b) else none
 | .string a,.string b=>some (a==b)
 | .bool a,.bool b=>some (a==b)
 | _,_=>none
def df (k:Value):List (Value×Tree)->Option (Option Tree)
 | []=>some none
 | e::es=>match sameKey k e.1 with
  | some true=>some (some e.2)
  | some false=>df k es
  | none=>none
def gk (k:Value) (t:Tree):List (Value×Tree)->Option (List (Value×Tree))
 | []=>some [(k,t)]
 | e::es=>match sameKey k e.1 with
  | some true=>some ((k,t)::es)
  | some false=>(gk k t es).map (e :: ·)
  | none=>none
def rowsOf (h:Hp):AV->Option (List (List Tree)×List Nat)
 | .c (.t (.aa _ rows))=>some (rows,[])
 | .c (.sl b off len _)=>
  match h b with
  | some (.rows _ rows _ _)=>if off+len<=rows.length then some ((rows.drop off).take len,[b]) else none
  | some (.gL _ rows)=>if off+len<=rows.length then some ((rows.drop off).take len,[b]) else none
  | _=>none
 | .c (.t (.v (.string s)))=>some (gE s.data.toList,[])
 | .c (.t (.v (.slice _ 0 _)))=>some ([],[])
 | _=>none
def au:Nat:=140737488355328
def GY:AV->Bool
 | .c (.t (.aa _ _))=>true
 | .c (.sl _ _ _ _)=>true
 | _=>false
def El (sz:Nat) (rows:List (List Tree)):Bool->Option aA
 | true=>some (.gL sz rows)
 | false=>none
def kl (ti:TI) (slot:Nat) (h:Hp) (s x:AV):Option cR:=
 match s,x with
 | .c (.sl b off len false),.c (.sl b' LM LO _)=>
  match h b,h b' with
  | some (.var cs),some (.var ns)=>
   if off=0/\LM=0/\len=cs.length/\LO=ns.length/\0<ns.length/\ti.size=1/\(cs.length+ns.length)*ti.bytes<=au then
    some { val:=.c (.sl slot 0 (len+LO) false),wr:=[(b,none),(slot,some (.var (cs++ns)))],rd:=[b,b'] } else none
  | _,_=>none
 | _,_=>none
def qT (C:eA) (slot:Nat) (t:TypeId) (size len:Nat) (ps:List (Nat×AV)):Option cR:=
 match C.cs (t+1000000),size,len,ps with
 | true,1,0,[]=>some { val:=.c (.sl slot 0 0 false),wr:=[(slot,some (.var []))] }
 | true,1,1,[(0,.c x)]=>some { val:=.c (.sl slot 0 1 false),wr:=[(slot,some (.var [x]))] }
 | _,_,_,_=>none
def cN (ti:TI) (slot:Nat) (h:Hp) (s x:AV):Option cR:=
 match rowsOf h x with
 | none=>kl ti slot h s x
 | some (new,oR)=>
  if new.length=0 then(if GY s then some { val:=s,rd:=oR } else none) else
  if !(new.all fun r=>r.length==ti.size) then none else
  match s with
  | .c (.t (.aa true rows))=>
   if(rows.all fun r=>r.length==ti.size)&&(rows.length+new.length)*ti.bytes<=au then
    some { val:=.c (.sl slot 0 (rows.length+new.length) false),wr:=[(slot,some (.rows ti.size (rows++new) true false))],rd:=oR }
   else none
  | .c (.sl b off len cp)=>
   match h b with
   | some (.rows sz rows g fz)=>
    if ¬(sz=ti.size/\(len+new.length)*ti.bytes<=au/\off+len<=rows.length) then none else
    if cp then some { val:=.c (.sl slot 0 (len+new.length) false),wr:=[(slot,some (.rows ti.size ((rows.drop off).take len++new) true false))],rd:=b::oR }
    else if off+len=rows.length then
     (if g then some { val:=.c (.sl slot 0 (len+new.length) false),wr:=[(b,El sz rows fz),(slot,some (.rows sz (rows.drop off++new) true fz))],rd:=b::oR } else none)
    else if off+len+new.length<=rows.length/\fz=false then
     some { val:=.c (.sl b off (len+new.length) false),wr:=[(b,some (.rows sz (aZ rows (off+len) new) g false))],rd:=b::oR }
    else none
   | _=>none
  | _=>none
def lG (ti:TI) (h:Hp) (d x:AV):Option cR:=
 match rowsOf h x,d with
 | some (src,oR),.c (.sl b off len _)=>
  match h b with
  | some (.rows sz rows g false)=>
   if off+len<=rows.length/\(src.all fun r=>r.length==ti.size)/\sz=ti.size then
    some { val:=ep (.int .i64 (min src.length len:Nat)),wr:=[(b,some (.rows sz (aZ rows off (src.take (min src.length len))) g false))],rd:=b::oR }
   else none
  | _=>none
 | _,_=>none
def pb (C:eA) (h:Hp) (t:TypeId) (x:AV):Option cR:=
 match C.ty t with
 | none=>none
 | some ti=>
  match ti.kind,x with
  | .slice _,.c (.sl _ _ len _)=>some { val:=ep (.int .i64 len) }
  | .slice _,.c (.t (.aa _ rows))=>some { val:=ep (.int .i64 rows.length) }
  | .string,.c (.t (.v (.string s)))=>some { val:=ep (.int .i64 s.size) }
  | .array n _,_=>some { val:=ep (.int .i64 n) }
  | .map _ _,.c (.mp b)=>match h b with
   | some (.map de)=>some { val:=ep (.int .i64 de.length),rd:=[b] }
   | _=>none
  | _,_=>none
def Ah (gt:Bool):List AV->Option cR
 | [.c (.t (.v (.int k a))),.c (.t (.v (.int k' b)))]=>if k=k' then some { val:=ep (.int k (if gt then(if b>a then b else a) else(if b<a then b else a))) } else none
 | _=>none
def Ai (place:Nat->Option (Nat×Nat)):List Cell->List (Nat×AV)->Option (List Cell)
 | cs,[]=>some cs
 | cs,(i,v)::rest=>
  match place i,v.cells with
  | some (off,size),some x=>if x.length=size/\off+size<=cs.length then Ai place (aZ cs off x) rest else none
  | _,_=>none
def qU (C:eA) (fs:List (Nat×TypeId)) (i:Nat):Option (Nat×Nat):=
 match fs[i]? with
 | some (off,t)=>(C.ty t).map fun ti=>(off,ti.size)
 | none=>none
def fC (h:Hp) (size:Nat):List (List Tree)->List (Nat×AV)->Option (List (List Tree)×List (Nat×Option aA))
 | rows,[]=>some (rows,[])
 | rows,(i,v)::rest=>
  match v.cells with
  | some x=>if x.length=size/\i<rows.length then
    match bS h x with
    | some (ts,m)=>match fC h size (rows.set i ts) rest with
     | some (r,ms)=>some (r,m++ms)
     | none=>none
    | none=>none
   else none
  | none=>none
def oo:List Cell->Option (List Tree)
 | []=>some []
 | .t x::cs=>(oo cs).map (x :: ·)
 | _::_=>none
def dq (C:eA) (h:Hp) (t:TypeId) (x:AV) (lo hi mx:Option AV):Option cR:=
 match C.ty t with
 | none=>none
 | some ti=>
  match(match lo with|none=>some 0|some v=>v.int?),(match hi with|none=>some none|some v=>v.int?.map some),(match mx with|none=>some none|some v=>v.int?.map some) with
  | some l,some hi,some m=>
   match ti.kind,x with
   | .string,.c (.t (.v (.string s)))=>
    let e:Int:=hi.getD s.size
    if 0<=l/\l<=e/\e<=s.size/\m=none then some { val:=ep (.string (s.extract l.toNat e.toNat)) } else none
   | .slice e,.c (.sl b off len cp)=>
    let e':Int:=hi.getD len
    if 0<=l/\l<=e'/\e'<=len then
     match m,h b,C.ty e with
     | none,some (.rows sz _ _ _),some te=>
      if(cp=true->e'=len)/\sz=te.size then
       some { val:=.c (.sl b (off+l.toNat) (e'.toNat-l.toNat) cp),rd:=[b] } else none
     | some m',some (.rows sz _ _ _),some te=>
      if m'=e'/\hi.isSome/\sz=te.size then
       some { val:=.c (.sl b (off+l.toNat) (e'.toNat-l.toNat) true),rd:=[b] } else none
     | none,some (.var _),some te=>
      if(cp=true->e'=len)/\te.size=1 then
       some { val:=.c (.sl b (off+l.toNat) (e'.toNat-l.toNat) cp),rd:=[b] } else none
     | _,_,_=>none
    else none
   | .slice e,.c (.t (.aa cp rows))=>
    let e':Int:=hi.getD rows.length
    if 0<=l/\l<=e'/\e'<=rows.length then
     match m,C.ty e with
     | none,some te=>
      if(rows.all fun r=>r.length==te.size) then
       some { val:=.c (.t (.aa (cp&&e'==rows.length) ((rows.drop l.toNat).take (e'.toNat-l.toNat)))) } else none
     | some m',some te=>
      if m'=e'/\hi.isSome/\(rows.all fun r=>r.length==te.size) then
       some { val:=.c (.t (.aa true ((rows.drop l.toNat).take (e'.toNat-l.toNat)))) } else none
     | _,_=>none
    else none
   | .array n el,.c (.ptr b r c)=>
    let e':Int:=hi.getD n
    match h b,C.ty el with
    | some (.var cells),some te=>
     if r=0/\c=0/\l=0/\0<=e'/\e'<=n/\m=none/\te.size=1/\cells.length=n/\n<9223372036854775808 then
      match oo cells with
      | some ts=>some { val:=.c (.t (.aa false ((ts.take e'.toNat).map fun t=>[t]))),wr:=[(b,none)],rd:=[b] }
      | none=>none
     else none
    | _,_=>none
   | _,_=>none
  | _,_,_=>none
def eK (C:eA) (h:Hp) (src dst:TypeId) (x:AV):Option cR:=
 match C.ty src,C.ty dst with
 | some ts,some td=>
  match ts.kind,td.kind,x with
  | .int _,.int k,.c (.t (.v (.int _ n)))=>some { val:=ep (.int k (k.wrap n)) }
  | .string,.string,.c (.t (.v (.string s)))=>some { val:=ep (.string s) }
  | .slice e,.string,x=>
   match C.ty e,rowsOf h x with
   | some te,some (rows,rd)=>
    match te.kind,ez rows,GY x with
    | .int .u8,some l,true=>some { val:=ep (.string ⟨l.toArray⟩),rd:=rd }
    | _,_,_=>none
   | _,_=>none
  | _,_,_=>none
 | _,_=>none
def pf:AV->Option (Nat×Nat×Nat)
 | .c (.ptr b r c)=>some (b,r,c)
 | _=>none
def LQ:List Cell->Bool
 | []=>false
 | .sl _ _ _ _::_=>true
 | _::l=>LQ l
def Em (h:Hp):List (Nat×Option aA)->Hp
 | []=>h
 | p::l=>Em (fun b=>match Nat.beq b p.1 with|true=>p.2|false=>h b) l
def fD:Hp->List (Nat×Nat×Nat)->Option (List (Nat×Option aA))
 | _,[]=>some []
 | h,(b,_,_)::l=>match h b with
  | some (.var cells)=>match LQ cells with
   | true=>match bS h cells with
    | some (ts,m)=>match fD (Em h (m ++ [(b,some (.var (ts.map .t)))])) l with
     | some ws=>some (m++(b,some (.var (ts.map .t)))::ws)
     | none=>none
    | none=>none
   | false=>fD h l
  | _=>fD h l
def iG:List (Nat×Nat×Nat)->List Nat
 | []=>[]
 | (b,_,_)::l=>b::iG l
def tg (h:Hp) (f:FuncId) (l:List (Nat×Nat×Nat)):Option cR:=
 match fD h l with
 | some ws=>some { val:=.c (.dA f l),wr:=ws,rd:=iG l++ids ws }
 | none=>none
def jm:TK->Value->Bool
 | .int _,.int _ _=>true
 | .string,.string _=>true
 | .bool,.bool _=>true
 | _,_=>false
def evalOp (C:eA) (slot:Nat) (σ:Operand->AV) (h:Hp):Op->Option cR
 | .move x=>some { val:=σ x }
 | .assign x=>some { val:=σ x }
 | .nilCheck x=>match σ x with
  | .c (.ptr b r c)=>some { val:=.c (.ptr b r c) }
  | .c (.tp row c)=>some { val:=.c (.tp row c) }
  | _=>none
 | .pick c a b=>match(σ c).bool? with
  | some true=>some { val:=σ a }
  | some false=>some { val:=σ b }
  | none=>none
 | .alloc t=>match C.ty t with
  | some ti=>some { val:=.c (.ptr slot 0 0),wr:=[(slot,some (.var (ti.zero.map .t)))] }
  | none=>none
 | .box t x=>match C.ty t,(σ x).cells with
  | some ti,some cs=>if cs.length=ti.size then some { val:=.c (.ptr slot 0 0),wr:=[(slot,some (.var cs))] } else none
  | _,_=>none
 | .build t parts=>match C.ty t with
  | some ti=>match ti.kind with
   | .struct fs=>match Ai (qU C fs) (ti.zero.map .t) (parts.toList.map fun p=>(p.1,σ p.2)) with
    | some cs=>some { val:=.agg cs }
    | none=>none
   | .array _ e=>match C.ty e with
    | some te=>match Ai (fun i=>some (i*te.size,te.size)) (ti.zero.map .t) (parts.toList.map fun p=>(p.1,σ p.2)) with
     | some cs=>some { val:=.agg cs }
     | none=>none
    | none=>none
   | _=>none
  | none=>none
 | .buildSlice t len parts=>match C.ty t with
  | some ti=>match ti.kind with
   | .slice e=>match C.ty e with
    | some te=>if len*te.size<=2^24/\te.size≠0 then
      match qT C slot t te.size len (parts.toList.map fun p=>(p.1,σ p.2)) with
      | some e=>some e
      | none=>match fC h te.size (List.replicate len te.zero) (parts.toList.map fun p=>(p.1,σ p.2)) with
       | some (rows,m)=>some { val:=.c (.sl slot 0 len false),wr:=m ++ [(slot,some (.rows te.size rows true false))],rd:=ids m }
       | none=>none
     else none
    | none=>none
   | _=>none
  | none=>none
 | .load t a=>match C.ty t with
  | some ti=>match σ a with
   | .c (.ptr b r c)=>match h b with
    | some (.var cells)=>if r=0 then(dn ti cells c).map fun v=>{ val:=v,rd:=[b] } else none
    | some (.rows _ rows _ _)=>match rows[r]? with
     | some row=>(dn ti (row.map .t) c).map fun v=>{ val:=v,rd:=[b] }
     | none=>none
    | _=>none
   | .c (.tp row c)=>(dn ti (row.map .t) c).map fun v=>{ val:=v }
   | _=>none
  | none=>none
 | .store t a x=>match C.ty t,(σ x).cells with
  | some ti,some cs=>if cs.length=ti.size then
    match σ a with
    | .c (.ptr b r c)=>match h b with
     | some (.var cells)=>if r=0/\c+cs.length<=cells.length then some { wr:=[(b,some (.var (aZ cells c cs)))],rd:=[b] } else none
     | some (.rows sz rows g false)=>match rows[r]?,bS h cs with
      | some row,some (ts,m)=>if c+ts.length<=row.length/\!(ids m).contains b then some { wr:=m ++ [(b,some (.rows sz (rows.set r (aZ row c ts)) g false))],rd:=b::ids m } else none
      | _,_=>none
     | _=>none
    | _=>none
   else none
  | _,_=>none
 | .binOp op t x y _=>match σ x,σ y with
  | .c (.t (.v (.bool a))),.c (.t (.v (.bool b)))=>match C.ty t with
   | some ti=>match ti.kind,op with
    | .bool,.eql=>some { val:=ep (.bool (a==b)) }
    | .bool,.neq=>some { val:=ep (.bool (!(a==b))) }
    | _,_=>none
   | none=>none
  | .c (.t (.v (.slice base _ _))),_=>GX C op t y base
  | .c (.t (.v a)),.c (.t (.v b))=>(JF op a b).map fun v=>{ val:=ep v }
  | .agg a,.agg b=>match vw C op t (kj a b) a.length b.length with
   | some e=>some e
   | none=>Cm C op t a b
  | .c (.t (.aa _ (_::_))),_=>IC C op t y
  | .c (.sl _ _ (_+1) _),_=>IC C op t y
  | _,_=>none
 | .unOp op _ x=>match σ x with
  | .c (.t (.v a))=>(XH op a).map fun v=>{ val:=ep v }
  | _=>none
 | .convert src dst x=>eK C h src dst (σ x)
 | .makeSlice t l c=>match C.ty t with
  | some ti=>match ti.kind with
   | .slice e=>match C.ty e,(σ l).int?,(σ c).int? with
    | some te,some n,some m=>if 0<=n/\n<=m/\m*te.bytes<=au/\1<=te.bytes/\te.size≠0 then
      match C.cs t,te.zero with
      | true,[z]=>some { val:=.c (.sl slot 0 n.toNat false),wr:=[(slot,some (.var (List.replicate n.toNat (.t z))))] }
      | _,_=>some { val:=.c (.sl slot 0 n.toNat false),wr:=[(slot,some (.rows te.size (List.replicate n.toNat te.zero) true false))] } else none
    | _,_,_=>none
   | _=>none
  | none=>none
 | .slice t x lo hi mx=>dq C h t (σ x) (lo.map σ) (hi.map σ) (mx.map σ)
 | .fieldAddr t x f=>match C.ty t with
  | some ti=>match ti.kind with
   | .struct fs=>match qU C fs f with
    | some (off,size)=>if size=0 then none else match σ x with
     | .c (.ptr b r c)=>some { val:=.c (.ptr b r (c+off)) }
     | .c (.tp row c)=>some { val:=.c (.tp row (c+off)) }
     | _=>none
    | none=>none
   | _=>none
  | none=>none
 | .field t x f=>match C.ty t with
  | some ti=>match ti.kind with
   | .struct fs=>match fs[f]? with
    | some (off,ft)=>match C.ty ft,σ x with
     | some tf,.agg l=>(dn tf l off).map fun v=>{ val:=v }
     | _,_=>none
    | none=>none
   | _=>none
  | none=>none
 | .indexAddr t x i=>match C.ty t,(σ i).int? with
  | some ti,some n=>match ti.kind with
   | .array len e=>match C.ty e with
    | some te=>if 0<=n/\n<len then
      match σ x with
      | .c (.ptr b r c)=>some { val:=.c (.ptr b r (c+n.toNat*te.size)) }
      | .c (.tp row c)=>some { val:=.c (.tp row (c+n.toNat*te.size)) }
      | _=>none
     else none
    | none=>none
   | .slice e=>match C.ty e with
    | some te=>match σ x with
     | .c (.sl b off len _)=>match h b with
      | some (.rows sz _ _ _)=>if 0<=n/\n<len/\sz=te.size then
        some { val:=.c (.ptr b (off+n.toNat) 0),rd:=[b] } else none
      | some (.var _)=>if 0<=n/\n<len/\te.size=1 then
        some { val:=.c (.ptr b 0 (off+n.toNat)),rd:=[b] } else none
      | _=>none
     | .c (.t (.aa _ rows))=>if 0<=n then
       match rows[n.toNat]? with
       | some row=>if row.length=te.size then some { val:=.c (.tp row 0) } else none
       | none=>none
      else none
     | _=>none
    | none=>none
   | _=>none
  | _,_=>none
 | .index t x i=>match C.ty t,(σ i).int? with
  | some ti,some n=>match ti.kind,σ x with
   | .array len e,.agg l=>match C.ty e with
    | some te=>if 0<=n/\n<len then(dn te l (n.toNat*te.size)).map fun v=>{ val:=v } else none
    | none=>none
   | .string,.c (.t (.v (.string s)))=>if 0<=n then
     match s[n.toNat]? with
     | some b=>some { val:=ep (.int .u8 b.toNat) }
     | none=>none
    else none
   | _,_=>none
  | _,_=>none
 | .extract x i=>match σ x with
  | .pN l=>match l[i]? with
   | some v=>some { val:=v }
   | none=>none
  | _=>none
 | .makeFunc (.func f) first aN=>if first.size=0 then
   match Nat.blt f oQ,aN.toList.mapM (fun x=>pf (σ x)) with
   | true,some l=>tg h f l
   | _,_=>none
  else match aN.size,first.toList.mapM (fun x=>pf (σ x)) with
   | 0,some l=>some { val:=.c (.dA (f+oQ) l),rd:=iG l }
   | _,_=>none
 | .makeMap t r=>match C.ty t with
  | some ti=>match ti.kind,r with
   | .map _ _,none=>some { val:=.c (.mp slot),wr:=[(slot,some (.map []))] }
   | _,_=>none
  | none=>none
 | .lookup t x i ok=>match C.ty t with
  | some ti=>match ti.kind,σ x,σ i with
   | .map k e,.c (.mp b),.c (.t (.v key))=>match h b,C.ty k,C.ty e with
    | some (.map de),some tk,some te=>if !jm tk.kind key||te.kind.agg then none else
      match df key de,te.zero with
      | some (some t),_=>some { val:=if ok then .pN [.c (.t t),ep (.bool true)] else .c (.t t),rd:=[b] }
      | some none,[z]=>some { val:=if ok then .pN [.c (.t z),ep (.bool false)] else .c (.t z),rd:=[b] }
      | _,_=>none
    | _,_,_=>none
   | _,_,_=>none
  | none=>none
 | .mapUpdate t x i v=>match C.ty t with
  | some ti=>match ti.kind,σ x,σ i,σ v with
   | .map k _,.c (.mp b),.c (.t (.v key)),.c (.t tv)=>match h b,C.ty k with
    | some (.map de),some tk=>if !jm tk.kind key then none else
     match gk key tv de with
     | some es=>some { wr:=[(b,some (.map es))],rd:=[b] }
     | none=>none
    | _,_=>none
   | _,_,_,_=>none
  | none=>none
 | .call { callee:=.builtin b,args,argTypes }=>
  match b,args.toList,argTypes[0]? with
  | .len,[x],some t=>pb C h t (σ x)
  | .append,[s,x],some t=>match C.ty t with
   | some ti=>match ti.kind with
    | .slice e=>match C.ty e,argTypes[1]? with
     | some te,some t1=>match C.ty t1 with
      | some OC=>match OC.kind with
       | .slice _|.string=>if te.size=0∨te.bytes=0 then none else cN te slot h (σ s) (σ x)
       | _=>none
      | none=>none
     | _,_=>none
    | _=>none
   | none=>none
  | .copy,[d,x],some t=>match C.ty t with
   | some ti=>match ti.kind with
    | .slice e=>match C.ty e with
     | some te=>if te.size=0 then none else lG te h (σ d) (σ x)
     | none=>none
    | _=>none
   | none=>none
  | .max,[x,y],_=>Ah true [σ x,σ y]
  | .min,[x,y],_=>Ah false [σ x,σ y]
  | _,_,_=>none
 | _=>none
def fZ (W:Place) (k:Nat):Obj->Option Obj->Prop
 | .cells c el fr,o'=>∃c':Array Value,o'=some (.cells c' el fr)/\c'.size=c.size/\∀i,¬W k i->c'[i]?=c[i]?
 | .map es cl,o'=>∃ID Zo,o'=some (.map ID Zo)/\((∀i,¬W k i)->ID=es/\Zo=cl)
 | ob,o'=>o'=some ob
structure fp (W:Place) (w w':World):Prop where
 os:w'.os=w.os
 tape:w'.tape=w.tape
 output:w'.output=w.output
 size:w.heap.size<=w'.heap.size
 obj:∀k ob,w.heap[k]?=some ob->fZ W k ob (w'.heap[k]?)
theorem fZ.refl (W:Place) (k:Nat) (ob:Obj):fZ W k ob (some ob):=by
 cases ob<;>simp only[fZ]
 ·exact⟨_,rfl,rfl,fun _ _=>rfl⟩
 ·exact⟨_,_,rfl,fun _=>⟨rfl,rfl⟩⟩
theorem fp.refl (W:Place) (w:World):fp W w w:=
 ⟨rfl,rfl,rfl,Nat.le_refl _,fun k ob h=>by rw[h];exact fZ.refl W k ob⟩
theorem fp.trans {W Wr:Place} {w0 w w':World} (h:fp W w0 w) (h':fp Wr w w') (hW:∀c o,c<w0.heap.size->Wr c o->W c o):fp W w0 w':=by
 refine⟨h'.os.trans h.os,h'.tape.trans h.tape,h'.output.trans h.output,Nat.le_trans h.size h'.size,fun k ob hk=>?_⟩;have bJ:k<w0.heap.size:=by
  rcases Nat.lt_or_ge k w0.heap.size with h|h
  ·exact h
  ·rw[Array.getElem?_eq_none h]at hk;cases hk
 have h1:=h.obj k ob hk;cases ob with
 | cells c el fr=>
  obtain⟨c1,e1,s1,f1⟩:=h1;obtain⟨c2,e2,s2,f2⟩:=h'.obj k _ e1;exact⟨c2,e2,s2.trans s1,fun i hi=>(f2 i fun x=>hi (hW _ _ bJ x)).trans (f1 i hi)⟩
 | map es cl=>
  obtain⟨es1,cl1,e1,f1⟩:=h1;obtain⟨es2,cl2,e2,f2⟩:=h'.obj k _ e1;refine⟨es2,cl2,e2,fun hn=>?_⟩;obtain⟨a,b⟩:=f2 fun i x=>hn i (hW _ _ bJ x)
  obtain⟨c,d⟩:=f1 hn;exact⟨a.trans c,b.trans d⟩
 | _=>exact h'.obj k _ h1
theorem fp.mono {W W':Place} {w w':World} (h:fp W w w') (hW:∀c o,c<w.heap.size->W c o->W' c o):fp W' w w':=
 (fp.refl W' w).trans h hW
theorem fp.cell {W:Place} {w w':World} (h:fp W w w') {b o:Nat} (hb:b<w.heap.size) (hW:¬W b o) :
  w'.cell? ⟨b,o,none⟩=w.cell? ⟨b,o,none⟩/\w'.frozen? ⟨b,o,none⟩=w.frozen? ⟨b,o,none⟩:=by
 have hg:w.heap[b]?=some w.heap[b]:=Array.getElem?_eq_getElem hb;have:=h.obj b _ hg;unfold World.cell? World.frozen?;cases hx:w.heap[b]with
 | cells c el fr=>
  rw[hx]at this;obtain⟨c1,e1,s1,f1⟩:=this;simp only[hg,hx,e1];exact⟨by simpa using f1 o hW,trivial⟩
 | map es cl=>
  rw[hx]at this;obtain⟨es1,cl1,e1,f1⟩:=this;simp only[hg,hx,e1];exact⟨trivial,trivial⟩
 | _=>
  rw[hx]at this;simp only[fZ]at this;simp only[hg,hx,this];exact⟨trivial,trivial⟩
def there (w:World) (cb co n:Nat):Prop:=∀o,co<=o->o<co+n->(w.cell? ⟨cb,o,none⟩).isSome=true/\w.frozen? ⟨cb,o,none⟩=false
def aA.ext (ao:aA) (R:bZ):Place:=fun b o=>b=R.cb/\match ao with
 | .var cells=>R.co<=o/\o<R.co+max cells.length R.cap
 | .rows _ l g _=>R.co<=o/\o<R.co+(if g then R.cap else l.length)*R.ah
 | .map _=>True
 | .gL _ _=>False
def aA.wr (ao:aA) (R:bZ):Place:=fun b o=>b=R.cb/\match ao with
 | .var cells=>R.co<=o/\o<R.co+max cells.length R.cap
 | .rows _ l g fz=>R.co+(if fz then l.length*R.ah else 0)<=o/\o<R.co+(if g then R.cap else l.length)*R.ah
 | .map _=>True
 | .gL _ _=>False
theorem aA.fL {ao:aA} {R:bZ} {b o:Nat} (h:ao.wr R b o):ao.ext R b o:=by
 unfold aA.wr aA.ext at *;refine⟨h.1,?_⟩;have:=h.2;cases ao with
 | var=>exact this
 | rows sz rows g fz=>exact⟨by have:=this.1;omega,this.2⟩
 | map=>trivial
 | gL=>exact this
def eH (β:Nat->Option bZ) (S:Place) (w:World) (B0:Nat) (R:bZ):aA->Prop
 | .var cells=>(there w R.cb R.co (max cells.length R.cap)/\R.ah=1/\R.cap<2^63)/\∀j c,cells[j]?=some c->∃v,w.cell? ⟨R.cb,R.co+j,none⟩=some v/\dv β S w c v
 | .rows sz rows g fz=>sz=R.ah/\(∀r∈rows,r.length=R.ah)/\rows.length<=R.cap/\R.cap<2^63/\rows.length<2^60/\there w R.cb R.co ((if g then R.cap else rows.length)*R.ah) /\
   (∀i j t,fo rows i j=some t->∃v,w.cell? ⟨R.cb,R.co+i*R.ah+j,none⟩=some v/\dX S w t v) /\
   (fz=true->∀o,R.co<=o->o<R.co+rows.length*R.ah->S R.cb o)
 | .map de=>B0<=R.cb/\∃(es:Array MapEntry) (clock:Nat),w.heap[R.cb]?=some (.map es clock)/\es.size=de.length /\
   ∀(i:Nat) (k:Value) (t:Tree),de[i]?=some (k,t)->∃e:MapEntry,es[i]?=some e/\e.key=k/\dX S w t e.val
 | .gL sz rows=>sz=R.ah/\(∀r∈rows,r.length=R.ah)/\R.cap<2^63/\∃cap,dX S w (.aa false rows) (.slice (some ⟨R.cb,R.co,none⟩) rows.length cap)
structure Ctx where
 w0:World
 W:Place
 S0:Place
 β0:Nat->Option bZ
abbrev Ctx.B0 (K:Ctx):Nat:=K.w0.heap.size
structure Sat (K:Ctx) (β:Nat->Option bZ) (S:Place) (st:St) (a:Act) (w:World):Prop where
 len:a.tmps.size=st.tmps.length
 defers:a.defers=[]
 tmps:∀t x,st.tmps[t]?=some x->aI β S w x (a.tmps.getD t undef)
 top:∀b R,β b=some R->b<st.heap.length
 ao:∀b ao,look st.heap b=some ao->∃R,β b=some R/\eH β S w K.B0 R ao/\(∀c o,ao.ext R c o->c<w.heap.size/\(K.B0<=c∨K.W c o))/\(∀c o,ao.wr R c o->¬S c o)
 mK:∀b b' ao dj R R',b≠b'->look st.heap b=some ao->look st.heap b'=some dj->β b=some R->β b'=some R'->∀c o,ao.ext R c o->¬dj.ext R' c o
 sT:∀c o,S c o->c<w.heap.size
 sin:∀c o,S c o->K.S0 c o∨K.B0<=c∨K.W c o
 sub:∀c o,K.S0 c o->S c o
 jM:fp K.W K.w0 w
 arg:∀i R,K.β0 i=some R->β i=some R
theorem tj {h:bU} {b:Nat} {ao:aA} (e:look h b=some ao):b<h.length:=by
 unfold look at e;rcases Nat.lt_or_ge b h.length with h1|h1
 ·exact h1
 ·simp[List.getElem?_eq_none h1]at e
theorem eH.jM {β β':Nat->Option bZ} {S S':Place} {w w':World} {B0:Nat} {R:bZ} {ao:aA} {Wr:Place}
  (h:eH β S w B0 R ao) (hk:fp Wr w w') (hβ:∀b R,β b=some R->β' b=some R) (hS:∀b o,S b o->S' b o)
  (hw:∀b o,S b o->w'.cell? ⟨b,o,none⟩=w.cell? ⟨b,o,none⟩)
  (hx:∀c o,ao.ext R c o->c<w.heap.size/\¬Wr c o):eH β' S' w' B0 R ao:=by
 have th:∀n,(∀o,R.co<=o->o<R.co+n->ao.ext R R.cb o)->there w R.cb R.co n->there w' R.cb R.co n:=by
  intro n hn ht o h1 h2;obtain⟨a,b⟩:=hx _ _ (hn o h1 h2);obtain⟨c,d⟩:=hk.cell a b;rw[c,d];exact ht o h1 h2
 cases ao with
 | var cells=>
  refine⟨⟨th _ (fun o h1 h2=>⟨rfl,h1,h2⟩) h.1.1,h.1.2⟩,fun j c hj=>?_⟩;obtain⟨v,a,b⟩:=h.2 j c hj;have bJ:j<cells.length:=by
   rcases Nat.lt_or_ge j cells.length with h1|h1
   ·exact h1
   ·rw[List.getElem?_eq_none h1]at hj;cases hj
  obtain⟨p,q⟩:=hx R.cb (R.co+j) ⟨rfl,by omega,by omega⟩;exact⟨v,by rw[(hk.cell p q).1];exact a,b.mono hβ hS hw⟩
 | rows sz rows g fz=>
  obtain⟨h0,h1,h2,h3,XI,h4,h5,h6⟩:=h;refine⟨h0,h1,h2,h3,XI,th _ (fun o a b=>⟨rfl,a,b⟩) h4,fun i j t ht=>?_,fun hf o a b=>hS _ _ (h6 hf o a b)⟩;obtain⟨v,a,b⟩:=h5 i j t ht;have jc:R.co+i*R.ah+j<R.co+(if g then R.cap else rows.length)*R.ah:=by
   unfold fo at ht;obtain⟨row,hr,hj⟩:=Option.bind_eq_some_iff.1 ht;have hi:i<rows.length:=by
    rcases Nat.lt_or_ge i rows.length with h1|h1
    ·exact h1
    ·rw[List.getElem?_eq_none h1]at hr;cases hr
   have OD:j<R.ah:=by
    rw[<-h1 row (List.mem_of_getElem? hr)];rcases Nat.lt_or_ge j row.length with h1|h1
    ·exact h1
    ·rw[List.getElem?_eq_none h1]at hj;cases hj
   have:i+1<=(if g then R.cap else rows.length):=by split<;>omega
   have:=Nat.mul_le_mul_right R.ah this;rw[Nat.succ_mul]at this;omega
  obtain⟨p,q⟩:=hx R.cb _ ⟨rfl,by omega,jc⟩;exact⟨v,by rw[(hk.cell p q).1];exact a,b.mono hS hw⟩
 | map de=>
  obtain⟨h1,es,cl,h2,h3,h4⟩:=h;obtain⟨p,q⟩:=hx R.cb 0 ⟨rfl,trivial⟩;obtain⟨ID,Zo,e,f⟩:=hk.obj R.cb _ h2;obtain⟨rfl,rfl⟩:=f fun i=>(hx R.cb i ⟨rfl,trivial⟩).2
  refine⟨h1,_,_,e,h3,fun i k t hi=>?_⟩;obtain⟨en,a,b,c⟩:=h4 i k t hi;exact⟨en,a,b,c.mono hS hw⟩
 | gL sz rows=>
  obtain⟨h1,h2,h3,cap,h4⟩:=h;exact⟨h1,h2,h3,cap,h4.mono hS hw⟩
theorem Sat.step {K:Ctx} {β:Nat->Option bZ} {S:Place} {st:St} {a:Act} {w:World} (h:Sat K β S st a w)
  {w':World} {β':Nat->Option bZ} {S':Place} {eV:bU} {Wr:Place} (D:Nat->Prop)
  (hk:fp Wr w w')
  (Zp:∀c o,Wr c o->c<w.heap.size->¬S c o/\(K.B0<=c∨K.W c o)/\(∀b ao R,¬D b->look st.heap b=some ao->β b=some R->¬ao.ext R c o))
  (hβ:∀b R,β b=some R->β' b=some R) (kI:∀b R,β' b=some R->b<eV.length)
  (hS:∀c o,S c o->S' c o)
  (UW:∀c o,S' c o->S c o∨(c<w'.heap.size/\(K.B0<=c∨K.W c o)/\(∀b ao R,¬D b->look st.heap b=some ao->β b=some R->¬ao.wr R c o)))
  (pO:∀b ao,¬D b->look eV b=some ao->look st.heap b=some ao)
  (GZ:∀b ao,D b->look eV b=some ao->∃R,β' b=some R/\eH β' S' w' K.B0 R ao /\
   (∀c o,ao.ext R c o->c<w'.heap.size/\(K.B0<=c∨K.W c o))/\(∀c o,ao.wr R c o->¬S' c o) /\
   (∀b' dj R',b'≠b->look eV b'=some dj->β' b'=some R'->∀c o,ao.ext R c o->¬dj.ext R' c o)) :
  Sat K β' S' ⟨st.tmps,eV⟩ a w':=by
 have hw:∀c o,S c o->w'.cell? ⟨c,o,none⟩=w.cell? ⟨c,o,none⟩:=fun c o hs=>
  (hk.cell (h.sT c o hs) fun hx=>(Zp c o hx (h.sT c o hs)).1 hs).1
 refine⟨h.len,h.defers,fun t x ht=>(h.tmps t x ht).mono hβ hS hw,kI,fun b ao hb=>?_,fun b b' ao dj R R' dh hb bQ hR ia c o=>?_,fun c o hs=>?_,fun c o hs=>?_,fun c o hs=>hS _ _ (h.sub c o hs),?_,fun i R hi=>hβ _ _ (h.arg i R hi)⟩
 ·by_cases hD:D b
  ·obtain⟨R,h1,h2,h3,h4,_⟩:=GZ b ao hD hb
   exact⟨R,h1,h2,h3,h4⟩
  ·have En:=pO b ao hD hb
   obtain⟨R,h1,h2,h3,h4⟩:=h.ao b ao En;refine⟨R,hβ _ _ h1,h2.jM hk hβ hS hw fun c o hx=>⟨(h3 c o hx).1,fun hy=>(Zp c o hy (h3 c o hx).1).2.2 b ao R hD En h1 hx⟩,fun c o hx=>⟨Nat.lt_of_lt_of_le (h3 c o hx).1 hk.size,(h3 c o hx).2⟩,fun c o hx hs=>?_⟩;rcases UW c o hs with hs|⟨_,_,hs⟩
   ·exact h4 c o hx hs
   ·exact hs b ao R hD En h1 hx
 ·by_cases hD:D b
  ·obtain⟨R1,h1,_,_,_,h5⟩:=GZ b ao hD hb
   rw[hR]at h1;cases h1;exact h5 b' dj R' (Ne.symm dh) bQ ia c o
  ·by_cases OE:D b'
   ·obtain⟨R1,h1,_,_,_,h5⟩:=GZ b' dj OE bQ
    rw[ia]at h1;cases h1;intro hx hy;exact h5 b ao R dh hb hR c o hy hx
   ·have En:=pO b ao hD hb
    have UX:=pO b' dj OE bQ;obtain⟨R1,h1,_⟩:=h.ao b ao En;obtain⟨R1',QJ,_⟩:=h.ao b' dj UX;have e:=hβ _ _ h1;rw[hR]at e;cases e;have e:=hβ _ _ QJ;rw[ia]at e;cases e;exact h.mK b b' ao dj R R' dh En UX h1 QJ c o
 ·rcases UW c o hs with hs|⟨h1,_,_⟩
  ·exact Nat.lt_of_lt_of_le (h.sT c o hs) hk.size
  ·exact h1
 ·rcases UW c o hs with hs|⟨_,h1,_⟩
  ·exact h.sin c o hs
  ·exact .inr h1
 ·exact h.jM.trans hk fun c o bJ hx=>by
   rcases(Zp c o hx (Nat.lt_of_lt_of_le bJ h.jM.size)).2.1 with h1|h1
   ·exact absurd bJ (Nat.not_lt.2 h1)
   ·exact h1
theorem Sat.put {K:Ctx} {β:Nat->Option bZ} {S:Place} {st:St} {a:Act} {w:World} (h:Sat K β S st a w) {x:AV} {v:Value}
  (hv:aI β S w x v) (d:Option Tmp):Sat K β S ⟨(match d with|some d=>st.tmps.set d x|none=>st.tmps),st.heap⟩ (a.put d v) w:=by
 cases d with
 | none=>exact⟨h.len,h.defers,h.tmps,h.top,h.ao,h.mK,h.sT,h.sin,h.sub,h.jM,h.arg⟩
 | some d=>
  refine⟨by simp[Act.put,h.len],h.defers,fun t y ht=>?_,h.top,h.ao,h.mK,h.sT,h.sin,h.sub,h.jM,h.arg⟩;have hl:=h.len;have h3:=h.tmps t y;simp only[Act.put]at *;rw[List.getElem?_set]at ht;split at ht
  ·rename_i Zq
   subst Zq;split at ht
   ·cases ht
    rename_i bJ;rw[<-hl]at bJ;simp[Array.getD,bJ,hv]
   ·cases ht
  ·rename_i Zq
   have:=h3 ht;simp only[Array.getD_eq_getD_getElem?,Array.getElem?_setIfInBounds]at *;rw[if_neg Zq];exact this
def zeroCell:Tree->Value->Bool
 | .v (.int k a),.int k' b=>k==k'&&a==b
 | .v (.bool a),.bool b=>a==b
 | .v (.string a),.string b=>decide (a=b)
 | .aa true [],.slice none 0 0=>true
 | .v (.map none),.map none=>true
 | .v .nilFunc,.nilFunc=>true
 | .v .nilIface,.nilIface=>true
 | .v (.pointer none),.pointer none=>true
 | _,_=>false
def zeroCells:List Tree->List Value->Bool
 | [],[]=>true
 | t::ts,v::vs=>zeroCell t v&&zeroCells ts vs
 | _,_=>false
def Cn (agg:Bool) (ts:List Tree) (z:Value):Bool:=
 match agg,z with
 | true,.agg cs=>zeroCells ts cs.toList
 | false,v=>zeroCells ts [v]
 | _,_=>false
def kindOk:TK->TypeDesc->Bool
 | .int k,.int k'=>k==k'
 | .bool,.bool=>true
 | .string,.string=>true
 | .slice e,.slice e'=>e==e'
 | .array n e,.array n' e'=>n==n'&&e==e'
 | .struct fs,.struct fields=>fields.toList.map (fun f=>(f.offset,f.type))==fs
 | .map k e,.map k' e'=>k==k'&&e==e'
 | .other,d=>!(d matches .struct _|.array .. )
 | _,_=>false
def G0 (P:Program) (t:TypeId):Bool:=match P.underlying t with
 | some .bool=>true
 | _=>false
def UY (P:Program) (t:TypeId) (ti:TI):Bool:=
 match P.info? t,P.underlying t with
 | some i,some d=>i.size==ti.size&&i.bytes==ti.bytes&&(match i.zero with|some z=>Cn ti.kind.agg ti.zero z|none=>false)&&kindOk ti.kind d&&ti.zero.length==ti.size&&decide (ti.bytes<=1048576)&&(match d with|.struct fields=>fields.toList.all (fun f=>(P.info? f.type).isSome)&&(!(fields.toList.all fun f=>G0 P f.type)||fields.toList.isEmpty||(!P.stoodInHeld t && !P.eqGuardType P.depth t))|.array _ _=>!P.eqGuardType P.depth t|_=>true)
 | _,_=>false
def bC (P:Program) (C:eA):Prop:=∀t ti,C.ty t=some ti->UY P t ti=true
structure g9 (P:Program) (t:TypeId) (ti:TI):Prop where
 info:∃i,P.info? t=some i/\i.size=ti.size/\i.bytes=ti.bytes/\∃z,i.zero=some z/\Cn ti.kind.agg ti.zero z=true
 QK:∃d,P.underlying t=some d/\kindOk ti.kind d=true
 len:ti.zero.length=ti.size
 small:ti.bytes<=1048576
 fields:∀fields,P.underlying t=some (.struct fields)->∀f∈fields.toList,(P.info? f.type).isSome=true
 guard:∀n e,P.underlying t=some (.array n e)->P.eqGuardType P.depth t=false
 stb:∀fields,P.underlying t=some (.struct fields)->(∀f∈fields.toList,P.underlying f.type=some .bool)->fields.toList≠[]->P.stoodInHeld t=false/\P.eqGuardType P.depth t=false
theorem jh {P:Program} {t:TypeId} {ti:TI} (h:UY P t ti=true):g9 P t ti:=by
 unfold UY at h;split at h
 ·rename_i i d hi hd
  simp only[Bool.and_eq_true,beq_iff_eq]at h;obtain⟨⟨⟨⟨⟨⟨h1,h2⟩,h3⟩,h4⟩,h5⟩,h6⟩,h7⟩:=h;split at h3
  ·rename_i z hz
   exact⟨⟨i,hi,h1,h2,z,hz,h3⟩,⟨d,hd,h4⟩,h5,by simpa using h6,fun fields hf f hm=>by
    rw[hd]at hf;cases hf;exact List.all_eq_true.1 (Bool.and_eq_true_iff.1 h7).1 f hm,fun n e hf=>by rw[hd]at hf;cases hf;simpa using h7,fun fields hf hb dh=>by
    rw[hd]at hf;cases hf;have h8:=(Bool.and_eq_true_iff.1 h7).2;have ha:(fields.toList.all fun f=>G0 P f.type)=true:=List.all_eq_true.2 fun f hf=>by unfold G0;rw[hb f hf]
    have hE:fields.toList.isEmpty=false:=by
     cases hq:fields.toList with
     | nil=>exact absurd hq dh
     | cons=>rfl
    rw[ha,hE]at h8;simpa using h8⟩
  ·cases h3
 ·cases h
theorem Co {t:Tree} {v:Value} (h:zeroCell t v=true) (S:Place) (w:World):dX S w t v:=by
 unfold zeroCell at h;split at h
 ·simp only[Bool.and_eq_true,beq_iff_eq]at h
  obtain⟨rfl,rfl⟩:=h;exact .v _ fun l=>by simp
 ·simp only[beq_iff_eq]at h;subst h;exact .v _ fun l=>by simp
 ·simp only[decide_eq_true_eq]at h;subst h;exact .v _ fun l=>by simp
 ·exact .aa true [] none 0 0 0 0 (fun _ _=>undef) (by simp) (by omega) (by simp) (by simp) (by simp) (by simp) (by simp) (by simp[fo]) (by simp[fo])
 ·exact .v _ fun l=>by simp
 ·exact .v _ fun l=>by simp
 ·exact .v _ fun l=>by simp
 ·exact .v _ fun l=>by simp
 ·cases h
theorem kn:∀ {ts:List Tree} {vs:List Value},zeroCells ts vs=true->∀(S:Place) (w:World),vs.length=ts.length/\∀(i:Nat) (t:Tree),ts[i]?=some t->∃v:Value,vs[i]?=some v/\dX S w t v
 | [],[],_,S,w=>⟨rfl,by simp⟩
 | t::ts,v::vs,h,S,w=>by
  simp only[zeroCells,Bool.and_eq_true]at h;obtain⟨h1,h2⟩:=kn h.2 S w;refine⟨by simp[h1],fun i t' ht=>?_⟩;cases i with
  | zero=>simp at ht;subst ht;exact⟨v,rfl,Co h.1 S w⟩
  | succ i=>simpa using h2 i t' (by simpa using ht)
 | [],_::_,h,_,_=>by simp[zeroCells]at h
 | _::_,[],h,_,_=>by simp[zeroCells]at h
section
variable {P:Program} {t:TypeId} {ti:TI} (h:g9 P t ti) (w:World)
include h
theorem g9.sizeOf:(sizeOf t).run P w=.ok ti.size w:=by
 obtain⟨i,h1,h2,h3,_⟩:=h.info;simp[Go.sizeOf,typeInfo,h1,h2,Result.andThen]
theorem g9.typeInfo:∃i:TypeInfo,(typeInfo t).run P w=.ok i w/\i.bytes=ti.bytes/\i.size=ti.size:=by
 obtain⟨i,h1,h2,h3,_⟩:=h.info;exact⟨i,by simp[Go.typeInfo,h1,Result.andThen],h3,h2⟩
theorem g9.zeroValue (S:Place):∃z,(zeroValue t).run P w=.ok z w/\z.cells.size=ti.size/\(∀(i:Nat) (t:Tree),ti.zero[i]?=some t->∃v:Value,z.cells.toList[i]?=some v/\dX S w t v)/\(ti.kind.agg=false->one z)/\(ti.kind.agg=true->∃cs,z=.agg cs):=by
 obtain⟨i,h1,h2,h3,z,h4,h5⟩:=h.info;refine⟨z,by simp[Go.zeroValue,Go.typeInfo,h1,h4,Result.andThen],?_⟩;cases Oe:ti.kind.agg with
 | true=>
  rw[Oe]at h5;cases z with
  | agg cs=>
   obtain⟨h6,h7⟩:=kn (ts:=ti.zero) (vs:=cs.toList) h5 S w;exact⟨by rw[<-h.len,<-h6];rfl,h7,by simp,fun _=>⟨cs,rfl⟩⟩
  | _=>simp[Cn]at h5
 | false=>
  rw[Oe]at h5;simp only[Cn]at h5;obtain⟨h6,h7⟩:=kn h5 S w;have JG:one z:=by
   cases hz:ti.zero with
   | nil=>rw[hz]at h5;simp[zeroCells]at h5
   | cons t0 ts=>
    obtain⟨v,hv,hr⟩:=h7 0 t0 (by simp[hz]);simp at hv;subst hv;exact hr.one
  have hc:z.cells=#[z]:=by
   unfold Value.cells;split
   ·rename_i cs;exact absurd rfl (JG cs).1
   ·rfl
  rw[hc];exact⟨by rw[<-h.len,<-h6];rfl,by simpa using h7,fun _=>JG,by simp⟩
theorem g9.isAgg:(isAgg t).run P w=.ok ti.kind.agg w:=by
 obtain⟨d,h1,h2⟩:=h.QK;simp only[Go.isAgg,Sem.run_bind,run_underlying h1,Result.andThen];cases hk:ti.kind<;>cases d<;>simp_all[kindOk,TK.agg]
theorem g9.slice {e:TypeId} (hk:ti.kind=.slice e):P.underlying t=some (.slice e):=by
 obtain⟨d,h1,h2⟩:=h.QK;rw[hk]at h2;cases d<;>simp[kindOk]at h2;rw[h1,h2]
theorem g9.array {n:Nat} {e:TypeId} (hk:ti.kind=.array n e):P.underlying t=some (.array n e):=by
 obtain⟨d,h1,h2⟩:=h.QK;rw[hk]at h2;cases d<;>simp[kindOk]at h2;rw[h1,h2.1,h2.2]
theorem g9.struct {fs:List (Nat×TypeId)} (hk:ti.kind=.struct fs):∃fields:Array Field,P.underlying t=some (.struct fields)/\fields.toList.map (fun f=>(f.offset,f.type))=fs:=by
 obtain⟨d,h1,h2⟩:=h.QK;rw[hk]at h2;cases d<;>simp only[kindOk,beq_iff_eq]at h2<;>first|(cases h2;done)|exact⟨_,h1,h2⟩
theorem g9.map {k e:TypeId} (hk:ti.kind=.map k e):P.underlying t=some (.map k e):=by
 obtain⟨d,h1,h2⟩:=h.QK;rw[hk]at h2;cases d<;>simp[kindOk]at h2;rw[h1,h2.1,h2.2]
theorem g9.string (hk:ti.kind=.string):P.underlying t=some .string:=by
 obtain⟨d,h1,h2⟩:=h.QK;rw[hk]at h2;cases d<;>simp[kindOk]at h2;rw[h1]
theorem g9.bool (hk:ti.kind=.bool):P.underlying t=some .bool:=by
 obtain⟨d,h1,h2⟩:=h.QK;rw[hk]at h2;cases d<;>simp[kindOk]at h2;rw[h1]
theorem g9.int {k:IntKind} (hk:ti.kind=.int k):P.underlying t=some (.int k):=by
 obtain⟨d,h1,h2⟩:=h.QK;rw[hk]at h2;cases d<;>simp[kindOk]at h2;rw[h1,h2]
end
theorem tq {v:Value} (h:one v):v.cells=#[v]:=by
 unfold Value.cells;split
 ·rename_i cs;exact absurd rfl (h cs).1
 ·rfl
theorem iQ {v:Value} (h:one v):v.oneCell'=true:=by
 unfold Value.oneCell';split
 ·rename_i cs;exact absurd rfl (h cs).1
 ·rename_i cs;exact absurd rfl (h cs).2
 ·rfl
theorem Eo {v:Value} (h:LL v=true):one v:=by
 intro l;constructor<;>rintro rfl<;>simp[LL]at h
theorem mL {v:Value} (h:LL v=true) (β:Nat->Option bZ) (S:Place) (w:World):dv β S w (jS v) v:=by
 unfold jS;split
 ·exact .t (.aa true [] none 0 0 0 0 (fun _ _=>undef) (by simp) (by omega) (by simp) (by simp) (by simp) (by simp) (by simp) (by simp[fo]) (by simp[fo]))
 ·exact .t (.v _ (Eo h))
theorem Ep (v:Value) (β:Nat->Option bZ) (S:Place) (w:World):aI β S w (ofConst v) v:=by
 unfold ofConst;split
 ·rename_i cs
  split
  ·rename_i jA
   refine .agg cs.toList (by simp) fun i c hi=>?_
   rw[List.getElem?_map]at hi;obtain⟨v,hv,rfl⟩:=Option.map_eq_some_iff.1 hi;exact⟨v,hv,mL (List.all_eq_true.1 jA v (List.mem_of_getElem? hv)) _ _ _⟩
  ·exact .af _
 ·exact .af _
 ·rename_i h1 h2
  refine .c (mL ?_ _ _ _);unfold LL;split
  ·rename_i cs;exact absurd rfl (h1 cs)
  ·rename_i cs;exact absurd rfl (h2 cs)
  ·rfl
theorem Sat.get {K:Ctx} {β:Nat->Option bZ} {S:Place} {st:St} {a:Act} {w:World} (h:Sat K β S st a w) (x:Operand):aI β S w (st.get x) (a.eval x):=by
 cases x with
 | tmp t=>
  unfold St.get Act.eval;rcases Nat.lt_or_ge t st.tmps.length with bJ|Gx
  ·simp only[List.getD_eq_getElem?_getD,List.getElem?_eq_getElem bJ,Option.getD_some]
   exact h.tmps t _ (List.getElem?_eq_getElem bJ)
  ·simp only[List.getD_eq_getElem?_getD,List.getElem?_eq_none Gx,Option.getD_none]
   exact .af _
 | const v=>exact Ep v _ _ _
 | global g=>exact .af _
 | func f=>exact .c (.t (.v _ fun l=>by simp))
theorem aI.int {β:Nat->Option bZ} {S:Place} {w:World} {x:AV} {v:Value} {n:Int} (h:aI β S w x v) (hx:x.int?=some n):∃k,v=.int k n/\x=.c (.t (.v (.int k n))):=by
 unfold AV.int? at hx;split at hx
 ·cases hx;cases h with|c h=>cases h with|t h=>cases h;exact⟨_,rfl,rfl⟩
 ·cases hx
theorem aI.bool {β:Nat->Option bZ} {S:Place} {w:World} {x:AV} {v:Value} {n:Bool} (h:aI β S w x v) (hx:x.bool?=some n):v=.bool n:=by
 unfold AV.bool? at hx;split at hx
 ·cases hx;cases h with|c h=>cases h with|t h=>cases h;rfl
 ·cases hx
theorem aI.scalar {β:Nat->Option bZ} {S:Place} {w:World} {v y:Value} (h:aI β S w (.c (.t (.v y))) v):v=y/\one y:=by
 cases h with|c h=>cases h with|t h=>cases h with|v _ h=>exact⟨rfl,h⟩
theorem aI.sU {β:Nat->Option bZ} {S:Place} {w:World} {v:Value} (h:one v):aI β S w (ep v) v:=.c (.t (.v v h))
theorem aI.Cp {β:Nat->Option bZ} {S:Place} {w:World} {l:List Cell} {v:Value} (h:aI β S w (.agg l) v) :
  ∃vs:List Value,v=.agg vs.toArray/\vs.length=l.length/\∀(i:Nat) (c:Cell),l[i]?=some c->∃v:Value,vs[i]?=some v/\dv β S w c v:=by
 cases h with|agg vs h1 h2=>exact⟨vs,rfl,h1,h2⟩
theorem aI.Cq {β:Nat->Option bZ} {S:Place} {w:World} {x:AV} {l:List Cell} {v:Value} (h:aI β S w x v) (hx:x.cells=some l) :
  v.cells.toList.length=l.length/\∀(i:Nat) (c:Cell),l[i]?=some c->∃u:Value,v.cells.toList[i]?=some u/\dv β S w c u:=by
 unfold AV.cells at hx;split at hx
 ·cases hx
  cases h with|c h=>
  rw[tq h.one];refine⟨rfl,fun i c hi=>?_⟩;cases i with
  | zero=>simp at hi;subst hi;exact⟨v,rfl,h⟩
  | succ i=>simp at hi
 ·cases hx
  obtain⟨vs,rfl,h1,h2⟩:=h.Cp;exact⟨by simpa[Value.cells]using h1,by simpa[Value.cells]using h2⟩
 ·cases hx
theorem IE (b o n:Nat):(⟨b,o,none⟩:Addr).add n=⟨b,o+n,none⟩:=Addr.add_lit b o n
theorem nf {α:Type} {Q:Nat->α->Prop}:∀(n:Nat),(∀i,i<n->∃v,Q i v)->∃vs:List α,vs.length=n/\∀i v,vs[i]?=some v->Q i v
 | 0,_=>⟨[],rfl,by simp⟩
 | n+1,h=>by
  obtain⟨vs,h1,h2⟩:=nf n fun i hi=>h i (by omega)
  obtain⟨v,hv⟩:=h n (by omega);refine⟨vs ++ [v],by simp[h1],fun i u hu=>?_⟩;rw[List.getElem?_append]at hu;split at hu
  ·exact h2 i u hu
  ·rename_i Gx
   have:i=n:=by
    rcases Nat.lt_or_ge (i-vs.length) 1 with h3|h3
    ·omega
    ·rw[List.getElem?_eq_none (by simpa using h3)]at hu;cases hu
   subst this;simp[h1]at hu;subst hu;exact hv
theorem qV {ti:TI} {cells:List Cell} {c:Nat} {x:AV} (h:dn ti cells c=some x) (ha:ti.kind.agg=true) :
  c+ti.size<=cells.length/\x=.agg ((cells.drop c).take ti.size):=by
 unfold dn at h;rw[if_pos ha]at h;split at h
 ·exact⟨by assumption,by cases h;rfl⟩
 ·cases h
theorem qW {ti:TI} {cells:List Cell} {c:Nat} {x:AV} (h:dn ti cells c=some x) (ha:ti.kind.agg=false) :
  ∃y,cells[c]?=some y/\x=.c y:=by
 unfold dn at h;rw[ha]at h;simp only[Bool.false_eq_true,if_false]at h;obtain⟨y,h1,h2⟩:=Option.map_eq_some_iff.1 h;exact⟨y,h1,h2.symm⟩
section
variable {P:Program} {t:TypeId} {ti:TI} {β:Nat->Option bZ} {S:Place} {w:World}
theorem qX (cZ:g9 P t ti) {cells:List Cell} {c:Nat} {x:AV} (hx:dn ti cells c=some x) {cb co:Nat}
  (hc:∀(j:Nat) (y:Cell),cells[j]?=some y->∃v,w.cell? ⟨cb,co+j,none⟩=some v/\dv β S w y v) :
  ∃v,(loadVar t ⟨cb,co+c,none⟩).run P w=.ok v w/\aI β S w x v:=by
 cases ha:ti.kind.agg with
 | true=>
  obtain⟨h1,rfl⟩:=qV hx ha;obtain⟨vs,h2,h3⟩:=nf (Q:=fun i v=>∀y,cells[c+i]?=some y->w.cell? ⟨cb,co+(c+i),none⟩=some v/\dv β S w y v) ti.size (fun i hi=>by
   obtain⟨v,hv⟩:=hc (c+i) (cells[c+i]'(by omega)) (List.getElem?_eq_getElem _);refine⟨v,fun y hy=>?_⟩;rw[List.getElem?_eq_getElem (by omega)]at hy;cases hy;exact hv)
  have di:=run_loadCells_list (P:=P) w ⟨cb,co+c,none⟩ vs (fun j v hv=>by
   rw[IE];have hj:j<ti.size:=by
    rcases Nat.lt_or_ge j vs.length with h|h
    ·omega
    ·rw[List.getElem?_eq_none h]at hv;cases hv
   have:=(h3 j v hv _ (List.getElem?_eq_getElem (show c+j<cells.length by omega))).1;rw[Nat.add_assoc];exact this)
  refine⟨.agg vs.toArray,?_,.agg vs (by simp[h2];omega) fun i y hy=>?_⟩
  ·simp only[loadVar,Sem.run_bind,cZ.isAgg,ha,Result.andThen,if_true,cZ.sizeOf,Sem.run_pure]
   rw[h2]at di;rw[di]
  ·have hi:i<ti.size:=by
    rcases Nat.lt_or_ge i ti.size with h|h
    ·exact h
    ·rw[List.getElem?_eq_none (by simp;omega)]at hy;cases hy
   refine⟨vs[i]'(by omega),List.getElem?_eq_getElem _,(h3 i _ (List.getElem?_eq_getElem _) y ?_).2⟩;rw[List.getElem?_take,if_pos hi,List.getElem?_drop]at hy;exact hy
 | false=>
  obtain⟨y,h1,rfl⟩:=qW hx ha;obtain⟨v,h2,h3⟩:=hc c y h1;exact⟨v,by simp[loadVar,cZ.isAgg,ha,Result.andThen,h2],.c h3⟩
theorem qY (cZ:g9 P t ti) {cells:List Cell} {c:Nat} {x:AV} (hx:dn ti cells c=some x) {vs:List Value} (hlen:vs.length=cells.length)
  (hc:∀(j:Nat) (y:Cell),cells[j]?=some y->∃v,vs[j]?=some v/\dv β S w y v) :
  ∃v,(part t vs.toArray c).run P w=.ok v w/\aI β S w x v:=by
 cases ha:ti.kind.agg with
 | true=>
  obtain⟨h1,rfl⟩:=qV hx ha;refine⟨.agg (vs.toArray.extract c (c+ti.size)),by simp[part,cZ.isAgg,ha,Result.andThen,cZ.sizeOf],?_⟩;rw[show vs.toArray.extract c (c+ti.size)=((vs.drop c).take ti.size).toArray by simp];refine .agg _ (by simp[hlen]) fun i y hy=>?_
  rw[List.getElem?_take]at hy ⊢;split at hy
  ·rename_i hi
   rw[if_pos hi];rw[List.getElem?_drop]at hy ⊢;exact hc _ y hy
  ·cases hy
 | false=>
  obtain⟨y,h1,rfl⟩:=qW hx ha;obtain⟨v,h2,h3⟩:=hc c y h1;exact⟨v,by simp[part,cZ.isAgg,ha,Result.andThen,h2],.c h3⟩
end
theorem Gy {α:Type} {rows:List (List α)} {i j:Nat} {row:List α} {t:α} (hr:rows[i]?=some row) (hj:row[j]?=some t):fo rows i j=some t:=by
 simp[fo,hr,hj]
theorem uz {α:Type} {l:List α} {i:Nat} {x:α} (h:l[i]?=some x):i<l.length:=by
 rcases Nat.lt_or_ge i l.length with h1|h1
 ·exact h1
 ·rw[List.getElem?_eq_none h1]at h;cases h
theorem jd {α:Type} {rows:List (List α)} {i j:Nat} {t:α} (h:fo rows i j=some t):∃row,rows[i]?=some row/\row[j]?=some t/\i<rows.length/\j<row.length:=by
 unfold fo at h;obtain⟨row,hr,hj⟩:=Option.bind_eq_some_iff.1 h;exact⟨row,hr,hj,uz hr,uz hj⟩
theorem qZ {row:List Tree} {j:Nat} {y:Cell} (h:(row.map Cell.t)[j]?=some y):∃t,row[j]?=some t/\y=.t t:=by
 rw[List.getElem?_map]at h;obtain⟨t,h1,h2⟩:=Option.map_eq_some_iff.1 h;exact⟨t,h1,h2.symm⟩
section
variable {P:Program} {C:eA} {K:Ctx} {β:Nat->Option bZ} {S:Place} {st:St} {a:Act} {w:World} {slot:Nat} {e:cR} {o:Oper}
def fw (P:Program) (β:Nat->Option bZ) (S:Place) (a:Act) (w:World) (o:Oper) (e:cR):Prop:=
 e.wr=[]/\∃v,(execOp a.eval o).run P w=.ok (.value v) w/\aI β S w e.val v
theorem RL (hC:bC P C) (h:Sat K β S st a w) {t:TypeId} {x:Operand} (ho:o.op=.load t x)
  (he:evalOp C slot st.get (look st.heap) (.load t x)=some e):fw P β S a w o e:=by
 simp only[evalOp]at he;have hx:=h.get x;split at he
 ·rename_i ti cZ
  have dQ:=jh (hC t ti cZ);split at he
  ·rename_i b r c hg
   rw[hg]at hx;cases hx with|c hx=>
   generalize eL:a.eval x=av at hx;cases hx with|ptr R hR=>
   split at he
   ·rename_i cells hb
    split at he
    ·rename_i hr
     subst hr;obtain⟨v,hv,rfl⟩:=Option.map_eq_some_iff.1 he;obtain⟨R',h1,h2,_⟩:=h.ao b _ hb;rw[hR]at h1;cases h1;obtain⟨u,h3,h4⟩:=qX dQ hv h2.2;refine⟨rfl,u,?_,h4⟩;simp only[execOp,ho,Instr.loadAt,eL,Instr.sureAddr,Sem.run_bind,Sem.run_pure,Result.andThen];rw[show R.co+0*R.ah+c=R.co+c by omega,h3]
    ·cases he
   ·rename_i sz rows g fz hb
    split at he
    ·rename_i row dk
     obtain⟨v,hv,rfl⟩:=Option.map_eq_some_iff.1 he;obtain⟨R',h1,h2,_⟩:=h.ao b _ hb;rw[hR]at h1;cases h1;obtain⟨u,h3,h4⟩:=qX (β:=β) (S:=S) (w:=w) (cb:=R.cb) (co:=R.co+r*R.ah) dQ hv (fun j y hy=>by
      obtain⟨t',h5,rfl⟩:=qZ hy;obtain⟨v',h6,h7⟩:=h2.2.2.2.2.2.2.1 r j t' (Gy dk h5);exact⟨v',h6,.t h7⟩)
     refine⟨rfl,u,?_,h4⟩;simp only[execOp,ho,Instr.loadAt,eL,Instr.sureAddr,Sem.run_bind,Sem.run_pure,Result.andThen];rw[h3]
    ·cases he
   ·cases he
  ·rename_i row c hg
   rw[hg]at hx;cases hx with|c hx=>
   generalize eL:a.eval x=av at hx;cases hx with|tp cb co val hR=>
   obtain⟨v,hv,rfl⟩:=Option.map_eq_some_iff.1 he;obtain⟨u,h3,h4⟩:=qX (β:=β) (S:=S) (w:=w) (cb:=cb) (co:=co) dQ hv (fun j y hy=>by
    obtain⟨t',h5,rfl⟩:=qZ hy;exact⟨val j,(hR j t' h5).2.1,.t (hR j t' h5).2.2⟩)
   refine⟨rfl,u,?_,h4⟩;simp only[execOp,ho,Instr.loadAt,eL,Instr.sureAddr,Sem.run_bind,Sem.run_pure,Result.andThen];rw[h3]
  ·cases he
 ·cases he
theorem OF (hC:bC P C) (h:Sat K β S st a w) {t:TypeId} {x:Operand} {f:Nat} (ho:o.op=.field t x f)
  (he:evalOp C slot st.get (look st.heap) (.field t x f)=some e):fw P β S a w o e:=by
 simp only[evalOp]at he;have hx:=h.get x;split at he
 ·rename_i ti cZ
  have dQ:=jh (hC t ti cZ);split at he
  ·rename_i fs hk
   obtain⟨fields,hu,Gz⟩:=dQ.struct hk;split at he
   ·rename_i off ft hf
    split at he
    ·rename_i tf l UZ hg
     rw[hg]at hx;obtain⟨vs,eL,hlen,pP⟩:=hx.Cp;obtain⟨v,hv,rfl⟩:=Option.map_eq_some_iff.1 he;rw[<-Gz,List.getElem?_map]at hf;obtain⟨fl,Cr,Ea⟩:=Option.map_eq_some_iff.1 hf;simp only[Prod.mk.injEq]at Ea;obtain⟨rfl,rfl⟩:=Ea;obtain⟨u,h3,h4⟩:=qY (P:=P) (w:=w) (jh (hC _ tf UZ)) hv hlen pP;refine⟨rfl,u,?_,h4⟩;have RM:fields[f]?=some fl:=by simpa using Cr
     simp only[execOp,ho,Instr.field,run_underlying hu,Sem.run_bind,Result.andThen,RM,eL,asAgg,Sem.run_pure,h3]
    ·cases he
   ·cases he
  ·cases he
 ·cases he
theorem Er (hC:bC P C) (h:Sat K β S st a w) {t:TypeId} {x:Operand} {f:Nat} (ho:o.op=.fieldAddr t x f)
  (he:evalOp C slot st.get (look st.heap) (.fieldAddr t x f)=some e):fw P β S a w o e:=by
 simp only[evalOp]at he;have hx:=h.get x;split at he
 ·rename_i ti cZ
  have dQ:=jh (hC t ti cZ);split at he
  ·rename_i fs hk
   obtain⟨fields,hu,Gz⟩:=dQ.struct hk;split at he
   ·rename_i off size hf
    unfold qU at hf;split at hf
    ·rename_i LM ft OG
     obtain⟨tf,UZ,U8⟩:=Option.map_eq_some_iff.1 hf;simp only[Prod.mk.injEq]at U8;obtain⟨rfl,rfl⟩:=U8;rw[<-Gz,List.getElem?_map]at OG;obtain⟨fl,Cr,Ea⟩:=Option.map_eq_some_iff.1 OG;simp only[Prod.mk.injEq]at Ea;obtain⟨rfl,rfl⟩:=Ea;have RM:fields[f]?=some fl:=by simpa using Cr
     have Zr:=jh (hC _ tf UZ);split at he
     ·cases he
     ·rename_i dY
      have di:∀b o',a.eval x=.pointer (some ⟨b,o',none⟩)->(execOp a.eval o).run P w=.ok (.value (.pointer (some ⟨b,o'+fl.offset,none⟩))) w:=by
       intro b o' eL;simp only[execOp,ho,Instr.fieldAt,run_underlying hu,Sem.run_bind,Result.andThen,RM,eL,Instr.sureAddr,Sem.run_pure,fieldPlace,Zr.sizeOf,if_neg dY,IE]
      split at he
      ·rename_i b r c hg
       rw[hg]at hx;cases hx with|c hx=>
       generalize eL:a.eval x=av at hx;cases hx with|ptr R hR=>
       cases he;exact⟨rfl,_,di _ _ eL,.c (by rw[Nat.add_assoc];exact .ptr R hR)⟩
      ·rename_i row c hg
       rw[hg]at hx;cases hx with|c hx=>
       generalize eL:a.eval x=av at hx;cases hx with|tp cb co val hR=>
       cases he;exact⟨rfl,_,di _ _ eL,.c (by rw[Nat.add_assoc];exact .tp cb co val hR)⟩
      ·cases he
    ·cases hf
   ·cases he
  ·cases he
 ·cases he
theorem Es (hC:bC P C) (h:Sat K β S st a w) {t:TypeId} {x i:Operand} (ho:o.op=.indexAddr t x i)
  (he:evalOp C slot st.get (look st.heap) (.indexAddr t x i)=some e):fw P β S a w o e:=by
 simp only[evalOp]at he;have hx:=h.get x;have hi:=h.get i;split at he
 ·rename_i ti n cZ hn
  have dQ:=jh (hC t ti cZ);obtain⟨k,LR,_⟩:=hi.int hn;split at he
  ·rename_i len el hk
   split at he
   ·rename_i te dx
    have eI:=jh (hC _ te dx);split at he
    ·rename_i hr
     have di:∀b o',a.eval x=.pointer (some ⟨b,o',none⟩)->(execOp a.eval o).run P w=.ok (.value (.pointer (some ⟨b,o'+n.toNat*te.size,none⟩))) w:=by
      intro b o' eL;simp only[execOp,ho,Instr.indexAt,LR,asIntOf,eL,Sem.run_bind,Sem.run_pure,Result.andThen,run_underlying (dQ.array hk),Instr.sureAddr,if_pos hr,Sem.run_ite,eI.sizeOf,IE]
     split at he
     ·rename_i b r c hg
      rw[hg]at hx;cases hx with|c hx=>
      generalize eL:a.eval x=av at hx;cases hx with|ptr R hR=>
      cases he;exact⟨rfl,_,di _ _ eL,.c (by rw[Nat.add_assoc];exact .ptr R hR)⟩
     ·rename_i row c hg
      rw[hg]at hx;cases hx with|c hx=>
      generalize eL:a.eval x=av at hx;cases hx with|tp cb co val hR=>
      cases he;exact⟨rfl,_,di _ _ eL,.c (by rw[Nat.add_assoc];exact .tp cb co val hR)⟩
     ·cases he
    ·cases he
   ·cases he
  ·rename_i el hk
   split at he
   ·rename_i te dx
    have eI:=jh (hC _ te dx);have di:∀b o' (len cap:Nat),0<=n/\n<len->a.eval x=.slice (some ⟨b,o',none⟩) len cap->(execOp a.eval o).run P w=.ok (.value (.pointer (some ⟨b,o'+n.toNat*te.size,none⟩))) w:=by
     intro b o' len cap hr eL;simp only[execOp,ho,Instr.indexAt,LR,asIntOf,eL,Sem.run_bind,Sem.run_pure,Result.andThen,run_underlying (dQ.slice hk),if_pos hr,Sem.run_ite,eI.sizeOf,IE]
    split at he
    ·rename_i b off len cp hg
     rw[hg]at hx;cases hx with|c hx=>
     generalize eL:a.eval x=av at hx;cases hx with|sl R base cap hR h1 h2 h3 h4 h5=>
     split at he
     ·rename_i sz rows g fz hb
      split at he
      ·rename_i hr
       obtain⟨IF,kH,Zt⟩:=hr;cases he;obtain⟨R',h6,h7,_⟩:=h.ao b _ hb;rw[hR]at h6;cases h6;have dR:R.ah=te.size:=by rw[<-Zt];exact h7.1.symm
       rw[h5 (by omega)]at eL;refine⟨rfl,_,di _ _ _ _ ⟨IF,kH⟩ eL,.c ?_⟩;have:=dv.ptr (S:=S) (w:=w) (r:=off+n.toNat) (c:=0) R hR;rw[<-dR,Nat.add_assoc,<-Nat.add_mul];exact this
      ·cases he
     ·rename_i cells hb
      split at he
      ·rename_i hr
       obtain⟨IF,kH,Zt⟩:=hr;cases he;obtain⟨R',h6,h7,_⟩:=h.ao b _ hb;rw[hR]at h6;cases h6;have dR:R.ah=1:=h7.1.2.1;rw[h5 (by omega)]at eL;refine⟨rfl,_,di _ _ _ _ ⟨IF,kH⟩ eL,.c ?_⟩;have:=dv.ptr (S:=S) (w:=w) (r:=0) (c:=off+n.toNat) R hR;rw[dR,Zt,Nat.mul_one,Nat.mul_one];rw[Nat.zero_mul,Nat.add_zero,<-Nat.add_assoc]at this;exact this
      ·cases he
     ·cases he
    ·rename_i cp rows hg
     rw[hg]at hx;cases hx with|c hx=>
     cases hx with|t hx=>
     generalize eL:a.eval x=av at hx;cases hx with|aa _ _ base cb co ah cap val h1 h2 h3 h4 h5 QI h6 h7 h8=>
     split at he
     ·rename_i JH
      split at he
      ·rename_i row dk
       split at he
       ·rename_i hl
        cases he;have bJ:=uz dk;rw[h5 (by rintro rfl;simp at bJ)]at eL;have dR:ah=te.size:=by rw[<-hl,h6 row (List.mem_of_getElem? dk)]
        refine⟨rfl,_,di _ _ _ _ ⟨JH,by omega⟩ eL,.c ?_⟩;have:=dv.tp (β:=β) (S:=S) (w:=w) (row:=row) (c:=0) cb (co+n.toNat*ah) (val n.toNat) (fun j t hj=>
         ⟨(h7 n.toNat j t (Gy dk hj)).1,(h7 n.toNat j t (Gy dk hj)).2,h8 n.toNat j t (Gy dk hj)⟩)
        rw[<-dR];exact this
       ·cases he
      ·cases he
     ·cases he
    ·cases he
   ·cases he
  ·cases he
 ·cases he
theorem JI (h:Sat K β S st a w) {x:Operand} {i:Nat} (ho:o.op=.extract x i)
  (he:evalOp C slot st.get (look st.heap) (.extract x i)=some e):fw P β S a w o e:=by
 simp only[evalOp]at he;have hx:=h.get x;split at he
 ·rename_i l hg
  rw[hg]at hx;split at he
  ·rename_i v hv
   cases he;generalize eL:a.eval x=av at hx;cases hx with|pN vs val h1 h2 h3=>
   have:=h2 i v hv;refine⟨rfl,val i,?_,h3 i v hv⟩;have Lp:vs.toArray[i]?=some (val i):=by simpa using this
   simp only[execOp,ho,Instr.extract,eL,Lp,Sem.run_bind,Sem.run_pure,Result.andThen]
  ·cases he
 ·cases he
theorem LS (h:Sat K β S st a w) {x:Operand} (ho:o.op=.move x∨o.op=.assign x)
  (he:e.val=st.get x) (hw:e.wr=[]):fw P β S a w o e:=by
 refine⟨hw,a.eval x,?_,by rw[he];exact h.get x⟩;rcases ho with ho|ho<;>simp[execOp,ho]
theorem G2 (h:Sat K β S st a w) {x:Operand} (ho:o.op=.nilCheck x)
  (he:evalOp C slot st.get (look st.heap) (.nilCheck x)=some e):fw P β S a w o e:=by
 simp only[evalOp]at he;have hx:=h.get x;split at he
 ·rename_i b r c hg
  cases he;rw[hg]at hx;refine⟨rfl,a.eval x,?_,hx⟩;cases hx with|c hx=>
  generalize eL:a.eval x=av at hx;cases hx with|ptr R hR=>simp[execOp,ho,eL]
 ·rename_i row c hg
  cases he;rw[hg]at hx;refine⟨rfl,a.eval x,?_,hx⟩;cases hx with|c hx=>
  generalize eL:a.eval x=av at hx;cases hx with|tp cb co val hR=>simp[execOp,ho,eL]
 ·cases he
theorem RO (h:Sat K β S st a w) {c x y:Operand} (ho:o.op=.pick c x y)
  (he:evalOp C slot st.get (look st.heap) (.pick c x y)=some e):fw P β S a w o e:=by
 simp only[evalOp]at he;have hc:=h.get c;split at he
 ·rename_i hb
  cases he;exact⟨rfl,a.eval x,by simp[execOp,ho,hc.bool hb,asBool,Result.andThen],h.get x⟩
 ·rename_i hb
  cases he;exact⟨rfl,a.eval y,by simp[execOp,ho,hc.bool hb,asBool,Result.andThen],h.get y⟩
 ·cases he
end
end Go.Abs
end
