/- A part of the proof. -/
import Derived.Calls
import Derived.Laws.Cells
import Derived.Below
set_option maxHeartbeats 0
set_option maxRecDepth 100000
set_option linter.unusedVariables false
set_option linter.unusedSimpArgs false
set_option linter.unusedSectionVars false
section
namespace Go.Abs
inductive Tree where
 | v (x:Value)
 | aa (cp:Bool) (rows:List (List Tree))
 deriving Inhabited
inductive Cell where
 | t (t:Tree)
 | ptr (b r c:Nat)
 | tp (row:List Tree) (c:Nat)
 | sl (b off len:Nat) (cp:Bool)
 | mp (b:Nat)
 | dy (f:FuncId) (aK:List (Nat×Nat×Nat))
 deriving Inhabited
inductive AV where
 | c (x:Cell)
 | agg (l:List Cell)
 | pD (l:List AV)
 | af
 deriving Inhabited
inductive aC where
 | var (cells:List Cell)
 | rows (sz:Nat) (rows:List (List Tree)) (grow fz:Bool)
 | map (cR:List (Value×Tree))
 | gB (sz:Nat) (rows:List (List Tree))
 deriving Inhabited
abbrev bM:=List (Option aC)
structure St where
 tmps:List AV
 heap:bM
structure bR where
 cb:Nat
 co:Nat
 ai:Nat
 cap:Nat
abbrev Place:=Nat->Nat->Prop
def one (v:Value):Prop:=∀l,v ≠ .agg l/\v ≠ .tuple l
def fg {α:Type} (rows:List (List α)) (i j:Nat):Option α:=rows[i]?.bind (·[j]?)
inductive dR (S:Place) (w:World):Tree->Value->Prop where
 | v (x:Value):one x->dR S w (.v x) x
 | aa (cp:Bool) (rows:List (List Tree)) (base:Option Addr) (cb co ai cap:Nat) (val:Nat->Nat->Value) :
   rows.length<=cap->cap<2^63->rows.length<2^63->(cp=true->cap=rows.length)->(rows≠[]->base=some ⟨cb,co,none⟩)->(base=none->cap=0)->(∀r∈rows,r.length=ai) ->
   (∀i j t,fg rows i j=some t->S cb (co+i*ai+j)/\w.cell? ⟨cb,co+i*ai+j,none⟩=some (val i j)) ->
   (∀i j t,fg rows i j=some t->dR S w t (val i j)) ->
   dR S w (.aa cp rows) (.slice base rows.length cap)
theorem dR.one {S:Place} {w:World} {t:Tree} {v:Value} (h:dR S w t v):one v:=by
 cases h with
 | v x hx=>exact hx
 | aa=>intro l;exact⟨by simp,by simp⟩
theorem dR.mono {S S':Place} {w w':World} {t:Tree} {v:Value} (h:dR S w t v) (hS:∀b o,S b o->S' b o)
  (hw:∀b o,S b o->w'.cell? ⟨b,o,none⟩=w.cell? ⟨b,o,none⟩):dR S' w' t v:=by
 induction h with
 | v x hx=>exact .v x hx
 | aa cp rows base cb co ai cap val h1 h2 h3 h4 h5 Q4 h6 h7 _ ih=>
  refine .aa cp rows base cb co ai cap val h1 h2 h3 h4 h5 Q4 h6 (fun i j t ht=>?_) (fun i j t ht=>ih i j t ht);obtain⟨a,b⟩:=h7 i j t ht;exact⟨hS _ _ a,by rw[hw _ _ a];exact b⟩
def oL:Nat:=1000000000000
def j7 (f:FuncId) (vs:List Value):Value:=match Nat.blt f oL with
 | true=>.func (.func f) #[] vs.toArray
 | false=>.func (.func (f-oL)) vs.toArray #[]
theorem Sj (f n:Nat):Nat.blt (f+n) n=false:=by
 cases h:Nat.blt (f+n) n with
 | false=>rfl
 | true=>rw[Nat.blt_eq]at h;omega
theorem Ai {f:FuncId} (h:Nat.blt f oL=true) (vs:List Value):j7 f vs=.func (.func f) #[] vs.toArray:=by unfold j7;rw[h]
theorem Aj {f:FuncId} (h:Nat.blt f oL=false) (vs:List Value):j7 f vs=.func (.func (f-oL)) vs.toArray #[]:=by unfold j7;rw[h]
theorem G7 (f:FuncId) (vs:List Value):j7 (f+oL) vs=.func (.func f) vs.toArray #[]:=by rw[Aj (Sj f oL),Nat.add_sub_cancel]
inductive dq (β:Nat->Option bR) (S:Place) (w:World):Cell->Value->Prop where
 | t {t:Tree} {v:Value}:dR S w t v->dq β S w (.t t) v
 | ptr {b r c:Nat} (R:bR):β b=some R->dq β S w (.ptr b r c) (.pointer (some ⟨R.cb,R.co+r*R.ai+c,none⟩))
 | tp {row:List Tree} {c:Nat} (cb co:Nat) (val:Nat->Value) :
   (∀j t,row[j]?=some t->S cb (co+j)/\w.cell? ⟨cb,co+j,none⟩=some (val j)/\dR S w t (val j)) ->
   dq β S w (.tp row c) (.pointer (some ⟨cb,co+c,none⟩))
 | sl {b off len:Nat} {cp:Bool} (R:bR) (base:Option Addr) (cap:Nat):β b=some R->(cp=true->cap=len)->(cp=false->off+cap=R.cap)->len<=cap->off+cap<=R.cap ->
   (0<cap->base=some ⟨R.cb,R.co+off*R.ai,none⟩)->dq β S w (.sl b off len cp) (.slice base len cap)
 | mp {b:Nat} (R:bR):β b=some R->dq β S w (.mp b) (.map (some R.cb))
 | dy {f:FuncId} {aK:List (Nat×Nat×Nat)} (vs:List Value):vs.length=aK.length ->
   (∀(i b r c:Nat),aK[i]?=some (b,r,c)->∃R:bR,β b=some R/\vs[i]?=some (Value.pointer (some ⟨R.cb,R.co+r*R.ai+c,none⟩))) ->
   dq β S w (.dy f aK) (j7 f vs)
theorem dq.one {β:Nat->Option bR} {S:Place} {w:World} {c:Cell} {v:Value} (h:dq β S w c v):one v:=by
 cases h with
 | t h=>exact h.one
 | dy vs h1 h2=>intro l;unfold j7;split<;>exact⟨by simp,by simp⟩
 | _=>intro l;exact⟨by simp,by simp⟩
theorem dq.mono {β β':Nat->Option bR} {S S':Place} {w w':World} {c:Cell} {v:Value} (h:dq β S w c v)
  (hβ:∀b R,β b=some R->β' b=some R) (hS:∀b o,S b o->S' b o)
  (hw:∀b o,S b o->w'.cell? ⟨b,o,none⟩=w.cell? ⟨b,o,none⟩):dq β' S' w' c v:=by
 cases h with
 | t h=>exact .t (h.mono hS hw)
 | ptr R h=>exact .ptr R (hβ _ _ h)
 | tp cb co val h=>
  refine .tp cb co val fun j t ht=>?_
  obtain⟨a,b,c⟩:=h j t ht;exact⟨hS _ _ a,by rw[hw _ _ a];exact b,c.mono hS hw⟩
 | sl R base cap h h1 h2 h3 h4 h5=>exact .sl R base cap (hβ _ _ h) h1 h2 h3 h4 h5
 | mp R h=>exact .mp R (hβ _ _ h)
 | dy vs h1 h2=>exact .dy vs h1 fun i b r c hi=>by obtain⟨R,a,b⟩:=h2 i b r c hi;exact⟨R,hβ _ _ a,b⟩
inductive aH (β:Nat->Option bR) (S:Place) (w:World):AV->Value->Prop where
 | c {x:Cell} {v:Value}:dq β S w x v->aH β S w (.c x) v
 | agg {l:List Cell} (vs:List Value):vs.length=l.length->(∀(i:Nat) (c:Cell),l[i]?=some c->∃v:Value,vs[i]?=some v/\dq β S w c v)->aH β S w (.agg l) (.agg vs.toArray)
 | pD {l:List AV} (vs:List Value) (val:Nat->Value):vs.length=l.length->(∀(i:Nat) (x:AV),l[i]?=some x->vs[i]?=some (val i))->(∀(i:Nat) (x:AV),l[i]?=some x->aH β S w x (val i))->aH β S w (.pD l) (.tuple vs.toArray)
 | af (v:Value):aH β S w .af v
theorem aH.mono {β β':Nat->Option bR} {S S':Place} {w w':World} {x:AV} {v:Value} (h:aH β S w x v)
  (hβ:∀b R,β b=some R->β' b=some R) (hS:∀b o,S b o->S' b o)
  (hw:∀b o,S b o->w'.cell? ⟨b,o,none⟩=w.cell? ⟨b,o,none⟩):aH β' S' w' x v:=by
 induction h with
 | c h=>exact .c (h.mono hβ hS hw)
 | agg vs h1 h2=>exact .agg vs h1 fun i c hi=>by obtain⟨v,a,b⟩:=h2 i c hi;exact⟨v,a,b.mono hβ hS hw⟩
 | pD vs val h1 h2 _ ih=>exact .pD vs val h1 h2 ih
 | af v=>exact .af v
inductive TK where
 | int (k:IntKind)|bool|string|slice (e:TypeId)|array (n:Nat) (e:TypeId)|struct (fs:List (Nat×TypeId))|map (k e:TypeId)|other
 deriving Inhabited
structure TI where
 kind:TK
 size:Nat
 bytes:Nat
 zero:List Tree
 deriving Inhabited
def TK.agg:TK->Bool
 | .struct _|.array _ _=>true
 | _=>false
inductive Mode where
 | val|fj|own (sz:Nat)|ref|rd|sh (mF:Nat)
 deriving Inhabited
structure eh where
 ty:TypeId->Option TI
 md:FuncId->List Mode
 cs:TypeId->Bool
structure bW where
 val:AV:=.af
 wr:List (Nat×Option aC):=[]
 rd:List Nat:=[]
def AV.cells:AV->Option (List Cell)
 | .c x=>some [x]
 | .agg l=>some l
 | _=>none
def L6:Value->Bool
 | .agg _|.tuple _=>false
 | _=>true
def jM:Value->Cell
 | .slice none 0 0=>.t (.aa true [])
 | v=>.t (.v v)
def ofConst:Value->AV
 | .agg cs=>if cs.toList.all L6 then .agg (cs.toList.map jM) else .af
 | .tuple _=>.af
 | v=>.c (jM v)
def St.get (st:St):Operand->AV
 | .tmp t=>st.tmps.getD t .af
 | .const v=>ofConst v
 | .func f=>.c (.t (.v (.func (.func f) #[] #[])))
 | .global _=>.af
abbrev Hp:=Nat->Option aC
def look (h:bM):Hp:=fun b=>(h[b]?).join
def aX {α:Type} (l:List α) (c:Nat) (xs:List α):List α:=l.take c++xs++l.drop (c+xs.length)
def dk (ti:TI) (cells:List Cell) (c:Nat):Option AV:=
 if ti.kind.agg then(if c+ti.size<=cells.length then some (.agg ((cells.drop c).take ti.size)) else none)
 else(cells[c]?).map .c
def toTree (h:Hp):Cell->Option (Tree×List (Nat×Option aC))
 | .t t=>some (t,[])
 | .sl b off len cp=>
  match h b with
  | some (.rows sz rows g _)=>if off+len<=rows.length then some (.aa cp ((rows.drop off).take len),[(b,some (.rows sz rows g true))]) else none
  | _=>none
 | _=>none
def bL (h:Hp):List Cell->Option (List Tree×List (Nat×Option aC))
 | []=>some ([],[])
 | c::cs=>
  match toTree h c with
  | some (t,m)=>match bL h cs with
   | some (ts,ms)=>some (t::ts,m++ms)
   | none=>none
  | none=>none
def ids (wr:List (Nat×Option aC)):List Nat:=wr.map (·.1)
def AV.int?:AV->Option Int
 | .c (.t (.v (.int _ n)))=>some n
 | _=>none
def AV.bool?:AV->Option Bool
 | .c (.t (.v (.bool b)))=>some b
 | _=>none
def dY (v:Value):AV:=.c (.t (.v v))
def J2 (op:BinOp) (x y:Value):Option Value:=
 match x,y with
 | .int k a,.int k' b=>
  match op with
  | .shl=>if b<0 then none else some (.int k (k.wrap (a*2^(min b.toNat k.bits))))
  | .shr=>if b<0 then none else some (.int k (a.fdiv (2^(min b.toNat k.bits))))
  | _=>
   if k=k' then
    match op with
    | .add=>some (.int k (k.wrap (a+b)))
    | .sub=>some (.int k (k.wrap (a-b)))
    | .mul=>some (.int k (k.wrap (a*b)))
    | .quo=>if b=0 then none else some (.int k (k.wrap (a.tdiv b)))
    | .rem=>if b=0 then none else some (.int k (a.tmod b))
    | .and=>some (.int k (k.wrap ((BitVec.ofInt k.bits a &&& BitVec.ofInt k.bits b).toNat)))
    | .or=>some (.int k (k.wrap ((BitVec.ofInt k.bits a ||| BitVec.ofInt k.bits b).toNat)))
    | .xor=>some (.int k (k.wrap ((BitVec.ofInt k.bits a ^^^ BitVec.ofInt k.bits b).toNat)))
    | .andNot=>some (.int k (k.wrap ((BitVec.ofInt k.bits a &&& ~~~ BitVec.ofInt k.bits b).toNat)))
    | .eql=>some (.bool (a==b))
    | .neq=>some (.bool (a != b))
    | .lss=>some (.bool (decide (a<b)))
    | .leq=>some (.bool (decide (a<=b)))
    | .gtr=>some (.bool (decide (a>b)))
    | .geq=>some (.bool (decide (a≥b)))
    | _=>none
   else none
 | .string a,.string b=>
  match op with
  | .eql=>some (.bool (a.toList==b.toList))
  | .neq=>some (.bool (!(a.toList==b.toList)))
  | _=>none
 | _,_=>none
def j8:List Cell->List Cell->Option Bool
 | [],[]=>some true
 | .t (.v (.int k a))::xs,.t (.v (.int k' b))::ys=>if k=k' then(j8 xs ys).map fun r=>decide (a=b)&&r else none
 | _,_=>none
def um (op:BinOp) (r:Bool):Option bW:=
 match op with
 | .eql=>some { val:=dY (.bool r) }
 | .neq=>some { val:=dY (.bool (!r)) }
 | _=>none
def vB (C:eh) (op:BinOp) (t:TypeId) (x:Option Bool) (n m:Nat):Option bW:=
 match C.ty t with
 | some ti=>match ti.kind with
  | .array len e=>match C.ty e with
   | some te=>match te.kind with
    | .int _=>if te.size=1/\n=len/\m=len then x.bind (um op) else none
    | _=>none
   | none=>none
  | _=>none
 | none=>none
def G8:List Cell->Bool
 | []=>true
 | .t (.v (.bool false))::xs=>G8 xs
 | _=>false
def Co (C:eh) (op:BinOp) (t:TypeId) (a b:List Cell):Option bW:=
 match C.ty t with
 | some ti=>match ti.kind with
  | .struct fs=>if(G8 a&&G8 b && !fs.isEmpty&&fs.all (fun f=>decide (f.1<a.length)&&decide (f.1<b.length)&&(match C.ty f.2 with
    | some te=>(match te.kind with
     | .bool=>true
     | _=>false)
    | none=>false)))=true then um op true else none
  | _=>none
 | none=>none
def IY (C:eh) (op:BinOp) (t:TypeId) (y:Operand):Option bW:=
 match y with
 | .const (.slice none 0 0)=>match C.ty t with
  | some ti=>match ti.kind with
   | .slice _=>um op false
   | _=>none
  | none=>none
 | _=>none
def G9 (C:eh) (op:BinOp) (t:TypeId) (y:Operand) (base:Option Addr):Option bW:=
 match y with
 | .const (.slice none 0 0)=>match C.ty t with
  | some ti=>match ti.kind with
   | .slice _=>um op base.isNone
   | _=>none
  | none=>none
 | _=>none
def Ys (op:UnOp) (x:Value):Option Value:=
 match op,x with
 | .neg,.int k n=>some (.int k (k.wrap (0-n)))
 | .not,.bool b=>some (.bool (!b))
 | _,_=>none
def dZ:List (List Tree)->Option (List UInt8)
 | []=>some []
 | [.v (.int .u8 n)]::rs=>(dZ rs).map (UInt8.ofNat n.toNat :: ·)
 | _=>none
def gj (l:List UInt8):List (List Tree):=l.map fun b=>[.v (.int .u8 b.toNat)]
def sameKey:Value->Value->Option Bool
 | .int k a,.int k' b=>if k=k' then some (a==b) else none
 | .string a,.string b=>some (a==b)
 | .bool a,.bool b=>some (a==b)
 | _,_=>none
def cX (k:Value):List (Value×Tree)->Option (Option Tree)
 | []=>some none
 | e::es=>match sameKey k e.1 with
  | some true=>some (some e.2)
  | some false=>cX k es
  | none=>none
def fV (k:Value) (t:Tree):List (Value×Tree)->Option (List (Value×Tree))
 | []=>some [(k,t)]
 | e::es=>match sameKey k e.1 with
  | some true=>some ((k,t)::es)
  | some false=>(fV k t es).map (e :: ·)
  | none=>none
def rowsOf (h:Hp):AV->Option (List (List Tree)×List Nat)
 | .c (.t (.aa _ rows))=>some (rows,[])
 | .c (.sl b off len _)=>
  match h b with
  | some (.rows _ rows _ _)=>if off+len<=rows.length then some ((rows.drop off).take len,[b]) else none
  | some (.gB _ rows)=>if off+len<=rows.length then some ((rows.drop off).take len,[b]) else none
  | _=>none
 | .c (.t (.v (.string s)))=>some (gj s.data.toList,[])
 | .c (.t (.v (.slice _ 0 _)))=>some ([],[])
 | _=>none
def az:Nat:=140737488355328
def Ha:AV->Bool
 | .c (.t (.aa _ _))=>true
 | .c (.sl _ _ _ _)=>true
 | _=>false
def Ev (sz:Nat) (rows:List (List Tree)):Bool->Option aC
 | true=>some (.gB sz rows)
 | false=>none
def j9 (ti:TI) (slot:Nat) (h:Hp) (s x:AV):Option bW:=
 match s,x with
 | .c (.sl b off len false),.c (.sl b' L7 L8 _)=>
  match h b,h b' with
  | some (.var cs),some (.var ns)=>
   if off=0/\L7=0/\len=cs.length/\L8=ns.length/\0<ns.length/\ti.size=1/\(cs.length+ns.length)*ti.bytes<=az then
    some { val:=.c (.sl slot 0 (len+L8) false),wr:=[(b,none),(slot,some (.var (cs++ns)))],rd:=[b,b'] } else none
  | _,_=>none
 | _,_=>none
def qN (C:eh) (slot:Nat) (t:TypeId) (size len:Nat) (ps:List (Nat×AV)):Option bW:=
 match C.cs (t+1000000),size,len,ps with
 | true,1,0,[]=>some { val:=.c (.sl slot 0 0 false),wr:=[(slot,some (.var []))] }
 | true,1,1,[(0,.c x)]=>some { val:=.c (.sl slot 0 1 false),wr:=[(slot,some (.var [x]))] }
 | _,_,_,_=>none
def bU (ti:TI) (slot:Nat) (h:Hp) (s x:AV):Option bW:=
 match rowsOf h x with
 | none=>j9 ti slot h s x
 | some (new,oM)=>
  if new.length=0 then(if Ha s then some { val:=s,rd:=oM } else none) else
  if !(new.all fun r=>r.length==ti.size) then none else
  match s with
  | .c (.t (.aa true rows))=>
   if(rows.all fun r=>r.length==ti.size)&&(rows.length+new.length)*ti.bytes<=az then
    some { val:=.c (.sl slot 0 (rows.length+new.length) false),wr:=[(slot,some (.rows ti.size (rows++new) true false))],rd:=oM }
   else none
  | .c (.sl b off len cp)=>
   match h b with
   | some (.rows sz rows g fz)=>
    if ¬(sz=ti.size/\(len+new.length)*ti.bytes<=az/\off+len<=rows.length) then none else
    if cp then some { val:=.c (.sl slot 0 (len+new.length) false),wr:=[(slot,some (.rows ti.size ((rows.drop off).take len++new) true false))],rd:=b::oM }
    else if off+len=rows.length then
     (if g then some { val:=.c (.sl slot 0 (len+new.length) false),wr:=[(b,Ev sz rows fz),(slot,some (.rows sz (rows.drop off++new) true fz))],rd:=b::oM } else none)
    else if off+len+new.length<=rows.length/\fz=false then
     some { val:=.c (.sl b off (len+new.length) false),wr:=[(b,some (.rows sz (aX rows (off+len) new) g false))],rd:=b::oM }
    else none
   | _=>none
  | _=>none
def lf (ti:TI) (h:Hp) (d x:AV):Option bW:=
 match rowsOf h x,d with
 | some (src,oM),.c (.sl b off len _)=>
  match h b with
  | some (.rows sz rows g false)=>
   if off+len<=rows.length/\(src.all fun r=>r.length==ti.size)/\sz=ti.size then
    some { val:=dY (.int .i64 (min src.length len:Nat)),wr:=[(b,some (.rows sz (aX rows off (src.take (min src.length len))) g false))],rd:=b::oM }
   else none
  | _=>none
 | _,_=>none
def oU (C:eh) (h:Hp) (t:TypeId) (x:AV):Option bW:=
 match C.ty t with
 | none=>none
 | some ti=>
  match ti.kind,x with
  | .slice _,.c (.sl _ _ len _)=>some { val:=dY (.int .i64 len) }
  | .slice _,.c (.t (.aa _ rows))=>some { val:=dY (.int .i64 rows.length) }
  | .string,.c (.t (.v (.string s)))=>some { val:=dY (.int .i64 s.size) }
  | .array n _,_=>some { val:=dY (.int .i64 n) }
  | .map _ _,.c (.mp b)=>match h b with
   | some (.map cR)=>some { val:=dY (.int .i64 cR.length),rd:=[b] }
   | _=>none
  | _,_=>none
def Ak (gt:Bool):List AV->Option bW
 | [.c (.t (.v (.int k a))),.c (.t (.v (.int k' b)))]=>if k=k' then some { val:=dY (.int k (if gt then(if b>a then b else a) else(if b<a then b else a))) } else none
 | _=>none
def Al (place:Nat->Option (Nat×Nat)):List Cell->List (Nat×AV)->Option (List Cell)
 | cs,[]=>some cs
 | cs,(i,v)::rest=>
  match place i,v.cells with
  | some (off,size),some x=>if x.length=size/\off+size<=cs.length then Al place (aX cs off x) rest else none
  | _,_=>none
def qO (C:eh) (fs:List (Nat×TypeId)) (i:Nat):Option (Nat×Nat):=
 match fs[i]? with
 | some (off,t)=>(C.ty t).map fun ti=>(off,ti.size)
 | none=>none
def fp (h:Hp) (size:Nat):List (List Tree)->List (Nat×AV)->Option (List (List Tree)×List (Nat×Option aC))
 | rows,[]=>some (rows,[])
 | rows,(i,v)::rest=>
  match v.cells with
  | some x=>if x.length=size/\i<rows.length then
    match bL h x with
    | some (ts,m)=>match fp h size (rows.set i ts) rest with
     | some (r,ms)=>some (r,m++ms)
     | none=>none
    | none=>none
   else none
  | none=>none
def oh:List Cell->Option (List Tree)
 | []=>some []
 | .t x::cs=>(oh cs).map (x :: ·)
 | _::_=>none
def dm (C:eh) (h:Hp) (t:TypeId) (x:AV) (lo hi mx:Option AV):Option bW:=
 match C.ty t with
 | none=>none
 | some ti=>
  match(match lo with|none=>some 0|some v=>v.int?),(match hi with|none=>some none|some v=>v.int?.map some),(match mx with|none=>some none|some v=>v.int?.map some) with
  | some l,some hi,some m=>
   match ti.kind,x with
   | .string,.c (.t (.v (.string s)))=>
    let e:Int:=hi.getD s.size
    if 0<=l/\l<=e/\e<=s.size/\m=none then some { val:=dY (.string (s.extract l.toNat e.toNat)) } else none
   | .slice e,.c (.sl b off len cp)=>
    let e':Int:=hi.getD len
    if 0<=l/\l<=e'/\e'<=len then
     match m,h b,C.ty e with
     | none,some (.rows sz _ _ _),some te=>
      if(cp=true->e'=len)/\sz=te.size then
       some { val:=.c (.sl b (off+l.toNat) (e'.toNat-l.toNat) cp),rd:=[b] } else none
     | some m',some (.rows sz _ _ _),some te=>
      if m'=e'/\hi.isSome/\sz=te.size then
       some { val:=.c (.sl b (off+l.toNat) (e'.toNat-l.toNat) true),rd:=[b] } else none
     | none,some (.var _),some te=>
      if(cp=true->e'=len)/\te.size=1 then
       some { val:=.c (.sl b (off+l.toNat) (e'.toNat-l.toNat) cp),rd:=[b] } else none
     | _,_,_=>none
    else none
   | .slice e,.c (.t (.aa cp rows))=>
    let e':Int:=hi.getD rows.length
    if 0<=l/\l<=e'/\e'<=rows.length then
     match m,C.ty e with
     | none,some te=>
      if(rows.all fun r=>r.length==te.size) then
       some { val:=.c (.t (.aa (cp&&e'==rows.length) ((rows.drop l.toNat).take (e'.toNat-l.toNat)))) } else none
     | some m',some te=>
      if m'=e'/\hi.isSome/\(rows.all fun r=>r.length==te.size) then
       some { val:=.c (.t (.aa true ((rows.drop l.toNat).take (e'.toNat-l.toNat)))) } else none
     | _,_=>none
    else none
   | .array n el,.c (.ptr b r c)=>
    let e':Int:=hi.getD n
    match h b,C.ty el with
    | some (.var cells),some te=>
     if r=0/\c=0/\l=0/\0<=e'/\e'<=n/\m=none/\te.size=1/\cells.length=n/\n<9223372036854775808 then
      match oh cells with
      | some ts=>some { val:=.c (.t (.aa false ((ts.take e'.toNat).map fun t=>[t]))),wr:=[(b,none)],rd:=[b] }
      | none=>none
     else none
    | _,_=>none
   | _,_=>none
  | _,_,_=>none
def eH (C:eh) (h:Hp) (src dst:TypeId) (x:AV):Option bW:=
 match C.ty src,C.ty dst with
 | some ts,some td=>
  match ts.kind,td.kind,x with
  | .int _,.int k,.c (.t (.v (.int _ n)))=>some { val:=dY (.int k (k.wrap n)) }
  | .string,.string,.c (.t (.v (.string s)))=>some { val:=dY (.string s) }
  | .slice e,.string,x=>
   match C.ty e,rowsOf h x with
   | some te,some (rows,rd)=>
    match te.kind,dZ rows,Ha x with
    | .int .u8,some l,true=>some { val:=dY (.string ⟨l.toArray⟩),rd:=rd }
    | _,_,_=>none
   | _,_=>none
  | _,_,_=>none
 | _,_=>none
def oV:AV->Option (Nat×Nat×Nat)
 | .c (.ptr b r c)=>some (b,r,c)
 | _=>none
def L9:List Cell->Bool
 | []=>false
 | .sl _ _ _ _::_=>true
 | _::l=>L9 l
def Ew (h:Hp):List (Nat×Option aC)->Hp
 | []=>h
 | p::l=>Ew (fun b=>match Nat.beq b p.1 with|true=>p.2|false=>h b) l
def fq:Hp->List (Nat×Nat×Nat)->Option (List (Nat×Option aC))
 | _,[]=>some []
 | h,(b,_,_)::l=>match h b with
  | some (.var cells)=>match L9 cells with
   | true=>match bL h cells with
    | some (ts,m)=>match fq (Ew h (m ++ [(b,some (.var (ts.map .t)))])) l with
     | some ws=>some (m++(b,some (.var (ts.map .t)))::ws)
     | none=>none
    | none=>none
   | false=>fq h l
  | _=>fq h l
def im:List (Nat×Nat×Nat)->List Nat
 | []=>[]
 | (b,_,_)::l=>b::im l
def sV (h:Hp) (f:FuncId) (l:List (Nat×Nat×Nat)):Option bW:=
 match fq h l with
 | some ws=>some { val:=.c (.dy f l),wr:=ws,rd:=im l++ids ws }
 | none=>none
def jb:TK->Value->Bool
 | .int _,.int _ _=>true
 | .string,.string _=>true
 | .bool,.bool _=>true
 | _,_=>false
def evalOp (C:eh) (slot:Nat) (σ:Operand->AV) (h:Hp):Op->Option bW
 | .move x=>some { val:=σ x }
 | .assign x=>some { val:=σ x }
 | .nilCheck x=>match σ x with
  | .c (.ptr b r c)=>some { val:=.c (.ptr b r c) }
  | .c (.tp row c)=>some { val:=.c (.tp row c) }
  | _=>none
 | .pick c a b=>match(σ c).bool? with
  | some true=>some { val:=σ a }
  | some false=>some { val:=σ b }
  | none=>none
 | .alloc t=>match C.ty t with
  | some ti=>some { val:=.c (.ptr slot 0 0),wr:=[(slot,some (.var (ti.zero.map .t)))] }
  | none=>none
 | .box t x=>match C.ty t,(σ x).cells with
  | some ti,some cs=>if cs.length=ti.size then some { val:=.c (.ptr slot 0 0),wr:=[(slot,some (.var cs))] } else none
  | _,_=>none
 | .build t parts=>match C.ty t with
  | some ti=>match ti.kind with
   | .struct fs=>match Al (qO C fs) (ti.zero.map .t) (parts.toList.map fun p=>(p.1,σ p.2)) with
    | some cs=>some { val:=.agg cs }
    | none=>none
   | .array _ e=>match C.ty e with
    | some te=>match Al (fun i=>some (i*te.size,te.size)) (ti.zero.map .t) (parts.toList.map fun p=>(p.1,σ p.2)) with
     | some cs=>some { val:=.agg cs }
     | none=>none
    | none=>none
   | _=>none
  | none=>none
 | .buildSlice t len parts=>match C.ty t with
  | some ti=>match ti.kind with
   | .slice e=>match C.ty e with
    | some te=>if len*te.size<=2^24/\te.size≠0 then
      match qN C slot t te.size len (parts.toList.map fun p=>(p.1,σ p.2)) with
      | some e=>some e
      | none=>match fp h te.size (List.replicate len te.zero) (parts.toList.map fun p=>(p.1,σ p.2)) with
       | some (rows,m)=>some { val:=.c (.sl slot 0 len false),wr:=m ++ [(slot,some (.rows te.size rows true false))],rd:=ids m }
       | none=>none
     else none
    | none=>none
   | _=>none
  | none=>none
 | .load t a=>match C.ty t with
  | some ti=>match σ a with
   | .c (.ptr b r c)=>match h b with
    | some (.var cells)=>if r=0 then(dk ti cells c).map fun v=>{ val:=v,rd:=[b] } else none
    | some (.rows _ rows _ _)=>match rows[r]? with
     | some row=>(dk ti (row.map .t) c).map fun v=>{ val:=v,rd:=[b] }
     | none=>none
    | _=>none
   | .c (.tp row c)=>(dk ti (row.map .t) c).map fun v=>{ val:=v }
   | _=>none
  | none=>none
 | .store t a x=>match C.ty t,(σ x).cells with
  | some ti,some cs=>if cs.length=ti.size then
    match σ a with
    | .c (.ptr b r c)=>match h b with
     | some (.var cells)=>if r=0/\c+cs.length<=cells.length then some { wr:=[(b,some (.var (aX cells c cs)))],rd:=[b] } else none
     | some (.rows sz rows g false)=>match rows[r]?,bL h cs with
      | some row,some (ts,m)=>if c+ts.length<=row.length/\!(ids m).contains b then some { wr:=m ++ [(b,some (.rows sz (rows.set r (aX row c ts)) g false))],rd:=b::ids m } else none
      | _,_=>none
     | _=>none
    | _=>none
   else none
  | _,_=>none
 | .binOp op t x y _=>match σ x,σ y with
  | .c (.t (.v (.bool a))),.c (.t (.v (.bool b)))=>match C.ty t with
   | some ti=>match ti.kind,op with
    | .bool,.eql=>some { val:=dY (.bool (a==b)) }
    | .bool,.neq=>some { val:=dY (.bool (!(a==b))) }
    | _,_=>none
   | none=>none
  | .c (.t (.v (.slice base _ _))),_=>G9 C op t y base
  | .c (.t (.v a)),.c (.t (.v b))=>(J2 op a b).map fun v=>{ val:=dY v }
  | .agg a,.agg b=>match vB C op t (j8 a b) a.length b.length with
   | some e=>some e
   | none=>Co C op t a b
  | .c (.t (.aa _ (_::_))),_=>IY C op t y
  | .c (.sl _ _ (_+1) _),_=>IY C op t y
  | _,_=>none
 | .unOp op _ x=>match σ x with
  | .c (.t (.v a))=>(Ys op a).map fun v=>{ val:=dY v }
  | _=>none
 | .convert src dst x=>eH C h src dst (σ x)
 | .makeSlice t l c=>match C.ty t with
  | some ti=>match ti.kind with
   | .slice e=>match C.ty e,(σ l).int?,(σ c).int? with
    | some te,some n,some m=>if 0<=n/\n<=m/\m*te.bytes<=az/\1<=te.bytes/\te.size≠0 then
      match C.cs t,te.zero with
      | true,[z]=>some { val:=.c (.sl slot 0 n.toNat false),wr:=[(slot,some (.var (List.replicate n.toNat (.t z))))] }
      | _,_=>some { val:=.c (.sl slot 0 n.toNat false),wr:=[(slot,some (.rows te.size (List.replicate n.toNat te.zero) true false))] } else none
    | _,_,_=>none
   | _=>none
  | none=>none
 | .slice t x lo hi mx=>dm C h t (σ x) (lo.map σ) (hi.map σ) (mx.map σ)
 | .fieldAddr t x f=>match C.ty t with
  | some ti=>match ti.kind with
   | .struct fs=>match qO C fs f with
    | some (off,size)=>if size=0 then none else match σ x with
     | .c (.ptr b r c)=>some { val:=.c (.ptr b r (c+off)) }
     | .c (.tp row c)=>some { val:=.c (.tp row (c+off)) }
     | _=>none
    | none=>none
   | _=>none
  | none=>none
 | .field t x f=>match C.ty t with
  | some ti=>match ti.kind with
   | .struct fs=>match fs[f]? with
    | some (off,ft)=>match C.ty ft,σ x with
     | some tf,.agg l=>(dk tf l off).map fun v=>{ val:=v }
     | _,_=>none
    | none=>none
   | _=>none
  | none=>none
 | .indexAddr t x i=>match C.ty t,(σ i).int? with
  | some ti,some n=>match ti.kind with
   | .array len e=>match C.ty e with
    | some te=>if 0<=n/\n<len then
      match σ x with
      | .c (.ptr b r c)=>some { val:=.c (.ptr b r (c+n.toNat*te.size)) }
      | .c (.tp row c)=>some { val:=.c (.tp row (c+n.toNat*te.size)) }
      | _=>none
     else none
    | none=>none
   | .slice e=>match C.ty e with
    | some te=>match σ x with
     | .c (.sl b off len _)=>match h b with
      | some (.rows sz _ _ _)=>if 0<=n/\n<len/\sz=te.size then
        some { val:=.c (.ptr b (off+n.toNat) 0),rd:=[b] } else none
      | some (.var _)=>if 0<=n/\n<len/\te.size=1 then
        some { val:=.c (.ptr b 0 (off+n.toNat)),rd:=[b] } else none
      | _=>none
     | .c (.t (.aa _ rows))=>if 0<=n then
       match rows[n.toNat]? with
       | some row=>if row.length=te.size then some { val:=.c (.tp row 0) } else none
       | none=>none
      else none
     | _=>none
    | none=>none
   | _=>none
  | _,_=>none
 | .index t x i=>match C.ty t,(σ i).int? with
  | some ti,some n=>match ti.kind,σ x with
   | .array len e,.agg l=>match C.ty e with
    | some te=>if 0<=n/\n<len then(dk te l (n.toNat*te.size)).map fun v=>{ val:=v } else none
    | none=>none
   | .string,.c (.t (.v (.string s)))=>if 0<=n then
     match s[n.toNat]? with
     | some b=>some { val:=dY (.int .u8 b.toNat) }
     | none=>none
    else none
   | _,_=>none
  | _,_=>none
 | .extract x i=>match σ x with
  | .pD l=>match l[i]? with
   | some v=>some { val:=v }
   | none=>none
  | _=>none
 | .makeFunc (.func f) first aK=>if first.size=0 then
   match Nat.blt f oL,aK.toList.mapM (fun x=>oV (σ x)) with
   | true,some l=>sV h f l
   | _,_=>none
  else match aK.size,first.toList.mapM (fun x=>oV (σ x)) with
   | 0,some l=>some { val:=.c (.dy (f+oL) l),rd:=im l }
   | _,_=>none
 | .makeMap t r=>match C.ty t with
  | some ti=>match ti.kind,r with
   | .map _ _,none=>some { val:=.c (.mp slot),wr:=[(slot,some (.map []))] }
   | _,_=>none
  | none=>none
 | .lookup t x i ok=>match C.ty t with
  | some ti=>match ti.kind,σ x,σ i with
   | .map k e,.c (.mp b),.c (.t (.v key))=>match h b,C.ty k,C.ty e with
    | some (.map cR),some tk,some te=>if !jb tk.kind key||te.kind.agg then none else
      match cX key cR,te.zero with
      | some (some t),_=>some { val:=if ok then .pD [.c (.t t),dY (.bool true)] else .c (.t t),rd:=[b] }
      | some none,[z]=>some { val:=if ok then .pD [.c (.t z),dY (.bool false)] else .c (.t z),rd:=[b] }
      | _,_=>none
    | _,_,_=>none
   | _,_,_=>none
  | none=>none
 | .mapUpdate t x i v=>match C.ty t with
  | some ti=>match ti.kind,σ x,σ i,σ v with
   | .map k _,.c (.mp b),.c (.t (.v key)),.c (.t tv)=>match h b,C.ty k with
    | some (.map cR),some tk=>if !jb tk.kind key then none else
     match fV key tv cR with
     | some es=>some { wr:=[(b,some (.map es))],rd:=[b] }
     | none=>none
    | _,_=>none
   | _,_,_,_=>none
  | none=>none
 | .call { callee:=.builtin b,args,argTypes }=>
  match b,args.toList,argTypes[0]? with
  | .len,[x],some t=>oU C h t (σ x)
  | .append,[s,x],some t=>match C.ty t with
   | some ti=>match ti.kind with
    | .slice e=>match C.ty e,argTypes[1]? with
     | some te,some t1=>match C.ty t1 with
      | some OW=>match OW.kind with
       | .slice _|.string=>if te.size=0∨te.bytes=0 then none else bU te slot h (σ s) (σ x)
       | _=>none
      | none=>none
     | _,_=>none
    | _=>none
   | none=>none
  | .copy,[d,x],some t=>match C.ty t with
   | some ti=>match ti.kind with
    | .slice e=>match C.ty e with
     | some te=>if te.size=0 then none else lf te h (σ d) (σ x)
     | none=>none
    | _=>none
   | none=>none
  | .max,[x,y],_=>Ak true [σ x,σ y]
  | .min,[x,y],_=>Ak false [σ x,σ y]
  | _,_,_=>none
 | _=>none
def fP (W:Place) (k:Nat):Obj->Option Obj->Prop
 | .cells c el fr,o'=>∃c':Array Value,o'=some (.cells c' el fr)/\c'.size=c.size/\∀i,¬W k i->c'[i]?=c[i]?
 | .map es cl,o'=>∃IZ cl',o'=some (.map IZ cl')/\((∀i,¬W k i)->IZ=es/\cl'=cl)
 | ob,o'=>o'=some ob
structure fh (W:Place) (w w':World):Prop where
 os:w'.os=w.os
 tape:w'.tape=w.tape
 output:w'.output=w.output
 size:w.heap.size<=w'.heap.size
 obj:∀k ob,w.heap[k]?=some ob->fP W k ob (w'.heap[k]?)
theorem fP.refl (W:Place) (k:Nat) (ob:Obj):fP W k ob (some ob):=by
 cases ob<;>simp only[fP]
 ·exact⟨_,rfl,rfl,fun _ _=>rfl⟩
 ·exact⟨_,_,rfl,fun _=>⟨rfl,rfl⟩⟩
theorem fh.refl (W:Place) (w:World):fh W w w:=
 ⟨rfl,rfl,rfl,Nat.le_refl _,fun k ob h=>by rw[h];exact fP.refl W k ob⟩
theorem fh.trans {W Wr:Place} {w0 w w':World} (h:fh W w0 w) (h':fh Wr w w') (hW:∀c o,c<w0.heap.size->Wr c o->W c o):fh W w0 w':=by
 refine⟨h'.os.trans h.os,h'.tape.trans h.tape,h'.output.trans h.output,Nat.le_trans h.size h'.size,fun k ob hk=>?_⟩;have bG:k<w0.heap.size:=by
  rcases Nat.lt_or_ge k w0.heap.size with h|h
  ·exact h
  ·rw[Array.getElem?_eq_none h]at hk;cases hk
 have h1:=h.obj k ob hk;cases ob with
 | cells c el fr=>
  obtain⟨c1,e1,s1,f1⟩:=h1;obtain⟨c2,e2,s2,f2⟩:=h'.obj k _ e1;exact⟨c2,e2,s2.trans s1,fun i hi=>(f2 i fun x=>hi (hW _ _ bG x)).trans (f1 i hi)⟩
 | map es cl=>
  obtain⟨es1,cl1,e1,f1⟩:=h1;obtain⟨es2,cl2,e2,f2⟩:=h'.obj k _ e1;refine⟨es2,cl2,e2,fun hn=>?_⟩;obtain⟨a,b⟩:=f2 fun i x=>hn i (hW _ _ bG x)
  obtain⟨c,d⟩:=f1 hn;exact⟨a.trans c,b.trans d⟩
 | _=>exact h'.obj k _ h1
theorem fh.mono {W W':Place} {w w':World} (h:fh W w w') (hW:∀c o,c<w.heap.size->W c o->W' c o):fh W' w w':=
 (fh.refl W' w).trans h hW
theorem fh.cell {W:Place} {w w':World} (h:fh W w w') {b o:Nat} (hb:b<w.heap.size) (hW:¬W b o) :
  w'.cell? ⟨b,o,none⟩=w.cell? ⟨b,o,none⟩/\w'.frozen? ⟨b,o,none⟩=w.frozen? ⟨b,o,none⟩:=by
 have hg:w.heap[b]?=some w.heap[b]:=Array.getElem?_eq_getElem hb;have:=h.obj b _ hg;unfold World.cell? World.frozen?;cases hx:w.heap[b]with
 | cells c el fr=>
  rw[hx]at this;obtain⟨c1,e1,s1,f1⟩:=this;simp only[hg,hx,e1];exact⟨by simpa using f1 o hW,trivial⟩
 | map es cl=>
  rw[hx]at this;obtain⟨es1,cl1,e1,f1⟩:=this;simp only[hg,hx,e1];exact⟨trivial,trivial⟩
 | _=>
  rw[hx]at this;simp only[fP]at this;simp only[hg,hx,this];exact⟨trivial,trivial⟩
def there (w:World) (cb co n:Nat):Prop:=∀o,co<=o->o<co+n->(w.cell? ⟨cb,o,none⟩).isSome=true/\w.frozen? ⟨cb,o,none⟩=false
def aC.ext (au:aC) (R:bR):Place:=fun b o=>b=R.cb/\match au with
 | .var cells=>R.co<=o/\o<R.co+max cells.length R.cap
 | .rows _ l g _=>R.co<=o/\o<R.co+(if g then R.cap else l.length)*R.ai
 | .map _=>True
 | .gB _ _=>False
def aC.wr (au:aC) (R:bR):Place:=fun b o=>b=R.cb/\match au with
 | .var cells=>R.co<=o/\o<R.co+max cells.length R.cap
 | .rows _ l g fz=>R.co+(if fz then l.length*R.ai else 0)<=o/\o<R.co+(if g then R.cap else l.length)*R.ai
 | .map _=>True
 | .gB _ _=>False
theorem aC.fG {au:aC} {R:bR} {b o:Nat} (h:au.wr R b o):au.ext R b o:=by
 unfold aC.wr aC.ext at *;refine⟨h.1,?_⟩;have:=h.2;cases au with
 | var=>exact this
 | rows sz rows g fz=>exact⟨by have:=this.1;omega,this.2⟩
 | map=>trivial
 | gB=>exact this
def eA (β:Nat->Option bR) (S:Place) (w:World) (B0:Nat) (R:bR):aC->Prop
 | .var cells=>(there w R.cb R.co (max cells.length R.cap)/\R.ai=1/\R.cap<2^63)/\∀j c,cells[j]?=some c->∃v,w.cell? ⟨R.cb,R.co+j,none⟩=some v/\dq β S w c v
 | .rows sz rows g fz=>sz=R.ai/\(∀r∈rows,r.length=R.ai)/\rows.length<=R.cap/\R.cap<2^63/\rows.length<2^60/\there w R.cb R.co ((if g then R.cap else rows.length)*R.ai) /\
   (∀i j t,fg rows i j=some t->∃v,w.cell? ⟨R.cb,R.co+i*R.ai+j,none⟩=some v/\dR S w t v) /\
   (fz=true->∀o,R.co<=o->o<R.co+rows.length*R.ai->S R.cb o)
 | .map cR=>B0<=R.cb/\∃(es:Array MapEntry) (clock:Nat),w.heap[R.cb]?=some (.map es clock)/\es.size=cR.length /\
   ∀(i:Nat) (k:Value) (t:Tree),cR[i]?=some (k,t)->∃e:MapEntry,es[i]?=some e/\e.key=k/\dR S w t e.val
 | .gB sz rows=>sz=R.ai/\(∀r∈rows,r.length=R.ai)/\R.cap<2^63/\∃cap,dR S w (.aa false rows) (.slice (some ⟨R.cb,R.co,none⟩) rows.length cap)
structure Ctx where
 w0:World
 W:Place
 S0:Place
 β0:Nat->Option bR
abbrev Ctx.B0 (K:Ctx):Nat:=K.w0.heap.size
structure Sat (K:Ctx) (β:Nat->Option bR) (S:Place) (st:St) (a:Act) (w:World):Prop where
 len:a.tmps.size=st.tmps.length
 defers:a.defers=[]
 tmps:∀t x,st.tmps[t]?=some x->aH β S w x (a.tmps.getD t undef)
 top:∀b R,β b=some R->b<st.heap.length
 au:∀b au,look st.heap b=some au->∃R,β b=some R/\eA β S w K.B0 R au/\(∀c o,au.ext R c o->c<w.heap.size/\(K.B0<=c∨K.W c o))/\(∀c o,au.wr R c o->¬S c o)
 mz:∀b b' au db R R',b≠b'->look st.heap b=some au->look st.heap b'=some db->β b=some R->β b'=some R'->∀c o,au.ext R c o->¬db.ext R' c o
 sN:∀c o,S c o->c<w.heap.size
 sin:∀c o,S c o->K.S0 c o∨K.B0<=c∨K.W c o
 sub:∀c o,K.S0 c o->S c o
 jF:fh K.W K.w0 w
 arg:∀i R,K.β0 i=some R->β i=some R
theorem sW {h:bM} {b:Nat} {au:aC} (e:look h b=some au):b<h.length:=by
 unfold look at e;rcases Nat.lt_or_ge b h.length with h1|h1
 ·exact h1
 ·simp[List.getElem?_eq_none h1]at e
theorem eA.jF {β β':Nat->Option bR} {S S':Place} {w w':World} {B0:Nat} {R:bR} {au:aC} {Wr:Place}
  (h:eA β S w B0 R au) (hk:fh Wr w w') (hβ:∀b R,β b=some R->β' b=some R) (hS:∀b o,S b o->S' b o)
  (hw:∀b o,S b o->w'.cell? ⟨b,o,none⟩=w.cell? ⟨b,o,none⟩)
  (hx:∀c o,au.ext R c o->c<w.heap.size/\¬Wr c o):eA β' S' w' B0 R au:=by
 have th:∀n,(∀o,R.co<=o->o<R.co+n->au.ext R R.cb o)->there w R.cb R.co n->there w' R.cb R.co n:=by
  intro n hn ht o h1 h2;obtain⟨a,b⟩:=hx _ _ (hn o h1 h2);obtain⟨c,d⟩:=hk.cell a b;rw[c,d];exact ht o h1 h2
 cases au with
 | var cells=>
  refine⟨⟨th _ (fun o h1 h2=>⟨rfl,h1,h2⟩) h.1.1,h.1.2⟩,fun j c hj=>?_⟩;obtain⟨v,a,b⟩:=h.2 j c hj;have bG:j<cells.length:=by
   rcases Nat.lt_or_ge j cells.length with h1|h1
   ·exact h1
   ·rw[List.getElem?_eq_none h1]at hj;cases hj
  obtain⟨p,q⟩:=hx R.cb (R.co+j) ⟨rfl,by omega,by omega⟩;exact⟨v,by rw[(hk.cell p q).1];exact a,b.mono hβ hS hw⟩
 | rows sz rows g fz=>
  obtain⟨h0,h1,h2,h3,Yt,h4,h5,h6⟩:=h;refine⟨h0,h1,h2,h3,Yt,th _ (fun o a b=>⟨rfl,a,b⟩) h4,fun i j t ht=>?_,fun hf o a b=>hS _ _ (h6 hf o a b)⟩;obtain⟨v,a,b⟩:=h5 i j t ht;have iR:R.co+i*R.ai+j<R.co+(if g then R.cap else rows.length)*R.ai:=by
   unfold fg at ht;obtain⟨row,hr,hj⟩:=Option.bind_eq_some_iff.1 ht;have hi:i<rows.length:=by
    rcases Nat.lt_or_ge i rows.length with h1|h1
    ·exact h1
    ·rw[List.getElem?_eq_none h1]at hr;cases hr
   have OX:j<R.ai:=by
    rw[<-h1 row (List.mem_of_getElem? hr)];rcases Nat.lt_or_ge j row.length with h1|h1
    ·exact h1
    ·rw[List.getElem?_eq_none h1]at hj;cases hj
   have:i+1<=(if g then R.cap else rows.length):=by split<;>omega
   have:=Nat.mul_le_mul_right R.ai this;rw[Nat.succ_mul]at this;omega
  obtain⟨p,q⟩:=hx R.cb _ ⟨rfl,by omega,iR⟩;exact⟨v,by rw[(hk.cell p q).1];exact a,b.mono hS hw⟩
 | map cR=>
  obtain⟨h1,es,cl,h2,h3,h4⟩:=h;obtain⟨p,q⟩:=hx R.cb 0 ⟨rfl,trivial⟩;obtain⟨IZ,cl',e,f⟩:=hk.obj R.cb _ h2;obtain⟨rfl,rfl⟩:=f fun i=>(hx R.cb i ⟨rfl,trivial⟩).2
  refine⟨h1,_,_,e,h3,fun i k t hi=>?_⟩;obtain⟨en,a,b,c⟩:=h4 i k t hi;exact⟨en,a,b,c.mono hS hw⟩
 | gB sz rows=>
  obtain⟨h1,h2,h3,cap,h4⟩:=h;exact⟨h1,h2,h3,cap,h4.mono hS hw⟩
theorem Sat.step {K:Ctx} {β:Nat->Option bR} {S:Place} {st:St} {a:Act} {w:World} (h:Sat K β S st a w)
  {w':World} {β':Nat->Option bR} {S':Place} {eP:bM} {Wr:Place} (D:Nat->Prop)
  (hk:fh Wr w w')
  (hWr:∀c o,Wr c o->c<w.heap.size->¬S c o/\(K.B0<=c∨K.W c o)/\(∀b au R,¬D b->look st.heap b=some au->β b=some R->¬au.ext R c o))
  (hβ:∀b R,β b=some R->β' b=some R) (ky:∀b R,β' b=some R->b<eP.length)
  (hS:∀c o,S c o->S' c o)
  (Vp:∀c o,S' c o->S c o∨(c<w'.heap.size/\(K.B0<=c∨K.W c o)/\(∀b au R,¬D b->look st.heap b=some au->β b=some R->¬au.wr R c o)))
  (pE:∀b au,¬D b->look eP b=some au->look st.heap b=some au)
  (Hb:∀b au,D b->look eP b=some au->∃R,β' b=some R/\eA β' S' w' K.B0 R au /\
   (∀c o,au.ext R c o->c<w'.heap.size/\(K.B0<=c∨K.W c o))/\(∀c o,au.wr R c o->¬S' c o) /\
   (∀b' db R',b'≠b->look eP b'=some db->β' b'=some R'->∀c o,au.ext R c o->¬db.ext R' c o)) :
  Sat K β' S' ⟨st.tmps,eP⟩ a w':=by
 have hw:∀c o,S c o->w'.cell? ⟨c,o,none⟩=w.cell? ⟨c,o,none⟩:=fun c o hs=>
  (hk.cell (h.sN c o hs) fun hx=>(hWr c o hx (h.sN c o hs)).1 hs).1
 refine⟨h.len,h.defers,fun t x ht=>(h.tmps t x ht).mono hβ hS hw,ky,fun b au hb=>?_,fun b b' au db R R' cY hb bK hR gW c o=>?_,fun c o hs=>?_,fun c o hs=>?_,fun c o hs=>hS _ _ (h.sub c o hs),?_,fun i R hi=>hβ _ _ (h.arg i R hi)⟩
 ·by_cases hD:D b
  ·obtain⟨R,h1,h2,h3,h4,_⟩:=Hb b au hD hb
   exact⟨R,h1,h2,h3,h4⟩
  ·have Ex:=pE b au hD hb
   obtain⟨R,h1,h2,h3,h4⟩:=h.au b au Ex;refine⟨R,hβ _ _ h1,h2.jF hk hβ hS hw fun c o hx=>⟨(h3 c o hx).1,fun hy=>(hWr c o hy (h3 c o hx).1).2.2 b au R hD Ex h1 hx⟩,fun c o hx=>⟨Nat.lt_of_lt_of_le (h3 c o hx).1 hk.size,(h3 c o hx).2⟩,fun c o hx hs=>?_⟩;rcases Vp c o hs with hs|⟨_,_,hs⟩
   ·exact h4 c o hx hs
   ·exact hs b au R hD Ex h1 hx
 ·by_cases hD:D b
  ·obtain⟨R1,h1,_,_,_,h5⟩:=Hb b au hD hb
   rw[hR]at h1;cases h1;exact h5 b' db R' (Ne.symm cY) bK gW c o
  ·by_cases Sk:D b'
   ·obtain⟨R1,h1,_,_,_,h5⟩:=Hb b' db Sk bK
    rw[gW]at h1;cases h1;intro hx hy;exact h5 b au R cY hb hR c o hy hx
   ·have Ex:=pE b au hD hb
    have Vq:=pE b' db Sk bK;obtain⟨R1,h1,_⟩:=h.au b au Ex;obtain⟨R1',Q5,_⟩:=h.au b' db Vq;have e:=hβ _ _ h1;rw[hR]at e;cases e;have e:=hβ _ _ Q5;rw[gW]at e;cases e;exact h.mz b b' au db R R' cY Ex Vq h1 Q5 c o
 ·rcases Vp c o hs with hs|⟨h1,_,_⟩
  ·exact Nat.lt_of_lt_of_le (h.sN c o hs) hk.size
  ·exact h1
 ·rcases Vp c o hs with hs|⟨_,h1,_⟩
  ·exact h.sin c o hs
  ·exact .inr h1
 ·exact h.jF.trans hk fun c o bG hx=>by
   rcases(hWr c o hx (Nat.lt_of_lt_of_le bG h.jF.size)).2.1 with h1|h1
   ·exact absurd bG (Nat.not_lt.2 h1)
   ·exact h1
theorem Sat.put {K:Ctx} {β:Nat->Option bR} {S:Place} {st:St} {a:Act} {w:World} (h:Sat K β S st a w) {x:AV} {v:Value}
  (hv:aH β S w x v) (d:Option Tmp):Sat K β S ⟨(match d with|some d=>st.tmps.set d x|none=>st.tmps),st.heap⟩ (a.put d v) w:=by
 cases d with
 | none=>exact⟨h.len,h.defers,h.tmps,h.top,h.au,h.mz,h.sN,h.sin,h.sub,h.jF,h.arg⟩
 | some d=>
  refine⟨by simp[Act.put,h.len],h.defers,fun t y ht=>?_,h.top,h.au,h.mz,h.sN,h.sin,h.sub,h.jF,h.arg⟩;have hl:=h.len;have h3:=h.tmps t y;simp only[Act.put]at *;rw[List.getElem?_set]at ht;split at ht
  ·rename_i hdt
   subst hdt;split at ht
   ·cases ht
    rename_i bG;rw[<-hl]at bG;simp[Array.getD,bG,hv]
   ·cases ht
  ·rename_i hdt
   have:=h3 ht;simp only[Array.getD_eq_getD_getElem?,Array.getElem?_setIfInBounds]at *;rw[if_neg hdt];exact this
def zeroCell:Tree->Value->Bool
 | .v (.int k a),.int k' b=>k==k'&&a==b
 | .v (.bool a),.bool b=>a==b
 | .v (.string a),.string b=>decide (a=b)
 | .aa true [],.slice none 0 0=>true
 | .v (.map none),.map none=>true
 | .v .nilFunc,.nilFunc=>true
 | .v .nilIface,.nilIface=>true
 | .v (.pointer none),.pointer none=>true
 | _,_=>false
def zeroCells:List Tree->List Value->Bool
 | [],[]=>true
 | t::ts,v::vs=>zeroCell t v&&zeroCells ts vs
 | _,_=>false
def Cp (agg:Bool) (ts:List Tree) (z:Value):Bool:=
 match agg,z with
 | true,.agg cs=>zeroCells ts cs.toList
 | false,v=>zeroCells ts [v]
 | _,_=>false
def kindOk:TK->TypeDesc->Bool
 | .int k,.int k'=>k==k'
 | .bool,.bool=>true
 | .string,.string=>true
 | .slice e,.slice e'=>e==e'
 | .array n e,.array n' e'=>n==n'&&e==e'
 | .struct fs,.struct fields=>fields.toList.map (fun f=>(f.offset,f.type))==fs
 | .map k e,.map k' e'=>k==k'&&e==e'
 | .other,d=>!(d matches .struct _|.array .. )
 | _,_=>false
def Hc (P:Program) (t:TypeId):Bool:=match P.underlying t with
 | some .bool=>true
 | _=>false
def Vr (P:Program) (t:TypeId) (ti:TI):Bool:=
 match P.info? t,P.underlying t with
 | some i,some d=>i.size==ti.size&&i.bytes==ti.bytes&&(match i.zero with|some z=>Cp ti.kind.agg ti.zero z|none=>false)&&kindOk ti.kind d&&ti.zero.length==ti.size&&decide (ti.bytes<=1048576)&&(match d with|.struct fields=>fields.toList.all (fun f=>(P.info? f.type).isSome)&&(!(fields.toList.all fun f=>Hc P f.type)||fields.toList.isEmpty||(!P.stoodInHeld t && !P.eqGuardType P.depth t))|.array _ _=>!P.eqGuardType P.depth t|_=>true)
 | _,_=>false
def bq (P:Program) (C:eh):Prop:=∀t ti,C.ty t=some ti->Vr P t ti=true
structure gV (P:Program) (t:TypeId) (ti:TI):Prop where
 info:∃i,P.info? t=some i/\i.size=ti.size/\i.bytes=ti.bytes/\∃z,i.zero=some z/\Cp ti.kind.agg ti.zero z=true
 Q6:∃d,P.underlying t=some d/\kindOk ti.kind d=true
 len:ti.zero.length=ti.size
 small:ti.bytes<=1048576
 fields:∀fields,P.underlying t=some (.struct fields)->∀f∈fields.toList,(P.info? f.type).isSome=true
 guard:∀n e,P.underlying t=some (.array n e)->P.eqGuardType P.depth t=false
 stb:∀fields,P.underlying t=some (.struct fields)->(∀f∈fields.toList,P.underlying f.type=some .bool)->fields.toList≠[]->P.stoodInHeld t=false/\P.eqGuardType P.depth t=false
theorem iV {P:Program} {t:TypeId} {ti:TI} (h:Vr P t ti=true):gV P t ti:=by
 unfold Vr at h;split at h
 ·rename_i i d hi hd
  simp only[Bool.and_eq_true,beq_iff_eq]at h;obtain⟨⟨⟨⟨⟨⟨h1,h2⟩,h3⟩,h4⟩,h5⟩,h6⟩,h7⟩:=h;split at h3
  ·rename_i z hz
   exact⟨⟨i,hi,h1,h2,z,hz,h3⟩,⟨d,hd,h4⟩,h5,by simpa using h6,fun fields hf f hm=>by
    rw[hd]at hf;cases hf;exact List.all_eq_true.1 (Bool.and_eq_true_iff.1 h7).1 f hm,fun n e hf=>by rw[hd]at hf;cases hf;simpa using h7,fun fields hf hb cY=>by
    rw[hd]at hf;cases hf;have h8:=(Bool.and_eq_true_iff.1 h7).2;have ha:(fields.toList.all fun f=>Hc P f.type)=true:=List.all_eq_true.2 fun f hf=>by unfold Hc;rw[hb f hf]
    have hE:fields.toList.isEmpty=false:=by
     cases hq:fields.toList with
     | nil=>exact absurd hq cY
     | cons=>rfl
    rw[ha,hE]at h8;simpa using h8⟩
  ·cases h3
 ·cases h
theorem Cq {t:Tree} {v:Value} (h:zeroCell t v=true) (S:Place) (w:World):dR S w t v:=by
 unfold zeroCell at h;split at h
 ·simp only[Bool.and_eq_true,beq_iff_eq]at h
  obtain⟨rfl,rfl⟩:=h;exact .v _ fun l=>by simp
 ·simp only[beq_iff_eq]at h;subst h;exact .v _ fun l=>by simp
 ·simp only[decide_eq_true_eq]at h;subst h;exact .v _ fun l=>by simp
 ·exact .aa true [] none 0 0 0 0 (fun _ _=>undef) (by simp) (by omega) (by simp) (by simp) (by simp) (by simp) (by simp) (by simp[fg]) (by simp[fg])
 ·exact .v _ fun l=>by simp
 ·exact .v _ fun l=>by simp
 ·exact .v _ fun l=>by simp
 ·exact .v _ fun l=>by simp
 ·cases h
theorem ke:∀ {ts:List Tree} {vs:List Value},zeroCells ts vs=true->∀(S:Place) (w:World),vs.length=ts.length/\∀(i:Nat) (t:Tree),ts[i]?=some t->∃v:Value,vs[i]?=some v/\dR S w t v
 | [],[],_,S,w=>⟨rfl,by simp⟩
 | t::ts,v::vs,h,S,w=>by
  simp only[zeroCells,Bool.and_eq_true]at h;obtain⟨h1,h2⟩:=ke h.2 S w;refine⟨by simp[h1],fun i t' ht=>?_⟩;cases i with
  | zero=>simp at ht;subst ht;exact⟨v,rfl,Cq h.1 S w⟩
  | succ i=>simpa using h2 i t' (by simpa using ht)
 | [],_::_,h,_,_=>by simp[zeroCells]at h
 | _::_,[],h,_,_=>by simp[zeroCells]at h
section
variable {P:Program} {t:TypeId} {ti:TI} (h:gV P t ti) (w:World)
include h
theorem gV.sizeOf:(sizeOf t).run P w=.ok ti.size w:=by
 obtain⟨i,h1,h2,h3,_⟩:=h.info;simp[Go.sizeOf,typeInfo,h1,h2,Result.andThen]
theorem gV.typeInfo:∃i:TypeInfo,(typeInfo t).run P w=.ok i w/\i.bytes=ti.bytes/\i.size=ti.size:=by
 obtain⟨i,h1,h2,h3,_⟩:=h.info;exact⟨i,by simp[Go.typeInfo,h1,Result.andThen],h3,h2⟩
theorem gV.zeroValue (S:Place):∃z,(zeroValue t).run P w=.ok z w/\z.cells.size=ti.size/\(∀(i:Nat) (t:Tree),ti.zero[i]?=some t->∃v:Value,z.cells.toList[i]?=some v/\dR S w t v)/\(ti.kind.agg=false->one z)/\(ti.kind.agg=true->∃cs,z=.agg cs):=by
 obtain⟨i,h1,h2,h3,z,h4,h5⟩:=h.info;refine⟨z,by simp[Go.zeroValue,Go.typeInfo,h1,h4,Result.andThen],?_⟩;cases OC:ti.kind.agg with
 | true=>
  rw[OC]at h5;cases z with
  | agg cs=>
   obtain⟨h6,h7⟩:=ke (ts:=ti.zero) (vs:=cs.toList) h5 S w;exact⟨by rw[<-h.len,<-h6];rfl,h7,by simp,fun _=>⟨cs,rfl⟩⟩
  | _=>simp[Cp]at h5
 | false=>
  rw[OC]at h5;simp only[Cp]at h5;obtain⟨h6,h7⟩:=ke h5 S w;have J3:one z:=by
   cases hz:ti.zero with
   | nil=>rw[hz]at h5;simp[zeroCells]at h5
   | cons t0 ts=>
    obtain⟨v,hv,hr⟩:=h7 0 t0 (by simp[hz]);simp at hv;subst hv;exact hr.one
  have hc:z.cells=#[z]:=by
   unfold Value.cells;split
   ·rename_i cs;exact absurd rfl (J3 cs).1
   ·rfl
  rw[hc];exact⟨by rw[<-h.len,<-h6];rfl,by simpa using h7,fun _=>J3,by simp⟩
theorem gV.isAgg:(isAgg t).run P w=.ok ti.kind.agg w:=by
 obtain⟨d,h1,h2⟩:=h.Q6;simp only[Go.isAgg,Sem.run_bind,run_underlying h1,Result.andThen];cases hk:ti.kind<;>cases d<;>simp_all[kindOk,TK.agg]
theorem gV.slice {e:TypeId} (hk:ti.kind=.slice e):P.underlying t=some (.slice e):=by
 obtain⟨d,h1,h2⟩:=h.Q6;rw[hk]at h2;cases d<;>simp[kindOk]at h2;rw[h1,h2]
theorem gV.array {n:Nat} {e:TypeId} (hk:ti.kind=.array n e):P.underlying t=some (.array n e):=by
 obtain⟨d,h1,h2⟩:=h.Q6;rw[hk]at h2;cases d<;>simp[kindOk]at h2;rw[h1,h2.1,h2.2]
theorem gV.struct {fs:List (Nat×TypeId)} (hk:ti.kind=.struct fs):∃fields:Array Field,P.underlying t=some (.struct fields)/\fields.toList.map (fun f=>(f.offset,f.type))=fs:=by
 obtain⟨d,h1,h2⟩:=h.Q6;rw[hk]at h2;cases d<;>simp only[kindOk,beq_iff_eq]at h2<;>first|(cases h2;done)|exact⟨_,h1,h2⟩
theorem gV.map {k e:TypeId} (hk:ti.kind=.map k e):P.underlying t=some (.map k e):=by
 obtain⟨d,h1,h2⟩:=h.Q6;rw[hk]at h2;cases d<;>simp[kindOk]at h2;rw[h1,h2.1,h2.2]
theorem gV.string (hk:ti.kind=.string):P.underlying t=some .string:=by
 obtain⟨d,h1,h2⟩:=h.Q6;rw[hk]at h2;cases d<;>simp[kindOk]at h2;rw[h1]
theorem gV.bool (hk:ti.kind=.bool):P.underlying t=some .bool:=by
 obtain⟨d,h1,h2⟩:=h.Q6;rw[hk]at h2;cases d<;>simp[kindOk]at h2;rw[h1]
theorem gV.int {k:IntKind} (hk:ti.kind=.int k):P.underlying t=some (.int k):=by
 obtain⟨d,h1,h2⟩:=h.Q6;rw[hk]at h2;cases d<;>simp[kindOk]at h2;rw[h1,h2]
end
theorem sY {v:Value} (h:one v):v.cells=#[v]:=by
 unfold Value.cells;split
 ·rename_i cs;exact absurd rfl (h cs).1
 ·rfl
theorem iF {v:Value} (h:one v):v.oneCell'=true:=by
 unfold Value.oneCell';split
 ·rename_i cs;exact absurd rfl (h cs).1
 ·rename_i cs;exact absurd rfl (h cs).2
 ·rfl
theorem Ey {v:Value} (h:L6 v=true):one v:=by
 intro l;constructor<;>rintro rfl<;>simp[L6]at h
theorem mA {v:Value} (h:L6 v=true) (β:Nat->Option bR) (S:Place) (w:World):dq β S w (jM v) v:=by
 unfold jM;split
 ·exact .t (.aa true [] none 0 0 0 0 (fun _ _=>undef) (by simp) (by omega) (by simp) (by simp) (by simp) (by simp) (by simp) (by simp[fg]) (by simp[fg]))
 ·exact .t (.v _ (Ey h))
theorem Ez (v:Value) (β:Nat->Option bR) (S:Place) (w:World):aH β S w (ofConst v) v:=by
 unfold ofConst;split
 ·rename_i cs
  split
  ·rename_i jr
   refine .agg cs.toList (by simp) fun i c hi=>?_
   rw[List.getElem?_map]at hi;obtain⟨v,hv,rfl⟩:=Option.map_eq_some_iff.1 hi;exact⟨v,hv,mA (List.all_eq_true.1 jr v (List.mem_of_getElem? hv)) _ _ _⟩
  ·exact .af _
 ·exact .af _
 ·rename_i h1 h2
  refine .c (mA ?_ _ _ _);unfold L6;split
  ·rename_i cs;exact absurd rfl (h1 cs)
  ·rename_i cs;exact absurd rfl (h2 cs)
  ·rfl
theorem Sat.get {K:Ctx} {β:Nat->Option bR} {S:Place} {st:St} {a:Act} {w:World} (h:Sat K β S st a w) (x:Operand):aH β S w (st.get x) (a.eval x):=by
 cases x with
 | tmp t=>
  unfold St.get Act.eval;rcases Nat.lt_or_ge t st.tmps.length with bG|GL
  ·simp only[List.getD_eq_getElem?_getD,List.getElem?_eq_getElem bG,Option.getD_some]
   exact h.tmps t _ (List.getElem?_eq_getElem bG)
  ·simp only[List.getD_eq_getElem?_getD,List.getElem?_eq_none GL,Option.getD_none]
   exact .af _
 | const v=>exact Ez v _ _ _
 | global g=>exact .af _
 | func f=>exact .c (.t (.v _ fun l=>by simp))
theorem aH.int {β:Nat->Option bR} {S:Place} {w:World} {x:AV} {v:Value} {n:Int} (h:aH β S w x v) (hx:x.int?=some n):∃k,v=.int k n/\x=.c (.t (.v (.int k n))):=by
 unfold AV.int? at hx;split at hx
 ·cases hx;cases h with|c h=>cases h with|t h=>cases h;exact⟨_,rfl,rfl⟩
 ·cases hx
theorem aH.bool {β:Nat->Option bR} {S:Place} {w:World} {x:AV} {v:Value} {n:Bool} (h:aH β S w x v) (hx:x.bool?=some n):v=.bool n:=by
 unfold AV.bool? at hx;split at hx
 ·cases hx;cases h with|c h=>cases h with|t h=>cases h;rfl
 ·cases hx
theorem aH.scalar {β:Nat->Option bR} {S:Place} {w:World} {v y:Value} (h:aH β S w (.c (.t (.v y))) v):v=y/\one y:=by
 cases h with|c h=>cases h with|t h=>cases h with|v _ h=>exact⟨rfl,h⟩
theorem aH.sO {β:Nat->Option bR} {S:Place} {w:World} {v:Value} (h:one v):aH β S w (dY v) v:=.c (.t (.v v h))
theorem aH.Cr {β:Nat->Option bR} {S:Place} {w:World} {l:List Cell} {v:Value} (h:aH β S w (.agg l) v) :
  ∃vs:List Value,v=.agg vs.toArray/\vs.length=l.length/\∀(i:Nat) (c:Cell),l[i]?=some c->∃v:Value,vs[i]?=some v/\dq β S w c v:=by
 cases h with|agg vs h1 h2=>exact⟨vs,rfl,h1,h2⟩
theorem aH.Cs {β:Nat->Option bR} {S:Place} {w:World} {x:AV} {l:List Cell} {v:Value} (h:aH β S w x v) (hx:x.cells=some l) :
  v.cells.toList.length=l.length/\∀(i:Nat) (c:Cell),l[i]?=some c->∃u:Value,v.cells.toList[i]?=some u/\dq β S w c u:=by
 unfold AV.cells at hx;split at hx
 ·cases hx
  cases h with|c h=>
  rw[sY h.one];refine⟨rfl,fun i c hi=>?_⟩;cases i with
  | zero=>simp at hi;subst hi;exact⟨v,rfl,h⟩
  | succ i=>simp at hi
 ·cases hx
  obtain⟨vs,rfl,h1,h2⟩:=h.Cr;exact⟨by simpa[Value.cells]using h1,by simpa[Value.cells]using h2⟩
 ·cases hx
theorem I0 (b o n:Nat):(⟨b,o,none⟩:Addr).add n=⟨b,o+n,none⟩:=Addr.add_lit b o n
theorem mS {α:Type} {Q:Nat->α->Prop}:∀(n:Nat),(∀i,i<n->∃v,Q i v)->∃vs:List α,vs.length=n/\∀i v,vs[i]?=some v->Q i v
 | 0,_=>⟨[],rfl,by simp⟩
 | n+1,h=>by
  obtain⟨vs,h1,h2⟩:=mS n fun i hi=>h i (by omega)
  obtain⟨v,hv⟩:=h n (by omega);refine⟨vs ++ [v],by simp[h1],fun i u hu=>?_⟩;rw[List.getElem?_append]at hu;split at hu
  ·exact h2 i u hu
  ·rename_i GL
   have:i=n:=by
    rcases Nat.lt_or_ge (i-vs.length) 1 with h3|h3
    ·omega
    ·rw[List.getElem?_eq_none (by simpa using h3)]at hu;cases hu
   subst this;simp[h1]at hu;subst hu;exact hv
theorem qP {ti:TI} {cells:List Cell} {c:Nat} {x:AV} (h:dk ti cells c=some x) (ha:ti.kind.agg=true) :
  c+ti.size<=cells.length/\x=.agg ((cells.drop c).take ti.size):=by
 unfold dk at h;rw[if_pos ha]at h;split at h
 ·exact⟨by assumption,by cases h;rfl⟩
 ·cases h
theorem qQ {ti:TI} {cells:List Cell} {c:Nat} {x:AV} (h:dk ti cells c=some x) (ha:ti.kind.agg=false) :
  ∃y,cells[c]?=some y/\x=.c y:=by
 unfold dk at h;rw[ha]at h;simp only[Bool.false_eq_true,if_false]at h;obtain⟨y,h1,h2⟩:=Option.map_eq_some_iff.1 h;exact⟨y,h1,h2.symm⟩
section
variable {P:Program} {t:TypeId} {ti:TI} {β:Nat->Option bR} {S:Place} {w:World}
theorem qR (bZ:gV P t ti) {cells:List Cell} {c:Nat} {x:AV} (hx:dk ti cells c=some x) {cb co:Nat}
  (hc:∀(j:Nat) (y:Cell),cells[j]?=some y->∃v,w.cell? ⟨cb,co+j,none⟩=some v/\dq β S w y v) :
  ∃v,(loadVar t ⟨cb,co+c,none⟩).run P w=.ok v w/\aH β S w x v:=by
 cases ha:ti.kind.agg with
 | true=>
  obtain⟨h1,rfl⟩:=qP hx ha;obtain⟨vs,h2,h3⟩:=mS (Q:=fun i v=>∀y,cells[c+i]?=some y->w.cell? ⟨cb,co+(c+i),none⟩=some v/\dq β S w y v) ti.size (fun i hi=>by
   obtain⟨v,hv⟩:=hc (c+i) (cells[c+i]'(by omega)) (List.getElem?_eq_getElem _);refine⟨v,fun y hy=>?_⟩;rw[List.getElem?_eq_getElem (by omega)]at hy;cases hy;exact hv)
  have cZ:=run_loadCells_list (P:=P) w ⟨cb,co+c,none⟩ vs (fun j v hv=>by
   rw[I0];have hj:j<ti.size:=by
    rcases Nat.lt_or_ge j vs.length with h|h
    ·omega
    ·rw[List.getElem?_eq_none h]at hv;cases hv
   have:=(h3 j v hv _ (List.getElem?_eq_getElem (show c+j<cells.length by omega))).1;rw[Nat.add_assoc];exact this)
  refine⟨.agg vs.toArray,?_,.agg vs (by simp[h2];omega) fun i y hy=>?_⟩
  ·simp only[loadVar,Sem.run_bind,bZ.isAgg,ha,Result.andThen,if_true,bZ.sizeOf,Sem.run_pure]
   rw[h2]at cZ;rw[cZ]
  ·have hi:i<ti.size:=by
    rcases Nat.lt_or_ge i ti.size with h|h
    ·exact h
    ·rw[List.getElem?_eq_none (by simp;omega)]at hy;cases hy
   refine⟨vs[i]'(by omega),List.getElem?_eq_getElem _,(h3 i _ (List.getElem?_eq_getElem _) y ?_).2⟩;rw[List.getElem?_take,if_pos hi,List.getElem?_drop]at hy;exact hy
 | false=>
  obtain⟨y,h1,rfl⟩:=qQ hx ha;obtain⟨v,h2,h3⟩:=hc c y h1;exact⟨v,by simp[loadVar,bZ.isAgg,ha,Result.andThen,h2],.c h3⟩
theorem qS (bZ:gV P t ti) {cells:List Cell} {c:Nat} {x:AV} (hx:dk ti cells c=some x) {vs:List Value} (hlen:vs.length=cells.length)
  (hc:∀(j:Nat) (y:Cell),cells[j]?=some y->∃v,vs[j]?=some v/\dq β S w y v) :
  ∃v,(part t vs.toArray c).run P w=.ok v w/\aH β S w x v:=by
 cases ha:ti.kind.agg with
 | true=>
  obtain⟨h1,rfl⟩:=qP hx ha;refine⟨.agg (vs.toArray.extract c (c+ti.size)),by simp[part,bZ.isAgg,ha,Result.andThen,bZ.sizeOf],?_⟩;rw[show vs.toArray.extract c (c+ti.size)=((vs.drop c).take ti.size).toArray by simp];refine .agg _ (by simp[hlen]) fun i y hy=>?_
  rw[List.getElem?_take]at hy ⊢;split at hy
  ·rename_i hi
   rw[if_pos hi];rw[List.getElem?_drop]at hy ⊢;exact hc _ y hy
  ·cases hy
 | false=>
  obtain⟨y,h1,rfl⟩:=qQ hx ha;obtain⟨v,h2,h3⟩:=hc c y h1;exact⟨v,by simp[part,bZ.isAgg,ha,Result.andThen,h2],.c h3⟩
end
theorem GM {α:Type} {rows:List (List α)} {i j:Nat} {row:List α} {t:α} (hr:rows[i]?=some row) (hj:row[j]?=some t):fg rows i j=some t:=by
 simp[fg,hr,hj]
theorem uo {α:Type} {l:List α} {i:Nat} {x:α} (h:l[i]?=some x):i<l.length:=by
 rcases Nat.lt_or_ge i l.length with h1|h1
 ·exact h1
 ·rw[List.getElem?_eq_none h1]at h;cases h
theorem iS {α:Type} {rows:List (List α)} {i j:Nat} {t:α} (h:fg rows i j=some t):∃row,rows[i]?=some row/\row[j]?=some t/\i<rows.length/\j<row.length:=by
 unfold fg at h;obtain⟨row,hr,hj⟩:=Option.bind_eq_some_iff.1 h;exact⟨row,hr,hj,uo hr,uo hj⟩
theorem qT {row:List Tree} {j:Nat} {y:Cell} (h:(row.map Cell.t)[j]?=some y):∃t,row[j]?=some t/\y=.t t:=by
 rw[List.getElem?_map]at h;obtain⟨t,h1,h2⟩:=Option.map_eq_some_iff.1 h;exact⟨t,h1,h2.symm⟩
section
variable {P:Program} {C:eh} {K:Ctx} {β:Nat->Option bR} {S:Place} {st:St} {a:Act} {w:World} {slot:Nat} {e:bW} {o:Oper}
def fk (P:Program) (β:Nat->Option bR) (S:Place) (a:Act) (w:World) (o:Oper) (e:bW):Prop:=
 e.wr=[]/\∃v,(execOp a.eval o).run P w=.ok (.value v) w/\aH β S w e.val v
theorem Sl (hC:bq P C) (h:Sat K β S st a w) {t:TypeId} {x:Operand} (ho:o.op=.load t x)
  (he:evalOp C slot st.get (look st.heap) (.load t x)=some e):fk P β S a w o e:=by
 simp only[evalOp]at he;have hx:=h.get x;split at he
 ·rename_i ti bZ
  have dM:=iV (hC t ti bZ);split at he
  ·rename_i b r c hg
   rw[hg]at hx;cases hx with|c hx=>
   generalize eI:a.eval x=av at hx;cases hx with|ptr R hR=>
   split at he
   ·rename_i cells hb
    split at he
    ·rename_i hr
     subst hr;obtain⟨v,hv,rfl⟩:=Option.map_eq_some_iff.1 he;obtain⟨R',h1,h2,_⟩:=h.au b _ hb;rw[hR]at h1;cases h1;obtain⟨u,h3,h4⟩:=qR dM hv h2.2;refine⟨rfl,u,?_,h4⟩;simp only[execOp,ho,Instr.loadAt,eI,Instr.sureAddr,Sem.run_bind,Sem.run_pure,Result.andThen];rw[show R.co+0*R.ai+c=R.co+c by omega,h3]
    ·cases he
   ·rename_i sz rows g fz hb
    split at he
    ·rename_i row da
     obtain⟨v,hv,rfl⟩:=Option.map_eq_some_iff.1 he;obtain⟨R',h1,h2,_⟩:=h.au b _ hb;rw[hR]at h1;cases h1;obtain⟨u,h3,h4⟩:=qR (β:=β) (S:=S) (w:=w) (cb:=R.cb) (co:=R.co+r*R.ai) dM hv (fun j y hy=>by
      obtain⟨t',h5,rfl⟩:=qT hy;obtain⟨v',h6,h7⟩:=h2.2.2.2.2.2.2.1 r j t' (GM da h5);exact⟨v',h6,.t h7⟩)
     refine⟨rfl,u,?_,h4⟩;simp only[execOp,ho,Instr.loadAt,eI,Instr.sureAddr,Sem.run_bind,Sem.run_pure,Result.andThen];rw[h3]
    ·cases he
   ·cases he
  ·rename_i row c hg
   rw[hg]at hx;cases hx with|c hx=>
   generalize eI:a.eval x=av at hx;cases hx with|tp cb co val hR=>
   obtain⟨v,hv,rfl⟩:=Option.map_eq_some_iff.1 he;obtain⟨u,h3,h4⟩:=qR (β:=β) (S:=S) (w:=w) (cb:=cb) (co:=co) dM hv (fun j y hy=>by
    obtain⟨t',h5,rfl⟩:=qT hy;exact⟨val j,(hR j t' h5).2.1,.t (hR j t' h5).2.2⟩)
   refine⟨rfl,u,?_,h4⟩;simp only[execOp,ho,Instr.loadAt,eI,Instr.sureAddr,Sem.run_bind,Sem.run_pure,Result.andThen];rw[h3]
  ·cases he
 ·cases he
theorem OY (hC:bq P C) (h:Sat K β S st a w) {t:TypeId} {x:Operand} {f:Nat} (ho:o.op=.field t x f)
  (he:evalOp C slot st.get (look st.heap) (.field t x f)=some e):fk P β S a w o e:=by
 simp only[evalOp]at he;have hx:=h.get x;split at he
 ·rename_i ti bZ
  have dM:=iV (hC t ti bZ);split at he
  ·rename_i fs hk
   obtain⟨fields,hu,GN⟩:=dM.struct hk;split at he
   ·rename_i off ft hf
    split at he
    ·rename_i tf l Vs hg
     rw[hg]at hx;obtain⟨vs,eI,hlen,pF⟩:=hx.Cr;obtain⟨v,hv,rfl⟩:=Option.map_eq_some_iff.1 he;rw[<-GN,List.getElem?_map]at hf;obtain⟨fl,Ct,Ef⟩:=Option.map_eq_some_iff.1 hf;simp only[Prod.mk.injEq]at Ef;obtain⟨rfl,rfl⟩:=Ef;obtain⟨u,h3,h4⟩:=qS (P:=P) (w:=w) (iV (hC _ tf Vs)) hv hlen pF;refine⟨rfl,u,?_,h4⟩;have Sm:fields[f]?=some fl:=by simpa using Ct
     simp only[execOp,ho,Instr.field,run_underlying hu,Sem.run_bind,Result.andThen,Sm,eI,asAgg,Sem.run_pure,h3]
    ·cases he
   ·cases he
  ·cases he
 ·cases he
theorem EA (hC:bq P C) (h:Sat K β S st a w) {t:TypeId} {x:Operand} {f:Nat} (ho:o.op=.fieldAddr t x f)
  (he:evalOp C slot st.get (look st.heap) (.fieldAddr t x f)=some e):fk P β S a w o e:=by
 simp only[evalOp]at he;have hx:=h.get x;split at he
 ·rename_i ti bZ
  have dM:=iV (hC t ti bZ);split at he
  ·rename_i fs hk
   obtain⟨fields,hu,GN⟩:=dM.struct hk;split at he
   ·rename_i off size hf
    unfold qO at hf;split at hf
    ·rename_i L7 ft O0
     obtain⟨tf,Vs,Vt⟩:=Option.map_eq_some_iff.1 hf;simp only[Prod.mk.injEq]at Vt;obtain⟨rfl,rfl⟩:=Vt;rw[<-GN,List.getElem?_map]at O0;obtain⟨fl,Ct,Ef⟩:=Option.map_eq_some_iff.1 O0;simp only[Prod.mk.injEq]at Ef;obtain⟨rfl,rfl⟩:=Ef;have Sm:fields[f]?=some fl:=by simpa using Ct
     have aal:=iV (hC _ tf Vs);split at he
     ·cases he
     ·rename_i dS
      have cZ:∀b o',a.eval x=.pointer (some ⟨b,o',none⟩)->(execOp a.eval o).run P w=.ok (.value (.pointer (some ⟨b,o'+fl.offset,none⟩))) w:=by
       intro b o' eI;simp only[execOp,ho,Instr.fieldAt,run_underlying hu,Sem.run_bind,Result.andThen,Sm,eI,Instr.sureAddr,Sem.run_pure,fieldPlace,aal.sizeOf,if_neg dS,I0]
      split at he
      ·rename_i b r c hg
       rw[hg]at hx;cases hx with|c hx=>
       generalize eI:a.eval x=av at hx;cases hx with|ptr R hR=>
       cases he;exact⟨rfl,_,cZ _ _ eI,.c (by rw[Nat.add_assoc];exact .ptr R hR)⟩
      ·rename_i row c hg
       rw[hg]at hx;cases hx with|c hx=>
       generalize eI:a.eval x=av at hx;cases hx with|tp cb co val hR=>
       cases he;exact⟨rfl,_,cZ _ _ eI,.c (by rw[Nat.add_assoc];exact .tp cb co val hR)⟩
      ·cases he
    ·cases hf
   ·cases he
  ·cases he
 ·cases he
theorem EB (hC:bq P C) (h:Sat K β S st a w) {t:TypeId} {x i:Operand} (ho:o.op=.indexAddr t x i)
  (he:evalOp C slot st.get (look st.heap) (.indexAddr t x i)=some e):fk P β S a w o e:=by
 simp only[evalOp]at he;have hx:=h.get x;have hi:=h.get i;split at he
 ·rename_i ti n bZ hn
  have dM:=iV (hC t ti bZ);obtain⟨k,Ma,_⟩:=hi.int hn;split at he
  ·rename_i len el hk
   split at he
   ·rename_i te du
    have eE:=iV (hC _ te du);split at he
    ·rename_i hr
     have cZ:∀b o',a.eval x=.pointer (some ⟨b,o',none⟩)->(execOp a.eval o).run P w=.ok (.value (.pointer (some ⟨b,o'+n.toNat*te.size,none⟩))) w:=by
      intro b o' eI;simp only[execOp,ho,Instr.indexAt,Ma,asIntOf,eI,Sem.run_bind,Sem.run_pure,Result.andThen,run_underlying (dM.array hk),Instr.sureAddr,if_pos hr,Sem.run_ite,eE.sizeOf,I0]
     split at he
     ·rename_i b r c hg
      rw[hg]at hx;cases hx with|c hx=>
      generalize eI:a.eval x=av at hx;cases hx with|ptr R hR=>
      cases he;exact⟨rfl,_,cZ _ _ eI,.c (by rw[Nat.add_assoc];exact .ptr R hR)⟩
     ·rename_i row c hg
      rw[hg]at hx;cases hx with|c hx=>
      generalize eI:a.eval x=av at hx;cases hx with|tp cb co val hR=>
      cases he;exact⟨rfl,_,cZ _ _ eI,.c (by rw[Nat.add_assoc];exact .tp cb co val hR)⟩
     ·cases he
    ·cases he
   ·cases he
  ·rename_i el hk
   split at he
   ·rename_i te du
    have eE:=iV (hC _ te du);have cZ:∀b o' (len cap:Nat),0<=n/\n<len->a.eval x=.slice (some ⟨b,o',none⟩) len cap->(execOp a.eval o).run P w=.ok (.value (.pointer (some ⟨b,o'+n.toNat*te.size,none⟩))) w:=by
     intro b o' len cap hr eI;simp only[execOp,ho,Instr.indexAt,Ma,asIntOf,eI,Sem.run_bind,Sem.run_pure,Result.andThen,run_underlying (dM.slice hk),if_pos hr,Sem.run_ite,eE.sizeOf,I0]
    split at he
    ·rename_i b off len cp hg
     rw[hg]at hx;cases hx with|c hx=>
     generalize eI:a.eval x=av at hx;cases hx with|sl R base cap hR h1 h2 h3 h4 h5=>
     split at he
     ·rename_i sz rows g fz hb
      split at he
      ·rename_i hr
       obtain⟨I1,js,hr3⟩:=hr;cases he;obtain⟨R',h6,h7,_⟩:=h.au b _ hb;rw[hR]at h6;cases h6;have dN:R.ai=te.size:=by rw[<-hr3];exact h7.1.symm
       rw[h5 (by omega)]at eI;refine⟨rfl,_,cZ _ _ _ _ ⟨I1,js⟩ eI,.c ?_⟩;have:=dq.ptr (S:=S) (w:=w) (r:=off+n.toNat) (c:=0) R hR;rw[<-dN,Nat.add_assoc,<-Nat.add_mul];exact this
      ·cases he
     ·rename_i cells hb
      split at he
      ·rename_i hr
       obtain⟨I1,js,hr3⟩:=hr;cases he;obtain⟨R',h6,h7,_⟩:=h.au b _ hb;rw[hR]at h6;cases h6;have dN:R.ai=1:=h7.1.2.1;rw[h5 (by omega)]at eI;refine⟨rfl,_,cZ _ _ _ _ ⟨I1,js⟩ eI,.c ?_⟩;have:=dq.ptr (S:=S) (w:=w) (r:=0) (c:=off+n.toNat) R hR;rw[dN,hr3,Nat.mul_one,Nat.mul_one];rw[Nat.zero_mul,Nat.add_zero,<-Nat.add_assoc]at this;exact this
      ·cases he
     ·cases he
    ·rename_i cp rows hg
     rw[hg]at hx;cases hx with|c hx=>
     cases hx with|t hx=>
     generalize eI:a.eval x=av at hx;cases hx with|aa _ _ base cb co ai cap val h1 h2 h3 h4 h5 Q4 h6 h7 h8=>
     split at he
     ·rename_i J4
      split at he
      ·rename_i row da
       split at he
       ·rename_i hl
        cases he;have bG:=uo da;rw[h5 (by rintro rfl;simp at bG)]at eI;have dN:ai=te.size:=by rw[<-hl,h6 row (List.mem_of_getElem? da)]
        refine⟨rfl,_,cZ _ _ _ _ ⟨J4,by omega⟩ eI,.c ?_⟩;have:=dq.tp (β:=β) (S:=S) (w:=w) (row:=row) (c:=0) cb (co+n.toNat*ai) (val n.toNat) (fun j t hj=>
         ⟨(h7 n.toNat j t (GM da hj)).1,(h7 n.toNat j t (GM da hj)).2,h8 n.toNat j t (GM da hj)⟩)
        rw[<-dN];exact this
       ·cases he
      ·cases he
     ·cases he
    ·cases he
   ·cases he
  ·cases he
 ·cases he
theorem J5 (h:Sat K β S st a w) {x:Operand} {i:Nat} (ho:o.op=.extract x i)
  (he:evalOp C slot st.get (look st.heap) (.extract x i)=some e):fk P β S a w o e:=by
 simp only[evalOp]at he;have hx:=h.get x;split at he
 ·rename_i l hg
  rw[hg]at hx;split at he
  ·rename_i v hv
   cases he;generalize eI:a.eval x=av at hx;cases hx with|pD vs val h1 h2 h3=>
   have:=h2 i v hv;refine⟨rfl,val i,?_,h3 i v hv⟩;have LK:vs.toArray[i]?=some (val i):=by simpa using this
   simp only[execOp,ho,Instr.extract,eI,LK,Sem.run_bind,Sem.run_pure,Result.andThen]
  ·cases he
 ·cases he
theorem Mb (h:Sat K β S st a w) {x:Operand} (ho:o.op=.move x∨o.op=.assign x)
  (he:e.val=st.get x) (hw:e.wr=[]):fk P β S a w o e:=by
 refine⟨hw,a.eval x,?_,by rw[he];exact h.get x⟩;rcases ho with ho|ho<;>simp[execOp,ho]
theorem Hd (h:Sat K β S st a w) {x:Operand} (ho:o.op=.nilCheck x)
  (he:evalOp C slot st.get (look st.heap) (.nilCheck x)=some e):fk P β S a w o e:=by
 simp only[evalOp]at he;have hx:=h.get x;split at he
 ·rename_i b r c hg
  cases he;rw[hg]at hx;refine⟨rfl,a.eval x,?_,hx⟩;cases hx with|c hx=>
  generalize eI:a.eval x=av at hx;cases hx with|ptr R hR=>simp[execOp,ho,eI]
 ·rename_i row c hg
  cases he;rw[hg]at hx;refine⟨rfl,a.eval x,?_,hx⟩;cases hx with|c hx=>
  generalize eI:a.eval x=av at hx;cases hx with|tp cb co val hR=>simp[execOp,ho,eI]
 ·cases he
theorem Sn (h:Sat K β S st a w) {c x y:Operand} (ho:o.op=.pick c x y)
  (he:evalOp C slot st.get (look st.heap) (.pick c x y)=some e):fk P β S a w o e:=by
 simp only[evalOp]at he;have hc:=h.get c;split at he
 ·rename_i hb
  cases he;exact⟨rfl,a.eval x,by simp[execOp,ho,hc.bool hb,asBool,Result.andThen],h.get x⟩
 ·rename_i hb
  cases he;exact⟨rfl,a.eval y,by simp[execOp,ho,hc.bool hb,asBool,Result.andThen],h.get y⟩
 ·cases he
end
end Go.Abs
end
