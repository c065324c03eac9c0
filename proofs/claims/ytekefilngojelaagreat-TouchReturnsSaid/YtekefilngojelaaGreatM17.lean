/- A part of the proof. -/
import Derived.Test.YtekefilngojelaaGreatM8
import Derived.Test.YtekefilngojelaaGreatM15
import Derived.Test.YtekefilngojelaaGreatM16
set_option maxHeartbeats 0
set_option maxRecDepth 100000
set_option linter.unusedVariables false
set_option linter.unusedSimpArgs false
section
namespace Go.Proofs.YtekefilngojelaaGreat
open Go Go.Abs Go.Abs.M Go.Proofs
noncomputable def om5:FuncId->List Abs.Mode:=S5 Tryz.prog [(105,[.own 8])]
noncomputable def om6:FuncId->List Abs.Mode:=S5 Tryz.prog []
theorem Gy {f:FuncId} {args:List Arg} {res:mB} (h:rC Tryz.prog CC om5 300 f (.a args)=some (.a res)):ah Tryz.prog f args res:=gM (om:=om5) aj mixed 300 f (.a args) (.a res) h
theorem vX {f:FuncId} {args:List Arg} {res:mB} (h:rC Tryz.prog CC om6 300 f (.a args)=some (.a res)):ah Tryz.prog f args res:=gM (om:=om6) aj mixed 300 f (.a args) (.a res) h
structure JL (l:List R8):Prop where
 ok:∀x∈l,x.ok
 len:l.length<=24
 val:ah Tryz.prog 118 [.val (tl (gD l))] ⟨[.val (tb true)],[none]⟩
theorem sw (l:List R8) (h:JL l):ah Tryz.prog 118 [.val (tl (gD l))] ⟨[.val (tb true)],[none]⟩:=h.val
def mm:List R8:=[]
def qJ:List R8:=[⟨1,1,1,1,1,1,1,1⟩]
def gR:List R8:=[⟨1,1,1,1,1,1,1,1⟩,⟨0,0,0,0,0,0,0,-1⟩,⟨0,0,0,0,0,0,-1,0⟩,⟨0,0,0,0,0,-1,0,0⟩,⟨0,0,0,0,-1,0,0,0⟩,⟨0,0,0,-1,0,0,0,0⟩,⟨0,0,-1,0,0,0,0,0⟩,⟨0,-1,0,0,0,0,0,0⟩]
def xO:List R8:=[⟨2,3,1,1,1,1,1,1⟩]
def xP:List R8:=[⟨1,1,0,0,0,0,0,0⟩,⟨1,0,2,1,1,1,1,1⟩]
def xQ (a b c d:Int):List R8:=⟨a,b,c,d,0,0,0,0⟩::gR
theorem Qw:JL mm:=⟨by simp[mm,R8.ok],by simp[mm],vX (by kernel_rfl)⟩
theorem T4:JL qJ:=⟨by simp[qJ,R8.ok],by simp[qJ],vX (by kernel_rfl)⟩
theorem DS:JL gR:=⟨by simp[gR,R8.ok],by simp[gR],vX (by kernel_rfl)⟩
theorem T5:JL xO:=⟨by simp[xO,R8.ok],by simp[xO],vX (by kernel_rfl)⟩
theorem T6:JL xP:=⟨by simp[xP,R8.ok],by simp[xP],vX (by kernel_rfl)⟩
theorem Xv:ah Tryz.prog 104 [] ⟨[.val (tl (gD mm))],[]⟩:=vX (by kernel_rfl)
theorem Xw:ah Tryz.prog 105 [] ⟨[.val (tl (gD qJ))],[]⟩:=vX (by kernel_rfl)
theorem Xy:ah Tryz.prog 106 [] ⟨[.val (tl (gD gR))],[]⟩:=Gy (by kernel_rfl)
theorem RQ {a b c d:Int} (ha:0<=a/\a<=1) (hb:0<=b/\b<=1) (hc:0<=c/\c<=1) (hd:0<=d/\d<=1):(∀x∈xQ a b c d,x.ok)/\(xQ a b c d).length<=24:=by
 refine⟨fun x hx=>?_,by simp[xQ,gR]⟩;rcases List.mem_cons.1 hx with rfl|hx
 ·refine⟨⟨?_,?_⟩,⟨?_,?_⟩,⟨?_,?_⟩,⟨?_,?_⟩,⟨?_,?_⟩,⟨?_,?_⟩,⟨?_,?_⟩,?_,?_⟩<;>simp only<;>omega
 ·exact DS.ok x hx
theorem NY (m:Int) (h0:0<=m) (h1:m<16):∃l,JL l/\ah Tryz.prog 107 [.val (ti .u8 m)] ⟨[.val (tl (gD l))],[none]⟩:=by
 have el:∀a b c d:Int,0<=a/\a<=1->0<=b/\b<=1->0<=c/\c<=1->0<=d/\d<=1->ah Tryz.prog 118 [.val (tl (gD (xQ a b c d)))] ⟨[.val (tb true)],[none]⟩->JL (xQ a b c d):=fun a b c d ha hb hc hd h=>⟨(RQ ha hb hc hd).1,(RQ ha hb hc hd).2,h⟩
 obtain rfl|rfl|rfl|rfl|rfl|rfl|rfl|rfl|rfl|rfl|rfl|rfl|rfl|rfl|rfl|rfl:m=0∨m=1∨m=2∨m=3∨m=4∨m=5∨m=6∨m=7∨m=8∨m=9∨m=10∨m=11∨m=12∨m=13∨m=14∨m=15:=by omega
 ·as_aux_lemma=>exact⟨_,el 0 0 0 0 (by decide) (by decide) (by decide) (by decide) (vX (by kernel_rfl)),Gy (by kernel_rfl)⟩
 ·as_aux_lemma=>exact⟨_,el 1 0 0 0 (by decide) (by decide) (by decide) (by decide) (vX (by kernel_rfl)),Gy (by kernel_rfl)⟩
 ·as_aux_lemma=>exact⟨_,el 0 1 0 0 (by decide) (by decide) (by decide) (by decide) (vX (by kernel_rfl)),Gy (by kernel_rfl)⟩
 ·as_aux_lemma=>exact⟨_,el 1 1 0 0 (by decide) (by decide) (by decide) (by decide) (vX (by kernel_rfl)),Gy (by kernel_rfl)⟩
 ·as_aux_lemma=>exact⟨_,el 0 0 1 0 (by decide) (by decide) (by decide) (by decide) (vX (by kernel_rfl)),Gy (by kernel_rfl)⟩
 ·as_aux_lemma=>exact⟨_,el 1 0 1 0 (by decide) (by decide) (by decide) (by decide) (vX (by kernel_rfl)),Gy (by kernel_rfl)⟩
 ·as_aux_lemma=>exact⟨_,el 0 1 1 0 (by decide) (by decide) (by decide) (by decide) (vX (by kernel_rfl)),Gy (by kernel_rfl)⟩
 ·as_aux_lemma=>exact⟨_,el 1 1 1 0 (by decide) (by decide) (by decide) (by decide) (vX (by kernel_rfl)),Gy (by kernel_rfl)⟩
 ·as_aux_lemma=>exact⟨_,el 0 0 0 1 (by decide) (by decide) (by decide) (by decide) (vX (by kernel_rfl)),Gy (by kernel_rfl)⟩
 ·as_aux_lemma=>exact⟨_,el 1 0 0 1 (by decide) (by decide) (by decide) (by decide) (vX (by kernel_rfl)),Gy (by kernel_rfl)⟩
 ·as_aux_lemma=>exact⟨_,el 0 1 0 1 (by decide) (by decide) (by decide) (by decide) (vX (by kernel_rfl)),Gy (by kernel_rfl)⟩
 ·as_aux_lemma=>exact⟨_,el 1 1 0 1 (by decide) (by decide) (by decide) (by decide) (vX (by kernel_rfl)),Gy (by kernel_rfl)⟩
 ·as_aux_lemma=>exact⟨_,el 0 0 1 1 (by decide) (by decide) (by decide) (by decide) (vX (by kernel_rfl)),Gy (by kernel_rfl)⟩
 ·as_aux_lemma=>exact⟨_,el 1 0 1 1 (by decide) (by decide) (by decide) (by decide) (vX (by kernel_rfl)),Gy (by kernel_rfl)⟩
 ·as_aux_lemma=>exact⟨_,el 0 1 1 1 (by decide) (by decide) (by decide) (by decide) (vX (by kernel_rfl)),Gy (by kernel_rfl)⟩
 ·as_aux_lemma=>exact⟨_,el 1 1 1 1 (by decide) (by decide) (by decide) (by decide) (vX (by kernel_rfl)),Gy (by kernel_rfl)⟩
end Go.Proofs.YtekefilngojelaaGreat
end
