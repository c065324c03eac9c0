/- A part. -/
import Derived.Test.YtekefilngojelaaGreatM8
import Derived.Test.YtekefilngojelaaGreatM12
import Derived.Test.YtekefilngojelaaGreatM13
set_option maxHeartbeats 0
set_option maxRecDepth 100000
set_option linter.unusedVariables false
set_option linter.unusedSimpArgs false
section
namespace Go.Proofs.YtekefilngojelaaGreat
open Go Go.Abs Go.Abs.M Go.Proofs
noncomputable def om5:FuncId->List Abs.Mode:=Sy Tryz.prog [(105,[.own 8])]
noncomputable def om6:FuncId->List Abs.Mode:=Sy Tryz.prog []
theorem Gg {f:FuncId} {args:List Arg} {res:ko} (h:rJ Tryz.prog CC om5 300 f (.a args)=some (.a res)):aH f args res:=gV (om:=om5) ai mixed 300 f (.a args) (.a res) h
theorem vS {f:FuncId} {args:List Arg} {res:ko} (h:rJ Tryz.prog CC om6 300 f (.a args)=some (.a res)):aH f args res:=gV (om:=om6) ai mixed 300 f (.a args) (.a res) h
structure Jl (l:List R8):Prop where
 ok:∀x∈l,x.ok
 len:l.length<=24
 val:aH 118 [.val (tl (iE l))] ⟨[.val (tb true)],[none]⟩
theorem sG (l:List R8) (h:Jl l):aH 118 [.val (tl (iE l))] ⟨[.val (tb true)],[none]⟩:=h.val
def mE:List R8:=[]
def qR:List R8:=[⟨1,1,1,1,1,1,1,1⟩]
def gZ:List R8:=[⟨1,1,1,1,1,1,1,1⟩,⟨0,0,0,0,0,0,0,-1⟩,⟨0,0,0,0,0,0,-1,0⟩,⟨0,0,0,0,0,-1,0,0⟩,⟨0,0,0,0,-1,0,0,0⟩,⟨0,0,0,-1,0,0,0,0⟩,⟨0,0,-1,0,0,0,0,0⟩,⟨0,-1,0,0,0,0,0,0⟩]
def xJ:List R8:=[⟨2,3,1,1,1,1,1,1⟩]
def xK:List R8:=[⟨1,1,0,0,0,0,0,0⟩,⟨1,0,2,1,1,1,1,1⟩]
def xL (a b c d:Int):List R8:=⟨a,b,c,d,0,0,0,0⟩::gZ
theorem Qd:Jl mE:=⟨by simp[mE,R8.ok],by simp[mE],vS (by kernel_rfl)⟩
theorem Tz:Jl qR:=⟨by simp[qR,R8.ok],by simp[qR],vS (by kernel_rfl)⟩
theorem DQ:Jl gZ:=⟨by simp[gZ,R8.ok],by simp[gZ],vS (by kernel_rfl)⟩
theorem TA:Jl xJ:=⟨by simp[xJ,R8.ok],by simp[xJ],vS (by kernel_rfl)⟩
theorem TB:Jl xK:=⟨by simp[xK,R8.ok],by simp[xK],vS (by kernel_rfl)⟩
theorem WV:aH 104 [] ⟨[.val (tl (iE mE))],[]⟩:=vS (by kernel_rfl)
theorem WW:aH 105 [] ⟨[.val (tl (iE qR))],[]⟩:=vS (by kernel_rfl)
theorem WX:aH 106 [] ⟨[.val (tl (iE gZ))],[]⟩:=Gg (by kernel_rfl)
theorem Rn {a b c d:Int} (ha:0<=a/\a<=1) (hb:0<=b/\b<=1) (hc:0<=c/\c<=1) (hd:0<=d/\d<=1):(∀x∈xL a b c d,x.ok)/\(xL a b c d).length<=24:=by
 refine⟨fun x hx=>?_,by simp[xL,gZ]⟩;rcases List.mem_cons.1 hx with rfl|hx
 ·refine⟨⟨?_,?_⟩,⟨?_,?_⟩,⟨?_,?_⟩,⟨?_,?_⟩,⟨?_,?_⟩,⟨?_,?_⟩,⟨?_,?_⟩,?_,?_⟩<;>simp only<;>omega
 ·exact DQ.ok x hx
theorem NA (m:Int) (h0:0<=m) (h1:m<16):∃l,Jl l/\aH 107 [.val (ti .u8 m)] ⟨[.val (tl (iE l))],[none]⟩:=by
 have el:∀a b c d:Int,0<=a/\a<=1->0<=b/\b<=1->0<=c/\c<=1->0<=d/\d<=1->aH 118 [.val (tl (iE (xL a b c d)))] ⟨[.val (tb true)],[none]⟩->Jl (xL a b c d):=fun a b c d ha hb hc hd h=>⟨(Rn ha hb hc hd).1,(Rn ha hb hc hd).2,h⟩
 obtain rfl|rfl|rfl|rfl|rfl|rfl|rfl|rfl|rfl|rfl|rfl|rfl|rfl|rfl|rfl|rfl:m=0∨m=1∨m=2∨m=3∨m=4∨m=5∨m=6∨m=7∨m=8∨m=9∨m=10∨m=11∨m=12∨m=13∨m=14∨m=15:=by omega
 ·as_aux_lemma=>exact⟨_,el 0 0 0 0 (by decide) (by decide) (by decide) (by decide) (vS (by kernel_rfl)),Gg (by kernel_rfl)⟩
 ·as_aux_lemma=>exact⟨_,el 1 0 0 0 (by decide) (by decide) (by decide) (by decide) (vS (by kernel_rfl)),Gg (by kernel_rfl)⟩
 ·as_aux_lemma=>exact⟨_,el 0 1 0 0 (by decide) (by decide) (by decide) (by decide) (vS (by kernel_rfl)),Gg (by kernel_rfl)⟩
 ·as_aux_lemma=>exact⟨_,el 1 1 0 0 (by decide) (by decide) (by decide) (by decide) (vS (by kernel_rfl)),Gg (by kernel_rfl)⟩
 ·as_aux_lemma=>exact⟨_,el 0 0 1 0 (by decide) (by decide) (by decide) (by decide) (vS (by kernel_rfl)),Gg (by kernel_rfl)⟩
 ·as_aux_lemma=>exact⟨_,el 1 0 1 0 (by decide) (by decide) (by decide) (by decide) (vS (by kernel_rfl)),Gg (by kernel_rfl)⟩
 ·as_aux_lemma=>exact⟨_,el 0 1 1 0 (by decide) (by decide) (by decide) (by decide) (vS (by kernel_rfl)),Gg (by kernel_rfl)⟩
 ·as_aux_lemma=>exact⟨_,el 1 1 1 0 (by decide) (by decide) (by decide) (by decide) (vS (by kernel_rfl)),Gg (by kernel_rfl)⟩
 ·as_aux_lemma=>exact⟨_,el 0 0 0 1 (by decide) (by decide) (by decide) (by decide) (vS (by kernel_rfl)),Gg (by kernel_rfl)⟩
 ·as_aux_lemma=>exact⟨_,el 1 0 0 1 (by decide) (by decide) (by decide) (by decide) (vS (by kernel_rfl)),Gg (by kernel_rfl)⟩
 ·as_aux_lemma=>exact⟨_,el 0 1 0 1 (by decide) (by decide) (by decide) (by decide) (vS (by kernel_rfl)),Gg (by kernel_rfl)⟩
 ·as_aux_lemma=>exact⟨_,el 1 1 0 1 (by decide) (by decide) (by decide) (by decide) (vS (by kernel_rfl)),Gg (by kernel_rfl)⟩
 ·as_aux_lemma=>exact⟨_,el 0 0 1 1 (by decide) (by decide) (by decide) (by decide) (vS (by kernel_rfl)),Gg (by kernel_rfl)⟩
 ·as_aux_lemma=>exact⟨_,el 1 0 1 1 (by decide) (by decide) (by decide) (by decide) (vS (by kernel_rfl)),Gg (by kernel_rfl)⟩
 ·as_aux_lemma=>exact⟨_,el 0 1 1 1 (by decide) (by decide) (by decide) (by decide) (vS (by kernel_rfl)),Gg (by kernel_rfl)⟩
 ·as_aux_lemma=>exact⟨_,el 1 1 1 1 (by decide) (by decide) (by decide) (by decide) (vS (by kernel_rfl)),Gg (by kernel_rfl)⟩
end Go.Proofs.YtekefilngojelaaGreat
end
