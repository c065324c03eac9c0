/-
  A part of the proof: TvK3t.
-/
import Derived.Test.YtekefilngojelaaGreatM8
import Derived.Test.YtekefilngojelaaGreatM15
import Derived.Test.YtekefilngojelaaGreatM16
set_option maxHeartbeats 0
set_option maxRecDepth 100000
set_option linter.unusedVariables false
set_option linter.unusedSimpArgs false
set_option linter.unusedSectionVars false
section
namespace Go.Proofs.YtekefilngojelaaGreat
open Go Go.Abs Go.Abs.M Go.Proofs
noncomputable def om5:FuncId->List Abs.Mode:=Py Tryz.prog [(105,[.own 8])]
noncomputable def om6:FuncId->List Abs.Mode:=Py Tryz.prog []
theorem D0 {f:FuncId} {args:List Arg} {res:lJ} (h:qK Tryz.prog CC om5 300 f (.a args)=some (.a res)):aA Tryz.prog f args res:=fZ (om:=om5) aD mixed 300 f (.a args) (.a res) h
theorem wz {f:FuncId} {args:List Arg} {res:lJ} (h:qK Tryz.prog CC om6 300 f (.a args)=some (.a res)):aA Tryz.prog f args res:=fZ (om:=om6) aD mixed 300 f (.a args) (.a res) h
structure BG (l:List R8):Prop where
 ok:∀x∈l,x.ok
 len:l.length<=24
 val:aA Tryz.prog 118 [.val (tl (iq l))] ⟨[.val (tb true)],[none]⟩
def kQ:List R8:=[]
def pO:List R8:=[⟨1,1,1,1,1,1,1,1⟩]
def gj:List R8:=[⟨1,1,1,1,1,1,1,1⟩,⟨0,0,0,0,0,0,0,-1⟩,⟨0,0,0,0,0,0,-1,0⟩,⟨0,0,0,0,0,-1,0,0⟩,⟨0,0,0,0,-1,0,0,0⟩,⟨0,0,0,-1,0,0,0,0⟩,⟨0,0,-1,0,0,0,0,0⟩,⟨0,-1,0,0,0,0,0,0⟩]
def wA:List R8:=[⟨2,3,1,1,1,1,1,1⟩]
def wC:List R8:=[⟨1,1,0,0,0,0,0,0⟩,⟨1,0,2,1,1,1,1,1⟩]
def wD (a b c d:Int):List R8:=⟨a,b,c,d,0,0,0,0⟩::gj
theorem Nh:BG kQ:=⟨by simp[kQ,R8.ok],by simp[kQ],wz (by kernel_rfl)⟩
theorem Qr:BG pO:=⟨by simp[pO,R8.ok],by simp[pO],wz (by kernel_rfl)⟩
theorem BH:BG gj:=⟨by simp[gj,R8.ok],by simp[gj],wz (by kernel_rfl)⟩
theorem Qt:BG wA:=⟨by simp[wA,R8.ok],by simp[wA],wz (by kernel_rfl)⟩
theorem Qu:BG wC:=⟨by simp[wC,R8.ok],by simp[wC],wz (by kernel_rfl)⟩
theorem T3:aA Tryz.prog 104 [] ⟨[.val (tl (iq kQ))],[]⟩:=wz (by kernel_rfl)
theorem T4:aA Tryz.prog 105 [] ⟨[.val (tl (iq pO))],[]⟩:=wz (by kernel_rfl)
theorem T5:aA Tryz.prog 106 [] ⟨[.val (tl (iq gj))],[]⟩:=D0 (by kernel_rfl)
theorem Oj {a b c d:Int} (ha:0<=a/\a<=1) (hb:0<=b/\b<=1) (hc:0<=c/\c<=1) (hd:0<=d/\d<=1):(∀x∈wD a b c d,x.ok)/\(wD a b c d).length<=24:=by
 refine⟨fun x hx=>?_,by simp[wD,gj]⟩;rcases List.mem_cons.1 hx with rfl|hx
 ·refine⟨⟨?_,?_⟩,⟨?_,?_⟩,⟨?_,?_⟩,⟨?_,?_⟩,⟨?_,?_⟩,⟨?_,?_⟩,⟨?_,?_⟩,?_,?_⟩<;>simp only<;>omega
 ·exact BH.ok x hx
theorem K5 (m:Int) (h0:0<=m) (h1:m<16):∃l,BG l/\aA Tryz.prog 107 [.val (ti .u8 m)] ⟨[.val (tl (iq l))],[none]⟩:=by
 have el:∀a b c d:Int,0<=a/\a<=1->0<=b/\b<=1->0<=c/\c<=1->0<=d/\d<=1->aA Tryz.prog 118 [.val (tl (iq (wD a b c d)))] ⟨[.val (tb true)],[none]⟩->BG (wD a b c d):=fun a b c d ha hb hc hd h=>⟨(Oj ha hb hc hd).1,(Oj ha hb hc hd).2,h⟩
 obtain rfl|rfl|rfl|rfl|rfl|rfl|rfl|rfl|rfl|rfl|rfl|rfl|rfl|rfl|rfl|rfl:m=0∨m=1∨m=2∨m=3∨m=4∨m=5∨m=6∨m=7∨m=8∨m=9∨m=10∨m=11∨m=12∨m=13∨m=14∨m=15:=by omega
 ·as_aux_lemma=>exact⟨_,el 0 0 0 0 (by decide) (by decide) (by decide) (by decide) (wz (by kernel_rfl)),D0 (by kernel_rfl)⟩
 ·as_aux_lemma=>exact⟨_,el 1 0 0 0 (by decide) (by decide) (by decide) (by decide) (wz (by kernel_rfl)),D0 (by kernel_rfl)⟩
 ·as_aux_lemma=>exact⟨_,el 0 1 0 0 (by decide) (by decide) (by decide) (by decide) (wz (by kernel_rfl)),D0 (by kernel_rfl)⟩
 ·as_aux_lemma=>exact⟨_,el 1 1 0 0 (by decide) (by decide) (by decide) (by decide) (wz (by kernel_rfl)),D0 (by kernel_rfl)⟩
 ·as_aux_lemma=>exact⟨_,el 0 0 1 0 (by decide) (by decide) (by decide) (by decide) (wz (by kernel_rfl)),D0 (by kernel_rfl)⟩
 ·as_aux_lemma=>exact⟨_,el 1 0 1 0 (by decide) (by decide) (by decide) (by decide) (wz (by kernel_rfl)),D0 (by kernel_rfl)⟩
 ·as_aux_lemma=>exact⟨_,el 0 1 1 0 (by decide) (by decide) (by decide) (by decide) (wz (by kernel_rfl)),D0 (by kernel_rfl)⟩
 ·as_aux_lemma=>exact⟨_,el 1 1 1 0 (by decide) (by decide) (by decide) (by decide) (wz (by kernel_rfl)),D0 (by kernel_rfl)⟩
 ·as_aux_lemma=>exact⟨_,el 0 0 0 1 (by decide) (by decide) (by decide) (by decide) (wz (by kernel_rfl)),D0 (by kernel_rfl)⟩
 ·as_aux_lemma=>exact⟨_,el 1 0 0 1 (by decide) (by decide) (by decide) (by decide) (wz (by kernel_rfl)),D0 (by kernel_rfl)⟩
 ·as_aux_lemma=>exact⟨_,el 0 1 0 1 (by decide) (by decide) (by decide) (by decide) (wz (by kernel_rfl)),D0 (by kernel_rfl)⟩
 ·as_aux_lemma=>exact⟨_,el 1 1 0 1 (by decide) (by decide) (by decide) (by decide) (wz (by kernel_rfl)),D0 (by kernel_rfl)⟩
 ·as_aux_lemma=>exact⟨_,el 0 0 1 1 (by decide) (by decide) (by decide) (by decide) (wz (by kernel_rfl)),D0 (by kernel_rfl)⟩
 ·as_aux_lemma=>exact⟨_,el 1 0 1 1 (by decide) (by decide) (by decide) (by decide) (wz (by kernel_rfl)),D0 (by kernel_rfl)⟩
 ·as_aux_lemma=>exact⟨_,el 0 1 1 1 (by decide) (by decide) (by decide) (by decide) (wz (by kernel_rfl)),D0 (by kernel_rfl)⟩
 ·as_aux_lemma=>exact⟨_,el 1 1 1 1 (by decide) (by decide) (by decide) (by decide) (wz (by kernel_rfl)),D0 (by kernel_rfl)⟩
end Go.Proofs.YtekefilngojelaaGreat
end
