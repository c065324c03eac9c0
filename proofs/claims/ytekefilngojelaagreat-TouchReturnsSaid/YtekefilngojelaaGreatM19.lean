/- A part of the proof. -/
import Derived.Test.YtekefilngojelaaGreatM16
set_option maxHeartbeats 0
set_option maxRecDepth 100000
set_option linter.unusedVariables false
set_option linter.unusedSimpArgs false
section
namespace Go.Proofs.YtekefilngojelaaGreat
open Go Go.Abs Go.Abs.M Go.Proofs
theorem oJ (z:Int->Int->Bool) (a:Int) (n:Nat):mD z a (Int.negSucc n)=z a (Int.negSucc n):=by cases a<;>rfl
def OU (l:List Rat):Prop:=(∀x∈l,Qs x 100)/\l.length<=65/\WR (l.map qc)
theorem xY {l:List Rat} (h:OU l):ah Tryz.prog 125 [.val (tl (ur l))] ⟨[.val (tb true)],[none]⟩:=by
 have:=Dz (l.map qc) true ⟨fun _=>h.2.2,fun _=>rfl⟩ (fun c hc=>by
  obtain⟨x,hx,rfl⟩:=List.mem_map.1 hc;have hq:=h.1 x hx;exact⟨jo _,jo _,by have:=(qG hq).1;omega,by have:=(qG hq).2;omega⟩) (by rw[List.length_map];have:=h.2.1;omega)
 exact this
theorem Ub:OU []:=⟨by simp,by simp,by simp[WR]⟩
def cRs (a0 a1:Int) (U U1:Abs.Rows):List Tree:=[.v (.int .i64 a0),.v (.int .i64 a1),.v (.int .i64 0),.v (.int .i64 0),.v (.int .i64 0),.v (.int .i64 0),.v (.int .i64 0),.v (.int .i64 0),.aa false U,.aa false [],.aa false U1,.aa false [],.aa false [],.aa false [],.aa false [],.aa false [],.aa false []]
theorem DV (a0 a1 n:Int) (U U1:List Rat) (h0:Eo a0) (h1:Eo a1) (hU:OU U) (OQ:OU U1) (hn:2<=n/\n<=4) :
  ah Tryz.prog 89 [.val (.agg (cRs a0 a1 (ur U) (ur U1))),.val (ti .i64 n)] ⟨[.val (tb true)],[none,none]⟩:=by
 have cU:=xY hU;have Uc:=xY OQ;have c0:=xY Ub;rw[show ur []=[] from rfl]at c0;have lU:(ur U).length<=65:=by rw[tR];exact hU.2.1
 have lU1:(ur U1).length<=65:=by rw[tR];exact OQ.2.1
 generalize ur U=X,ur U1=Y at *;unfold cRs;unfold Eo at h0 h1;obtain rfl|rfl|rfl:n=2∨n=3∨n=4:=by omega
 ·refine dC aj mixed [.val] Tryz.func89 rfl rfl (by kernel_rfl) ?_;intros;rename_i zV zX _ _ _ _ _ _ _ zz _ _ _ _ _ _ _ ab _ _ _ _ _ _ _ _ _ _ _ _ _ _ _ _ _ _ _ A L F hS hF
  have z0:zz (ab [])=0:=by rw[hS.aB,hS.len];rfl
  have m0:zV 0 (Int.negSucc 999999)=false:=by rw[<-oJ zV 0 999999,hS.lt];rfl
  have m1:zV a0 (Int.negSucc 999999)=false:=by rw[<-oJ zV a0 999999,hS.lt];exact decide_eq_false (by omega)
  have m2:mD zV 1000000 a0=false:=by rw[hS.lt];exact decide_eq_false (by omega)
  have m3:mD zV a1 (-1000000)=false:=by rw[hS.lt];exact decide_eq_false (by omega)
  have m4:mD zV 1000000 a1=false:=by rw[hS.lt];exact decide_eq_false (by omega)
  have m5:mD zV 65 (zz (ab Y))=false:=by rw[hS.lt,hS.aB,hS.len];exact decide_eq_false (by omega)
  have m6:sT zX (zz (ab X)) 65=true:=by rw[hS.le,hS.aB,hS.len];exact decide_eq_true (by omega)
  cbv at m2 m4 m5 m6;cbv;refine aU aj mixed hS (9) ?_;cbv;repeat (first|apply bT rfl|apply bF rfl|apply nd rfl)
  refine⟨_,hS.call c0,?_⟩;cbv;refine bF rfl ?_;simp only[z0];cbv;repeat (first|apply bT rfl|apply bF rfl|apply nd rfl)
  refine bF m1 ?_;refine bF m2 ?_;repeat (first|apply bT rfl|apply bF rfl|apply nd rfl)
  cbv;repeat (first|apply bT rfl|apply bF rfl|apply nd rfl)
  refine⟨_,hS.call Uc,?_⟩;cbv;refine bF rfl ?_;refine bF m5 ?_;refine bF m3 ?_;refine bF m4 ?_;repeat (first|apply bT rfl|apply bF rfl|apply nd rfl)
  cbv;repeat (first|apply bT rfl|apply bF rfl|apply nd rfl)
  refine⟨_,hS.call c0,?_⟩;cbv;refine bF rfl ?_;simp only[z0];cbv;repeat (first|apply bT rfl|apply bF rfl|apply nd rfl)
  refine bF m0 ?_;repeat (first|apply bT rfl|apply bF rfl|apply nd rfl)
  cbv;repeat (first|apply bT rfl|apply bF rfl|apply nd rfl)
  refine⟨_,hS.call c0,?_⟩;cbv;refine bF rfl ?_;simp only[z0];cbv;repeat (first|apply bT rfl|apply bF rfl|apply nd rfl)
  refine bF m0 ?_;repeat (first|apply bT rfl|apply bF rfl|apply nd rfl)
  cbv;repeat (first|apply bT rfl|apply bF rfl|apply nd rfl)
  refine⟨_,hS.call c0,?_⟩;cbv;refine bF rfl ?_;simp only[z0];cbv;repeat (first|apply bT rfl|apply bF rfl|apply nd rfl)
  refine bF m0 ?_;repeat (first|apply bT rfl|apply bF rfl|apply nd rfl)
  cbv;repeat (first|apply bT rfl|apply bF rfl|apply nd rfl)
  refine⟨_,hS.call c0,?_⟩;cbv;refine bF rfl ?_;simp only[z0];cbv;repeat (first|apply bT rfl|apply bF rfl|apply nd rfl)
  refine bF m0 ?_;repeat (first|apply bT rfl|apply bF rfl|apply nd rfl)
  cbv;repeat (first|apply bT rfl|apply bF rfl|apply nd rfl)
  refine⟨_,hS.call c0,?_⟩;cbv;refine bF rfl ?_;simp only[z0];cbv;repeat (first|apply bT rfl|apply bF rfl|apply nd rfl)
  refine bF m0 ?_;repeat (first|apply bT rfl|apply bF rfl|apply nd rfl)
  cbv;repeat (first|apply bT rfl|apply bF rfl|apply nd rfl)
  refine⟨_,hS.call c0,?_⟩;cbv;refine bF rfl ?_;simp only[z0];cbv;repeat (first|apply bT rfl|apply bF rfl|apply nd rfl)
  refine bF m0 ?_;repeat (first|apply bT rfl|apply bF rfl|apply nd rfl)
  cbv;repeat (first|apply bT rfl|apply bF rfl|apply nd rfl)
  refine⟨_,hS.call cU,?_⟩;cbv;refine bT rfl ?_;exact bn hF (jz m6)
 ·refine dC aj mixed [.val] Tryz.func89 rfl rfl (by kernel_rfl) ?_;intros;rename_i zV zX _ _ _ _ _ _ _ zz _ _ _ _ _ _ _ ab _ _ _ _ _ _ _ _ _ _ _ _ _ _ _ _ _ _ _ A L F hS hF
  have z0:zz (ab [])=0:=by rw[hS.aB,hS.len];rfl
  have m0:zV 0 (Int.negSucc 999999)=false:=by rw[<-oJ zV 0 999999,hS.lt];rfl
  have m1:zV a0 (Int.negSucc 999999)=false:=by rw[<-oJ zV a0 999999,hS.lt];exact decide_eq_false (by omega)
  have m2:mD zV 1000000 a0=false:=by rw[hS.lt];exact decide_eq_false (by omega)
  have m3:mD zV a1 (-1000000)=false:=by rw[hS.lt];exact decide_eq_false (by omega)
  have m4:mD zV 1000000 a1=false:=by rw[hS.lt];exact decide_eq_false (by omega)
  have m5:mD zV 65 (zz (ab Y))=false:=by rw[hS.lt,hS.aB,hS.len];exact decide_eq_false (by omega)
  have m6:sT zX (zz (ab X)) 65=true:=by rw[hS.le,hS.aB,hS.len];exact decide_eq_true (by omega)
  cbv at m2 m4 m5 m6;cbv;refine aU aj mixed hS (9) ?_;cbv;repeat (first|apply bT rfl|apply bF rfl|apply nd rfl)
  refine⟨_,hS.call c0,?_⟩;cbv;refine bF rfl ?_;simp only[z0];cbv;repeat (first|apply bT rfl|apply bF rfl|apply nd rfl)
  refine bF m1 ?_;refine bF m2 ?_;repeat (first|apply bT rfl|apply bF rfl|apply nd rfl)
  cbv;repeat (first|apply bT rfl|apply bF rfl|apply nd rfl)
  refine⟨_,hS.call Uc,?_⟩;cbv;refine bF rfl ?_;refine bF m5 ?_;refine bF m3 ?_;refine bF m4 ?_;repeat (first|apply bT rfl|apply bF rfl|apply nd rfl)
  cbv;repeat (first|apply bT rfl|apply bF rfl|apply nd rfl)
  refine⟨_,hS.call c0,?_⟩;cbv;refine bF rfl ?_;simp only[z0];cbv;repeat (first|apply bT rfl|apply bF rfl|apply nd rfl)
  refine bF m0 ?_;repeat (first|apply bT rfl|apply bF rfl|apply nd rfl)
  cbv;repeat (first|apply bT rfl|apply bF rfl|apply nd rfl)
  refine⟨_,hS.call c0,?_⟩;cbv;refine bF rfl ?_;simp only[z0];cbv;repeat (first|apply bT rfl|apply bF rfl|apply nd rfl)
  refine bF m0 ?_;repeat (first|apply bT rfl|apply bF rfl|apply nd rfl)
  cbv;repeat (first|apply bT rfl|apply bF rfl|apply nd rfl)
  refine⟨_,hS.call c0,?_⟩;cbv;refine bF rfl ?_;simp only[z0];cbv;repeat (first|apply bT rfl|apply bF rfl|apply nd rfl)
  refine bF m0 ?_;repeat (first|apply bT rfl|apply bF rfl|apply nd rfl)
  cbv;repeat (first|apply bT rfl|apply bF rfl|apply nd rfl)
  refine⟨_,hS.call c0,?_⟩;cbv;refine bF rfl ?_;simp only[z0];cbv;repeat (first|apply bT rfl|apply bF rfl|apply nd rfl)
  refine bF m0 ?_;repeat (first|apply bT rfl|apply bF rfl|apply nd rfl)
  cbv;repeat (first|apply bT rfl|apply bF rfl|apply nd rfl)
  refine⟨_,hS.call c0,?_⟩;cbv;refine bF rfl ?_;simp only[z0];cbv;repeat (first|apply bT rfl|apply bF rfl|apply nd rfl)
  refine bF m0 ?_;repeat (first|apply bT rfl|apply bF rfl|apply nd rfl)
  cbv;repeat (first|apply bT rfl|apply bF rfl|apply nd rfl)
  refine⟨_,hS.call c0,?_⟩;cbv;refine bF rfl ?_;simp only[z0];cbv;repeat (first|apply bT rfl|apply bF rfl|apply nd rfl)
  refine bF m0 ?_;repeat (first|apply bT rfl|apply bF rfl|apply nd rfl)
  cbv;repeat (first|apply bT rfl|apply bF rfl|apply nd rfl)
  refine⟨_,hS.call cU,?_⟩;cbv;refine bT rfl ?_;exact bn hF (jz m6)
 ·refine dC aj mixed [.val] Tryz.func89 rfl rfl (by kernel_rfl) ?_;intros;rename_i zV zX _ _ _ _ _ _ _ zz _ _ _ _ _ _ _ ab _ _ _ _ _ _ _ _ _ _ _ _ _ _ _ _ _ _ _ A L F hS hF
  have z0:zz (ab [])=0:=by rw[hS.aB,hS.len];rfl
  have m0:zV 0 (Int.negSucc 999999)=false:=by rw[<-oJ zV 0 999999,hS.lt];rfl
  have m1:zV a0 (Int.negSucc 999999)=false:=by rw[<-oJ zV a0 999999,hS.lt];exact decide_eq_false (by omega)
  have m2:mD zV 1000000 a0=false:=by rw[hS.lt];exact decide_eq_false (by omega)
  have m3:mD zV a1 (-1000000)=false:=by rw[hS.lt];exact decide_eq_false (by omega)
  have m4:mD zV 1000000 a1=false:=by rw[hS.lt];exact decide_eq_false (by omega)
  have m5:mD zV 65 (zz (ab Y))=false:=by rw[hS.lt,hS.aB,hS.len];exact decide_eq_false (by omega)
  have m6:sT zX (zz (ab X)) 65=true:=by rw[hS.le,hS.aB,hS.len];exact decide_eq_true (by omega)
  cbv at m2 m4 m5 m6;cbv;refine aU aj mixed hS (9) ?_;cbv;repeat (first|apply bT rfl|apply bF rfl|apply nd rfl)
  refine⟨_,hS.call c0,?_⟩;cbv;refine bF rfl ?_;simp only[z0];cbv;repeat (first|apply bT rfl|apply bF rfl|apply nd rfl)
  refine bF m1 ?_;refine bF m2 ?_;repeat (first|apply bT rfl|apply bF rfl|apply nd rfl)
  cbv;repeat (first|apply bT rfl|apply bF rfl|apply nd rfl)
  refine⟨_,hS.call Uc,?_⟩;cbv;refine bF rfl ?_;refine bF m5 ?_;refine bF m3 ?_;refine bF m4 ?_;repeat (first|apply bT rfl|apply bF rfl|apply nd rfl)
  cbv;repeat (first|apply bT rfl|apply bF rfl|apply nd rfl)
  refine⟨_,hS.call c0,?_⟩;cbv;refine bF rfl ?_;simp only[z0];cbv;repeat (first|apply bT rfl|apply bF rfl|apply nd rfl)
  refine bF m0 ?_;repeat (first|apply bT rfl|apply bF rfl|apply nd rfl)
  cbv;repeat (first|apply bT rfl|apply bF rfl|apply nd rfl)
  refine⟨_,hS.call c0,?_⟩;cbv;refine bF rfl ?_;simp only[z0];cbv;repeat (first|apply bT rfl|apply bF rfl|apply nd rfl)
  refine bF m0 ?_;repeat (first|apply bT rfl|apply bF rfl|apply nd rfl)
  cbv;repeat (first|apply bT rfl|apply bF rfl|apply nd rfl)
  refine⟨_,hS.call c0,?_⟩;cbv;refine bF rfl ?_;simp only[z0];cbv;repeat (first|apply bT rfl|apply bF rfl|apply nd rfl)
  refine bF m0 ?_;repeat (first|apply bT rfl|apply bF rfl|apply nd rfl)
  cbv;repeat (first|apply bT rfl|apply bF rfl|apply nd rfl)
  refine⟨_,hS.call c0,?_⟩;cbv;refine bF rfl ?_;simp only[z0];cbv;repeat (first|apply bT rfl|apply bF rfl|apply nd rfl)
  refine bF m0 ?_;repeat (first|apply bT rfl|apply bF rfl|apply nd rfl)
  cbv;repeat (first|apply bT rfl|apply bF rfl|apply nd rfl)
  refine⟨_,hS.call c0,?_⟩;cbv;refine bF rfl ?_;simp only[z0];cbv;repeat (first|apply bT rfl|apply bF rfl|apply nd rfl)
  refine bF m0 ?_;repeat (first|apply bT rfl|apply bF rfl|apply nd rfl)
  cbv;repeat (first|apply bT rfl|apply bF rfl|apply nd rfl)
  refine⟨_,hS.call c0,?_⟩;cbv;refine bF rfl ?_;simp only[z0];cbv;repeat (first|apply bT rfl|apply bF rfl|apply nd rfl)
  refine bF m0 ?_;repeat (first|apply bT rfl|apply bF rfl|apply nd rfl)
  cbv;repeat (first|apply bT rfl|apply bF rfl|apply nd rfl)
  refine⟨_,hS.call cU,?_⟩;cbv;refine bT rfl ?_;exact bn hF (jz m6)
end Go.Proofs.YtekefilngojelaaGreat
end
