/- A part. -/
import Derived.Test.YtekefilngojelaaGreatM13
set_option maxHeartbeats 0
set_option maxRecDepth 100000
set_option linter.unusedVariables false
set_option linter.unusedSimpArgs false
section
namespace Go.Proofs.YtekefilngojelaaGreat
open Go Go.Abs Go.Abs.M Go.Proofs
theorem oP (z:Int->Int->Bool) (a:Int) (n:Nat):me z a (Int.negSucc n)=z a (Int.negSucc n):=by cases a<;>rfl
def OU (l:List Rat):Prop:=(∀x∈l,Qs x 100)/\l.length<=65/\Wm (l.map qc)
theorem xU {l:List Rat} (h:OU l):aH 125 [.val (tl (ur l))] ⟨[.val (tb true)],[none]⟩:=by
 have:=Dx (l.map qc) true ⟨fun _=>h.2.2,fun _=>rfl⟩ (fun c hc=>by
  obtain⟨x,hx,rfl⟩:=List.mem_map.1 hc;have hq:=h.1 x hx;exact⟨jz _,jz _,by have:=(qP hq).1;omega,by have:=(qP hq).2;omega⟩) (by rw[List.length_map];have:=h.2.1;omega)
 exact this
theorem TG:OU []:=⟨by simp,by simp,by simp[Wm]⟩
def cRs (a0 a1:Int) (U U1:Abs.Rows):List Tree:=[.v (.int .i64 a0),.v (.int .i64 a1),.v (.int .i64 0),.v (.int .i64 0),.v (.int .i64 0),.v (.int .i64 0),.v (.int .i64 0),.v (.int .i64 0),.aa false U,.aa false [],.aa false U1,.aa false [],.aa false [],.aa false [],.aa false [],.aa false [],.aa false []]
theorem DT (a0 a1 n:Int) (U U1:List Rat) (h0:DO a0) (h1:DO a1) (hU:OU U) (W5:OU U1) (hn:2<=n/\n<=4) :
  aH 89 [.val (.agg (cRs a0 a1 (ur U) (ur U1))),.val (ti .i64 n)] ⟨[.val (tb true)],[none,none]⟩:=by
 have cU:=xU hU;have TH:=xU W5;have c0:=xU TG;rw[show ur []=[] from rfl]at c0;have lU:(ur U).length<=65:=by rw[xr];exact hU.2.1
 have lU1:(ur U1).length<=65:=by rw[xr];exact W5.2.1
 generalize ur U=X,ur U1=Y at *;unfold cRs;unfold DO at h0 h1;obtain rfl|rfl|rfl:n=2∨n=3∨n=4:=by omega
 ·refine dE ai mixed [.val] Tryz.func89 rfl rfl (by kernel_rfl) ?_;intros;rename_i zV zX _ _ _ _ _ _ _ zz _ _ _ _ _ _ _ ab _ _ _ _ _ _ _ _ _ _ _ _ _ _ _ _ _ _ _ A L F hS hF
  have z0:zz (ab [])=0:=by rw[hS.az,hS.len];rfl
  have m0:zV 0 (Int.negSucc 999999)=false:=by rw[<-oP zV 0 999999,hS.lt];rfl
  have m1:zV a0 (Int.negSucc 999999)=false:=by rw[<-oP zV a0 999999,hS.lt];exact decide_eq_false (by omega)
  have m2:me zV 1000000 a0=false:=dF (hS.lt ..) (by omega);have m3:me zV a1 (-1000000)=false:=dF (hS.lt ..) (by omega);have m4:me zV 1000000 a1=false:=dF (hS.lt ..) (by omega);have m5:me zV 65 (zz (ab Y))=false:=by rw[hS.lt,hS.az,hS.len];exact decide_eq_false (by omega)
  have m6:sY zX (zz (ab X)) 65=true:=by rw[hS.le,hS.az,hS.len];exact decide_eq_true (by omega)
  cbv at m2 m4 m5 m6;cbv;refine bz ai mixed hS (9) ?_;cbv;repeat (first|apply bT rfl|apply bF rfl|apply nd rfl)
  refine hS.cl c0 ?_;cbv;apply bF rfl;simp only[z0];cbv;repeat (first|apply bT rfl|apply bF rfl|apply nd rfl)
  apply bF m1;apply bF m2;repeat (first|apply bT rfl|apply bF rfl|apply nd rfl)
  cbv;repeat (first|apply bT rfl|apply bF rfl|apply nd rfl)
  refine hS.cl TH ?_;cbv;apply bF rfl;apply bF m5;apply bF m3;apply bF m4;repeat (first|apply bT rfl|apply bF rfl|apply nd rfl)
  cbv;repeat (first|apply bT rfl|apply bF rfl|apply nd rfl)
  refine hS.cl c0 ?_;cbv;apply bF rfl;simp only[z0];cbv;repeat (first|apply bT rfl|apply bF rfl|apply nd rfl)
  apply bF m0;repeat (first|apply bT rfl|apply bF rfl|apply nd rfl)
  cbv;repeat (first|apply bT rfl|apply bF rfl|apply nd rfl)
  refine hS.cl c0 ?_;cbv;apply bF rfl;simp only[z0];cbv;repeat (first|apply bT rfl|apply bF rfl|apply nd rfl)
  apply bF m0;repeat (first|apply bT rfl|apply bF rfl|apply nd rfl)
  cbv;repeat (first|apply bT rfl|apply bF rfl|apply nd rfl)
  refine hS.cl c0 ?_;cbv;apply bF rfl;simp only[z0];cbv;repeat (first|apply bT rfl|apply bF rfl|apply nd rfl)
  apply bF m0;repeat (first|apply bT rfl|apply bF rfl|apply nd rfl)
  cbv;repeat (first|apply bT rfl|apply bF rfl|apply nd rfl)
  refine hS.cl c0 ?_;cbv;apply bF rfl;simp only[z0];cbv;repeat (first|apply bT rfl|apply bF rfl|apply nd rfl)
  apply bF m0;repeat (first|apply bT rfl|apply bF rfl|apply nd rfl)
  cbv;repeat (first|apply bT rfl|apply bF rfl|apply nd rfl)
  refine hS.cl c0 ?_;cbv;apply bF rfl;simp only[z0];cbv;repeat (first|apply bT rfl|apply bF rfl|apply nd rfl)
  apply bF m0;repeat (first|apply bT rfl|apply bF rfl|apply nd rfl)
  cbv;repeat (first|apply bT rfl|apply bF rfl|apply nd rfl)
  refine hS.cl c0 ?_;cbv;apply bF rfl;simp only[z0];cbv;repeat (first|apply bT rfl|apply bF rfl|apply nd rfl)
  apply bF m0;repeat (first|apply bT rfl|apply bF rfl|apply nd rfl)
  cbv;repeat (first|apply bT rfl|apply bF rfl|apply nd rfl)
  refine hS.cl cU ?_;cbv;apply bT rfl;exact bc hF (jf m6)
 ·refine dE ai mixed [.val] Tryz.func89 rfl rfl (by kernel_rfl) ?_;intros;rename_i zV zX _ _ _ _ _ _ _ zz _ _ _ _ _ _ _ ab _ _ _ _ _ _ _ _ _ _ _ _ _ _ _ _ _ _ _ A L F hS hF
  have z0:zz (ab [])=0:=by rw[hS.az,hS.len];rfl
  have m0:zV 0 (Int.negSucc 999999)=false:=by rw[<-oP zV 0 999999,hS.lt];rfl
  have m1:zV a0 (Int.negSucc 999999)=false:=by rw[<-oP zV a0 999999,hS.lt];exact decide_eq_false (by omega)
  have m2:me zV 1000000 a0=false:=dF (hS.lt ..) (by omega);have m3:me zV a1 (-1000000)=false:=dF (hS.lt ..) (by omega);have m4:me zV 1000000 a1=false:=dF (hS.lt ..) (by omega);have m5:me zV 65 (zz (ab Y))=false:=by rw[hS.lt,hS.az,hS.len];exact decide_eq_false (by omega)
  have m6:sY zX (zz (ab X)) 65=true:=by rw[hS.le,hS.az,hS.len];exact decide_eq_true (by omega)
  cbv at m2 m4 m5 m6;cbv;refine bz ai mixed hS (9) ?_;cbv;repeat (first|apply bT rfl|apply bF rfl|apply nd rfl)
  refine hS.cl c0 ?_;cbv;apply bF rfl;simp only[z0];cbv;repeat (first|apply bT rfl|apply bF rfl|apply nd rfl)
  apply bF m1;apply bF m2;repeat (first|apply bT rfl|apply bF rfl|apply nd rfl)
  cbv;repeat (first|apply bT rfl|apply bF rfl|apply nd rfl)
  refine hS.cl TH ?_;cbv;apply bF rfl;apply bF m5;apply bF m3;apply bF m4;repeat (first|apply bT rfl|apply bF rfl|apply nd rfl)
  cbv;repeat (first|apply bT rfl|apply bF rfl|apply nd rfl)
  refine hS.cl c0 ?_;cbv;apply bF rfl;simp only[z0];cbv;repeat (first|apply bT rfl|apply bF rfl|apply nd rfl)
  apply bF m0;repeat (first|apply bT rfl|apply bF rfl|apply nd rfl)
  cbv;repeat (first|apply bT rfl|apply bF rfl|apply nd rfl)
  refine hS.cl c0 ?_;cbv;apply bF rfl;simp only[z0];cbv;repeat (first|apply bT rfl|apply bF rfl|apply nd rfl)
  apply bF m0;repeat (first|apply bT rfl|apply bF rfl|apply nd rfl)
  cbv;repeat (first|apply bT rfl|apply bF rfl|apply nd rfl)
  refine hS.cl c0 ?_;cbv;apply bF rfl;simp only[z0];cbv;repeat (first|apply bT rfl|apply bF rfl|apply nd rfl)
  apply bF m0;repeat (first|apply bT rfl|apply bF rfl|apply nd rfl)
  cbv;repeat (first|apply bT rfl|apply bF rfl|apply nd rfl)
  refine hS.cl c0 ?_;cbv;apply bF rfl;simp only[z0];cbv;repeat (first|apply bT rfl|apply bF rfl|apply nd rfl)
  apply bF m0;repeat (first|apply bT rfl|apply bF rfl|apply nd rfl)
  cbv;repeat (first|apply bT rfl|apply bF rfl|apply nd rfl)
  refine hS.cl c0 ?_;cbv;apply bF rfl;simp only[z0];cbv;repeat (first|apply bT rfl|apply bF rfl|apply nd rfl)
  apply bF m0;repeat (first|apply bT rfl|apply bF rfl|apply nd rfl)
  cbv;repeat (first|apply bT rfl|apply bF rfl|apply nd rfl)
  refine hS.cl c0 ?_;cbv;apply bF rfl;simp only[z0];cbv;repeat (first|apply bT rfl|apply bF rfl|apply nd rfl)
  apply bF m0;repeat (first|apply bT rfl|apply bF rfl|apply nd rfl)
  cbv;repeat (first|apply bT rfl|apply bF rfl|apply nd rfl)
  refine hS.cl cU ?_;cbv;apply bT rfl;exact bc hF (jf m6)
 ·refine dE ai mixed [.val] Tryz.func89 rfl rfl (by kernel_rfl) ?_;intros;rename_i zV zX _ _ _ _ _ _ _ zz _ _ _ _ _ _ _ ab _ _ _ _ _ _ _ _ _ _ _ _ _ _ _ _ _ _ _ A L F hS hF
  have z0:zz (ab [])=0:=by rw[hS.az,hS.len];rfl
  have m0:zV 0 (Int.negSucc 999999)=false:=by rw[<-oP zV 0 999999,hS.lt];rfl
  have m1:zV a0 (Int.negSucc 999999)=false:=by rw[<-oP zV a0 999999,hS.lt];exact decide_eq_false (by omega)
  have m2:me zV 1000000 a0=false:=dF (hS.lt ..) (by omega);have m3:me zV a1 (-1000000)=false:=dF (hS.lt ..) (by omega);have m4:me zV 1000000 a1=false:=dF (hS.lt ..) (by omega);have m5:me zV 65 (zz (ab Y))=false:=by rw[hS.lt,hS.az,hS.len];exact decide_eq_false (by omega)
  have m6:sY zX (zz (ab X)) 65=true:=by rw[hS.le,hS.az,hS.len];exact decide_eq_true (by omega)
  cbv at m2 m4 m5 m6;cbv;refine bz ai mixed hS (9) ?_;cbv;repeat (first|apply bT rfl|apply bF rfl|apply nd rfl)
  refine hS.cl c0 ?_;cbv;apply bF rfl;simp only[z0];cbv;repeat (first|apply bT rfl|apply bF rfl|apply nd rfl)
  apply bF m1;apply bF m2;repeat (first|apply bT rfl|apply bF rfl|apply nd rfl)
  cbv;repeat (first|apply bT rfl|apply bF rfl|apply nd rfl)
  refine hS.cl TH ?_;cbv;apply bF rfl;apply bF m5;apply bF m3;apply bF m4;repeat (first|apply bT rfl|apply bF rfl|apply nd rfl)
  cbv;repeat (first|apply bT rfl|apply bF rfl|apply nd rfl)
  refine hS.cl c0 ?_;cbv;apply bF rfl;simp only[z0];cbv;repeat (first|apply bT rfl|apply bF rfl|apply nd rfl)
  apply bF m0;repeat (first|apply bT rfl|apply bF rfl|apply nd rfl)
  cbv;repeat (first|apply bT rfl|apply bF rfl|apply nd rfl)
  refine hS.cl c0 ?_;cbv;apply bF rfl;simp only[z0];cbv;repeat (first|apply bT rfl|apply bF rfl|apply nd rfl)
  apply bF m0;repeat (first|apply bT rfl|apply bF rfl|apply nd rfl)
  cbv;repeat (first|apply bT rfl|apply bF rfl|apply nd rfl)
  refine hS.cl c0 ?_;cbv;apply bF rfl;simp only[z0];cbv;repeat (first|apply bT rfl|apply bF rfl|apply nd rfl)
  apply bF m0;repeat (first|apply bT rfl|apply bF rfl|apply nd rfl)
  cbv;repeat (first|apply bT rfl|apply bF rfl|apply nd rfl)
  refine hS.cl c0 ?_;cbv;apply bF rfl;simp only[z0];cbv;repeat (first|apply bT rfl|apply bF rfl|apply nd rfl)
  apply bF m0;repeat (first|apply bT rfl|apply bF rfl|apply nd rfl)
  cbv;repeat (first|apply bT rfl|apply bF rfl|apply nd rfl)
  refine hS.cl c0 ?_;cbv;apply bF rfl;simp only[z0];cbv;repeat (first|apply bT rfl|apply bF rfl|apply nd rfl)
  apply bF m0;repeat (first|apply bT rfl|apply bF rfl|apply nd rfl)
  cbv;repeat (first|apply bT rfl|apply bF rfl|apply nd rfl)
  refine hS.cl c0 ?_;cbv;apply bF rfl;simp only[z0];cbv;repeat (first|apply bT rfl|apply bF rfl|apply nd rfl)
  apply bF m0;repeat (first|apply bT rfl|apply bF rfl|apply nd rfl)
  cbv;repeat (first|apply bT rfl|apply bF rfl|apply nd rfl)
  refine hS.cl cU ?_;cbv;apply bT rfl;exact bc hF (jf m6)
end Go.Proofs.YtekefilngojelaaGreat
end
