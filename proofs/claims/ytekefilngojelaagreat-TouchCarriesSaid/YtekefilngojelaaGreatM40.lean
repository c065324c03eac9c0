/- A part. -/
import Derived.Test.YtekefilngojelaaGreatM15
import Derived.Test.YtekefilngojelaaGreatM22
import Derived.Test.YtekefilngojelaaGreatM37
set_option maxHeartbeats 0
set_option maxRecDepth 100000
set_option linter.unusedVariables false
set_option linter.unusedSimpArgs false
section
namespace Go.Proofs.YtekefilngojelaaGreat
open Go Go.Abs Go.Abs.M Go.Proofs
theorem It (x1 x2 x3 y1:Tree) (XE XD Xc XC Yc YC XP XO Xx Xy LK N5:Abs.Rows) (ka kb kc kd k M1 M:Int) (q:jJ)
  (c0:aH 7 [] ⟨[.val (tb true)],[]⟩)
  (cM:aH 9 [.val (.agg [x1,x2,x3])] ⟨[.val (.agg (fT 2 (.aa false XE) (.aa false XD) k (.aa false Xc) (.aa false XC) q))],[none]⟩)
  (cH:aH 8 [.val (.agg (fT 2 (.aa false XE) (.aa false XD) k (.aa false Xc) (.aa false XC) q)),.val (ti .u8 kc)] ⟨[.val (.agg (fT 2 (.aa false XE) (.aa false XD) k (.aa false Yc) (.aa false YC) q))],[none,none]⟩)
  (cP:aH 11 [.val (.agg [y1]),.val (ti .i64 2),.val (ti .i64 2),.val (ti .i64 3)] ⟨[.val (tl XP)],[none,none,none,none]⟩)
  (cC:aH 10 [.val (.agg [.v (.int .i64 2),.aa false XE,.aa false XD]),.val (ti .u8 ka),.val (ti .u8 kb),.val (tl XP)] ⟨[.val (.agg [.v (.int .i64 M1),.aa false Xx,.aa false Xy])],[none,none,none,none]⟩)
  (cX:aH 19 [.val (ti .i64 0)] ⟨[.val (tl XO)],[none]⟩)
  (cD:aH 10 [.val (.agg [.v (.int .i64 M1),.aa false Xx,.aa false Xy]),.val (ti .u8 kd),.val (ti .u8 kb),.val (tl XO)] ⟨[.val (.agg [.v (.int .i64 M),.aa false LK,.aa false N5])],[none,none,none,none]⟩)
  (cG:aH 14 [.val (.agg (fT 2 (.aa false XE) (.aa false XD) k (.aa false Yc) (.aa false YC) q)),.val (.agg [.v (.int .i64 M),.aa false LK,.aa false N5])] ⟨[.val (.agg (fT 0 (.aa false []) (.aa false []) 0 (.aa false []) (.aa false []) kE)),.val (tb false)],[none,none]⟩)
  (cW:aH 17 [.val (.agg (fT 2 (.aa false XE) (.aa false XD) k (.aa false Yc) (.aa false YC) q)),.val (.agg [.v (.int .i64 M),.aa false LK,.aa false N5])] ⟨[.val (tb true)],[none,none]⟩) :
  aH 4 [.val (.agg [x1,x2,x3]),.val (.agg [.v (.int .u8 ka),.v (.int .u8 kb),.v (.int .u8 kc),.v (.int .u8 kd)]),.val (.agg [y1])] ⟨[.val (tb true)],[none,none,none]⟩:=by
 unfold fT at *;unfold kE at cG;refine fb ai mixed [.val] Tryz.func4 rfl rfl (by kernel_rfl) ?_;intros;rename_i A L F hS hF;cbv;repeat (first|exact aC hF|apply bT rfl|apply bF rfl|apply nd rfl|(apply tT rfl;cbv)|(apply tF rfl;cbv)|(refine hS.cl c0 ?_;cbv)|(refine hS.cl cM ?_;cbv)|(refine hS.cl cH ?_;cbv)|(refine hS.cl cP ?_;cbv)|(refine hS.cl cC ?_;cbv)|(refine hS.cl cX ?_;cbv)|(refine hS.cl cD ?_;cbv)|(refine hS.cl cG ?_;cbv)|(refine hS.cl cW ?_;cbv))
theorem Gu (x1 x2 x3 y1:Tree) (XE XD Xc XC Yc YC XP XO Xx Xy LK N5:Abs.Rows) (ka kb kc kd k M1 M:Int) (q:jJ) (Zc ZC XS XT BK BC:Abs.Rows) (bs:Bool) (sK sC:ByteArray)
  (c0:aH 7 [] ⟨[.val (tb true)],[]⟩)
  (cM:aH 9 [.val (.agg [x1,x2,x3])] ⟨[.val (.agg (fT 2 (.aa false XE) (.aa false XD) k (.aa false Xc) (.aa false XC) q))],[none]⟩)
  (cH:aH 8 [.val (.agg (fT 2 (.aa false XE) (.aa false XD) k (.aa false Xc) (.aa false XC) q)),.val (ti .u8 kc)] ⟨[.val (.agg (fT 2 (.aa false XE) (.aa false XD) k (.aa false Yc) (.aa false YC) q))],[none,none]⟩)
  (cP:aH 11 [.val (.agg [y1]),.val (ti .i64 2),.val (ti .i64 2),.val (ti .i64 3)] ⟨[.val (tl XP)],[none,none,none,none]⟩)
  (cC:aH 10 [.val (.agg [.v (.int .i64 2),.aa false XE,.aa false XD]),.val (ti .u8 ka),.val (ti .u8 kb),.val (tl XP)] ⟨[.val (.agg [.v (.int .i64 M1),.aa false Xx,.aa false Xy])],[none,none,none,none]⟩)
  (cX:aH 19 [.val (ti .i64 0)] ⟨[.val (tl XO)],[none]⟩)
  (cD:aH 10 [.val (.agg [.v (.int .i64 M1),.aa false Xx,.aa false Xy]),.val (ti .u8 kd),.val (ti .u8 kb),.val (tl XO)] ⟨[.val (.agg [.v (.int .i64 M),.aa false LK,.aa false N5])],[none,none,none,none]⟩)
  (cG:aH 14 [.val (.agg (fT 2 (.aa false XE) (.aa false XD) k (.aa false Yc) (.aa false YC) q)),.val (.agg [.v (.int .i64 M),.aa false LK,.aa false N5])] ⟨[.val (.agg (fT M (.aa false LK) (.aa false N5) k (.aa false Zc) (.aa false ZC) q)),.val (tb true)],[none,none]⟩)
  (cW:aH 17 [.val (.agg (fT 2 (.aa false XE) (.aa false XD) k (.aa false Yc) (.aa false YC) q)),.val (.agg [.v (.int .i64 M),.aa false LK,.aa false N5])] ⟨[.val (tb false)],[none,none]⟩)
  (cF:aH 20 [.val (.agg (fT M (.aa false LK) (.aa false N5) k (.aa false Zc) (.aa false ZC) q))] ⟨[.val (tb true)],[none]⟩)
  (cS:aH 21 [.val (.agg (fT 2 (.aa false XE) (.aa false XD) k (.aa false Yc) (.aa false YC) q))] ⟨[.val (tl XS)],[none]⟩)
  (cU:aH 21 [.val (.agg (fT M (.aa false LK) (.aa false N5) k (.aa false Zc) (.aa false ZC) q))] ⟨[.val (tl XT)],[none]⟩)
  (cK:aH 22 [.own 1 [],.val (.agg [.v (.int .i64 M),.aa false LK,.aa false N5])] ⟨[.own 1 BK],[none,none]⟩)
  (cL:aH 23 [.own 1 [],.val (.agg (cT k q))] ⟨[.own 1 BC],[none,none]⟩)
  (cQ:aH 24 [.val (tl XS),.val (tl XT)] ⟨[.val (tb bs)],[none,none]⟩)
  (hb:XE=[]∨LK=[]∨bs=true) (hK:ZI.cJ.str BK=some sK) (hC:ZI.cJ.str BC=some sC) :
  aH 4 [.val (.agg [x1,x2,x3]),.val (.agg [.v (.int .u8 ka),.v (.int .u8 kb),.v (.int .u8 kc),.v (.int .u8 kd)]),.val (.agg [y1])] ⟨[.val (tb true)],[none,none,none]⟩:=by
 unfold fT cT at *;rcases hb with rfl|rfl|rfl
 all_goals
  as_aux_lemma=>
   refine dE ai mixed [.val] Tryz.func4 rfl rfl (by kernel_rfl) ?_;intros;rename_i zT _ _ _ _ _ _ _ _ _ _ zz _ _ _ _ _ _ _ ab _ _ _ _ _ _ _ _ _ _ _ _ _ _ _ bY _ _ _ A L F hS hF;obtain⟨p1,r1⟩:=hS.whole (r:=BK) (len:=ab BK) (hS.len _);obtain⟨p2,r2⟩:=hS.whole (r:=BC) (len:=ab BC) (hS.len _);have u1:bY BK=some sK:=by rw[hS.str];exact hK
   have u2:bY BC=some sC:=by rw[hS.str];exact hC
   have z0:fA zT (zz (ab [])) 0=true:=by rw[hS.eq,hS.az,hS.len];rfl
   obtain⟨v1,Al⟩:=aq (Value.string sK);obtain⟨v2,EE⟩:=aq (Value.string sC);clear hK hC;refine dJ ?_;cbv;repeat' (first|exact aC hF|apply bT rfl|apply bF rfl|apply nd rfl|(apply tT rfl;cbv)|(apply tF rfl;cbv)|(refine hS.cl c0 ?_;cbv)|(refine hS.cl cM ?_;cbv)|(refine hS.cl cH ?_;cbv)|(refine hS.cl cP ?_;cbv)|(refine hS.cl cC ?_;cbv)|(refine hS.cl cX ?_;cbv)|(refine hS.cl cD ?_;cbv)|(refine hS.cl cG ?_;cbv)|(refine hS.cl cW ?_;cbv)|(refine hS.cl cF ?_;cbv)|(refine hS.cl cS ?_;cbv)|(refine hS.cl cU ?_;cbv)|(refine hS.cl cK ?_;cbv)|(refine hS.cl cL ?_;cbv)|(refine hS.cl cQ ?_;cbv)|(apply tT z0;cbv)|apply nd p1|apply nd p2|(simp only[r1,u1,<-Al];cbv)|(simp only[r2,u2,<-EE];cbv)|(subst Al;simp only[];rw[xG _ _ _ _ _ _ _ _ sK rfl rfl];cbv)|(subst EE;simp only[];rw[xG _ _ _ _ _ _ _ _ sC rfl rfl];cbv)|(refine UJ.mk (fun _=>?_) (fun _=>?_)<;>cbv))
end Go.Proofs.YtekefilngojelaaGreat
end
