/-
  A part of the proof: IntJ1k, IntK1k, CanU, ValI1k, RefM1k, ValQ1k, UniU, QraA1k, RefQ1k, QsM1k, UniV1k, GabsRen, UniW1k, UniX1k, UniA1k, QraB1k, QrbA1k, UnpA1k, UnpB1k, UnpC1k, UnpD1k, UnpE1k, UnpF1k, UnpG1k, UnpH1k, UniR, RusA1k, EvU, UplA1k, EvlA1k, EvD, EvlB1k, GabsHZ, MxX, MtM, MtR, MxA1k, MtD, MxH, MxP1k, MxE1k, MxU1k, MxL1k, MxQ1k, MxC1k.
-/
import Derived.Test.YtjfmkcmepdedaaaGreatM10
set_option maxHeartbeats 0
set_option maxRecDepth 100000
set_option linter.unusedVariables false
set_option linter.unusedSimpArgs false
set_option linter.unusedSectionVars false
section
namespace Go.Proofs.YtjfmkcmepdedaaaGreat
open Go Go.Abs Go.Abs.M Go.Proofs
def IsS (x:Int) (s:Bool) (r:Abs.Rows):Prop:=IsM x.natAbs r/\((s=true->x<=0)/\(s=false->0<=x))
theorem IsS.of {x:Int} {s:Bool} {r:Abs.Rows} (h:IsI x s r):IsS x s r:=by
 refine ⟨h.m,fun hs=>?_,fun hs=>?_⟩
 ·rw [h.s] at hs; have:=of_decide_eq_true hs; omega
 ·rw [h.s] at hs; have:=of_decide_eq_false hs; omega
theorem IsS.neg {x:Int} {s:Bool} {r:Abs.Rows} (h:IsS x s r):IsS (-x) (!s) r:=by
 obtain ⟨h1,h2,h3⟩:=h
 refine ⟨by rw [Int.natAbs_neg]; exact h1,fun hs=>?_,fun hs=>?_⟩
 ·have:=h3 (by simpa using hs); omega
 ·have:=h2 (by simpa using hs); omega
theorem isignedS {x:Int} {r:Abs.Rows} (s:Bool) (hx:IsS x s r) (hl:nl x.natAbs<=2199023255552):∃ u,IsI x u r/\ACall Tryz.prog 122 [.val (tb s),.val (tl r)] ⟨[.val (.agg (iT u r))],[none,none]⟩:=by
 obtain ⟨h1,h2,h3⟩:=hx
 refine ⟨decide (x < 0),⟨rfl,h1⟩,isignedM s _ h1 hl ?_⟩
 cases s with
 | true=>have:=h2 rfl; rw [Bool.true_and,Bool.eq_iff_iff]; simp; omega
 | false=>have:=h3 rfl; rw [Bool.false_and]; exact decide_eq_false (by omega)
theorem iof_call (n:Int) (h1:-9223372036854775808<=n) (h2:n < 9223372036854775808):∃ u w,IsI n u w/\ACall Tryz.prog 92 [.val (ti .i64 n)] ⟨[.val (.agg (iT u w))],[none]⟩:=by
 obtain ⟨w,hw⟩:∃ w,IsM n.natAbs w:=⟨_,rfl⟩
 have hl:nl n.natAbs<=2:=qaq (by omega)
 have hwords:=iwords_call n.natAbs (by omega) (by omega)
 rw [Int.toNat_natCast,show W .u32 (dg n.natAbs)=w from hw.symm] at hwords
 obtain ⟨u,hu,cs⟩:=isignedS (x:=n) (decide (n < 0)) ⟨hw,fun h=>by have:=of_decide_eq_true h; omega,fun h=>by have:=of_decide_eq_false h; omega⟩ (by omega)
 refine ⟨u,w,hu,?_⟩
 obtain ⟨M,hM⟩:∃ M:Int,M=n.natAbs:=⟨_,rfl⟩
 obtain ⟨D,hD⟩:∃ D,D=decide (n < 0):=⟨_,rfl⟩
 rw [<- hM] at hwords
 rw [<- hD] at cs
 refine callZ ccOk mixed [.val] Tryz.func92 rfl rfl (by kernel_rfl) fun zA zB zC zD zE zF zG zH zI zJ zK zL zM zN zO zP zQ zR zT zU zV zX zY zZ zb zc zd ze zg zh zi zj zk zl zm zn zo zq zr zs zt zu zx zy zz zmget zmset zW zth A L F hS hF=>?_
 have hlt:zO n 0=D:=by rw [hD]; exact hS.lt ..
 have e1:D=true->zA .u64 (zC 0 (zA .u64 n))=M:=fun h=>by
  rw [hD] at h
  have:=of_decide_eq_true h
  rw [hS.wrap,hS.wrap,hS.sub,qbz,qbz]; omega
 have e2:D=false->zA .u64 n=M:=fun h=>by
  rw [hD] at h
  have:=of_decide_eq_false h
  rw [hS.wrap,qaa (by omega) (by omega)]; omega
 clear hM hD hw hl hu
 cbv
 rw [hlt]
 refine ⟨fun h=>?_,fun h=>?_⟩
 ·rw [e1 h]
  refine ⟨_,hS.call (hwords),?_⟩
  cbv
  refine ⟨_,hS.call (cs),?_⟩
  cbv
  exact hF _ (ResLe.refl _)
 ·rw [e2 h]
  refine ⟨_,hS.call (hwords),?_⟩
  cbv
  refine ⟨_,hS.call (cs),?_⟩
  cbv
  exact hF _ (ResLe.refl _)
theorem isign_call {x:Int} {s:Bool} {r:Abs.Rows} (c:Int) (hx:IsI x s r) (hc:c=cmpI x 0):ACall Tryz.prog 84 [.val (.agg (iT s r))] ⟨[.val (ti .i64 c)],[none]⟩:=by
 have hl:r.length=nl x.natAbs:=hx.m.len
 have hz:=@nl_zero x.natAbs
 refine callZ ccOk mixed [.val] Tryz.func84 rfl rfl (by kernel_rfl) fun zA zB zC zD zE zF zG zH zI zJ zK zL zM zN zO zP zQ zR zT zU zV zX zY zZ zb zc zd ze zg zh zi zj zk zl zm zn zo zq zr zs zt zu zx zy zz zmget zmset zW zth A L F hS hF=>?_
 have e1:zM (zZ (zj r)) 0=decide (x=0):=by
  rw [hS.eq,hS.ofN,hS.len,hl]
  by_cases h:x=0
  ·rw [decide_eq_true h]; exact decide_eq_true (by omega)
  ·rw [decide_eq_false h]; exact decide_eq_false (by omega)
 cbv
 rw [e1]
 refine ⟨fun h=>fin1 hF (qa6 ?_),fun h=>⟨fun h'=>fin1 hF (qa6 ?_),fun h'=>fin1 hF (qa6 ?_)⟩⟩
 ·rw [hc,of_decide_eq_true h]; rfl
 ·rw [hx.s] at h'; rw [hc,cmpI_lt (of_decide_eq_true h')]
 ·rw [hx.s] at h'
  have:=of_decide_eq_false h'
  have:=of_decide_eq_false h
  rw [hc,cmpI_gt (by omega)]
theorem icmp_call {x y:Int} {s t:Bool} {r q:Abs.Rows} (c:Int) (hx:IsI x s r) (hy:IsI y t q) (hc:c=cmpI x y) (h1:nl x.natAbs<=2199023255552) (h2:nl y.natAbs<=2199023255552) :
  ACall Tryz.prog 116 [.val (.agg (iT s r)),.val (.agg (iT t q))] ⟨[.val (ti .i64 c)],[none,none]⟩:=by
 have c1:=qbu (cmpI x.natAbs y.natAbs) hx.m hy.m h1 h2 (qar _) (qar _) (dg_tr _) (dg_tr _) (by rw [qai,qai])
 have c2:=qbu (cmpI y.natAbs x.natAbs) hy.m hx.m h2 h1 (qar _) (qar _) (dg_tr _) (dg_tr _) (by rw [qai,qai])
 have s1:=isign_call (cmpI x 0) hx rfl
 have s2:=isign_call (cmpI y 0) hy rfl
 have b:∀ z:Int,(z < 0->cmpI z 0=-1)/\(z=0->cmpI z 0=0)/\(0 < z->cmpI z 0=1):=fun z=>⟨fun h=>cmpI_lt h,fun h=>by rw [h]; rfl,fun h=>cmpI_gt h⟩
 have bx:=b x
 have by':=b y
 have n1:x < 0->y < 0->cmpI y.natAbs x.natAbs=c:=fun h h'=>by rw [show (y.natAbs:Int)=-y by omega,show (x.natAbs:Int)=-x by omega,cmpI_neg,hc]
 have n2:¬ x < 0->¬ y < 0->cmpI x.natAbs y.natAbs=c:=fun h h'=>by rw [show (y.natAbs:Int)=y by omega,show (x.natAbs:Int)=x by omega,hc]
 have n3:x < y->-1=c:=fun h=>by rw [hc,cmpI_lt h]
 have n4:y < x->1=c:=fun h=>by rw [hc,cmpI_gt h]
 generalize cmpI x.natAbs y.natAbs=u at *
 generalize cmpI y.natAbs x.natAbs=v at *
 generalize cmpI x 0=a at *
 generalize cmpI y 0=d at *
 refine callZ ccOk mixed [.val] Tryz.func116 rfl rfl (by kernel_rfl) fun zA zB zC zD zE zF zG zH zI zJ zK zL zM zN zO zP zQ zR zT zU zV zX zY zZ zb zc zd ze zg zh zi zj zk zl zm zn zo zq zr zs zt zu zx zy zz zmget zmset zW zth A L F hS hF=>?_
 have e1:zN a d=decide (a ≠ d):=hS.ne ..
 have e2:zO a d=decide (a < d):=hS.lt ..
 have e3:zO a 0=decide (a < 0):=hS.lt ..
 cbv
 refine ⟨_,hS.call (s1),?_⟩
 cbv
 refine ⟨_,hS.call (s2),?_⟩
 cbv
 refine ⟨fun h=>⟨fun h'=>fin1 hF (qa6 (n3 ?_)),fun h'=>fin1 hF (qa6 (n4 ?_))⟩,fun h=>⟨fun h'=>⟨_,hS.call c2,?_⟩,fun h'=>⟨_,hS.call c1,?_⟩⟩⟩
 all_goals rw [e1] at h
 ·rw [e2] at h'; have:=of_decide_eq_true h'; omega
 ·rw [e2] at h'; have:=of_decide_eq_false h'; have:=of_decide_eq_true h; omega
 ·rw [e3] at h'; have h1:=of_decide_eq_true h'; have h2:=of_decide_eq_false h
  cbv
  exact fin1 hF (qa6 (n1 (by omega) (by omega)))
 ·rw [e3] at h'; have h1:=of_decide_eq_false h'; have h2:=of_decide_eq_false h
  cbv
  exact fin1 hF (qa6 (n2 (by omega) (by omega)))
theorem ineg_call {x:Int} {s:Bool} {r:Abs.Rows} (hx:IsI x s r) (h1:nl x.natAbs<=2199023255552):∃ u w,IsI (-x) u w/\ACall Tryz.prog 85 [.val (.agg (iT s r))] ⟨[.val (.agg (iT u w))],[none]⟩:=by
 have cl:=iclone_call hx.m (by unfold nl at h1; omega)
 obtain ⟨u,hu,cs⟩:=isignedS (!s) (IsS.of hx).neg (by rw [Int.natAbs_neg]; exact h1)
 refine ⟨u,r,hu,?_⟩
 refine callZ ccOk mixed [.val] Tryz.func85 rfl rfl (by kernel_rfl) fun zA zB zC zD zE zF zG zH zI zJ zK zL zM zN zO zP zQ zR zT zU zV zX zY zZ zb zc zd ze zg zh zi zj zk zl zm zn zo zq zr zs zt zu zx zy zz zmget zmset zW zth A L F hS hF=>?_
 have e:zQ s=!s:=hS.not s
 cbv
 refine ⟨_,hS.call (cl),?_⟩
 cbv
 rw [e]
 refine ⟨_,hS.call (cs),?_⟩
 cbv
 exact hF _ (ResLe.refl _)
theorem iadd_callS {x y:Int} {s t:Bool} {r q:Abs.Rows} (hx:IsS x s r) (hy:IsS y t q) (h1:nl x.natAbs<=549755813888) (h2:nl y.natAbs<=549755813888) :
  ∃ u w,IsI (x+y) u w/\ACall Tryz.prog 124 [.val (.agg (iT s r)),.val (.agg (iT t q))] ⟨[.val (.agg (iT u w))],[none,none]⟩:=by
 have hb:nl (x+y).natAbs<=1099511627776:=by
  have a:=qax (show (x+y).natAbs<=x.natAbs+y.natAbs by omega)
  have b:=nl_add x.natAbs y.natAbs
  omega
 obtain ⟨w,hw⟩:∃ w,IsM (x+y).natAbs w:=⟨_,rfl⟩
 obtain ⟨xm,xs,xs'⟩:=hx
 obtain ⟨ym,ys,ys'⟩:=hy
 by_cases hst:s=t
 ·have ca:=isum_call xm ym (by unfold nl at h1; omega) (by unfold nl at h2; omega) (qar _) (qar _)
  simp only [qai] at ca
  have e1:W .u32 (dg ((x.natAbs:Int)+y.natAbs).toNat)=w:=by
   rw [hw]; congr 2
   subst hst
   cases s with
   | true=>have:=xs rfl; have:=ys rfl; omega
   | false=>have:=xs' rfl; have:=ys' rfl; omega
  rw [e1] at ca
  obtain ⟨u,hu,cs⟩:=isignedS (x:=x+y) s ⟨hw,fun h=>by subst hst; have:=xs h; have:=ys h; omega,fun h=>by subst hst; have:=xs' h; have:=ys' h; omega⟩ (by omega)
  refine ⟨u,w,hu,?_⟩
  refine callZ ccOk mixed [.val] Tryz.func124 rfl rfl (by kernel_rfl) fun zA zB zC zD zE zF zG zH zI zJ zK zL zM zN zO zP zQ zR zT zU zV zX zY zZ zb zc zd ze zg zh zi zj zk zl zm zn zo zq zr zs zt zu zx zy zz zmget zmset zW zth A L F hS hF=>?_
  have e:zR s t=true:=by rw [hS.beq]; simpa using hst
  cbv
  refine bT (e) ?_
  refine ⟨_,hS.call (ca),?_⟩
  cbv
  refine ⟨_,hS.call (cs),?_⟩
  cbv
  exact hF _ (ResLe.refl _)
 ·have cc:=qbu (cmpI x.natAbs y.natAbs) xm ym (by unfold nl at h1; omega) (by unfold nl at h2; omega) (qar _) (qar _) (dg_tr _) (dg_tr _) (by rw [qai,qai])
  by_cases hlt:x.natAbs < y.natAbs
  ·have c:=idifference_call ym xm (by unfold nl at h2; omega) (show nl x.natAbs<=nl y.natAbs from qax (by omega)) (qar _) (qar _) (by rw [qai,qai]; omega)
   simp only [qai] at c
   have e1:W .u32 (dg ((y.natAbs:Int) - x.natAbs).toNat)=w:=by
    rw [hw]; congr 2
    cases s <;> cases t <;> first | exact absurd rfl hst | skip
    ·have:=xs' rfl; have:=ys rfl; omega
    ·have:=xs rfl; have:=ys' rfl; omega
   rw [e1] at c
   obtain ⟨u,hu,cs⟩:=isignedS (x:=x+y) t ⟨hw,fun h=>by
    cases s <;> cases t <;> first | exact absurd rfl hst | (cases h; done) | skip
    have:=xs' rfl; have:=ys rfl; omega,fun h=>by
    cases s <;> cases t <;> first | exact absurd rfl hst | (cases h; done) | skip
    have:=xs rfl; have:=ys' rfl; omega⟩ (by omega)
   rw [cmpI_lt (by omega)] at cc
   refine ⟨u,w,hu,?_⟩
   refine callZ ccOk mixed [.val] Tryz.func124 rfl rfl (by kernel_rfl) fun zA zB zC zD zE zF zG zH zI zJ zK zL zM zN zO zP zQ zR zT zU zV zX zY zZ zb zc zd ze zg zh zi zj zk zl zm zn zo zq zr zs zt zu zx zy zz zmget zmset zW zth A L F hS hF=>?_
   have e:zR s t=false:=by rw [hS.beq]; simpa using hst
   have e2:zP 0 (-1)=false:=by rw [hS.le]; rfl
   cbv
   refine bF (e) ?_
   refine ⟨_,hS.call (cc),?_⟩
   cbv
   refine bF (e2) ?_
   refine ⟨_,hS.call (c),?_⟩
   cbv
   refine ⟨_,hS.call (cs),?_⟩
   cbv
   exact hF _ (ResLe.refl _)
  ·have c:=idifference_call xm ym (by unfold nl at h1; omega) (show nl y.natAbs<=nl x.natAbs from qax (by omega)) (qar _) (qar _) (by rw [qai,qai]; omega)
   simp only [qai] at c
   have e1:W .u32 (dg ((x.natAbs:Int) - y.natAbs).toNat)=w:=by
    rw [hw]; congr 2
    cases s <;> cases t <;> first | exact absurd rfl hst | skip
    ·have:=xs' rfl; have:=ys rfl; omega
    ·have:=xs rfl; have:=ys' rfl; omega
   rw [e1] at c
   obtain ⟨u,hu,cs⟩:=isignedS (x:=x+y) s ⟨hw,fun h=>by
    cases s <;> cases t <;> first | exact absurd rfl hst | (cases h; done) | skip
    have:=xs rfl; have:=ys' rfl; omega,fun h=>by
    cases s <;> cases t <;> first | exact absurd rfl hst | (cases h; done) | skip
    have:=xs' rfl; have:=ys rfl; omega⟩ (by omega)
   obtain ⟨v,hv,hv0⟩:∃ v,cmpI (x.natAbs:Int) y.natAbs=v/\0<=v:=⟨_,rfl,by
    unfold cmpI
    rw [if_neg (by omega)]
    split <;> omega⟩
   rw [hv] at cc
   refine ⟨u,w,hu,?_⟩
   refine callZ ccOk mixed [.val] Tryz.func124 rfl rfl (by kernel_rfl) fun zA zB zC zD zE zF zG zH zI zJ zK zL zM zN zO zP zQ zR zT zU zV zX zY zZ zb zc zd ze zg zh zi zj zk zl zm zn zo zq zr zs zt zu zx zy zz zmget zmset zW zth A L F hS hF=>?_
   have e:zR s t=false:=by rw [hS.beq]; simpa using hst
   have e2:zP 0 v=true:=by rw [hS.le]; exact decide_eq_true hv0
   cbv
   refine bF (e) ?_
   refine ⟨_,hS.call (cc),?_⟩
   cbv
   refine bT (e2) ?_
   refine ⟨_,hS.call (c),?_⟩
   cbv
   refine ⟨_,hS.call (cs),?_⟩
   cbv
   exact hF _ (ResLe.refl _)
theorem iadd_call {x y:Int} {s t:Bool} {r q:Abs.Rows} (hx:IsI x s r) (hy:IsI y t q) (h1:nl x.natAbs<=549755813888) (h2:nl y.natAbs<=549755813888) :
  ∃ u w,IsI (x+y) u w/\ACall Tryz.prog 124 [.val (.agg (iT s r)),.val (.agg (iT t q))] ⟨[.val (.agg (iT u w))],[none,none]⟩:=iadd_callS (.of hx) (.of hy) h1 h2
theorem imul_call {x y:Int} {s t:Bool} {r q:Abs.Rows} (hx:IsI x s r) (hy:IsI y t q) (h1:nl x.natAbs<=549755813888) (h2:nl y.natAbs<=549755813888) :
  ∃ u w,IsI (x*y) u w/\ACall Tryz.prog 121 [.val (.agg (iT s r)),.val (.agg (iT t q))] ⟨[.val (.agg (iT u w))],[none,none]⟩:=by
 obtain ⟨w,hw⟩:∃ w,IsM (x*y).natAbs w:=⟨_,rfl⟩
 have hb:nl (x*y).natAbs<=1099511627776:=by
  rw [Int.natAbs_mul]
  have b:=qbr x.natAbs y.natAbs
  omega
 have hs:=hx.s
 have ht:=hy.s
 have c:=iproduct_call hx.m hy.m (by unfold nl at h1; omega) (by unfold nl at h2; omega) (qar _) (qar _)
 simp only [qai] at c
 have e1:W .u32 (dg ((x.natAbs:Int)*y.natAbs).toNat)=w:=by
  rw [hw]; congr 2
  rw [Int.natAbs_mul]
  have:((x.natAbs:Int)*y.natAbs)=((x.natAbs*y.natAbs:Nat):Int):=by push_cast; rfl
  omega
 rw [e1] at c
 obtain ⟨u,hu,cs⟩:=isignedS (x:=x*y) (!(s == t)) ⟨hw,fun h=>by
   rw [hs,ht] at h
   by_cases h1:x < 0 <;> by_cases h2:y < 0 <;> simp [h1,h2] at h
   ·exact Int.mul_nonpos_of_nonpos_of_nonneg (by omega) (by omega)
   ·exact Int.mul_nonpos_of_nonneg_of_nonpos (by omega) (by omega),fun h=>by
   rw [hs,ht] at h
   by_cases h1:x < 0 <;> by_cases h2:y < 0 <;> simp [h1,h2] at h
   ·exact Int.mul_nonneg_of_nonpos_of_nonpos (by omega) (by omega)
   ·exact Int.mul_nonneg (by omega) (by omega)⟩ (by omega)
 refine ⟨u,w,hu,?_⟩
 refine callZ ccOk mixed [.val] Tryz.func121 rfl rfl (by kernel_rfl) fun zA zB zC zD zE zF zG zH zI zJ zK zL zM zN zO zP zQ zR zT zU zV zX zY zZ zb zc zd ze zg zh zi zj zk zl zm zn zo zq zr zs zt zu zx zy zz zmget zmset zW zth A L F hS hF=>?_
 have e:zT s t=!(s == t):=hS.bne s t
 cbv
 refine ⟨_,hS.call (c),?_⟩
 cbv
 rw [e]
 refine ⟨_,hS.call (cs),?_⟩
 cbv
 exact hF _ (ResLe.refl _)
open Go Go.Abs Go.Abs.M Go.Proofs
theorem idivmod_call {x y:Int} {s t:Bool} {r q:Abs.Rows} (hx:IsI x s r) (hy:IsI y t q) (hy0:y ≠ 0) (h1:nl x.natAbs<=274877906944) (h2:nl y.natAbs<=274877906944) :
  ∃ u w p,IsI (x / y) u w/\IsI (x % y) false p/\ACall Tryz.prog 120 [.val (.agg (iT s r)),.val (.agg (iT t q))] ⟨[.val (.agg (iT u w)),.val (.agg (iT false p)),.val (ti .i64 0)],[none,none]⟩:=by
 obtain ⟨a1,a2,ha1,ha2,cd⟩:=idivide_call hx.m hy.m (by omega) (by omega) (by omega)
 obtain ⟨m1,m2,m3⟩:=divmod_abs (x:=x) hy0
 obtain ⟨u,hu⟩:∃ u,u=decide (x / y < 0):=⟨_,rfl⟩
 obtain ⟨w,hw⟩:∃ w,IsM (x / y).natAbs w:=⟨_,rfl⟩
 obtain ⟨p,hp⟩:∃ p,IsM (x % y).natAbs p:=⟨_,rfl⟩
 have hmod0:=Int.emod_nonneg x hy0
 have hyn:y.natAbs ≠ 0:=by omega
 have hdle:x.natAbs / y.natAbs<=x.natAbs:=Nat.div_le_self ..
 have hmlt:x.natAbs % y.natAbs < y.natAbs:=Nat.mod_lt _ (by omega)
 have hs:=hx.s
 have ht:=hy.s
 have hbq:nl (x / y).natAbs<=549755813888:=by
  have a:=qax (show (x / y).natAbs<=x.natAbs+1 by
   by_cases h:x < 0/\x.natAbs % y.natAbs ≠ 0
   ·have:=(m2 h).1; omega
   ·have:=(m1 h).1; omega)
  have b:=nl_add x.natAbs 1
  have c:nl 1<=1:=qaq (by omega)
  omega
 have hbr:nl (x % y).natAbs<=549755813888:=by
  have a:=qax (show (x % y).natAbs<=y.natAbs by
   by_cases h:x < 0/\x.natAbs % y.natAbs ≠ 0
   ·have:=(m2 h).2; omega
   ·have:=(m1 h).2; omega)
  omega
 have cm1:=isignedM (!(s == t)) u hw (by omega) (by
  rw [hu,hs,ht,Bool.eq_iff_iff]
  by_cases h:x < 0 <;> by_cases h':y < 0 <;> simp [h,h'] at m3 ⊢ <;> omega)
 have cm2:=isignedM false false hp (by omega) rfl
 have hql:q.length=nl y.natAbs:=hy.m.len
 have hql0:nl y.natAbs ≠ 0:=fun h=>hyn (nl_zero.1 h)
 have ha2l:a2.length=nl (x.natAbs % y.natAbs):=ha2.len
 have ha2z:=@nl_zero (x.natAbs % y.natAbs)
 have ctr:=itrimM hy.m (by omega)
 refine ⟨u,w,p,⟨hu,hw⟩,⟨(decide_eq_false (by omega)).symm,hp⟩,?_⟩
 by_cases hc:x < 0/\x.natAbs % y.natAbs ≠ 0
 ·obtain ⟨n1,n2⟩:=m2 hc
  have ca:=isum_call (s:=W .u32 [1]) ha1 rfl (by have:=qax hdle; unfold nl at *; omega) (by simp) (qar _) (Wd.cons (by omega) (by omega) Wd.nil)
  have ct:=idifference_call hy.m ha2 (by unfold nl at *; omega) (by have:=qax (Nat.le_of_lt hmlt); unfold nl at *; omega) (qar _) (qar _) (by rw [qai,qai]; omega)
  rw [qai,qai] at ct
  rw [qai,show val [1]=1 from rfl] at ca
  have e1:W .u32 (dg (((x.natAbs / y.natAbs:Nat):Int)+1).toNat)=w:=by rw [hw]; congr 2; omega
  have e2:W .u32 (dg ((y.natAbs:Int) - ((x.natAbs % y.natAbs:Nat):Int)).toNat)=p:=by rw [hp]; congr 2; omega
  rw [e1] at ca
  rw [e2] at ct
  have hs':s=true:=by rw [hs]; exact decide_eq_true hc.1
  subst hs'
  clear m1 m2 m3 hbq hbr
  refine callZ ccOk mixed [.val,.val,.val] Tryz.func120 rfl rfl (by kernel_rfl) fun zA zB zC zD zE zF zG zH zI zJ zK zL zM zN zO zP zQ zR zT zU zV zX zY zZ zb zc zd ze zg zh zi zj zk zl zm zn zo zq zr zs zt zu zx zy zz zmget zmset zW zth A L F hS hF=>?_
  have z1:zM (zZ (zj q)) 0=false:=by rw [hS.len,hql,hS.ofN,hS.eq]; exact decide_eq_false (by omega)
  have z2:zO 0 (zZ (zj a2))=true:=by rw [hS.len,ha2l,hS.ofN,hS.lt]; exact decide_eq_true (by omega)
  have z3:zr [[.v (.int .u32 1)]] 0 1=W .u32 [1]:=by rw [hS.part]; rfl
  have z4:zq 0 1 [[.v (.int .u32 1)]]=true:=by rw [hS.fit]; rfl
  cbv
  refine ⟨_,hS.call ctr,?_⟩
  cbv
  refine bF z1 ⟨_,hS.call cd,?_⟩
  cbv
  refine bT rfl (bT z2 (nd z4 ?_))
  rw [z3]
  refine ⟨_,hS.call ca,?_⟩
  cbv
  refine ⟨_,hS.call ct,?_⟩
  cbv
  rw [hS.bne]
  refine ⟨_,hS.call cm1,?_⟩
  cbv
  refine ⟨_,hS.call cm2,?_⟩
  cbv
  exact hF _ (ResLe.refl _)
 ·obtain ⟨n1,n2⟩:=m1 hc
  obtain rfl:w=a1:=by rw [hw,ha1,n1]
  obtain rfl:p=a2:=by rw [hp,ha2,n2]; rfl
  clear m1 m2 m3 hbq hbr
  refine callZ ccOk mixed [.val,.val,.val] Tryz.func120 rfl rfl (by kernel_rfl) fun zA zB zC zD zE zF zG zH zI zJ zK zL zM zN zO zP zQ zR zT zU zV zX zY zZ zb zc zd ze zg zh zi zj zk zl zm zn zo zq zr zs zt zu zx zy zz zmget zmset zW zth A L F hS hF=>?_
  have z1:zM (zZ (zj q)) 0=false:=by rw [hS.len,hql,hS.ofN,hS.eq]; exact decide_eq_false (by omega)
  have z2:s=true->zO 0 (zZ (zj p))=false:=fun h=>by
   rw [hS.len,ha2l,hS.ofN,hS.lt]
   rw [h] at hs
   have:=of_decide_eq_true hs.symm
   exact decide_eq_false (by omega)
  have fin:=hS.call cm1
  cbv
  refine ⟨_,hS.call ctr,?_⟩
  cbv
  refine bF z1 ⟨_,hS.call cd,?_⟩
  cbv
  refine ⟨fun h=>bF (z2 h) ?_,fun h=>?_⟩
  all_goals
   rw [hS.bne]
   refine ⟨_,fin,?_⟩
   cbv
   refine ⟨_,hS.call cm2,?_⟩
   cbv
   exact hF _ (ResLe.refl _)
def ivalSt (r:Abs.Rows) (m len i:Int):St:=mkSt 22 [vl r,.junk,vi .u64 0,vi .u64 m,.junk,.junk,vi .i64 len,vi .i64 i] [none]
theorem ivalue_call {l:List Int} {r:Abs.Rows} (n:Int) (hr:r=W .u32 l) (hl:l.length<=2) (hw:Wd l) (hn:n=val l):ACall Tryz.prog 138 [.val (tl r)] ⟨[.val (ti .u64 n)],[none]⟩:=by
 obtain ⟨N,hN⟩:∃ N,N=l.length:=⟨_,rfl⟩
 refine callZ ccOk mixed [.val] Tryz.func138 rfl rfl (by kernel_rfl) fun zA zB zC zD zE zF zG zH zI zJ zK zL zM zN zO zP zQ zR zT zU zV zX zY zZ zb zc zd ze zg zh zi zj zk zl zm zn zo zq zr zs zt zu zx zy zz zmget zmset zW zth A L F hS hF=>?_
 have h1:zj r=N:=by rw [hS.len,hr,qal,hN]
 have L2:=qbp hS.lt hS.ofN
 have A1:∀ (k:Nat),k < N->∃ (a s m':Int) (k1:Nat),zn r (zX (zZ k))=a/\zA .u64 a=a/\zA .i64 (zD 32 (zZ k))=s/\zP 0 s=true/\zJ .u64 (val (l.take k)) (zG .u64 a s)=m'/\zA .i64 (zB (zZ k) 1)=zZ k1/\zm .u32 r (zX (zZ k))=true/\zP 0 (zZ k)=true/\k1=k+1/\m'=val (l.take k1):=fun k hk=>by
  have ga:=hw.get k
  have hv:=qad l k
  have hv0:=qaf (hw.take k)
  have hv1:=qbm (hw.take k)
  have e2:(k:Int)=0 ∨ (k:Int)=1:=by omega
  refine ⟨l.getD k 0,((32*k:Nat):Int),val (l.take (k+1)),k+1,by rw [hS.getI,hS.nat,hS.ofN,hr,qap,Int.toNat_natCast],by rw [hS.wrap,qaa (by omega) (by omega)],?_,?_,?_,?_,?_,?_,rfl,rfl⟩
  ·rw [hS.wrap,hS.mul,hS.ofN,wrap_i64 (by omega) (by omega)]; omega
  ·rw [hS.le]; exact decide_eq_true (by omega)
  ·rw [show ∀ x y,zG .u64 x y=ZI.std.shl .u64 x y from fun _ _=>hS.shl ..,shl_std (32*k) rfl (by show 32*k<=64; omega),show ∀ x y,zJ .u64 x y=ZI.std.bor .u64 x y from fun _ _=>hS.bor ..]
   rw [List.length_take] at hv1
   rcases (show k=0 ∨ k=1 by omega) with rfl | rfl
   ·have z:val (l.take 0)=0:=by simp [val]
    rw [z] at hv ⊢
    generalize l.getD 0 0=g at *
    rw [qaa (by simp; omega) (by simp; omega),bor_lo 0 ga.1 (Int.le_refl 0) (by simp) (by simp; omega),hv]; simp
   ·rw [Nat.min_eq_left (by omega)] at hv1
    rw [qaa (by omega) (by omega),bor_lo 32 ga.1 hv0 (by simpa using hv1) (by omega),hv]; omega
  ·rw [hS.wrap,hS.add,hS.ofN,hS.ofN,wrap_i64 (by omega) (by omega)]; omega
  ·rw [hS.isI,hr,hS.nat,hS.ofN,qav]; exact decide_eq_true (by omega)
  ·rw [hS.le,hS.ofN]; exact decide_eq_true (by omega)
 cbv
 refine loopZ ccOk mixed hS (fun (j:Nat) s'=>∃ (k:Nat) (m:Int),k+j=N/\m=val (l.take k)/\s'=ivalSt r m (zZ N) (zZ k)) (n:=N) (s0:=ivalSt r 0 (zZ N) (zZ 0)) (qao ?_ ?_) rfl (Nat.le_refl 1) ?_ ?_
 ·simp [leT,ivalSt,mkSt,vi,vl,hS.ofN,h1]
 ·simp [leH,ivalSt,mkSt]
 ·exact ⟨0,0,by omega,by simp [val],rfl⟩
 ·rintro j _ ⟨k,m,hk,hm,rfl⟩
  rcases Nat.lt_or_ge k N with hkn | hkn
  ·obtain ⟨a,s,m',k1,E1,E2,E3,E4,E5,E6,E7,E8,hk1,hm'⟩:=A1 k hkn
   rw [<- hm] at E5
   have e6:zO (zZ k) (zZ N)=true:=(L2 k N).trans (decide_eq_true hkn)
   cbv
   refine bT e6 ?_
   rw [E1,E2,E3,E5,E6]
   refine nd E8 (nd E7 (nd E4 ?_))
   exact again (s':=ivalSt r m' (zZ N) (zZ k1)) (m:=j - 1) (by simp [leT,ivalSt,mkSt,vi,vl]) (by simp [leH,ivalSt,mkSt]) rfl (Nat.le_refl 1) (by omega) ⟨k1,m',by omega,hm',rfl⟩
  ·obtain rfl:k=N:=by omega
   have e6:zO (zZ k) (zZ k)=false:=(L2 k k).trans (decide_eq_false (Nat.lt_irrefl k))
   have hmn:m=n:=by rw [hm,hn,List.take_of_length_le (by omega)]
   cbv
   exact bF e6 (fin1 hF (qa6 hmn))
def igcdSt (a:Bool) (b:Abs.Rows) (c:Bool) (d x y:Abs.Rows):St:=mkSt 53 [.junk,.junk,.c (.ptr 2 0 0),.c (.ptr 3 0 0),.c (.ptr 4 0 0),vl x,vl y] [none,none,some (.var [.t (.v (.bool a)),.t (.lst false b)]),some (.var [.t (.v (.bool c)),.t (.lst false d)]),some (.var [.t (.v (.bool false)),.t (.lst true [])])]
def igcd2St (a:Bool) (b:Abs.Rows) (c:Bool) (d:Abs.Rows) (m n:Int):St:=mkSt 53 [.junk,.junk,.c (.ptr 2 0 0),.c (.ptr 3 0 0),.c (.ptr 4 0 0),.junk,.junk,vi .u64 m,vi .u64 n] [none,none,some (.var [.t (.v (.bool a)),.t (.lst false b)]),some (.var [.t (.v (.bool c)),.t (.lst false d)]),some (.var [.t (.v (.bool false)),.t (.lst true [])])]
theorem igcd_call {x y:Int} {s t:Bool} {r q:Abs.Rows} (hx:IsI x s r) (hy:IsI y t q) (h1:nl x.natAbs<=274877906944) (h2:nl y.natAbs<=274877906944) :
  ∃ w,IsI (Int.gcd x y) false w/\ACall Tryz.prog 119 [.val (.agg (iT s r)),.val (.agg (iT t q))] ⟨[.val (.agg (iT false w))],[none,none]⟩:=by
 obtain ⟨w,hg⟩:∃ w,IsM (Int.gcd x y) w:=⟨_,rfl⟩
 have hb:nl (Int.gcd x y)<=2199023255552:=by
  by_cases h:x=0
  ·subst h
   have:Int.gcd 0 y=y.natAbs:=by simp [Int.gcd]
   rw [this]; omega
  ·have:Int.gcd x y<=x.natAbs:=Nat.gcd_le_left _ (by omega)
   have:=qax this
   omega
 refine ⟨w,⟨(decide_eq_false (by omega)).symm,hg⟩,?_⟩
 have cw:=isignedM false false hg hb rfl
 have ct:=itrimM hx.m (by omega)
 have ct2:=itrimM hy.m (by omega)
 have cl:=iclone_call hx.m (by unfold nl at h1; omega)
 have cl2:=iclone_call hy.m (by unfold nl at h2; omega)
 have hr:=hx.m
 have hs:=hy.m
 clear hx hy
 have hgg:Int.gcd x y=Nat.gcd x.natAbs y.natAbs:=rfl
 rw [hgg] at hg hb
 clear hgg
 generalize x.natAbs=a at *
 generalize y.natAbs=b at *
 refine callZ ccOk mixed [.val] Tryz.func119 rfl rfl (by kernel_rfl) fun zA zB zC zD zE zF zG zH zI zJ zK zL zM zN zO zP zQ zR zT zU zV zX zY zZ zb zc zd ze zg zh zi zj zk zl zm zn zo zq zr zs zt zu zx zy zz zmget zmset zW zth A L F hS hF=>?_
 cbv
 refine ⟨_,hS.call (ct),?_⟩
 cbv
 refine ⟨_,hS.call (cl),?_⟩
 cbv
 refine ⟨_,hS.call (ct2),?_⟩
 cbv
 refine ⟨_,hS.call (cl2),?_⟩
 cbv
 refine loopZ ccOk mixed hS (fun (m:Nat) s'=>∃ (c:Nat) (x y:Abs.Rows),IsM c x/\IsM m y/\nl c<=274877906944/\nl m<=274877906944/\Nat.gcd c m=Nat.gcd a b/\s'=igcdSt s r t q x y) (n:=b) (s0:=igcdSt s r t q r q) (qao ?_ ?_) rfl (by show 2<=5; omega) ?_ ?_
 ·simp [leT,igcdSt,mkSt,vl,vnil]
 ·simp [leH,igcdSt,mkSt]
 ·exact ⟨a,r,q,hr,hs,h1,h2,rfl,rfl⟩
 ·rintro m _ ⟨c,x,y,hx,hy,l1,l2,hgc,rfl⟩
  have hmz:=@nl_zero m
  have hxl:zj x=nl c:=by rw [hS.len,hx.len]
  have hyl:zj y=nl m:=by rw [hS.len,hy.len]
  have e1:zO 0 (zZ (zj y))=decide (m ≠ 0):=by
   rw [hyl,hS.lt,hS.ofN]
   by_cases h:m=0
   ·rw [decide_eq_false (show ¬ m ≠ 0 by omega)]; exact decide_eq_false (by omega)
   ·rw [decide_eq_true h]; exact decide_eq_true (by omega)
  have e2:zP (zZ (zj x)) 2=decide (nl c<=2):=by
   rw [hxl,hS.le,hS.ofN]
   by_cases h:nl c<=2
   ·rw [decide_eq_true h]; exact decide_eq_true (by omega)
   ·rw [decide_eq_false h]; exact decide_eq_false (by omega)
  have e3:zP (zZ (zj y)) 2=decide (nl m<=2):=by
   rw [hyl,hS.le,hS.ofN]
   by_cases h:nl m<=2
   ·rw [decide_eq_true h]; exact decide_eq_true (by omega)
   ·rw [decide_eq_false h]; exact decide_eq_false (by omega)
  have hdiv:m ≠ 0->∃ p q,IsM (c / m) p/\IsM (c % m) q/\ACall Tryz.prog 139 [.val (tl x),.val (tl y)] ⟨[.val (tl p),.val (tl q)],[none,none]⟩:=fun h=>idivide_call hx hy h (by omega) (by omega)
  have hend:m=0->x=w:=fun h=>by
   subst h
   rw [Nat.gcd_zero_right] at hgc
   rw [hx,hg,hgc]
  by_cases hm0:m=0
  ·rw [hend hm0] at *
   cbv
   refine bF (by rw [e1]; exact decide_eq_false (by omega)) ?_
   refine ⟨_,hS.call (cw),?_⟩
   cbv
   exact hF _ (ResLe.refl _)
  ·by_cases hsh:nl c<=2/\nl m<=2
   ·obtain ⟨k1,k2⟩:=hsh
    have b1:=lt_nl c
    have b2:=lt_nl m
    have b3:=ipow_le k1
    have b4:=ipow_le k2
    obtain ⟨C,hC⟩:∃ C:Int,C=c:=⟨_,rfl⟩
    obtain ⟨M,hM⟩:∃ M:Int,M=m:=⟨_,rfl⟩
    have n1:=ivalue_call C hx k1 (qar _) (by rw [qai,hC])
    have n2:=ivalue_call M hy k2 (qar _) (by rw [qai,hM])
    have hgb:Nat.gcd c m < 18446744073709551616:=by
     have:=Nat.gcd_le_right c (Nat.pos_of_ne_zero hm0); omega
    have n4:∀ g:Nat,g=Nat.gcd a b->∀ G:Int,G=g->ACall Tryz.prog 125 [.val (ti .u64 G)] ⟨[.val (tl w)],[none]⟩:=fun g hgv G hG=>by
     have:=iwords_call G (by omega) (by rw [hG,hgv,<- hgc]; omega)
     rw [hG,Int.toNat_natCast,hgv,<- show w=W .u32 (dg (Nat.gcd a b)) from hg,<- hgv,<- hG] at this
     exact this
    have hcb:c < 18446744073709551616:=by omega
    have hmb:m < 18446744073709551616:=by omega
    clear b1 b2 b3 b4 l1 l2
    cbv
    refine bT (by rw [e1]; exact decide_eq_true hm0) (bT (by rw [e2]; exact decide_eq_true k1) (bT (by rw [e3]; exact decide_eq_true k2) ⟨_,hS.call n1,?_⟩))
    cbv
    refine ⟨_,hS.call n2,?_⟩
    cbv
    refine loopZ ccOk mixed hS (fun (j:Nat) s'=>∃ c':Nat,c' < 18446744073709551616/\j < 18446744073709551616/\Nat.gcd c' j=Nat.gcd a b/\s'=igcd2St s r t q (zZ c') (zZ j)) (n:=m) (s0:=igcd2St s r t q (zZ c) (zZ m)) (qao ?_ ?_) rfl (by show 2<=5; omega) ?_ ?_
    ·simp [leT,igcd2St,mkSt,vi,hS.ofN,hC,hM]
    ·simp [leH,igcd2St,mkSt]
    ·exact ⟨c,hcb,hmb,hgc,rfl⟩
    ·rintro j _ ⟨c',hc',hj,hgc',rfl⟩
     have f1:0 < j->zF (zZ c') (zZ j)=zZ (c' % j):=fun h=>by rw [hS.rem,hS.ofN,hS.ofN,hS.ofN,Int.tmod_eq_emod_of_nonneg (by omega)]; rfl
     have f2:zO 0 (zZ j)=decide (0 < j):=by
      rw [hS.lt,hS.ofN]
      by_cases h:0 < j
      ·rw [decide_eq_true h]; exact decide_eq_true (by omega)
      ·rw [decide_eq_false h]; exact decide_eq_false (by omega)
     have f3:0 < j->zN (zZ j) 0=true:=fun h=>by rw [hS.ne,hS.ofN]; exact decide_eq_true (by omega)
     have f4:j=0->ACall Tryz.prog 125 [.val (ti .u64 (zZ c'))] ⟨[.val (tl w)],[none]⟩:=fun h=>by
      subst h
      rw [Nat.gcd_zero_right] at hgc'
      exact n4 c' hgc' _ (hS.ofN _)
     cbv
     refine ⟨fun h=>?_,fun h=>?_⟩
     all_goals rw [f2] at h
     ·have h:=of_decide_eq_true h
      rw [f1 h]
      refine nd (f3 h) ?_
      refine again (s':=igcd2St s r t q (zZ j) (zZ (c' % j))) (m:=c' % j) (by simp [leT,igcd2St,mkSt,vi]) (by simp [leH,igcd2St,mkSt]) rfl (by show 2<=5; omega) (Nat.mod_lt _ h) ⟨j,hj,?_,?_,rfl⟩
      ·have:=Nat.mod_lt c' h; omega
      ·rw [<- hgc',Nat.gcd_comm c' j,Nat.gcd_rec j c',Nat.gcd_comm]
     ·have h:=of_decide_eq_false h
      refine ⟨_,hS.call (f4 (by omega)),?_⟩
      cbv
      refine ⟨_,hS.call (cw),?_⟩
      cbv
      exact hF _ (ResLe.refl _)
   ·obtain ⟨p,q',_,hq,cd⟩:=hdiv hm0
    have nx:∃ (c':Nat) (x' y':Abs.Rows),IsM c' x'/\IsM (c % m) y'/\nl c'<=274877906944/\nl (c % m)<=274877906944/\Nat.gcd c' (c % m)=Nat.gcd a b/\igcdSt s r t q y q'=igcdSt s r t q x' y':=
     ⟨m,y,q',hy,hq,l2,Nat.le_trans (qax (Nat.le_of_lt (Nat.mod_lt _ (Nat.pos_of_ne_zero hm0)))) l2,by rw [<- hgc,Nat.gcd_comm c m,Nat.gcd_rec m c,Nat.gcd_comm],rfl⟩
    have e1':zO 0 (zZ (zj y))=true:=by rw [e1]; exact decide_eq_true hm0
    cbv
    refine bT e1' ⟨fun h2=>bF ?_ ?_,fun h2=>?_⟩
    ·rw [e3]; rw [e2] at h2; have:=of_decide_eq_true h2; exact decide_eq_false (by omega)
    all_goals
     refine ⟨_,hS.call cd,?_⟩
     cbv
     exact again (s':=igcdSt s r t q y q') (m:=c % m) (by simp [leT,igcdSt,mkSt,vl,vnil]) (by simp [leH,igcdSt,mkSt]) rfl (by show 2<=5; omega) (Nat.mod_lt _ (Nat.pos_of_ne_zero hm0)) nx
end Go.Proofs.YtjfmkcmepdedaaaGreat
end
section
namespace Go.Abs
open Go.Abs.M
end Go.Abs
end
section
namespace Go.Proofs.YtjfmkcmepdedaaaGreat
open Go Go.Abs Go.Abs.M Go.Proofs
open Go Go.Abs Go.Abs.M Go.Proofs
def Qs (x:Rat) (k:Nat):Prop:=nl x.num.natAbs<=k/\nl x.den<=k
open Go Go.Abs Go.Abs.M Go.Proofs
theorem dg_one_iff {n:Nat} (h:(dg n).length=1):(dg n).getD 0 0=n:=by
 have e:=qai n
 match hd:dg n,h with
 | [w],_=>
  rw [hd] at e
  simp [M.val] at e
  simpa using e
theorem qone_call {x:Int} {s:Bool} {r:Abs.Rows} (hx:IsI x s r):ACall Tryz.prog 118 [.val (.agg (iT s r))] ⟨[.val (tb (decide (x=1)))],[none]⟩:=by
 obtain ⟨n,hn⟩:∃ n,n=nl x.natAbs:=⟨_,rfl⟩
 have hlen:r.length=n:=by rw [hn]; exact hx.m.len
 obtain ⟨b,hb⟩:∃ b,b=decide (x=1):=⟨_,rfl⟩
 rw [<- hb]
 have hs1:s=true->false=b:=fun h=>by rw [hb]; refine (decide_eq_false ?_).symm; have:=hx.s; rw [h] at this; have:=of_decide_eq_true this.symm; omega
 have hn1:n ≠ 1->false=b:=fun h=>by
  rw [hb]; refine (decide_eq_false ?_).symm; rintro rfl
  exact h (by rw [hn]; rfl)
 have hg:n=1->s=false->decide ((dg x.natAbs).getD 0 0=1)=b:=fun h h'=>by
  rw [dg_one_iff (by rw [<- h,hn]; rfl),hb]
  have:=hx.s; rw [h'] at this; have:=of_decide_eq_false this.symm
  by_cases h1:x=1
  ·rw [decide_eq_true h1]; exact decide_eq_true (by omega)
  ·rw [decide_eq_false h1]; exact decide_eq_false (by omega)
 have hr:=hx.m
 unfold IsM at hr
 generalize dg x.natAbs=l at hg hr
 clear hx hb
 refine callZ ccOk mixed [.val] Tryz.func118 rfl rfl (by kernel_rfl) fun zA zB zC zD zE zF zG zH zI zJ zK zL zM zN zO zP zQ zR zT zU zV zX zY zZ zb zc zd ze zg zh zi zj zk zl zm zn zo zq zr zs zt zu zx zy zz zmget zmset zW zth A L F hS hF=>?_
 have e0:zQ s=!s:=hS.not s
 have e1:zM (zZ (zj r)) 1=decide (n=1):=by
  rw [hS.len,hlen,hS.eq,hS.ofN]
  by_cases h:n=1
  ·rw [decide_eq_true h]; exact decide_eq_true (by omega)
  ·rw [decide_eq_false h]; exact decide_eq_false (by omega)
 have e2:zP 0 0=true:=by rw [hS.le]; rfl
 have e3:n=1->zm .u32 r (zX 0)=true:=fun h=>by rw [hS.nat,hS.isI,hr,qav]; rw [hr,qal] at hlen; exact decide_eq_true (by simp; omega)
 have e4:n=1->s=false->zM (zn r (zX 0)) 1=b:=fun h h'=>by rw [hS.nat,hS.eq,hS.getI,hr,qap]; exact hg h h'
 clear hg hr hlen
 cbv
 refine ⟨fun h=>⟨fun h'=>?_,fun h'=>?_⟩,fun h=>?_⟩
 all_goals rw [e0] at h
 ·rw [e1] at h'
  have h':=of_decide_eq_true h'
  exact nd e2 (nd (e3 h') (fin1 hF (tv_bool (e4 h' (by simpa using h)))))
 ·rw [e1] at h'
  exact fin1 hF (tv_bool (hn1 (of_decide_eq_false h')))
 ·exact fin1 hF (tv_bool (hs1 (by simpa using h)))
end Go.Proofs.YtjfmkcmepdedaaaGreat
end
section
namespace Go.Abs
open Go.Abs.M
structure QC where
 s:Bool
 l:List Int
 t:Bool
 m:List Int
def QC.row (c:QC):List Tree:=iT c.s (W .u32 c.l) ++ iT c.t (W .u32 c.m)
structure QC.ok (c:QC) (k:Nat):Prop where
 l:Wd c.l
 m:Wd c.m
 ll:c.l.length<=k
 lm:c.m.length<=k
def qrows (cs:List QC):Rows:=cs.map QC.row
end Go.Abs
namespace Go.Abs
open Go.Abs.M
def qc (q:Rat):QC:=⟨decide (q.num < 0),dg q.num.natAbs,decide ((q.den:Int) < 0),dg (q.den:Int).natAbs⟩
theorem qc_isR (q:Rat):IsR q (qc q).s (W .u32 (qc q).l) (qc q).t (W .u32 (qc q).m):=⟨⟨rfl,rfl⟩,⟨rfl,rfl⟩⟩
theorem qc_row {q:Rat} {s t:Bool} {r p:Rows} (h:IsR q s r t p):iT s r ++ iT t p=(qc q).row:=by
 have h1:=h.n.s
 have h2:=h.n.m
 have h3:=h.d.s
 have h4:=h.d.m
 unfold IsM at h2 h4
 subst h1 h2 h3 h4
 rfl
def ur (P:List Rat):Rows:=qrows (P.map qc)
theorem qau (P:List Rat):(ur P).length=P.length:=by simp [ur,qrows]
theorem ur_get {P:List Rat} {i:Nat} {q:Rat} (h:P[i]?=some q):(ur P)[i]?=some (qc q).row:=by simp [ur,qrows,h]
theorem ur_app (P:List Rat) (q:Rat):ur (P ++ [q])=ur P ++ [(qc q).row]:=by simp [ur,qrows]
def tlen:List Rat->Nat->Nat
 | _,0=>0
 | P,k+1=>if P.getD k 0=0 then tlen P k else k+1
def ptrim (P:List Rat):List Rat:=P.take (tlen P P.length)
theorem tlen_le (P:List Rat):∀ k,tlen P k<=k
 | 0=>Nat.le_refl _
 | k+1=>by unfold tlen; split; have:=tlen_le P k; omega; omega
theorem tlen_last (P:List Rat):∀ k,tlen P k ≠ 0->P.getD (tlen P k - 1) 0 ≠ 0
 | 0,h=>absurd rfl h
 | k+1,h=>by
  unfold tlen at h ⊢
  split
  ·rename_i h0; rw [if_pos h0] at h; exact tlen_last P k h
  ·rename_i h0; simpa using h0
end Go.Abs
namespace Go.Abs
end Go.Abs
namespace Go.Abs
def accL (R:List Rat) (c:Rat) (B:List Rat) (k:Nat):Nat->List Rat
 | 0=>R
 | i+1=>(accL R c B k i).set (i+k) ((accL R c B k i).getD (i+k) 0+c*B.getD i 0)
def pacc (R:List Rat) (c:Rat) (B:List Rat) (k:Nat):List Rat:=accL R c B k B.length
theorem qbn (R:List Rat) (c:Rat) (B:List Rat) (k:Nat):∀ i,(accL R c B k i).length=R.length
 | 0=>rfl
 | i+1=>by unfold accL; rw [List.length_set,qbn R c B k i]
theorem accL_get {R:List Rat} {c:Rat} {B:List Rat} {k:Nat}:∀ (i j:Nat),i+k<=R.length->(accL R c B k i).getD j 0=if k<=j/\j < k+i then R.getD j 0+c*B.getD (j - k) 0 else R.getD j 0
 | 0,j,_=>by rw [if_neg (by omega)]; rfl
 | i+1,j,h=>by
  have ih:=accL_get (R:=R) (c:=c) (B:=B) (k:=k) i
  have hl:=qbn R c B k i
  unfold accL
  rw [List.getD_eq_getElem?_getD,List.getElem?_set]
  by_cases hj:i+k=j
  ·subst hj
   rw [if_pos rfl,if_pos (by omega),Option.getD_some,ih _ (by omega),if_neg (by omega),if_pos (by omega),show i+k - k=i by omega]
  ·rw [if_neg hj,<- List.getD_eq_getElem?_getD,ih j (by omega)]
   by_cases h2:k<=j/\j < k+i
   ·rw [if_pos h2,if_pos (by omega)]
   ·rw [if_neg h2,if_neg (by omega)]
theorem set_getD_self {l:List Rat} {j:Nat} (h:j < l.length):l.set j (l.getD j 0)=l:=by
 rw [List.getD_eq_getElem?_getD,List.getElem?_eq_getElem h,Option.getD_some]
 exact List.set_getElem_self h
theorem accL_skip {R:List Rat} {c:Rat} {B:List Rat} {k i:Nat} (h:i+k < R.length) (h0:c*B.getD i 0=0):accL R c B k (i+1)=accL R c B k i:=by
 show (accL R c B k i).set (i+k) ((accL R c B k i).getD (i+k) 0+c*B.getD i 0)=_
 rw [h0,Rat.add_zero,set_getD_self (by rw [qbn]; exact h)]
theorem accL_zero {R B:List Rat} {k:Nat}:∀ i,i+k<=R.length->accL R 0 B k i=R
 | 0,_=>rfl
 | i+1,h=>by rw [accL_skip (by omega) (Rat.zero_mul _),accL_zero i (by omega)]
theorem ur_set (P:List Rat) (i:Nat) (q:Rat):(ur P).set i (qc q).row=ur (P.set i q):=by
 simp only [ur,qrows,List.map_set]
end Go.Abs
end
section
namespace Go.Proofs.YtjfmkcmepdedaaaGreat
open Go Go.Abs Go.Abs.M Go.Proofs
theorem pneg_call {x:Rat} {s t:Bool} {r q:Abs.Rows} (hx:IsR x s r t q) (h1:Qs x 68719476736) :
  ∃ u w,IsR (-x) u w t q/\ACall Tryz.prog 38 [.val (.agg (iT s r ++ iT t q))] ⟨[.val (.agg (iT u w ++ iT t q))],[none]⟩:=by
 obtain ⟨u,w,h,c⟩:=ineg_call hx.n (by have:=h1.1; omega)
 refine ⟨u,w,⟨h,hx.d⟩,?_⟩
 refine callZ ccOk mixed [.val] Tryz.func38 rfl rfl (by kernel_rfl) fun zA zB zC zD zE zF zG zH zI zJ zK zL zM zN zO zP zQ zR zT zU zV zX zY zZ zb zc zd ze zg zh zi zj zk zl zm zn zo zq zr zs zt zu zx zy zz zmget zmset zW zth A L F hS hF=>?_
 cbv
 refine ⟨_,hS.call (c),?_⟩
 cbv
 exact hF _ (ResLe.refl _)
theorem pwhole_call {n:Int} {s:Bool} {r:Abs.Rows} (hn:IsI n s r):∃ v p,IsR (n:Rat) s r v p/\ACall Tryz.prog 91 [.val (.agg (iT s r))] ⟨[.val (.agg (iT s r ++ iT v p))],[none]⟩:=by
 obtain ⟨v,p,h,c⟩:=iof_call 1 (by omega) (by omega)
 refine ⟨v,p,⟨by rw [Rat.num_intCast]; exact hn,by rw [Rat.den_intCast]; exact h⟩,?_⟩
 refine callZ ccOk mixed [.val] Tryz.func91 rfl rfl (by kernel_rfl) fun zA zB zC zD zE zF zG zH zI zJ zK zL zM zN zO zP zQ zR zT zU zV zX zY zZ zb zc zd ze zg zh zi zj zk zl zm zn zo zq zr zs zt zu zx zy zz zmget zmset zW zth A L F hS hF=>?_
 cbv
 refine ⟨_,hS.call (c),?_⟩
 cbv
 exact hF _ (ResLe.refl _)
theorem pWhole_call (n:Int) (h1:-9223372036854775808<=n) (h2:n < 9223372036854775808):∃ s r v p,IsR (n:Rat) s r v p/\ACall Tryz.prog 41 [.val (ti .i64 n)] ⟨[.val (.agg (iT s r ++ iT v p))],[none]⟩:=by
 obtain ⟨s,r,h,c⟩:=iof_call n h1 h2
 obtain ⟨v,p,h3,c2⟩:=pwhole_call h
 refine ⟨s,r,v,p,h3,?_⟩
 refine callZ ccOk mixed [.val] Tryz.func41 rfl rfl (by kernel_rfl) fun zA zB zC zD zE zF zG zH zI zJ zK zL zM zN zO zP zQ zR zT zU zV zX zY zZ zb zc zd ze zg zh zi zj zk zl zm zn zo zq zr zs zt zu zx zy zz zmget zmset zW zth A L F hS hF=>?_
 cbv
 refine ⟨_,hS.call (c),?_⟩
 cbv
 refine ⟨_,hS.call (c2),?_⟩
 cbv
 exact hF _ (ResLe.refl _)
def proSt (R:Abs.Rows) (ps:Bool) (pr:Abs.Rows) (N i:Int):St:=mkSt 25 [.c (.t (.lst false R)),.junk,.c (.ptr 1 0 0),.c (.ptr 4 0 0),.junk,.junk,.junk,.c (.t (.lst false R)),vi .i64 N,vi .i64 i] [none,some (.var [.t (.v (.bool false)),.t (.lst true [])]),none,none,some (.var [.t (.v (.bool ps)),.t (.lst false pr)])]
theorem qone_ex {x:Int} {s:Bool} {r:Abs.Rows} (hx:IsI x s r):∃ b:Bool,(b=true ↔ x=1)/\ACall Tryz.prog 118 [.val (.agg (iT s r))] ⟨[.val (tb b)],[none]⟩:=⟨decide (x=1),by simp,qone_call hx⟩
theorem qa8 {x y:Int} {s t:Bool} {r q:Abs.Rows} (hx:IsI x s r) (hy:IsI y t q) (h1:nl x.natAbs<=274877906944) (h2:nl y.natAbs<=274877906944) :
  ∃ u w,IsI (x*y) u w/\ACall Tryz.prog 83 [.val (tl [iT s r,iT t q])] ⟨[.val (.agg (iT u w))],[none]⟩:=by
 obtain ⟨u,w,h⟩:∃ u w,IsI (x*y) u w:=⟨_,_,.mk' _⟩
 obtain ⟨a,b,ho,co⟩:=iof_call 1 (by omega) (by omega)
 have n1:nl (1:Int).natAbs<=274877906944:=Nat.le_trans (qaq (k:=1) (by omega)) (by omega)
 refine ⟨u,w,h,?_⟩
 obtain ⟨R,hR⟩:∃ R,R=([[.v (.bool s),.lst false r],[.v (.bool t),.lst false q]]:Abs.Rows):=⟨_,rfl⟩
 rw [show ([iT s r,iT t q]:Abs.Rows)=R from hR.symm]
 refine callZ ccOk mixed [.val] Tryz.func83 rfl rfl (by kernel_rfl) fun zA zB zC zD zE zF zG zH zI zJ zK zL zM zN zO zP zQ zR zT zU zV zX zY zZ zb zc zd ze zg zh zi zj zk zl zm zn zo zq zr zs zt zu zx zy zz zmget zmset zW zth A L F hS hF=>?_
 obtain ⟨N,hN,hN2⟩:∃ N:Int,N=2/\zZ (zj R)=N:=⟨_,rfl,by rw [hS.len,hS.ofN,hR]; rfl⟩
 have hz0:zk R (zX 0)=some [.v (.bool s),.lst false r]:=by rw [hS.nat,hS.nth,hR]; rfl
 have hz1:zk R (zX 1)=some [.v (.bool t),.lst false q]:=by rw [hS.nat,hS.nth,hR]; rfl
 clear hR
 cbv
 refine ⟨_,hS.call (co),?_⟩
 cbv
 refine loopZ ccOk mixed hS (fun (m:Nat) s'=>∃ (ps:Bool) (pr:Abs.Rows),(m=2/\IsI 1 ps pr/\s'=proSt R ps pr N 0) ∨ (m=1/\IsI x ps pr/\s'=proSt R ps pr N 1) ∨ (m=0/\IsI (x*y) ps pr/\s'=proSt R ps pr N 2)) (n:=2) (s0:=proSt R a b N 0) (qao ?_ ?_) rfl (by show 1<=5; omega) ?_ ?_
 ·simp [leT,proSt,mkSt,vi,hN2]
 ·simp [leH,proSt,mkSt]
 ·exact ⟨a,b,.inl ⟨rfl,ho,rfl⟩⟩
 ·rintro m s1 ⟨ps,pr,⟨hm0,hp,hs1⟩ | ⟨hm0,hp,hs1⟩ | ⟨hm0,hp,hs1⟩⟩
  ·have hmm:m - 1 < m:=by omega
   have nxt:∀ us ur,IsI (1*x) us ur->∃ (ps:Bool) (pr:Abs.Rows),(m - 1=2/\IsI 1 ps pr/\proSt R us ur N 1=proSt R ps pr N 0) ∨ (m - 1=1/\IsI x ps pr/\proSt R us ur N 1=proSt R ps pr N 1) ∨ (m - 1=0/\IsI (x*y) ps pr/\proSt R us ur N 1=proSt R ps pr N 2):=fun us ur hu=>
    ⟨us,ur,.inr (.inl ⟨by omega,hu.of (Int.one_mul x),rfl⟩)⟩
   have k1:zO 0 N=true:=by rw [hS.lt]; exact decide_eq_true (by omega)
   have g0:zP 0 0=true:=by rw [hS.le]; rfl
   obtain ⟨b1,hb1,c1⟩:=qone_ex hx
   obtain ⟨b2,hb2,c2⟩:=qone_ex hp
   obtain ⟨mu,mw,hm,c3⟩:=imul_call hp hx (by omega) (by omega)
   have ii:zA .i64 (zB 0 1)=1:=by rw [hS.add,hS.wrap]; rfl
   cases b1 with
   | true=>
    have h1:=hb1.1 rfl
    have hnx:=nxt ps pr (hp.of (by rw [h1,Int.mul_one]))
    subst hs1
    cbv
    refine bT k1 ?_
    rw [hz0]
    cbv
    refine nd (g0) ?_
    refine ⟨_,hS.call (c1),?_⟩
    cbv
    refine bT ((rfl:true=true)) ?_
    exact again (s':=proSt R ps pr N 1) (m:=m - 1) (by simp [leT,proSt,mkSt,vi,ii]) (by simp [leH,proSt,mkSt]) rfl (by show 1<=5; omega) hmm hnx
   | false=>
    cases b2 with
    | true=>
     have h2:=hb2.1 rfl
     have hnx:=nxt s r (hx.of (by rw [h2,Int.one_mul]))
     subst hs1
     cbv
     refine bT k1 ?_
     rw [hz0]
     cbv
     refine nd (g0) ?_
     refine ⟨_,hS.call (c1),?_⟩
     cbv
     refine bF ((rfl:false=false)) ?_
     refine ⟨_,hS.call (c2),?_⟩
     cbv
     refine bT ((rfl:true=true)) ?_
     exact again (s':=proSt R s r N 1) (m:=m - 1) (by simp [leT,proSt,mkSt,vi,ii]) (by simp [leH,proSt,mkSt]) rfl (by show 1<=5; omega) hmm hnx
    | false=>
     have hnx:=nxt mu mw hm
     subst hs1
     cbv
     refine bT k1 ?_
     rw [hz0]
     cbv
     refine nd (g0) ?_
     refine ⟨_,hS.call (c1),?_⟩
     cbv
     refine bF ((rfl:false=false)) ?_
     refine ⟨_,hS.call (c2),?_⟩
     cbv
     refine bF ((rfl:false=false)) ?_
     refine ⟨_,hS.call (c3),?_⟩
     cbv
     exact again (s':=proSt R mu mw N 1) (m:=m - 1) (by simp [leT,proSt,mkSt,vi,ii]) (by simp [leH,proSt,mkSt]) rfl (by show 1<=5; omega) hmm hnx
  ·have hmm:m - 1 < m:=by omega
   have nxt:∀ us ur,IsI (x*y) us ur->∃ (ps:Bool) (pr:Abs.Rows),(m - 1=2/\IsI 1 ps pr/\proSt R us ur N 2=proSt R ps pr N 0) ∨ (m - 1=1/\IsI x ps pr/\proSt R us ur N 2=proSt R ps pr N 1) ∨ (m - 1=0/\IsI (x*y) ps pr/\proSt R us ur N 2=proSt R ps pr N 2):=fun us ur hu=>
    ⟨us,ur,.inr (.inr ⟨by omega,hu,rfl⟩)⟩
   have k1:zO 1 N=true:=by rw [hS.lt]; exact decide_eq_true (by omega)
   have g0:zP 0 1=true:=by rw [hS.le]; rfl
   obtain ⟨b1,hb1,c1⟩:=qone_ex hy
   obtain ⟨b2,hb2,c2⟩:=qone_ex hp
   obtain ⟨mu,mw,hm,c3⟩:=imul_call hp hy (by omega) (by omega)
   have ii:zA .i64 (zB 1 1)=2:=by rw [hS.add,hS.wrap]; rfl
   cases b1 with
   | true=>
    have h1:=hb1.1 rfl
    have hnx:=nxt ps pr (hp.of (by rw [h1,Int.mul_one]))
    subst hs1
    cbv
    refine bT k1 ?_
    rw [hz1]
    cbv
    refine nd (g0) ?_
    refine ⟨_,hS.call (c1),?_⟩
    cbv
    refine bT ((rfl:true=true)) ?_
    exact again (s':=proSt R ps pr N 2) (m:=m - 1) (by simp [leT,proSt,mkSt,vi,ii]) (by simp [leH,proSt,mkSt]) rfl (by show 1<=5; omega) hmm hnx
   | false=>
    cases b2 with
    | true=>
     have h2:=hb2.1 rfl
     have hnx:=nxt t q (hy.of (by rw [h2,Int.one_mul]))
     subst hs1
     cbv
     refine bT k1 ?_
     rw [hz1]
     cbv
     refine nd (g0) ?_
     refine ⟨_,hS.call (c1),?_⟩
     cbv
     refine bF ((rfl:false=false)) ?_
     refine ⟨_,hS.call (c2),?_⟩
     cbv
     refine bT ((rfl:true=true)) ?_
     exact again (s':=proSt R t q N 2) (m:=m - 1) (by simp [leT,proSt,mkSt,vi,ii]) (by simp [leH,proSt,mkSt]) rfl (by show 1<=5; omega) hmm hnx
    | false=>
     have hnx:=nxt mu mw hm
     subst hs1
     cbv
     refine bT k1 ?_
     rw [hz1]
     cbv
     refine nd (g0) ?_
     refine ⟨_,hS.call (c1),?_⟩
     cbv
     refine bF ((rfl:false=false)) ?_
     refine ⟨_,hS.call (c2),?_⟩
     cbv
     refine bF ((rfl:false=false)) ?_
     refine ⟨_,hS.call (c3),?_⟩
     cbv
     exact again (s':=proSt R mu mw N 2) (m:=m - 1) (by simp [leT,proSt,mkSt,vi,ii]) (by simp [leH,proSt,mkSt]) rfl (by show 1<=5; omega) hmm hnx
  ·have k1:zO 2 N=false:=by rw [hS.lt]; exact decide_eq_false (by omega)
   obtain ⟨e1,e2⟩:=hp.inj h
   subst e1 e2
   subst hs1
   cbv
   refine bF (k1) ?_
   exact hF _ (ResLe.refl _)
open Go Go.Abs Go.Abs.M Go.Proofs
def madeN (n k:Int):Int:=if k % 8=7 then n*(4611686018427387904+k)*(4611686018427387904+k)+k else n
def madeD (d k:Int):Int:=if k % 8=6 then (if d=0 then 1 else d)*(4611686018427387904+k)*(4611686018427387904+k) else if d=0 then 1 else d
def madeQ (n d k:Int):Rat:=Rat.divInt (madeN n k) (madeD d k)
theorem made_nd {n d k:Int} (n1:-128<=n) (n2:n < 128) (d1:-128<=d) (d2:d < 128) (k1:0<=k) (k2:k < 256):nl (madeN n k).natAbs<=8/\nl (madeD d k).natAbs<=8/\madeD d k ≠ 0:=by
 have b:nl (4611686018427387904+k).natAbs<=2:=qaq (by omega)
 have sa:nl n.natAbs<=1:=qaq (by omega)
 have sb:nl d.natAbs<=1:=qaq (by omega)
 have s1:nl (1:Int).natAbs<=1:=qaq (by omega)
 have sk:nl k.natAbs<=1:=qaq (by omega)
 refine ⟨?_,?_,?_⟩
 ·unfold madeN
  split
  ·have h1:=qbr (n.natAbs*(4611686018427387904+k).natAbs) (4611686018427387904+k).natAbs
   have h2:=qbr n.natAbs (4611686018427387904+k).natAbs
   have h3:=nl_add (n*(4611686018427387904+k)*(4611686018427387904+k)).natAbs k.natAbs
   rw [Int.natAbs_mul,Int.natAbs_mul] at h3
   have h4:=qax (Int.natAbs_add_le (n*(4611686018427387904+k)*(4611686018427387904+k)) k)
   rw [Int.natAbs_mul,Int.natAbs_mul] at h4
   omega
  ·omega
 ·have key:∀ x:Int,nl x.natAbs<=1->nl (x*(4611686018427387904+k)*(4611686018427387904+k)).natAbs<=8:=fun x hx=>by
   rw [Int.natAbs_mul,Int.natAbs_mul]
   have h1:=qbr (x.natAbs*(4611686018427387904+k).natAbs) (4611686018427387904+k).natAbs
   have h2:=qbr x.natAbs (4611686018427387904+k).natAbs
   omega
  unfold madeD
  split
  ·exact key _ (by split <;> omega)
  ·split <;> omega
 ·unfold madeD
  split
  ·exact Int.mul_ne_zero (Int.mul_ne_zero (by split <;> omega) (by omega)) (by omega)
  ·split <;> omega
theorem rmade2_call (n d k:Int) (n1:-128<=n) (n2:n < 128) (d1:-128<=d) (d2:d < 128) (k1:0<=k) (k2:k < 256) :
  ∃ u w v p,IsR (madeQ n d k) u w v p/\ACall Tryz.prog 52 [.val (.agg [.v (.int .i8 n),.v (.int .i8 d),.v (.int .u8 k)])] ⟨[.val (.agg (iT u w ++ iT v p))],[none]⟩:=by
 obtain ⟨a1,a2,ha,ca⟩:=rof_call n (by omega) (by omega)
 obtain ⟨b1,b2,hb,cb⟩:=rof_call d (by omega) (by omega)
 obtain ⟨f1,f2,hf,cf⟩:=rof_call 1 (by omega) (by omega)
 obtain ⟨c1,c2,hc,cc⟩:=rof_call (4611686018427387904+k) (by omega) (by omega)
 obtain ⟨e1,e2,he,ce⟩:=rof_call k (by omega) (by omega)
 obtain ⟨s1,s2,s3⟩:=made_nd n1 n2 d1 d2 k1 k2
 have sc:nl (4611686018427387904+k).natAbs<=2:=qaq (by omega)
 have sa:nl n.natAbs<=2:=qaq (by omega)
 have sb:nl d.natAbs<=2:=qaq (by omega)
 have s1':nl (1:Int).natAbs<=2:=qaq (by omega)
 have sk:nl k.natAbs<=2:=qaq (by omega)
 obtain ⟨D,hD⟩:∃ D,D=if d=0 then 1 else d:=⟨_,rfl⟩
 obtain ⟨g1,g2,hg,hgd,sg⟩:∃ g1 g2,IsI D g1 g2/\(if d=0 then g1=f1/\g2=f2 else g1=b1/\g2=b2)/\nl D.natAbs<=2:=by
  by_cases h:d=0
  ·rw [if_pos h] at hD; subst hD; exact ⟨f1,f2,hf,by rw [if_pos h]; exact ⟨rfl,rfl⟩,s1'⟩
  ·rw [if_neg h] at hD; subst hD; exact ⟨b1,b2,hb,by rw [if_neg h]; exact ⟨rfl,rfl⟩,sb⟩
 obtain ⟨big,hbig⟩:∃ big,big=4611686018427387904+k:=⟨_,rfl⟩
 have eN7:k % 8=7->madeN n k=n*big*big+k:=fun h=>by unfold madeN; rw [if_pos h,hbig]
 have eN:¬ k % 8=7->madeN n k=n:=fun h=>by unfold madeN; rw [if_neg h]
 have eD6:k % 8=6->madeD d k=D*big*big:=fun h=>by unfold madeD; rw [if_pos h,hbig,hD]
 have eD:¬ k % 8=6->madeD d k=D:=fun h=>by unfold madeD; rw [if_neg h,hD]
 unfold madeQ
 rw [<- hbig] at hc cc sc
 obtain ⟨i1,i2,hi,ci⟩:=rmul_call ha hc (by omega) (by omega)
 obtain ⟨j1,j2,hj,cj⟩:=rmul_call hi hc (by rw [Int.natAbs_mul]; have:=qbr n.natAbs big.natAbs; omega) (by omega)
 have sj:nl (n*big*big).natAbs<=7:=by
  rw [Int.natAbs_mul,Int.natAbs_mul]
  have h1:=qbr (n.natAbs*big.natAbs) big.natAbs
  have h2:=qbr n.natAbs big.natAbs
  omega
 obtain ⟨l1,l2,hl,cl⟩:=radd_call hj he (by omega) (by omega)
 obtain ⟨m1,m2,hm,cm⟩:=rmul_call hg hc (by omega) (by omega)
 obtain ⟨o1,o2,ho,co⟩:=rmul_call hm hc (by rw [Int.natAbs_mul]; have:=qbr D.natAbs big.natAbs; omega) (by omega)
 by_cases h7:k % 8=7
 ·have h6:¬ k % 8=6:=by omega
  rw [eN7 h7] at s1
  rw [eD h6] at s2 s3
  rw [eN7 h7,eD h6]
  obtain ⟨u,w,v,p,hq,cq⟩:=rlowest_call hl hg s3 (by omega) (by omega)
  refine ⟨u,w,v,p,hq,?_⟩
  clear hq s1 s2 s3 sj sg sk s1' sb sa sc hD hc eN7 eN eD6 eD
  refine callZ ccOk mixed [.val] Tryz.func52 rfl rfl (by kernel_rfl) fun zA zB zC zD zE zF zG zH zI zJ zK zL zM zN zO zP zQ zR zT zU zV zX zY zZ zb zc zd ze zg zh zi zj zk zl zm zn zo zq zr zs zt zu zx zy zz zmget zmset zW zth A L F hS hF=>?_
  have w1:zA .i64 n=n:=by rw [hS.wrap,wrap_i64 (by omega) (by omega)]
  have w2:zA .i64 d=d:=by rw [hS.wrap,wrap_i64 (by omega) (by omega)]
  have w3:zA .i64 k=k:=by rw [hS.wrap,wrap_i64 (by omega) (by omega)]
  have w4:zA .i64 (zB 4611686018427387904 k)=big:=by rw [hS.wrap,hS.add,wrap_i64 (by omega) (by omega),hbig]
  have w5:zM (zF k 8) 7=true:=by rw [hS.eq,hS.rem,Int.tmod_eq_emod_of_nonneg k1]; exact decide_eq_true h7
  have w6:zM (zF k 8) 6=false:=by rw [hS.eq,hS.rem,Int.tmod_eq_emod_of_nonneg k1]; exact decide_eq_false h6
  cbv
  rw [w1]
  refine ⟨_,hS.call (ca),?_⟩
  cbv
  rw [w2]
  refine ⟨_,hS.call (cb),?_⟩
  cbv
  refine ⟨fun hh=>?_,fun hh=>?_⟩
  all_goals rw [hS.eq] at hh
  ·rw [if_pos (of_decide_eq_true hh)] at hgd
   obtain ⟨rfl,rfl⟩:=hgd
   refine ⟨_,hS.call (cf),?_⟩
   cbv
   rw [w3,w4]
   refine ⟨_,hS.call (cc),?_⟩
   cbv
   refine bT (w5) ?_
   refine ⟨_,hS.call (ci),?_⟩
   cbv
   refine ⟨_,hS.call (cj),?_⟩
   cbv
   rw [w3]
   refine ⟨_,hS.call (ce),?_⟩
   cbv
   refine ⟨_,hS.call (cl),?_⟩
   cbv
   refine bF (w6) ?_
   refine ⟨_,hS.call (cq),?_⟩
   cbv
   exact hF _ (ResLe.refl _)
  ·rw [if_neg (of_decide_eq_false hh)] at hgd
   obtain ⟨rfl,rfl⟩:=hgd
   rw [w3,w4]
   refine ⟨_,hS.call (cc),?_⟩
   cbv
   refine bT (w5) ?_
   refine ⟨_,hS.call (ci),?_⟩
   cbv
   refine ⟨_,hS.call (cj),?_⟩
   cbv
   rw [w3]
   refine ⟨_,hS.call (ce),?_⟩
   cbv
   refine ⟨_,hS.call (cl),?_⟩
   cbv
   refine bF (w6) ?_
   refine ⟨_,hS.call (cq),?_⟩
   cbv
   exact hF _ (ResLe.refl _)
 ·by_cases h6:k % 8=6
  ·rw [eN h7] at s1
   rw [eD6 h6] at s2 s3
   rw [eN h7,eD6 h6]
   obtain ⟨u,w,v,p,hq,cq⟩:=rlowest_call ha ho s3 (by omega) (by omega)
   refine ⟨u,w,v,p,hq,?_⟩
   clear hq s1 s2 s3 sj sg sk s1' sb sa sc hD hc eN7 eN eD6 eD
   refine callZ ccOk mixed [.val] Tryz.func52 rfl rfl (by kernel_rfl) fun zA zB zC zD zE zF zG zH zI zJ zK zL zM zN zO zP zQ zR zT zU zV zX zY zZ zb zc zd ze zg zh zi zj zk zl zm zn zo zq zr zs zt zu zx zy zz zmget zmset zW zth A L F hS hF=>?_
   have w1:zA .i64 n=n:=by rw [hS.wrap,wrap_i64 (by omega) (by omega)]
   have w2:zA .i64 d=d:=by rw [hS.wrap,wrap_i64 (by omega) (by omega)]
   have w3:zA .i64 k=k:=by rw [hS.wrap,wrap_i64 (by omega) (by omega)]
   have w4:zA .i64 (zB 4611686018427387904 k)=big:=by rw [hS.wrap,hS.add,wrap_i64 (by omega) (by omega),hbig]
   have w5:zM (zF k 8) 7=false:=by rw [hS.eq,hS.rem,Int.tmod_eq_emod_of_nonneg k1]; exact decide_eq_false h7
   have w6:zM (zF k 8) 6=true:=by rw [hS.eq,hS.rem,Int.tmod_eq_emod_of_nonneg k1]; exact decide_eq_true h6
   cbv
   rw [w1]
   refine ⟨_,hS.call (ca),?_⟩
   cbv
   rw [w2]
   refine ⟨_,hS.call (cb),?_⟩
   cbv
   refine ⟨fun hh=>?_,fun hh=>?_⟩
   all_goals rw [hS.eq] at hh
   ·rw [if_pos (of_decide_eq_true hh)] at hgd
    obtain ⟨rfl,rfl⟩:=hgd
    refine ⟨_,hS.call (cf),?_⟩
    cbv
    rw [w3,w4]
    refine ⟨_,hS.call (cc),?_⟩
    cbv
    refine bF (w5) ?_
    refine bT (w6) ?_
    refine ⟨_,hS.call (cm),?_⟩
    cbv
    refine ⟨_,hS.call (co),?_⟩
    cbv
    refine ⟨_,hS.call (cq),?_⟩
    cbv
    exact hF _ (ResLe.refl _)
   ·rw [if_neg (of_decide_eq_false hh)] at hgd
    obtain ⟨rfl,rfl⟩:=hgd
    rw [w3,w4]
    refine ⟨_,hS.call (cc),?_⟩
    cbv
    refine bF (w5) ?_
    refine bT (w6) ?_
    refine ⟨_,hS.call (cm),?_⟩
    cbv
    refine ⟨_,hS.call (co),?_⟩
    cbv
    refine ⟨_,hS.call (cq),?_⟩
    cbv
    exact hF _ (ResLe.refl _)
  ·rw [eN h7] at s1
   rw [eD h6] at s2 s3
   rw [eN h7,eD h6]
   obtain ⟨u,w,v,p,hq,cq⟩:=rlowest_call ha hg s3 (by omega) (by omega)
   refine ⟨u,w,v,p,hq,?_⟩
   clear hq s1 s2 s3 sj sg sk s1' sb sa sc hD hc eN7 eN eD6 eD
   refine callZ ccOk mixed [.val] Tryz.func52 rfl rfl (by kernel_rfl) fun zA zB zC zD zE zF zG zH zI zJ zK zL zM zN zO zP zQ zR zT zU zV zX zY zZ zb zc zd ze zg zh zi zj zk zl zm zn zo zq zr zs zt zu zx zy zz zmget zmset zW zth A L F hS hF=>?_
   have w1:zA .i64 n=n:=by rw [hS.wrap,wrap_i64 (by omega) (by omega)]
   have w2:zA .i64 d=d:=by rw [hS.wrap,wrap_i64 (by omega) (by omega)]
   have w3:zA .i64 k=k:=by rw [hS.wrap,wrap_i64 (by omega) (by omega)]
   have w4:zA .i64 (zB 4611686018427387904 k)=big:=by rw [hS.wrap,hS.add,wrap_i64 (by omega) (by omega),hbig]
   have w5:zM (zF k 8) 7=false:=by rw [hS.eq,hS.rem,Int.tmod_eq_emod_of_nonneg k1]; exact decide_eq_false h7
   have w6:zM (zF k 8) 6=false:=by rw [hS.eq,hS.rem,Int.tmod_eq_emod_of_nonneg k1]; exact decide_eq_false h6
   cbv
   rw [w1]
   refine ⟨_,hS.call (ca),?_⟩
   cbv
   rw [w2]
   refine ⟨_,hS.call (cb),?_⟩
   cbv
   refine ⟨fun hh=>?_,fun hh=>?_⟩
   all_goals rw [hS.eq] at hh
   ·rw [if_pos (of_decide_eq_true hh)] at hgd
    obtain ⟨rfl,rfl⟩:=hgd
    refine ⟨_,hS.call (cf),?_⟩
    cbv
    rw [w3,w4]
    refine ⟨_,hS.call (cc),?_⟩
    cbv
    refine bF (w5) ?_
    refine bF (w6) ?_
    refine ⟨_,hS.call (cq),?_⟩
    cbv
    exact hF _ (ResLe.refl _)
   ·rw [if_neg (of_decide_eq_false hh)] at hgd
    obtain ⟨rfl,rfl⟩:=hgd
    rw [w3,w4]
    refine ⟨_,hS.call (cc),?_⟩
    cbv
    refine bF (w5) ?_
    refine bF (w6) ?_
    refine ⟨_,hS.call (cq),?_⟩
    cbv
    exact hF _ (ResLe.refl _)
open Go Go.Abs Go.Abs.M Go.Proofs
theorem divInt_small {n d:Int} {k:Nat} (hd:d ≠ 0) (h1:nl n.natAbs<=k) (h2:nl d.natAbs<=k):Qs (Rat.divInt n d) k:=by
 constructor
 ·rw [<- lowest_num hd]
  have:=qax (Int.natAbs_ediv_le_natAbs n (if d < 0 then -(Int.gcd n d:Int) else (Int.gcd n d:Int)))
  omega
 ·have e:=lowest_den (n:=n) hd
  have:=qax (Int.natAbs_ediv_le_natAbs d (if d < 0 then -(Int.gcd n d:Int) else (Int.gcd n d:Int)))
  rw [e,Int.natAbs_natCast] at this
  omega
theorem madeQ_small {n d k:Int} (n1:-128<=n) (n2:n < 128) (d1:-128<=d) (d2:d < 128) (k1:0<=k) (k2:k < 256):Qs (madeQ n d k) 8:=by
 obtain ⟨h1,h2,h3⟩:=made_nd n1 n2 d1 d2 k1 k2
 exact divInt_small h3 h1 h2
theorem Qs.mono {x:Rat} {a b:Nat} (h:Qs x a) (hab:a<=b):Qs x b:=⟨Nat.le_trans h.1 hab,Nat.le_trans h.2 hab⟩
theorem add_small {x y:Rat} {a b:Nat} (hx:Qs x a) (hy:Qs y b):Qs (x+y) (a+b+1):=by
 obtain ⟨x1,x2⟩:=hx
 obtain ⟨y1,y2⟩:=hy
 have hx0:=x.den_nz
 have hy0:=y.den_nz
 have h:x+y=Rat.divInt (x.num*y.den+y.num*x.den) (x.den*y.den):=by
  rw [<- Rat.divInt_add_divInt _ _ (by omega) (by omega),Rat.num_divInt_den,Rat.num_divInt_den]
 rw [h]
 have n1:=qbr x.num.natAbs y.den
 have n2:=qbr y.num.natAbs x.den
 have n3:=qbr x.den y.den
 refine divInt_small (Int.mul_ne_zero (by omega) (by omega)) ?_ ?_
 ·have h1:=qax (Int.natAbs_add_le (x.num*y.den) (y.num*x.den))
  have h2:=nl_add (x.num*y.den).natAbs (y.num*x.den).natAbs
  rw [Int.natAbs_mul,Int.natAbs_mul,Int.natAbs_natCast,Int.natAbs_natCast] at h2
  rw [Int.natAbs_mul,Int.natAbs_mul,Int.natAbs_natCast,Int.natAbs_natCast] at h1
  omega
 ·rw [Int.natAbs_mul,Int.natAbs_natCast,Int.natAbs_natCast]; omega
theorem mul_small {x y:Rat} {a b:Nat} (hx:Qs x a) (hy:Qs y b):Qs (x*y) (a+b):=by
 obtain ⟨x1,x2⟩:=hx
 obtain ⟨y1,y2⟩:=hy
 have hx0:=x.den_nz
 have hy0:=y.den_nz
 have h:x*y=Rat.divInt (x.num*y.num) (x.den*y.den):=by
  rw [<- Rat.divInt_mul_divInt,Rat.num_divInt_den,Rat.num_divInt_den]
 rw [h]
 have n1:=qbr x.num.natAbs y.num.natAbs
 have n3:=qbr x.den y.den
 refine divInt_small (Int.mul_ne_zero (by omega) (by omega)) ?_ ?_
 ·rw [Int.natAbs_mul]; omega
 ·rw [Int.natAbs_mul,Int.natAbs_natCast,Int.natAbs_natCast]; omega
open Go Go.Abs Go.Abs.M Go.Proofs
end Go.Proofs.YtjfmkcmepdedaaaGreat
end
section
namespace Go.Abs
theorem LoopP.introR {P:Program} {C:Cfg} {n0:Nat} {st:St} (hC:CfgOk P C) (hmix:P.follows .mixedOrders=true) {c:Code} {Q:AExit->St->Prop} (I:Nat->St->Prop) {n:Nat} {s0:St} (hl:st.Le s0) (hb:s0.refsLt=true) (hk:n0<=s0.heap.length) (h0:I n s0)
  (round:∀ n s,I n s->CodeK P C n0 c s fun e s=>match e with
   | .normal=>∃ ρ s',s.LeR n0 ρ s'/\s'.refsLt=true/\n0<=s'.heap.length/\∃ m,m < n/\I m s'
   | .exit id=>Q (.exit id) s
   | .ret=>Q .ret s):LoopP P n0 c st Q:=by
 refine ARun.weaken hl hb hk (ARun.loop I (fun n s hI=>ARun.postRen ((CodeK.run hC hmix c s _ (round n s hI)).mono fun e s1 h1=>?_)) h0)
 cases e with
 | normal=>
  obtain ⟨ρ,s',h2,h3,h4,m,h5,h6⟩:=h1
  exact .inr ⟨ρ,s',h2,h3,h4,m,h5,h6⟩
 | exit id=>exact .inl h1
 | ret=>exact .inl h1
theorem againR {s s':St} {n0 n k:Nat} {I:Nat->St->Prop} (m:List (Nat × Nat)) (h1:leTR (renF m) s.tmps s'.tmps) (h2:leHR (renF m) s.heap 0 s'.heap) (h3:(liveR (renF m) 0 s'.heap).Nodup) (h4:∀ p ∈ m,n0<=p.1)
  (h5:s'.refsLt=true) (h6:n0<=s'.heap.length) (hm:k < n) (hI:I k s'):∃ ρ s',s.LeR n0 ρ s'/\s'.refsLt=true/\n0<=s'.heap.length/\∃ m,m < n/\I m s':=⟨_,s',leR_of m h1 h2 h3 h4,h5,h6,k,hm,hI⟩
section
variable {P:Program} {C:Cfg} {n0:Nat} {zA:IntKind->Int->Int} {zB:Int->Int->Int} {zC:Int->Int->Int} {zD:Int->Int->Int} {zE:Int->Int->Int} {zF:Int->Int->Int} {zG:IntKind->Int->Int->Int} {zH:IntKind->Int->Int->Int} {zI:IntKind->Int->Int->Int} {zJ:IntKind->Int->Int->Int} {zK:IntKind->Int->Int->Int} {zL:IntKind->Int->Int->Int} {zM:Int->Int->Bool} {zN:Int->Int->Bool} {zO:Int->Int->Bool} {zP:Int->Int->Bool} {zQ:Bool->Bool} {zR:Bool->Bool->Bool} {zT:Bool->Bool->Bool} {zU:Int->Int->Int} {zV:Int->Int->Int} {zX:Int->Nat} {zY:Int->Nat->Bool} {zZ:Nat->Int} {zb:Nat->Int->Nat} {zc:Nat->Nat->Bool} {zd:Nat->Nat->Nat} {ze:Int->Int->Nat} {zg:Int->Int->Nat->Bool} {zh:Nat->Nat->Nat->Bool} {zi:Int->Int->Nat->Bool} {zj:Rows->Nat} {zk:Rows->Nat->Option (List Tree)} {zl:Rows->Nat->List Tree->Rows} {zm:IntKind->Rows->Nat->Bool} {zn:Rows->Nat->Int} {zo:IntKind->Rows->Nat->Int->Rows} {zq:Nat->Nat->Rows->Bool} {zr:Rows->Nat->Nat->Rows} {zs:Rows->Nat->Rows->Rows} {zt:Rows->Nat->Rows->Rows} {zu:Nat->List Tree->Rows} {zx:Nat->Rows->Bool} {zy:List Bool->Bool} {zz:List (Value × Tree)->Value->Bool} {zmget:List (Value × Tree)->Value->Bool} {zmset:List (Value × Tree)->Value->Tree->List (Value × Tree)} {zW:IntKind->List Int->Rows} {zth:(α:Type)->(Unit->α)->α} {A:FuncId->Ask->Ans->Prop} {L:Code->St->(AExit->ST->Prop)->Prop}
theorem loopZR (hC:CfgOk P C) (hmix:P.follows .mixedOrders=true) (hS:Std P n0 zA zB zC zD zE zF zG zH zI zJ zK zL zM zN zO zP zQ zR zT zU zV zX zY zZ zb zc zd ze zg zh zi zj zk zl zm zn zo zq zr zs zt zu zx zy zz zmget zmset zW zth A L) {c:Code} {st:St} {Q:AExit->ST->Prop} (I:Nat->St->Prop) {n:Nat} {s0:St} (hl:st.Le s0) (hb:s0.refsLt=true) (hk:n0<=s0.heap.length) (h0:I n s0)
  (round:∀ n s,I n s->CodeKZ (ZI.mk zA zB zC zD zE zF zG zH zI zJ zK zL zM zN zO zP zQ zR zT zU zV zX zY zZ zb zc zd ze zg zh zi zj zk zl zm zn zo zq zr zs zt zu zx zy zz zmget zmset) C A L c (ST.ofSt s) fun e s=>match e with
   | .normal=>match s.toSt with
    | ⟨t,h⟩=>∃ ρ s',(St.mk t h).LeR n0 ρ s'/\s'.refsLt=true/\n0<=s'.heap.length/\∃ m,m < n/\I m s'
   | .exit id=>Q (.exit id) s
   | .ret=>Q .ret s):L c st Q:=by
 rw [hS.z,hS.a,hS.l] at round
 rw [hS.l]
 refine fun hT=>LoopP.introR hC hmix I hl hb hk h0 fun n s hI=>?_
 have:=codeKZ_std c _ (ST.ofSt_ok s) hT (round n s hI)
 rw [ST.toSt_ofSt] at this
 refine qbq c s this fun e s1 h1=>?_
 obtain ⟨s',ho,rfl,h2⟩:=h1
 cases e with
 | normal=>exact h2
 | exit id=>exact ⟨s',ho,rfl,h2⟩
 | ret=>exact ⟨s',ho,rfl,h2⟩
end
end Go.Abs
end
section
namespace Go.Proofs.YtjfmkcmepdedaaaGreat
open Go Go.Abs Go.Abs.M Go.Proofs
open Go Go.Abs Go.Abs.M Go.Proofs
structure RW where
 n:Int
 d:Int
 k:Int
structure RW.ok (x:RW):Prop where
 n1:-128<=x.n
 n2:x.n < 128
 d1:-128<=x.d
 d2:x.d < 128
 k1:0<=x.k
 k2:x.k < 256
def RW.row (x:RW):List Tree:=[.v (.int .i8 x.n),.v (.int .i8 x.d),.v (.int .u8 x.k)]
def RW.q (x:RW):Rat:=madeQ x.n x.d x.k
theorem rmadeQ_call (x:RW) (hx:x.ok):ACall Tryz.prog 52 [.val (.agg x.row)] ⟨[.val (.agg (qc x.q).row)],[none]⟩:=by
 obtain ⟨u,w,v,p,h1,h2⟩:=rmade2_call x.n x.d x.k hx.n1 hx.n2 hx.d1 hx.d2 hx.k1 hx.k2
 rw [qc_row h1] at h2
 exact h2
open Go Go.Abs Go.Abs.M Go.Proofs
theorem qsign_call {x:Int} {s t:Bool} {r q:Abs.Rows} (c:Int) (hx:IsI x s r) (hc:c=cmpI x 0):ACall Tryz.prog 36 [.val (.agg (iT s r ++ iT t q))] ⟨[.val (ti .i64 c)],[none]⟩:=by
 have c1:=isign_call c hx hc
 refine callZ ccOk mixed [.val] Tryz.func36 rfl rfl (by kernel_rfl) fun zA zB zC zD zE zF zG zH zI zJ zK zL zM zN zO zP zQ zR zT zU zV zX zY zZ zb zc zd ze zg zh zi zj zk zl zm zn zo zq zr zs zt zu zx zy zz zmget zmset zW zth A L F hS hF=>?_
 cbv
 refine ⟨_,hS.call (c1),?_⟩
 cbv
 exact hF _ (ResLe.refl _)
theorem cmp00 (x:Int):cmpI x 0=0 ↔ x=0:=by
 unfold cmpI
 by_cases h:x < 0
 ·rw [if_pos h]; omega
 ·rw [if_neg h]; split <;> omega
open Go Go.Abs Go.Abs.M Go.Proofs
theorem gcd_nl {n d:Int} {k:Nat} (h1:nl n.natAbs<=k) (h2:nl d.natAbs<=k):nl (Int.gcd n d:Int).natAbs<=k:=by
 rw [Int.natAbs_natCast]
 by_cases h:n=0
 ·subst h
  have:Int.gcd 0 d=d.natAbs:=by simp [Int.gcd]
  rw [this]; omega
 ·have:Int.gcd n d<=n.natAbs:=Nat.gcd_le_left _ (by omega)
  have:=qax this
  omega
theorem plowest_call {n d:Int} {s t:Bool} {r q:Abs.Rows} (hn:IsI n s r) (hd:IsI d t q) (hd0:0 < d) (h1:nl n.natAbs<=274877906944) (h2:nl d.natAbs<=274877906944) :
  ∃ u w v p,IsR (Rat.divInt n d) u w v p/\ACall Tryz.prog 82 [.val (.agg (iT s r)),.val (.agg (iT t q))] ⟨[.val (.agg (iT u w ++ iT v p))],[none,none]⟩:=by
 obtain ⟨b1,hb1,c1⟩:=qone_ex hd
 have ln:=lowest_num (n:=n) (d:=d) (by omega)
 have ld:=lowest_den (n:=n) (d:=d) (by omega)
 rw [if_neg (by omega)] at ln ld
 cases b1 with
 | true=>
  have h:=hb1.1 rfl
  subst h
  refine ⟨s,r,t,q,⟨by rw [<- ln,Int.gcd_one_right]; simpa using hn,by rw [<- ld,Int.gcd_one_right]; simpa using hd⟩,?_⟩
  refine callZ ccOk mixed [.val] Tryz.func82 rfl rfl (by kernel_rfl) fun zA zB zC zD zE zF zG zH zI zJ zK zL zM zN zO zP zQ zR zT zU zV zX zY zZ zb zc zd ze zg zh zi zj zk zl zm zn zo zq zr zs zt zu zx zy zz zmget zmset zW zth A L F hS hF=>?_
  cbv
  refine ⟨_,hS.call (c1),?_⟩
  cbv
  refine bT ((rfl:true=true)) ?_
  exact hF _ (ResLe.refl _)
 | false=>
  obtain ⟨w,hw,c2⟩:=igcd_call hn hd h1 h2
  obtain ⟨b2,hb2,c3⟩:=qone_ex hw
  have hg0:(Int.gcd n d:Int) ≠ 0:=by
   have:Int.gcd n d ≠ 0:=fun h=>by have:=(Int.gcd_eq_zero_iff.1 h).2; omega
   omega
  cases b2 with
  | true=>
   have h:=hb2.1 rfl
   rw [h] at ln ld
   refine ⟨s,r,t,q,⟨by rw [<- ln,Int.ediv_one]; exact hn,by rw [<- ld,Int.ediv_one]; exact hd⟩,?_⟩
   refine callZ ccOk mixed [.val] Tryz.func82 rfl rfl (by kernel_rfl) fun zA zB zC zD zE zF zG zH zI zJ zK zL zM zN zO zP zQ zR zT zU zV zX zY zZ zb zc zd ze zg zh zi zj zk zl zm zn zo zq zr zs zt zu zx zy zz zmget zmset zW zth A L F hS hF=>?_
   cbv
   refine ⟨_,hS.call (c1),?_⟩
   cbv
   refine bF ((rfl:false=false)) ?_
   refine ⟨_,hS.call (c2),?_⟩
   cbv
   refine ⟨_,hS.call (c3),?_⟩
   cbv
   refine bT ((rfl:true=true)) ?_
   exact hF _ (ResLe.refl _)
  | false=>
   have hgl:=gcd_nl h1 h2
   obtain ⟨a,b,_,e1,_,c4⟩:=idivmod_call hn hw hg0 h1 hgl
   obtain ⟨a',b',_,e2,_,c5⟩:=idivmod_call hd hw hg0 h2 hgl
   refine ⟨a,b,a',b',⟨e1.of ln,e2.of ld⟩,?_⟩
   refine callZ ccOk mixed [.val] Tryz.func82 rfl rfl (by kernel_rfl) fun zA zB zC zD zE zF zG zH zI zJ zK zL zM zN zO zP zQ zR zT zU zV zX zY zZ zb zc zd ze zg zh zi zj zk zl zm zn zo zq zr zs zt zu zx zy zz zmget zmset zW zth A L F hS hF=>?_
   cbv
   refine ⟨_,hS.call (c1),?_⟩
   cbv
   refine bF ((rfl:false=false)) ?_
   refine ⟨_,hS.call (c2),?_⟩
   cbv
   refine ⟨_,hS.call (c3),?_⟩
   cbv
   refine bF ((rfl:false=false)) ?_
   refine ⟨_,hS.call (c4),?_⟩
   cbv
   refine ⟨_,hS.call (c5),?_⟩
   cbv
   exact hF _ (ResLe.refl _)
theorem padd_call {x y:Rat} {s t s' t':Bool} {r q r' q':Abs.Rows} (hx:IsR x s r t q) (hy:IsR y s' r' t' q') (h1:Qs x 68719476736) (h2:Qs y 68719476736) :
  ∃ u w v p,IsR (x+y) u w v p/\ACall Tryz.prog 86 [.val (.agg (iT s r ++ iT t q)),.val (.agg (iT s' r' ++ iT t' q'))] ⟨[.val (.agg (iT u w ++ iT v p))],[none,none]⟩:=by
 obtain ⟨x1,x2⟩:=h1
 obtain ⟨y1,y2⟩:=h2
 have n1:=qbr x.num.natAbs y.den
 have n2:=qbr y.num.natAbs x.den
 have n3:=qbr x.den y.den
 have hx0:=x.den_pos
 have hy0:=y.den_pos
 obtain ⟨a,b,ha,ca⟩:=qa8 hx.n hy.d (by omega) (by rw [Int.natAbs_natCast]; omega)
 obtain ⟨a',b',ha',ca'⟩:=qa8 hy.n hx.d (by omega) (by rw [Int.natAbs_natCast]; omega)
 have m1:nl (x.num*y.den).natAbs<=137438953472:=by rw [Int.natAbs_mul,Int.natAbs_natCast]; omega
 have m2:nl (y.num*x.den).natAbs<=137438953472:=by rw [Int.natAbs_mul,Int.natAbs_natCast]; omega
 obtain ⟨e,f,he,ce⟩:=iadd_call ha ha' (by omega) (by omega)
 obtain ⟨c,d,hc,cc⟩:=qa8 hx.d hy.d (by rw [Int.natAbs_natCast]; omega) (by rw [Int.natAbs_natCast]; omega)
 obtain ⟨u,w,v,p,hu,cl⟩:=plowest_call he hc (Int.mul_pos (by omega) (by omega))
  (by
   have:=qax (Int.natAbs_add_le (x.num*y.den) (y.num*x.den))
   have:=nl_add (x.num*y.den).natAbs (y.num*x.den).natAbs
   omega)
  (by rw [Int.natAbs_mul,Int.natAbs_natCast,Int.natAbs_natCast]; omega)
 refine ⟨u,w,v,p,?_,?_⟩
 ·rw [<- Rat.divInt_add_divInt _ _ (by omega) (by omega),Rat.num_divInt_den,Rat.num_divInt_den] at hu
  exact hu
 refine callZ ccOk mixed [.val] Tryz.func86 rfl rfl (by kernel_rfl) fun zA zB zC zD zE zF zG zH zI zJ zK zL zM zN zO zP zQ zR zT zU zV zX zY zZ zb zc zd ze zg zh zi zj zk zl zm zn zo zq zr zs zt zu zx zy zz zmget zmset zW zth A L F hS hF=>?_
 have zf:∀ (a b:Bool) (c d:Abs.Rows),zq 0 2 [[.v (.bool a),.lst false c],[.v (.bool b),.lst false d]]=true:=fun a b c d=>by rw [hS.fit]; rfl
 have zp:∀ (a b:Bool) (c d:Abs.Rows),zr [[.v (.bool a),.lst false c],[.v (.bool b),.lst false d]] 0 2=[[.v (.bool a),.lst false c],[.v (.bool b),.lst false d]]:=fun a b c d=>by rw [hS.part]; rfl
 cbv
 refine nd (zf ..) ?_
 rw [zp]
 refine ⟨_,hS.call (ca),?_⟩
 cbv
 refine nd (zf ..) ?_
 rw [zp]
 refine ⟨_,hS.call (ca'),?_⟩
 cbv
 refine ⟨_,hS.call (ce),?_⟩
 cbv
 refine nd (zf ..) ?_
 rw [zp]
 refine ⟨_,hS.call (cc),?_⟩
 cbv
 refine ⟨_,hS.call (cl),?_⟩
 cbv
 exact hF _ (ResLe.refl _)
theorem Qs.neg {x:Rat} {k:Nat} (h:Qs x k):Qs (-x) k:=⟨by show nl (-x.num).natAbs<=k; rw [Int.natAbs_neg]; exact h.1,h.2⟩
theorem psub_call {x y:Rat} {s t s' t':Bool} {r q r' q':Abs.Rows} (hx:IsR x s r t q) (hy:IsR y s' r' t' q') (h1:Qs x 68719476736) (h2:Qs y 68719476736) :
  ∃ u w v p,IsR (x - y) u w v p/\ACall Tryz.prog 126 [.val (.agg (iT s r ++ iT t q)),.val (.agg (iT s' r' ++ iT t' q'))] ⟨[.val (.agg (iT u w ++ iT v p))],[none,none]⟩:=by
 obtain ⟨a,b,hn,c1⟩:=pneg_call hy h2
 obtain ⟨u,w,v,p,h,c2⟩:=padd_call hx hn h1 h2.neg
 refine ⟨u,w,v,p,by rw [Rat.sub_eq_add_neg]; exact h,?_⟩
 refine callZ ccOk mixed [.val] Tryz.func126 rfl rfl (by kernel_rfl) fun zA zB zC zD zE zF zG zH zI zJ zK zL zM zN zO zP zQ zR zT zU zV zX zY zZ zb zc zd ze zg zh zi zj zk zl zm zn zo zq zr zs zt zu zx zy zz zmget zmset zW zth A L F hS hF=>?_
 cbv
 refine ⟨_,hS.call (c1),?_⟩
 cbv
 refine ⟨_,hS.call (c2),?_⟩
 cbv
 exact hF _ (ResLe.refl _)
theorem divInt_red {n d:Int} (hd:0 < d) (hg:Int.gcd n d=1):(Rat.divInt n d).num=n/\((Rat.divInt n d).den:Int)=d:=by
 have ln:=lowest_num (n:=n) (d:=d) (by omega)
 have ld:=lowest_den (n:=n) (d:=d) (by omega)
 rw [if_neg (by omega),hg] at ln ld
 exact ⟨by rw [<- ln]; simp,by rw [<- ld]; simp⟩
theorem divInt_dvd {n d:Int} (hd:0 < d):(Rat.divInt n d).num ∣ n/\((Rat.divInt n d).den:Int) ∣ d:=by
 have ln:=lowest_num (n:=n) (d:=d) (by omega)
 have ld:=lowest_den (n:=n) (d:=d) (by omega)
 rw [if_neg (by omega)] at ln ld
 exact ⟨by rw [<- ln]; exact Int.ediv_dvd_of_dvd (Int.gcd_dvd_left ..),by rw [<- ld]; exact Int.ediv_dvd_of_dvd (Int.gcd_dvd_right ..)⟩
theorem cop_dvd {a b c d:Int} (h:Int.gcd a b=1) (h1:c ∣ a) (h2:d ∣ b):Int.gcd c d=1:=by
 have:=Int.gcd_dvd_gcd_of_dvd_left b h1
 have h3:=Int.gcd_dvd_gcd_of_dvd_right c h2
 rw [h] at this
 exact Nat.dvd_one.1 (Nat.dvd_trans h3 this)
theorem rat_red (x:Rat):Int.gcd x.num x.den=1:=by
 have:=x.reduced
 unfold Nat.Coprime at this
 unfold Int.gcd
 rw [Int.natAbs_natCast]; exact this
theorem mul_cross (x y:Rat):(x*y).num=(Rat.divInt x.num y.den).num*(Rat.divInt y.num x.den).num/\((x*y).den:Int)=(Rat.divInt x.num y.den).den*(Rat.divInt y.num x.den).den:=by
 have hx:=x.den_pos
 have hy:=y.den_pos
 obtain ⟨a1,a2⟩:=divInt_dvd (n:=x.num) (d:=y.den) (by omega)
 obtain ⟨b1,b2⟩:=divInt_dvd (n:=y.num) (d:=x.den) (by omega)
 have e:x*y=Rat.divInt x.num y.den*Rat.divInt y.num x.den:=by
  rw [Rat.divInt_mul_divInt,Int.mul_comm (y.den:Int),<- Rat.divInt_mul_divInt,Rat.num_divInt_den,Rat.num_divInt_den]
 generalize hl:Rat.divInt x.num y.den=l at *
 generalize hr:Rat.divInt y.num x.den=r at *
 have hl0:=l.den_pos
 have hr0:=r.den_pos
 have g1:=cop_dvd (rat_red x) a1 b2
 have g2:=cop_dvd (rat_red y) b1 a2
 have hg:Int.gcd (l.num*r.num) (l.den*r.den)=1:=by
  have c1:Nat.Coprime l.num.natAbs (l.den:Int).natAbs:=rat_red l
  have c2:Nat.Coprime r.num.natAbs (r.den:Int).natAbs:=rat_red r
  have c3:Nat.Coprime l.num.natAbs (r.den:Int).natAbs:=g1
  have c4:Nat.Coprime r.num.natAbs (l.den:Int).natAbs:=g2
  show Nat.gcd (l.num*r.num).natAbs ((l.den:Int)*r.den).natAbs=1
  rw [Int.natAbs_mul,Int.natAbs_mul]
  exact Nat.Coprime.mul_left (Nat.Coprime.mul_right c1 c3) (Nat.Coprime.mul_right c4 c2)
 have e2:x*y=Rat.divInt (l.num*r.num) (l.den*r.den):=by
  rw [e,<- Rat.divInt_mul_divInt,Rat.num_divInt_den,Rat.num_divInt_den]
 rw [e2]
 exact divInt_red (Int.mul_pos (by omega) (by omega)) hg
theorem pmul_call {x y:Rat} {s t s' t':Bool} {r q r' q':Abs.Rows} (hx:IsR x s r t q) (hy:IsR y s' r' t' q') (h1:Qs x 68719476736) (h2:Qs y 68719476736) :
  ∃ u w v p,IsR (x*y) u w v p/\ACall Tryz.prog 35 [.val (.agg (iT s r ++ iT t q)),.val (.agg (iT s' r' ++ iT t' q'))] ⟨[.val (.agg (iT u w ++ iT v p))],[none,none]⟩:=by
 obtain ⟨x1,x2⟩:=h1
 obtain ⟨y1,y2⟩:=h2
 have hx0:=x.den_pos
 have hy0:=y.den_pos
 obtain ⟨a,b,c,d,hl,cl⟩:=plowest_call hx.n hy.d (by omega) (by omega) (by rw [Int.natAbs_natCast]; omega)
 obtain ⟨a',b',c',d',hr,cr⟩:=plowest_call hy.n hx.d (by omega) (by omega) (by rw [Int.natAbs_natCast]; omega)
 obtain ⟨e1,e2⟩:=mul_cross x y
 obtain ⟨k1,k2⟩:=divInt_small (n:=x.num) (d:=y.den) (k:=68719476736) (by omega) (by omega) (by rw [Int.natAbs_natCast]; omega)
 obtain ⟨k3,k4⟩:=divInt_small (n:=y.num) (d:=x.den) (k:=68719476736) (by omega) (by omega) (by rw [Int.natAbs_natCast]; omega)
 obtain ⟨u,w,hn,cn⟩:=qa8 hl.n hr.n (by omega) (by omega)
 obtain ⟨v,p,hd,cd⟩:=qa8 hl.d hr.d (by rw [Int.natAbs_natCast]; omega) (by rw [Int.natAbs_natCast]; omega)
 refine ⟨u,w,v,p,⟨hn.of e1.symm,hd.of e2.symm⟩,?_⟩
 refine callZ ccOk mixed [.val] Tryz.func35 rfl rfl (by kernel_rfl) fun zA zB zC zD zE zF zG zH zI zJ zK zL zM zN zO zP zQ zR zT zU zV zX zY zZ zb zc zd ze zg zh zi zj zk zl zm zn zo zq zr zs zt zu zx zy zz zmget zmset zW zth A L F hS hF=>?_
 have zf:∀ (a b:Bool) (c d:Abs.Rows),zq 0 2 [[.v (.bool a),.lst false c],[.v (.bool b),.lst false d]]=true:=fun a b c d=>by rw [hS.fit]; rfl
 have zp:∀ (a b:Bool) (c d:Abs.Rows),zr [[.v (.bool a),.lst false c],[.v (.bool b),.lst false d]] 0 2=[[.v (.bool a),.lst false c],[.v (.bool b),.lst false d]]:=fun a b c d=>by rw [hS.part]; rfl
 cbv
 refine ⟨_,hS.call (cl),?_⟩
 cbv
 refine ⟨_,hS.call (cr),?_⟩
 cbv
 refine nd (zf ..) ?_
 rw [zp]
 refine ⟨_,hS.call (cn),?_⟩
 cbv
 refine nd (zf ..) ?_
 rw [zp]
 refine ⟨_,hS.call (cd),?_⟩
 cbv
 exact hF _ (ResLe.refl _)
def cmpQ (x y:Rat):Int:=if x < y then -1 else if y < x then 1 else 0
theorem cmpQ_cross (x y:Rat):cmpQ x y=cmpI (x.num*y.den) (y.num*x.den):=by
 unfold cmpQ cmpI
 by_cases h:x < y
 ·rw [if_pos h,if_pos ((Rat.lt_iff x y).1 h)]
 ·rw [if_neg h,if_neg (fun h'=>h ((Rat.lt_iff x y).2 h'))]
  by_cases h2:y < x
  ·rw [if_pos h2,if_pos ((Rat.lt_iff y x).1 h2)]
  ·rw [if_neg h2,if_neg (fun h'=>h2 ((Rat.lt_iff y x).2 h'))]
theorem cmpI_signs {a b c d:Int} (hc:0 < c) (hd:0 < d) (h:cmpI a 0 ≠ cmpI b 0):cmpI (a*d) (b*c)=if cmpI a 0 < cmpI b 0 then -1 else 1:=by
 have key:∀ {x y:Int},0 < y->(0 < x->0 < x*y)/\(x < 0->x*y < 0)/\(x=0->x*y=0):=fun {x y} hy=>⟨fun h=>Int.mul_pos h hy,fun h=>Int.mul_neg_of_neg_of_pos h hy,fun h=>by rw [h,Int.zero_mul]⟩
 obtain ⟨a1,a2,a3⟩:=key (x:=a) hd
 obtain ⟨b1,b2,b3⟩:=key (x:=b) hc
 generalize a*d=A at *
 generalize b*c=B at *
 unfold cmpI at h ⊢
 rcases Int.lt_trichotomy a 0 with ha | ha | ha <;> rcases Int.lt_trichotomy b 0 with hb | hb | hb
 all_goals (repeat' split) <;> omega
theorem pcmp_call {x y:Rat} {s t s' t':Bool} {r q r' q':Abs.Rows} (c:Int) (hx:IsR x s r t q) (hy:IsR y s' r' t' q') (hc:c=cmpQ x y) (h1:Qs x 68719476736) (h2:Qs y 68719476736) :
  ACall Tryz.prog 76 [.val (.agg (iT s r ++ iT t q)),.val (.agg (iT s' r' ++ iT t' q'))] ⟨[.val (ti .i64 c)],[none,none]⟩:=by
 obtain ⟨x1,x2⟩:=h1
 obtain ⟨y1,y2⟩:=h2
 have hx0:=x.den_pos
 have hy0:=y.den_pos
 have n1:=qbr x.num.natAbs y.den
 have n2:=qbr y.num.natAbs x.den
 rw [cmpQ_cross] at hc
 have cx:=qsign_call (t:=t) (q:=q) (cmpI x.num 0) hx.n rfl
 have cy:=qsign_call (t:=t') (q:=q') (cmpI y.num 0) hy.n rfl
 obtain ⟨a,b,ha,ca⟩:=qa8 hx.n hy.d (by omega) (by rw [Int.natAbs_natCast]; omega)
 obtain ⟨a',b',ha',ca'⟩:=qa8 hy.n hx.d (by omega) (by rw [Int.natAbs_natCast]; omega)
 have m1:nl (x.num*y.den).natAbs<=2199023255552:=by rw [Int.natAbs_mul,Int.natAbs_natCast]; omega
 have m2:nl (y.num*x.den).natAbs<=2199023255552:=by rw [Int.natAbs_mul,Int.natAbs_natCast]; omega
 have cc:=icmp_call c ha ha' hc m1 m2
 have hsg:=cmpI_signs (a:=x.num) (b:=y.num) (c:=x.den) (d:=y.den) (by omega) (by omega)
 rw [<- hc] at hsg
 generalize cmpI x.num 0=sx at *
 generalize cmpI y.num 0=sy at *
 clear hc
 refine callZ ccOk mixed [.val] Tryz.func76 rfl rfl (by kernel_rfl) fun zA zB zC zD zE zF zG zH zI zJ zK zL zM zN zO zP zQ zR zT zU zV zX zY zZ zb zc zd ze zg zh zi zj zk zl zm zn zo zq zr zs zt zu zx zy zz zmget zmset zW zth A L F hS hF=>?_
 have zf:∀ (a b:Bool) (c d:Abs.Rows),zq 0 2 [[.v (.bool a),.lst false c],[.v (.bool b),.lst false d]]=true:=fun a b c d=>by rw [hS.fit]; rfl
 have zp:∀ (a b:Bool) (c d:Abs.Rows),zr [[.v (.bool a),.lst false c],[.v (.bool b),.lst false d]] 0 2=[[.v (.bool a),.lst false c],[.v (.bool b),.lst false d]]:=fun a b c d=>by rw [hS.part]; rfl
 have e1:zN sx sy=decide (sx ≠ sy):=hS.ne ..
 have e2:zO sx sy=decide (sx < sy):=hS.lt ..
 by_cases h:sx ≠ sy
 ·have hcc:=hsg h
  rw [decide_eq_true h] at e1
  by_cases h2:sx < sy
  ·rw [if_pos h2] at hcc
   rw [decide_eq_true h2] at e2
   subst hcc
   cbv
   refine ⟨_,hS.call (cx),?_⟩
   cbv
   refine ⟨_,hS.call (cy),?_⟩
   cbv
   refine bT (e1) ?_
   refine bT (e2) ?_
   exact hF _ (ResLe.refl _)
  ·rw [if_neg h2] at hcc
   rw [decide_eq_false h2] at e2
   subst hcc
   cbv
   refine ⟨_,hS.call (cx),?_⟩
   cbv
   refine ⟨_,hS.call (cy),?_⟩
   cbv
   refine bT (e1) ?_
   refine bF (e2) ?_
   exact hF _ (ResLe.refl _)
 ·rw [decide_eq_false h] at e1
  cbv
  refine ⟨_,hS.call (cx),?_⟩
  cbv
  refine ⟨_,hS.call (cy),?_⟩
  cbv
  refine bF (e1) ?_
  refine nd (zf ..) ?_
  rw [zp]
  refine ⟨_,hS.call (ca),?_⟩
  cbv
  refine nd (zf ..) ?_
  rw [zp]
  refine ⟨_,hS.call (ca'),?_⟩
  cbv
  refine ⟨_,hS.call (cc),?_⟩
  cbv
  exact hF _ (ResLe.refl _)
theorem inv_nd {x:Rat} (h:x ≠ 0):(x⁻¹).num=(if x.num < 0 then -(x.den:Int) else x.den)/\((x⁻¹).den:Int)=if x.num < 0 then -x.num else x.num:=by
 have hn:x.num ≠ 0:=fun e=>h (Rat.num_eq_zero.1 e)
 have hd:=x.den_pos
 rw [Rat.inv_def]
 have ln:=lowest_num (n:=(x.den:Int)) (d:=x.num) hn
 have ld:=lowest_den (n:=(x.den:Int)) (d:=x.num) hn
 have hg:Int.gcd (x.den:Int) x.num=1:=by rw [Int.gcd_comm]; exact rat_red x
 rw [hg] at ln ld
 rw [<- ln,<- ld]
 by_cases h0:x.num < 0
 ·rw [if_pos h0,if_pos h0,if_pos h0]; simp
 ·rw [if_neg h0,if_neg h0,if_neg h0]; simp
theorem pinv_call {x:Rat} {s t:Bool} {r q:Abs.Rows} (hx:IsR x s r t q) (h0:x ≠ 0) (h1:Qs x 68719476736) :
  ∃ u w v p,IsR x⁻¹ u w v p/\ACall Tryz.prog 87 [.val (.agg (iT s r ++ iT t q))] ⟨[.val (.agg (iT u w ++ iT v p)),.val (ti .i64 0)],[none]⟩:=by
 obtain ⟨i1,i2⟩:=inv_nd h0
 have hn:x.num ≠ 0:=fun e=>h0 (Rat.num_eq_zero.1 e)
 have cs:=isign_call (cmpI x.num 0) hx.n rfl
 obtain ⟨a,b,ha,ca⟩:=ineg_call hx.d (by rw [Int.natAbs_natCast]; have:=h1.2; omega)
 obtain ⟨a',b',ha',ca'⟩:=ineg_call hx.n (by have:=h1.1; omega)
 by_cases h:x.num < 0
 ·rw [if_pos h] at i1 i2
  have e:cmpI x.num 0=-1:=by unfold cmpI; rw [if_pos h]
  rw [e] at cs
  refine ⟨a,b,a',b',⟨ha.of i1.symm,ha'.of i2.symm⟩,?_⟩
  refine callZ ccOk mixed [.val,.val] Tryz.func87 rfl rfl (by kernel_rfl) fun zA zB zC zD zE zF zG zH zI zJ zK zL zM zN zO zP zQ zR zT zU zV zX zY zZ zb zc zd ze zg zh zi zj zk zl zm zn zo zq zr zs zt zu zx zy zz zmget zmset zW zth A L F hS hF=>?_
  have z1:zM (-1) 0=false:=by rw [hS.eq]; rfl
  have z2:zM (-1) (-1)=true:=by rw [hS.eq]; rfl
  cbv
  refine ⟨_,hS.call (cs),?_⟩
  cbv
  refine bF (z1) ?_
  refine bT (z2) ?_
  refine ⟨_,hS.call (ca),?_⟩
  cbv
  refine ⟨_,hS.call (ca'),?_⟩
  cbv
  exact hF _ (ResLe.refl _)
 ·rw [if_neg h] at i1 i2
  have e:cmpI x.num 0=1:=by unfold cmpI; rw [if_neg h,if_pos (by omega)]
  rw [e] at cs
  refine ⟨t,q,s,r,⟨hx.d.of i1.symm,hx.n.of i2.symm⟩,?_⟩
  refine callZ ccOk mixed [.val,.val] Tryz.func87 rfl rfl (by kernel_rfl) fun zA zB zC zD zE zF zG zH zI zJ zK zL zM zN zO zP zQ zR zT zU zV zX zY zZ zb zc zd ze zg zh zi zj zk zl zm zn zo zq zr zs zt zu zx zy zz zmget zmset zW zth A L F hS hF=>?_
  have z1:zM 1 0=false:=by rw [hS.eq]; rfl
  have z2:zM 1 (-1)=false:=by rw [hS.eq]; rfl
  cbv
  refine ⟨_,hS.call (cs),?_⟩
  cbv
  refine bF (z1) ?_
  refine bF (z2) ?_
  exact hF _ (ResLe.refl _)
open Go Go.Abs Go.Abs.M Go.Proofs
theorem rqWhole_call (n:Int) (h1:-9223372036854775808<=n) (h2:n < 9223372036854775808):∃ s r v p,IsR (n:Rat) s r v p/\ACall Tryz.prog 53 [.val (ti .i64 n)] ⟨[.val (.agg (iT s r ++ iT v p))],[none]⟩:=by
 obtain ⟨s,r,h,c⟩:=rof_call n h1 h2
 obtain ⟨v,p,h3,c2⟩:=rof_call 1 (by omega) (by omega)
 refine ⟨s,r,v,p,⟨by rw [Rat.num_intCast]; exact h,by rw [Rat.den_intCast]; exact h3⟩,?_⟩
 refine callZ ccOk mixed [.val] Tryz.func53 rfl rfl (by kernel_rfl) fun zA zB zC zD zE zF zG zH zI zJ zK zL zM zN zO zP zQ zR zT zU zV zX zY zZ zb zc zd ze zg zh zi zj zk zl zm zn zo zq zr zs zt zu zx zy zz zmget zmset zW zth A L F hS hF=>?_
 cbv
 refine ⟨_,hS.call (c),?_⟩
 cbv
 refine ⟨_,hS.call (c2),?_⟩
 cbv
 exact hF _ (ResLe.refl _)
open Go Go.Abs Go.Abs.M Go.Proofs
def rawZ:List Tree:=[.v (.bool false),.lst true [],.v (.bool false),.lst true []]
open Go Go.Abs Go.Abs.M Go.Proofs
open Go Go.Abs Go.Abs.M Go.Proofs
def pshift (P:List Rat) (c:Rat) (B:List Rat) (k:Nat):List Rat:=pacc (P ++ List.replicate (max P.length (B.length+k) - P.length) 0) c B k
open Go Go.Abs Go.Abs.M Go.Proofs
theorem pshift_get (P:List Rat) (c:Rat) (B:List Rat) (k j:Nat):(pshift P c B k).getD j 0=P.getD j 0+if k<=j then c*B.getD (j - k) 0 else 0:=by
 have hp:∀ m,(P ++ List.replicate m (0:Rat)).getD j 0=P.getD j 0:=fun m=>by
  rw [List.getD_eq_getElem?_getD,List.getD_eq_getElem?_getD,List.getElem?_append]
  split
  ·rfl
  ·rename_i h
   rw [List.getElem?_eq_none (by omega:P.length<=j),List.getElem?_replicate]
   split <;> rfl
 unfold pshift pacc
 rw [accL_get _ _ (by rw [List.length_append,List.length_replicate]; omega),hp]
 by_cases h:k<=j
 ·rw [if_pos h]
  by_cases h2:j < k+B.length
  ·rw [if_pos ⟨h,h2⟩]
  ·rw [if_neg (by omega),List.getD_eq_getElem?_getD,List.getD_eq_getElem?_getD (l:=B),List.getElem?_eq_none (by omega:B.length<=j - k)]
   rw [Option.getD_none,Rat.mul_zero,Rat.add_zero]
 ·rw [if_neg (by omega),if_neg h,Rat.add_zero]
theorem Qs.whole {n:Int} {k:Nat} (h:n.natAbs < 4294967296) (hk:1<=k):Qs ((n:Int):Rat) k:=
 ⟨Nat.le_trans (qaq (k:=1) (by simp only [Rat.num_intCast]; omega)) hk,Nat.le_trans (qaq (k:=1) (by simp only [Rat.den_intCast]; omega)) hk⟩
open Go Go.Abs Go.Abs.M Go.Proofs
open Go Go.Abs Go.Abs.M Go.Proofs
theorem accL_all {R B:List Rat} {c:Rat} {k a b d:Nat} (h1:∀ q ∈ R,Qs q a) (h2:Qs c b) (h3:∀ q ∈ B,Qs q d) (hl:B.length+k<=R.length):∀ q ∈ pacc R c B k,Qs q (a+(b+d)+1):=fun q hq=>by
 obtain ⟨j,hj⟩:=List.getElem?_of_mem hq
 have hlt:=(List.getElem?_eq_some_iff.1 hj).1
 have hq2:(pacc R c B k).getD j 0=q:=by rw [List.getD_eq_getElem?_getD,hj]; rfl
 unfold pacc at hq2 hlt
 rw [qbn] at hlt
 rw [accL_get _ _ (by omega)] at hq2
 have hx:Qs (R.getD j 0) a:=by
  rw [List.getD_eq_getElem?_getD,List.getElem?_eq_getElem hlt]
  exact h1 _ (List.getElem_mem hlt)
 by_cases h:k<=j/\j < k+B.length
 ·rw [if_pos h] at hq2
  rw [<- hq2]
  refine add_small hx (mul_small h2 ?_)
  rw [List.getD_eq_getElem?_getD,List.getElem?_eq_getElem (by omega:j - k < B.length)]
  exact h3 _ (List.getElem_mem _)
 ·rw [if_neg h] at hq2
  rw [<- hq2]
  exact hx.mono (by omega)
open Go Go.Abs Go.Abs.M Go.Proofs
open Go Go.Abs Go.Abs.M Go.Proofs
end Go.Proofs.YtjfmkcmepdedaaaGreat
end
section
namespace Go.Abs
theorem tlen_beyond (P:List Rat):∀ k,P.length<=k->tlen P k=tlen P P.length
 | 0,h=>by rw [show P.length=0 by omega]
 | k+1,h=>by
  by_cases hk:P.length=k+1
  ·rw [hk]
  ·unfold tlen
   rw [if_pos (by rw [List.getD_eq_getElem?_getD,List.getElem?_eq_none (by omega)]; rfl),tlen_beyond P k (by omega)]
   cases hP:P.length <;> rfl
theorem tlen_congr {P Q:List Rat} (h:∀ j,P.getD j 0=Q.getD j 0):∀ k,tlen P k=tlen Q k
 | 0=>rfl
 | k+1=>by unfold tlen; rw [h k,tlen_congr h k]
theorem ptrim_ext {P Q:List Rat} (h:∀ j,P.getD j 0=Q.getD j 0):ptrim P=ptrim Q:=by
 have e:tlen P P.length=tlen Q Q.length:=by
  rw [<- tlen_beyond P (max P.length Q.length) (by omega),<- tlen_beyond Q (max P.length Q.length) (by omega)]
  exact tlen_congr h _
 have h1:=tlen_le P P.length
 have h2:=tlen_le Q Q.length
 unfold ptrim
 refine List.ext_getElem? fun i=>?_
 rw [e,List.getElem?_take,List.getElem?_take]
 by_cases hi:i < tlen Q Q.length
 ·rw [if_pos hi,if_pos hi]
  have hj:=h i
  rw [List.getD_eq_getElem?_getD,List.getD_eq_getElem?_getD,List.getElem?_eq_getElem (by omega:i < P.length),List.getElem?_eq_getElem (by omega:i < Q.length)] at hj
  rw [List.getElem?_eq_getElem (by omega:i < P.length),List.getElem?_eq_getElem (by omega:i < Q.length)]
  exact congrArg some hj
 ·rw [if_neg hi,if_neg hi]
end Go.Abs
end
section
namespace Go.Proofs.YtjfmkcmepdedaaaGreat
open Go Go.Abs Go.Abs.M Go.Proofs
end Go.Proofs.YtjfmkcmepdedaaaGreat
end
section
namespace Go.Abs
def ev:List Rat->Rat->Rat
 | [],_=>0
 | c :: P,x=>c+x*ev P x
theorem ev_app (P Q:List Rat) (x:Rat):ev (P ++ Q) x=ev P x+x ^ P.length*ev Q x:=by
 induction P with
 | nil=>simp [ev,Rat.zero_add,Rat.one_mul]
 | cons c P ih=>
  simp only [List.cons_append,ev,List.length_cons,Rat.pow_succ]
  rw [ih]
  grind
theorem ev_zeros (n:Nat) (x:Rat):ev (List.replicate n 0) x=0:=by
 induction n with
 | zero=>rfl
 | succ n ih=>simp only [List.replicate_succ,ev]; rw [ih]; grind
theorem ev_set (l:List Rat) (j:Nat) (d x:Rat) (h:j < l.length):ev (l.set j d) x=ev l x+(d - l.getD j 0)*x ^ j:=by
 induction l generalizing j with
 | nil=>simp at h
 | cons c l ih=>
  cases j with
  | zero=>simp only [List.set_cons_zero,ev,List.getD_cons_zero,Rat.pow_zero]; grind
  | succ j=>
   simp only [List.set_cons_succ,ev,List.getD_cons_succ,Rat.pow_succ]
   rw [ih j (by simpa using h)]; grind
theorem ev_take_succ (B:List Rat) (i:Nat) (x:Rat) (h:i < B.length):ev (B.take (i+1)) x=ev (B.take i) x+B.getD i 0*x ^ i:=by
 rw [List.take_add_one,ev_app,List.length_take,Nat.min_eq_left (by omega),List.getD_eq_getElem?_getD,List.getElem?_eq_getElem h]
 simp only [Option.toList_some,ev,Option.getD_some]
 grind
theorem rpow_add (x:Rat) (m:Nat):∀ n,x ^ (m+n)=x ^ m*x ^ n
 | 0=>by simp [Rat.mul_one]
 | n+1=>by rw [<- Nat.add_assoc,Rat.pow_succ,Rat.pow_succ,rpow_add x m n,Rat.mul_assoc]
theorem ev_accL (R:List Rat) (c:Rat) (B:List Rat) (k:Nat) (x:Rat) (h:B.length+k<=R.length):∀ i,i<=B.length->ev (accL R c B k i) x=ev R x+c*x ^ k*ev (B.take i) x
 | 0,_=>by simp [accL,ev,Rat.mul_zero,Rat.add_zero]
 | i+1,hi=>by
  unfold accL
  rw [ev_set _ _ _ _ (by rw [qbn]; omega),ev_accL R c B k x h i (by omega),ev_take_succ B i x (by omega),show i+k=k+i by omega,rpow_add]
  grind
theorem ev_pacc (R:List Rat) (c:Rat) (B:List Rat) (k:Nat) (x:Rat) (h:B.length+k<=R.length):ev (pacc R c B k) x=ev R x+c*x ^ k*ev B x:=by
 unfold pacc
 rw [ev_accL R c B k x h _ (Nat.le_refl _),List.take_length]
def syn:List Rat->Rat->List Rat
 | [],_=>[]
 | [_],_=>[]
 | _ :: d :: P,r=>ev (d :: P) r :: syn (d :: P) r
theorem syn_len:∀ (P:List Rat) (r:Rat),(syn P r).length=P.length - 1
 | [],_=>rfl
 | [_],_=>rfl
 | c :: d :: P,r=>by simp only [syn,List.length_cons]; rw [syn_len (d :: P) r]; simp
theorem syn_ev:∀ (P:List Rat) (r x:Rat),ev P x=ev P r+(x - r)*ev (syn P r) x
 | [],_,_=>by simp [ev,syn]; grind
 | [_],_,_=>by simp [ev,syn]; grind
 | c :: d :: P,r,x=>by
  have ih:=syn_ev (d :: P) r x
  have e1:ev (c :: d :: P) x=c+x*ev (d :: P) x:=rfl
  have e2:ev (c :: d :: P) r=c+r*ev (d :: P) r:=rfl
  have e3:ev (syn (c :: d :: P) r) x=ev (d :: P) r+x*ev (syn (d :: P) r) x:=rfl
  rw [e1,e2,e3,ih]
  grind
theorem syn_zero:∀ (P:List Rat) (r:Rat),ev P r=0->(∀ j,(syn P r).getD j 0=0)->∀ j,P.getD j 0=0
 | [],_,_,_,_=>by simp
 | [c],r,h,_,j=>by
  simp [ev] at h
  cases j with
  | zero=>simpa [Rat.mul_zero,Rat.add_zero] using h
  | succ j=>simp
 | c :: d :: P,r,h,hs,j=>by
  have h1:ev (d :: P) r=0:=by have:=hs 0; simpa [syn] using this
  have ih:=syn_zero (d :: P) r h1 fun j=>by have:=hs (j+1); simpa [syn] using this
  have h2:ev (c :: d :: P) r=c+r*ev (d :: P) r:=rfl
  cases j with
  | zero=>simp; grind
  | succ j=>simpa using ih j
theorem ev_zero_aux:∀ (n:Nat) (P:List Rat) (s:Rat),P.length<=n->(∀ x,s<=x->ev P x=0)->∀ j,P.getD j 0=0
 | 0,P,s,hl,_,j=>by rw [List.length_eq_zero_iff.1 (by omega:P.length=0)]; rfl
 | n+1,P,s,hl,h,j=>by
  have hs:=h s Rat.le_refl
  refine syn_zero P s hs (ev_zero_aux n (syn P s) (s+1) (by rw [syn_len]; omega) fun x hx=>?_) j
  have h1:=h x (by grind)
  have h2:=syn_ev P s x
  rw [h1,hs] at h2
  have h3:x - s ≠ 0:=by grind
  have h4:(x - s)*ev (syn P s) x=0:=by grind
  rcases Rat.mul_eq_zero.1 h4 with h5 | h5
  ·exact absurd h5 h3
  ·exact h5
theorem ev_zero {P:List Rat} (h:∀ x,ev P x=0) (j:Nat):P.getD j 0=0:=ev_zero_aux P.length P 0 (Nat.le_refl _) (fun x _=>h x) j
end Go.Abs
end
section
namespace Go.Proofs.YtjfmkcmepdedaaaGreat
open Go Go.Abs Go.Abs.M Go.Proofs
structure PL (f:Rat->Rat) (n k:Nat) (P:List Rat):Prop where
 tr:ptrim P=P
 ev:∀ x,ev P x=f x
 len:P.length<=n
 sz:∀ q ∈ P,Qs q k
theorem ev_shift (P:List Rat) (c:Rat) (B:List Rat) (k:Nat) (x:Rat):Abs.ev (pshift P c B k) x=Abs.ev P x+c*x ^ k*Abs.ev B x:=by
 unfold pshift
 rw [ev_pacc _ _ _ _ _ (by simp; omega),ev_app,ev_zeros]
 grind
theorem ev_inj {P Q:List Rat} (h:∀ x,Abs.ev P x=Abs.ev Q x) (j:Nat):P.getD j 0=Q.getD j 0:=by
 have h0:=ev_zero (P:=pshift P (-1) Q 0) (fun x=>by rw [ev_shift,h x]; grind) j
 rw [pshift_get,if_pos (Nat.zero_le _),Nat.sub_zero] at h0
 grind
theorem PL.inj {f g:Rat->Rat} {n k m l:Nat} {P Q:List Rat} (h1:PL f n k P) (h2:PL g m l Q) (h:∀ x,f x=g x):P=Q:=by
 rw [<- h1.tr,<- h2.tr]
 exact ptrim_ext (ev_inj fun x=>by rw [h1.ev,h2.ev,h])
theorem PL.mono {f:Rat->Rat} {n k m l:Nat} {P:List Rat} (h:PL f n k P) (h1:n<=m) (h2:k<=l):PL f m l P:=
 ⟨h.tr,h.ev,Nat.le_trans h.len h1,fun q hq=>(h.sz q hq).mono h2⟩
theorem PL.congr {f g:Rat->Rat} {n k:Nat} {P:List Rat} (h:PL f n k P) (e:∀ x,f x=g x):PL g n k P:=
 ⟨h.tr,fun x=>by rw [h.ev,e],h.len,h.sz⟩
theorem PL.nil:PL (fun _=>0) 0 0 []:=⟨rfl,fun _=>rfl,Nat.le_refl _,fun q hq=>by cases hq⟩
theorem Qs.zero {k:Nat}:1<=k->Qs 0 k:=fun h=>Qs.whole (n:=0) (by decide) h
theorem PL.cells {f:Rat->Rat} {n a:Nat} {P:List Rat} (hP:PL f n a P) (h:a<=68719476736):∀ c ∈ P.map qc,c.ok 68719476736:=fun c hc=>by
 obtain ⟨q,hq,rfl⟩:=List.mem_map.1 hc
 have:=hP.sz q hq
 exact ⟨qar _,qar _,by show nl q.num.natAbs<=68719476736; have:=this.1; omega,by show nl (q.den:Int).natAbs<=68719476736; rw [Int.natAbs_natCast]; have:=this.2; omega⟩
theorem PL.last {f:Rat->Rat} {n a:Nat} {P:List Rat} (hP:PL f n a P) (h:P ≠ []):P.getD (P.length - 1) 0 ≠ 0:=by
 have h1:tlen P P.length=P.length:=by
  have:=congrArg List.length hP.tr
  unfold ptrim at this
  rw [List.length_take] at this
  have:=tlen_le P P.length
  omega
 have h2:P.length ≠ 0:=fun h0=>h (List.length_eq_zero_iff.1 h0)
 have:=tlen_last P P.length (by omega)
 rwa [h1] at this
open Go Go.Abs Go.Abs.M Go.Proofs
theorem qrow (x:Rat):∃ (s t:Bool) (r p:Abs.Rows),(qc x).row=[.v (.bool s),.lst false r,.v (.bool t),.lst false p]/\IsR x s r t p:=⟨_,_,_,_,rfl,qc_isR x⟩
theorem pmul_row {x y:Rat} {a b:Nat} (h1:Qs x a) (h2:Qs y b) (h:a+b<=68719476736) :
  Qs (x*y) (a+b)/\ACall Tryz.prog 35 [.val (.agg (qc x).row),.val (.agg (qc y).row)] ⟨[.val (.agg (qc (x*y)).row)],[none,none]⟩:=by
 refine ⟨mul_small h1 h2,?_⟩
 obtain ⟨u,w,v,p,hr,c⟩:=pmul_call (qc_isR x) (qc_isR y) (h1.mono (by omega)) (h2.mono (by omega))
 rw [qc_row hr] at c
 exact c
theorem padd_row {x y:Rat} {a b:Nat} (h1:Qs x a) (h2:Qs y b) (h:a+b<=68719476736) :
  Qs (x+y) (a+b+1)/\ACall Tryz.prog 86 [.val (.agg (qc x).row),.val (.agg (qc y).row)] ⟨[.val (.agg (qc (x+y)).row)],[none,none]⟩:=by
 refine ⟨add_small h1 h2,?_⟩
 obtain ⟨u,w,v,p,hr,c⟩:=padd_call (qc_isR x) (qc_isR y) (h1.mono (by omega)) (h2.mono (by omega))
 rw [qc_row hr] at c
 exact c
theorem pneg_row {x:Rat} {a:Nat} (h1:Qs x a) (h:a<=68719476736) :
  Qs (-x) a/\ACall Tryz.prog 38 [.val (.agg (qc x).row)] ⟨[.val (.agg (qc (-x)).row)],[none]⟩:=by
 refine ⟨h1.neg,?_⟩
 obtain ⟨u,w,hr,c⟩:=pneg_call (qc_isR x) (h1.mono (by omega))
 rw [qc_row hr] at c
 exact c
theorem inv_small {x:Rat} {a:Nat} (h0:x ≠ 0) (h:Qs x a):Qs x⁻¹ a:=by
 obtain ⟨i1,i2⟩:=inv_nd h0
 obtain ⟨h1,h2⟩:=h
 refine ⟨?_,?_⟩
 ·rw [i1]; split <;> simpa using h2
 ·have:(x⁻¹).den=x.num.natAbs:=by split at i2 <;> omega
  rw [this]; exact h1
theorem pinv_row {x:Rat} {a:Nat} (h0:x ≠ 0) (h1:Qs x a) (h:a<=68719476736) :
  Qs x⁻¹ a/\ACall Tryz.prog 87 [.val (.agg (qc x).row)] ⟨[.val (.agg (qc x⁻¹).row),.val (ti .i64 0)],[none]⟩:=by
 refine ⟨inv_small h0 h1,?_⟩
 obtain ⟨u,w,v,p,hr,c⟩:=pinv_call (qc_isR x) h0 (h1.mono (by omega))
 rw [qc_row hr] at c
 exact c
theorem pwhole_row (n:Int) (h1:-9223372036854775808<=n) (h2:n < 9223372036854775808) :
  ACall Tryz.prog 41 [.val (ti .i64 n)] ⟨[.val (.agg (qc (n:Rat)).row)],[none]⟩:=by
 obtain ⟨s,r,v,p,hr,c⟩:=pWhole_call n h1 h2
 rw [qc_row hr] at c
 exact c
theorem rqwhole_row (n:Int) (h1:-9223372036854775808<=n) (h2:n < 9223372036854775808) :
  ACall Tryz.prog 53 [.val (ti .i64 n)] ⟨[.val (.agg (qc (n:Rat)).row)],[none]⟩:=by
 obtain ⟨s,r,v,p,hr,c⟩:=rqWhole_call n h1 h2
 rw [qc_row hr] at c
 exact c
end Go.Proofs.YtjfmkcmepdedaaaGreat
end
section
namespace Go.Abs
def lsc (c:Rat) (P:List Rat):List Rat:=P.map (c*·)
end Go.Abs
end
section
namespace Go.Proofs.YtjfmkcmepdedaaaGreat
open Go Go.Abs Go.Abs.M Go.Proofs
end Go.Proofs.YtjfmkcmepdedaaaGreat
end
section
namespace Go.Abs
open Go
section
variable {P:Program} {C:Cfg}
def frz1Z (Z:ZI) (heap:Heap):AV->OZ (AV × Heap)
 | .c (.sl b off len cp)=>match look heap b with
  | some (.var cells)=>match toTreesZ Z (look heap) cells with
   | some (o,ts,m)=>match Nat.ble (off+len) cells.length with
    | true=>some (o,.c (.t (.lst cp (((ts.drop off).take len).map fun t=>[t]))),wrs heap (m ++ [(b,none)]))
    | false=>none
   | none=>none
  | _=>some ([],.c (.sl b off len cp),heap)
 | x=>some ([],x,heap)
def frzsZ (Z:ZI):Heap->List AV->OZ (List AV × Heap)
 | h,[]=>some ([],[],h)
 | h,x :: xs=>match frz1Z Z h x with
  | some (o,y,h1)=>match frzsZ Z h1 xs with
   | some (os,ys,h2)=>some (o ++ os,y :: ys,h2)
   | none=>none
  | none=>none
theorem frz1Z_std {heap:Heap} {x:AV} {o:List Bool} {y:AV} {h':Heap} (e:frz1Z ZI.std heap x=some (o,y,h')) (ho:allT o):frz1 heap x=some (y,h'):=by
 unfold frz1Z at e
 unfold frz1
 split at e
 ·rename_i b off len cp
  split at e
  ·rename_i cells hb
   simp only [hb]
   split at e
   ·rename_i o' ts m ht
    split at e
    ·rename_i hle
     cases e
     simp only [toTreesZ_std ht ho]
     rw [if_pos (Nat.le_of_ble_eq_true hle)]
    ·cases e
   ·cases e
  ·rename_i hb
   cases e
   cases hx:look heap b with
   | none=>simp [hx]
   | some blk=>
    cases blk with
    | var cells=>exact (hb cells hx).elim
    | rows=>simp [hx]
    | map=>simp [hx]
    | old=>simp [hx]
 ·rename_i hx
  cases e
  split
  ·rename_i b off len cp; exact absurd rfl (hx b off len cp)
  ·rfl
theorem frzsZ_std:∀ {heap:Heap} {l:List AV} {o:List Bool} {ys:List AV} {h':Heap},frzsZ ZI.std heap l=some (o,ys,h')->allT o->frzs heap l=some (ys,h')
 | h,[],o,ys,h',e,ho=>by cases e; rfl
 | h,x :: xs,o,ys,h',e,ho=>by
  unfold frzsZ at e
  split at e
  ·rename_i h1
   split at e
   ·rename_i h2
    cases e
    obtain ⟨p,q⟩:=qbh ho
    simp only [frzs,frz1Z_std h1 p,frzsZ_std h2 q]
   ·cases e
  ·cases e
def FinZX (Z:ZI) (C:Cfg) (st:ST) (args:List Arg) (rvs:List ResultVar) (om:List Mode) (F:Res->Prop):Prop:=
 match rvs.mapM (resAVT C st) with
 | none=>False
 | some avs0=>match frzsZ Z st.heap avs0 with
  | none=>False
  | some (o0,avs,heap)=>
  match prepArgsZ Z (look heap) om avs with
  | none=>False
  | some (ob,az,marks,bks)=>
   match bks.filterMap Back.id with
   | is=>
   if decide is.Nodup && is.all (fun i=>!(ids marks).contains i) && is.all (fun i=>match args[i]? with | some a=>!a.lent | none=>true) then
    match az.mapM Arg.rc,outsOfZ Z (look (wrs heap marks)) 0 args with
    | some rcs,some (ob',outs)=>needs (o0 ++ (ob ++ ob')) (F ⟨rcs,outs⟩)
    | _,_=>False
   else False
theorem finZX_std {st:ST} (hst:st.ok) {args:List Arg} {rvs:List ResultVar} {om:List Mode} {F:Res->Prop} (h:FinZX ZI.std C st args rvs om F):∃ r,F r/\finishX C st.toSt args rvs om=some r:=by
 unfold FinZX at h
 unfold finishX
 rw [show resAVT C st=resAV C st.toSt from funext fun r=>resAVT_std hst r] at h
 rw [ST.toSt_heap]
 split at h
 ·exact h.elim
 ·rename_i avs0 havs
  split at h
  ·exact h.elim
  ·rename_i o0 avs heap hfz
   split at h
   ·exact h.elim
   ·rename_i ob az marks bks hp
    simp only at h
    split at h
    ·rename_i hc
     split at h
     ·rename_i rcs ob' outs h1 h2
      obtain ⟨h3,h4⟩:=qbl h
      obtain ⟨z,h3⟩:=qbh h3
      obtain ⟨a,b⟩:=qbh h3
      refine ⟨_,h4,?_⟩
      simp only [havs,frzsZ_std hfz z]
      unfold finishA
      simp only [qbv hp a]
      refine (if_pos hc).trans ?_
      simp only [h1,outsOfZ_std h2 b]
     ·exact h.elim
    ·exact h.elim
theorem ACall.of_bodyX' (hC:CfgOk P C) {f:FuncId} {fn:Func} {c:Code} {args:List Arg} {res:Res} {om:List Mode} (hfn:P.funcs[f]?=some fn) (hname:(fn.name == "runtime.NumGoroutine")=false) (hbody:fn.body=some c)
  (hrun:ARun P args.length c (startSt args fn.ntmps) fun e s=>(e=.normal ∨ e=.ret)/\∃ r,ResLe r res/\finishX C s args fn.results.toList om=some r):ACall P f args res:=by
 refine ⟨⟨fn,hfn,by rw [hbody]; rfl,hname⟩,fun S w vals Rs hp=>?_⟩
 refine calls_of_wp hfn hbody ?_
 have hsat:=start_sat hp fn.ntmps
 have hsz:(vals.take (nvA args)).toArray.size=(vals.take (nvA args)).length:=by simp
 rw [hsz]
 refine wp_mono (hrun _ (fun i R hi=>?_) _ S _ w hsat) fun e a' w' ⟨x,s,hx,⟨hxe,r0,hr0,hfin⟩,β',S1,hs⟩=>?_
 ·simp only [βA] at hi
  split at hi
  ·rename_i h1
   obtain ⟨y,hy⟩:=Option.isSome_iff_exists.1 h1
   obtain ⟨z,h2,_⟩:=Option.bind_eq_some_iff.1 hy
   exact qag h2
  ·cases hi
 unfold finishX at hfin
 split at hfin
 ·cases hfin
 ·rename_i avs havs
  split at hfin
  ·rename_i avs' heap' hfz
   obtain ⟨vs,r1,r2,r3⟩:=run_results (P:=P) hC hs havs
   obtain ⟨S2,q1,q2,q3,q4⟩:=frzs_rep (tm:=s.tmps) avs vs s.heap heap' S1 avs' hs r2 r3 hfz
   have hpost:=(post_of q2 q3 q4 hfin).weak hr0
   have hend:∃ v,(results fn a'.tmps).run P w'=.ok v w'/\∃ u,Ending.returned v=.returned u/\CallPost args res S w Rs u w':=⟨_,r1,_,rfl,hpost⟩
   cases e with
   | normal=>exact ⟨hs.defers,hend⟩
   | ret=>exact ⟨hs.defers,hend⟩
   | exit id=>cases hx; rcases hxe with h | h <;> cases h
   | goto=>cases hx
   | panic=>cases hx
   | outgrown=>cases hx
  ·cases hfin
theorem callZX (hC:CfgOk P C) (hmix:P.follows .mixedOrders=true) {f:FuncId} {fn:Func} {c:Code} {args:List Arg} {res:Res} (om:List Mode) (hfn:P.funcs[f]?=some fn) (hname:(fn.name == "runtime.NumGoroutine")=false) (hbody:fn.body=some c) (hT:codeT c=true)
  (h:∀ (zA:IntKind->Int->Int) (zB:Int->Int->Int) (zC:Int->Int->Int) (zD:Int->Int->Int) (zE:Int->Int->Int) (zF:Int->Int->Int) (zG:IntKind->Int->Int->Int) (zH:IntKind->Int->Int->Int) (zI:IntKind->Int->Int->Int) (zJ:IntKind->Int->Int->Int) (zK:IntKind->Int->Int->Int) (zL:IntKind->Int->Int->Int) (zM:Int->Int->Bool) (zN:Int->Int->Bool) (zO:Int->Int->Bool) (zP:Int->Int->Bool) (zQ:Bool->Bool) (zR:Bool->Bool->Bool) (zT:Bool->Bool->Bool) (zU:Int->Int->Int) (zV:Int->Int->Int) (zX:Int->Nat) (zY:Int->Nat->Bool) (zZ:Nat->Int) (zb:Nat->Int->Nat) (zc:Nat->Nat->Bool) (zd:Nat->Nat->Nat) (ze:Int->Int->Nat) (zg:Int->Int->Nat->Bool) (zh:Nat->Nat->Nat->Bool) (zi:Int->Int->Nat->Bool) (zj:Rows->Nat) (zk:Rows->Nat->Option (List Tree)) (zl:Rows->Nat->List Tree->Rows) (zm:IntKind->Rows->Nat->Bool) (zn:Rows->Nat->Int) (zo:IntKind->Rows->Nat->Int->Rows) (zq:Nat->Nat->Rows->Bool) (zr:Rows->Nat->Nat->Rows) (zs:Rows->Nat->Rows->Rows) (zt:Rows->Nat->Rows->Rows) (zu:Nat->List Tree->Rows) (zx:Nat->Rows->Bool) (zy:List Bool->Bool) (zz:List (Value × Tree)->Value->Bool) (zmget:List (Value × Tree)->Value->Bool) (zmset:List (Value × Tree)->Value->Tree->List (Value × Tree)) (zW:IntKind->List Int->Rows) (zth:(α:Type)->(Unit->α)->α) A L (F:Res->Prop),Std P args.length zA zB zC zD zE zF zG zH zI zJ zK zL zM zN zO zP zQ zR zT zU zV zX zY zZ zb zc zd ze zg zh zi zj zk zl zm zn zo zq zr zs zt zu zx zy zz zmget zmset zW zth A L->(∀ r,ResLe r res->F r)->CodeKZ (ZI.mk zA zB zC zD zE zF zG zH zI zJ zK zL zM zN zO zP zQ zR zT zU zV zX zY zZ zb zc zd ze zg zh zi zj zk zl zm zn zo zq zr zs zt zu zx zy zz zmget zmset) C A L c (ST.ofSt (startStZ (ZI.mk zA zB zC zD zE zF zG zH zI zJ zK zL zM zN zO zP zQ zR zT zU zV zX zY zZ zb zc zd ze zg zh zi zj zk zl zm zn zo zq zr zs zt zu zx zy zz zmget zmset) args fn.ntmps)) fun e s=>match e with
   | .exit _=>False
   | .normal=>FinZX (ZI.mk zA zB zC zD zE zF zG zH zI zJ zK zL zM zN zO zP zQ zR zT zU zV zX zY zZ zb zc zd ze zg zh zi zj zk zl zm zn zo zq zr zs zt zu zx zy zz zmget zmset) C s args fn.results.toList om F
   | .ret=>FinZX (ZI.mk zA zB zC zD zE zF zG zH zI zJ zK zL zM zN zO zP zQ zR zT zU zV zX zY zZ zb zc zd ze zg zh zi zj zk zl zm zn zo zq zr zs zt zu zx zy zz zmget zmset) C s args fn.results.toList om F):ACall P f args res:=by
 have key:=h (fun (a:IntKind) (b:Int)=>a.wrap b) (fun (a:Int) (b:Int)=>a+b) (fun (a:Int) (b:Int)=>a - b) (fun (a:Int) (b:Int)=>a*b) (fun (a:Int) (b:Int)=>a.tdiv b) (fun (a:Int) (b:Int)=>a.tmod b) (fun (a:IntKind) (b:Int) (c:Int)=>a.wrap (b*2 ^ (Min.min c.toNat a.bits))) (fun (a:IntKind) (b:Int) (c:Int)=>b.fdiv (2 ^ (Min.min c.toNat a.bits))) (fun (a:IntKind) (b:Int) (c:Int)=>a.wrap ((BitVec.ofInt a.bits b &&& BitVec.ofInt a.bits c).toNat)) (fun (a:IntKind) (b:Int) (c:Int)=>a.wrap ((BitVec.ofInt a.bits b ||| BitVec.ofInt a.bits c).toNat)) (fun (a:IntKind) (b:Int) (c:Int)=>a.wrap ((BitVec.ofInt a.bits b ^^^ BitVec.ofInt a.bits c).toNat)) (fun (a:IntKind) (b:Int) (c:Int)=>a.wrap ((BitVec.ofInt a.bits b &&& ~~~ BitVec.ofInt a.bits c).toNat)) (fun (a:Int) (b:Int)=>decide (a=b)) (fun (a:Int) (b:Int)=>decide (a ≠ b)) (fun (a:Int) (b:Int)=>decide (a < b)) (fun (a:Int) (b:Int)=>decide (a<=b)) (fun (a:Bool)=>!a) (fun (a:Bool) (b:Bool)=>(a == b)) (fun (a:Bool) (b:Bool)=>!(a == b)) (fun (a:Int) (b:Int)=>if b > a then b else a) (fun (a:Int) (b:Int)=>if b < a then b else a) (fun (a:Int)=>a.toNat) (fun (a:Int) (b:Nat)=>decide (0<=a/\a < b)) (fun (a:Nat)=>(a:Int)) (fun (a:Nat) (b:Int)=>a+b.toNat) (fun (a:Nat) (b:Nat)=>decide (a=b)) (fun (a:Nat) (b:Nat)=>a+b) (fun (a:Int) (b:Int)=>a.toNat - b.toNat) (fun (a:Int) (b:Int) (c:Nat)=>decide (0<=a/\a<=b/\b<=c)) (fun (a:Nat) (b:Nat) (c:Nat)=>decide ((a+b)*c<=capBytes)) (fun (a:Int) (b:Int) (c:Nat)=>decide (0<=a/\a<=b/\b*c<=capBytes)) (fun (a:Rows)=>a.length) (fun (a:Rows) (b:Nat)=>a[b]?) (fun (a:Rows) (b:Nat) (c:List Tree)=>a.set b c) (fun (a:IntKind) (b:Rows) (c:Nat)=>ZI.std.isI a b c) (fun (a:Rows) (b:Nat)=>ZI.std.getI a b) (fun (a:IntKind) (b:Rows) (c:Nat) (d:Int)=>b.set c [.v (.int a d)]) (fun (a:Nat) (b:Nat) (c:Rows)=>decide (a+b<=c.length)) (fun (a:Rows) (b:Nat) (c:Nat)=>(a.drop b).take c) (fun (a:Rows) (b:Nat) (c:Rows)=>a.drop b ++ c) (fun (a:Rows) (b:Nat) (c:Rows)=>setRange a b c) (fun (a:Nat) (b:List Tree)=>List.replicate a b) (fun (a:Nat) (b:Rows)=>b.all fun r=>r.length == a) (fun (a:List Bool)=>a.all id) (fun (a:List (Value × Tree)) (b:Value)=>ZI.std.mok a b) (fun (a:List (Value × Tree)) (b:Value)=>ZI.std.mget a b) (fun (a:List (Value × Tree)) (b:Value) (c:Tree)=>(setEnt b c a).getD a) W (fun (α:Type) (f:Unit->α)=>f ()) (Shows P) (LoopT P args.length) (fun r=>ResLe r res) ⟨fun _ _=>rfl,fun _ _=>rfl,fun _ _=>rfl,fun _ _=>rfl,fun _ _=>rfl,fun _ _=>rfl,fun _ _ _=>rfl,fun _ _ _=>rfl,fun _ _ _=>rfl,fun _ _ _=>rfl,fun _ _ _=>rfl,fun _ _ _=>rfl,fun _ _=>rfl,fun _ _=>rfl,fun _ _=>rfl,fun _ _=>rfl,fun _=>rfl,fun _ _=>rfl,fun _ _=>rfl,fun _ _=>rfl,fun _ _=>rfl,fun _=>rfl,fun _ _=>rfl,fun _=>rfl,fun _ _=>rfl,fun _ _=>rfl,fun _ _=>rfl,fun _ _=>rfl,fun _ _ _=>rfl,fun _ _ _=>rfl,fun _ _ _=>rfl,fun _=>rfl,fun _ _=>rfl,fun _ _ _=>rfl,fun _ _ _=>rfl,fun _ _=>rfl,fun _ _ _ _=>rfl,fun _ _ _=>rfl,fun _ _ _=>rfl,fun _ _ _=>rfl,fun _ _ _=>rfl,fun _ _=>rfl,fun _ _=>rfl,fun _=>rfl,fun _ _=>rfl,fun _ _=>rfl,fun _ _ _=>rfl,rfl,fun _ _=>rfl,rfl,rfl⟩ (fun r hr=>hr)
 have key1:CodeK P C args.length c (startStZ ZI.std args fn.ntmps) (PostT fun e s=>match e with
   | .exit _=>False
   | .normal=>FinZX ZI.std C s args fn.results.toList om (fun r=>ResLe r res)
   | .ret=>FinZX ZI.std C s args fn.results.toList om (fun r=>ResLe r res)):=by
  have k0:=codeKZ_std c _ (ST.ofSt_ok _) hT key
  rw [ST.toSt_ofSt] at k0
  exact k0
 rw [startStZ_std] at key1
 have key2:=qbq c _ key1 (Q':=fun e s=>(e=.normal ∨ e=.ret)/\∃ r,ResLe r res/\finishX C s args fn.results.toList om=some r) fun e s hs=>by
  obtain ⟨s',h1,rfl,hs⟩:=hs
  cases e with
  | normal=>exact ⟨.inl rfl,finZX_std h1 hs⟩
  | exit id=>exact hs.elim
  | ret=>exact ⟨.inr rfl,finZX_std h1 hs⟩
 exact ACall.of_bodyX' hC hfn hname hbody (CodeK.run hC hmix c _ _ key2)
def FinH (C:Cfg) (st:ST) (rvs:List ResultVar) (G:List AV->Heap->Prop):Prop:=
 match rvs.mapM (resAVT C st) with
 | none=>False
 | some avs=>G avs st.heap
theorem hcallZ (hC:CfgOk P C) (hmix:P.follows .mixedOrders=true) {f:FuncId} {fn:Func} {c:Code} {s s':St} (hfn:P.funcs[f]?=some fn) (hname:(fn.name == "runtime.NumGoroutine")=false) (hbody:fn.body=some c) (hT:codeT c=true) (hr:s'.refsLt=true) (hl:s.heap.length<=s'.heap.length)
  (h:∀ (zA:IntKind->Int->Int) (zB:Int->Int->Int) (zC:Int->Int->Int) (zD:Int->Int->Int) (zE:Int->Int->Int) (zF:Int->Int->Int) (zG:IntKind->Int->Int->Int) (zH:IntKind->Int->Int->Int) (zI:IntKind->Int->Int->Int) (zJ:IntKind->Int->Int->Int) (zK:IntKind->Int->Int->Int) (zL:IntKind->Int->Int->Int) (zM:Int->Int->Bool) (zN:Int->Int->Bool) (zO:Int->Int->Bool) (zP:Int->Int->Bool) (zQ:Bool->Bool) (zR:Bool->Bool->Bool) (zT:Bool->Bool->Bool) (zU:Int->Int->Int) (zV:Int->Int->Int) (zX:Int->Nat) (zY:Int->Nat->Bool) (zZ:Nat->Int) (zb:Nat->Int->Nat) (zc:Nat->Nat->Bool) (zd:Nat->Nat->Nat) (ze:Int->Int->Nat) (zg:Int->Int->Nat->Bool) (zh:Nat->Nat->Nat->Bool) (zi:Int->Int->Nat->Bool) (zj:Rows->Nat) (zk:Rows->Nat->Option (List Tree)) (zl:Rows->Nat->List Tree->Rows) (zm:IntKind->Rows->Nat->Bool) (zn:Rows->Nat->Int) (zo:IntKind->Rows->Nat->Int->Rows) (zq:Nat->Nat->Rows->Bool) (zr:Rows->Nat->Nat->Rows) (zs:Rows->Nat->Rows->Rows) (zt:Rows->Nat->Rows->Rows) (zu:Nat->List Tree->Rows) (zx:Nat->Rows->Bool) (zy:List Bool->Bool) (zz:List (Value × Tree)->Value->Bool) (zmget:List (Value × Tree)->Value->Bool) (zmset:List (Value × Tree)->Value->Tree->List (Value × Tree)) (zW:IntKind->List Int->Rows) (zth:(α:Type)->(Unit->α)->α) A L (G:List AV->Heap->Prop),Std P s.heap.length zA zB zC zD zE zF zG zH zI zJ zK zL zM zN zO zP zQ zR zT zU zV zX zY zZ zb zc zd ze zg zh zi zj zk zl zm zn zo zq zr zs zt zu zx zy zz zmget zmset zW zth A L->(∀ avs hp ρ,(St.mk avs hp).LeR s.heap.length ρ s'->G avs hp)->CodeKZ (ZI.mk zA zB zC zD zE zF zG zH zI zJ zK zL zM zN zO zP zQ zR zT zU zV zX zY zZ zb zc zd ze zg zh zi zj zk zl zm zn zo zq zr zs zt zu zx zy zz zmget zmset) C A L c (ST.ofSt ⟨s.tmps ++ List.replicate (fn.ntmps - s.tmps.length) .junk,s.heap⟩) fun e st=>match e with
   | .exit _=>False
   | .normal=>FinH C st fn.results.toList G
   | .ret=>FinH C st fn.results.toList G):HCall P f s s':=by
 have key:=h (fun (a:IntKind) (b:Int)=>a.wrap b) (fun (a:Int) (b:Int)=>a+b) (fun (a:Int) (b:Int)=>a - b) (fun (a:Int) (b:Int)=>a*b) (fun (a:Int) (b:Int)=>a.tdiv b) (fun (a:Int) (b:Int)=>a.tmod b) (fun (a:IntKind) (b:Int) (c:Int)=>a.wrap (b*2 ^ (Min.min c.toNat a.bits))) (fun (a:IntKind) (b:Int) (c:Int)=>b.fdiv (2 ^ (Min.min c.toNat a.bits))) (fun (a:IntKind) (b:Int) (c:Int)=>a.wrap ((BitVec.ofInt a.bits b &&& BitVec.ofInt a.bits c).toNat)) (fun (a:IntKind) (b:Int) (c:Int)=>a.wrap ((BitVec.ofInt a.bits b ||| BitVec.ofInt a.bits c).toNat)) (fun (a:IntKind) (b:Int) (c:Int)=>a.wrap ((BitVec.ofInt a.bits b ^^^ BitVec.ofInt a.bits c).toNat)) (fun (a:IntKind) (b:Int) (c:Int)=>a.wrap ((BitVec.ofInt a.bits b &&& ~~~ BitVec.ofInt a.bits c).toNat)) (fun (a:Int) (b:Int)=>decide (a=b)) (fun (a:Int) (b:Int)=>decide (a ≠ b)) (fun (a:Int) (b:Int)=>decide (a < b)) (fun (a:Int) (b:Int)=>decide (a<=b)) (fun (a:Bool)=>!a) (fun (a:Bool) (b:Bool)=>(a == b)) (fun (a:Bool) (b:Bool)=>!(a == b)) (fun (a:Int) (b:Int)=>if b > a then b else a) (fun (a:Int) (b:Int)=>if b < a then b else a) (fun (a:Int)=>a.toNat) (fun (a:Int) (b:Nat)=>decide (0<=a/\a < b)) (fun (a:Nat)=>(a:Int)) (fun (a:Nat) (b:Int)=>a+b.toNat) (fun (a:Nat) (b:Nat)=>decide (a=b)) (fun (a:Nat) (b:Nat)=>a+b) (fun (a:Int) (b:Int)=>a.toNat - b.toNat) (fun (a:Int) (b:Int) (c:Nat)=>decide (0<=a/\a<=b/\b<=c)) (fun (a:Nat) (b:Nat) (c:Nat)=>decide ((a+b)*c<=capBytes)) (fun (a:Int) (b:Int) (c:Nat)=>decide (0<=a/\a<=b/\b*c<=capBytes)) (fun (a:Rows)=>a.length) (fun (a:Rows) (b:Nat)=>a[b]?) (fun (a:Rows) (b:Nat) (c:List Tree)=>a.set b c) (fun (a:IntKind) (b:Rows) (c:Nat)=>ZI.std.isI a b c) (fun (a:Rows) (b:Nat)=>ZI.std.getI a b) (fun (a:IntKind) (b:Rows) (c:Nat) (d:Int)=>b.set c [.v (.int a d)]) (fun (a:Nat) (b:Nat) (c:Rows)=>decide (a+b<=c.length)) (fun (a:Rows) (b:Nat) (c:Nat)=>(a.drop b).take c) (fun (a:Rows) (b:Nat) (c:Rows)=>a.drop b ++ c) (fun (a:Rows) (b:Nat) (c:Rows)=>setRange a b c) (fun (a:Nat) (b:List Tree)=>List.replicate a b) (fun (a:Nat) (b:Rows)=>b.all fun r=>r.length == a) (fun (a:List Bool)=>a.all id) (fun (a:List (Value × Tree)) (b:Value)=>ZI.std.mok a b) (fun (a:List (Value × Tree)) (b:Value)=>ZI.std.mget a b) (fun (a:List (Value × Tree)) (b:Value) (c:Tree)=>(setEnt b c a).getD a) W (fun (α:Type) (f:Unit->α)=>f ()) (Shows P) (LoopT P s.heap.length) (fun avs hp=>∃ ρ,(St.mk avs hp).LeR s.heap.length ρ s') ⟨fun _ _=>rfl,fun _ _=>rfl,fun _ _=>rfl,fun _ _=>rfl,fun _ _=>rfl,fun _ _=>rfl,fun _ _ _=>rfl,fun _ _ _=>rfl,fun _ _ _=>rfl,fun _ _ _=>rfl,fun _ _ _=>rfl,fun _ _ _=>rfl,fun _ _=>rfl,fun _ _=>rfl,fun _ _=>rfl,fun _ _=>rfl,fun _=>rfl,fun _ _=>rfl,fun _ _=>rfl,fun _ _=>rfl,fun _ _=>rfl,fun _=>rfl,fun _ _=>rfl,fun _=>rfl,fun _ _=>rfl,fun _ _=>rfl,fun _ _=>rfl,fun _ _=>rfl,fun _ _ _=>rfl,fun _ _ _=>rfl,fun _ _ _=>rfl,fun _=>rfl,fun _ _=>rfl,fun _ _ _=>rfl,fun _ _ _=>rfl,fun _ _=>rfl,fun _ _ _ _=>rfl,fun _ _ _=>rfl,fun _ _ _=>rfl,fun _ _ _=>rfl,fun _ _ _=>rfl,fun _ _=>rfl,fun _ _=>rfl,fun _=>rfl,fun _ _=>rfl,fun _ _=>rfl,fun _ _ _=>rfl,rfl,fun _ _=>rfl,rfl,rfl⟩ (fun avs hp ρ h=>⟨ρ,h⟩)
 have k0:=codeKZ_std c _ (ST.ofSt_ok _) hT key
 rw [ST.toSt_ofSt] at k0
 have key2:=qbq c _ k0 (Q':=fun e s2=>(e=.normal ∨ e=.ret)/\∃ avs ρ,fn.results.toList.mapM (resAV C s2)=some avs/\(St.mk avs s2.heap).LeR s.heap.length ρ s'/\s'.refsLt=true/\s.heap.length<=s'.heap.length) fun e s2 hs=>by
  obtain ⟨st,h1,rfl,hs⟩:=hs
  have fin:FinH C st fn.results.toList (fun avs hp=>∃ ρ,(St.mk avs hp).LeR s.heap.length ρ s')->∃ avs ρ,fn.results.toList.mapM (resAV C st.toSt)=some avs/\(St.mk avs st.toSt.heap).LeR s.heap.length ρ s'/\s'.refsLt=true/\s.heap.length<=s'.heap.length:=fun hf=>by
   unfold FinH at hf
   rw [show resAVT C st=resAV C st.toSt from funext fun r=>resAVT_std h1 r] at hf
   split at hf
   ·exact hf.elim
   ·rename_i avs havs
    obtain ⟨ρ,hρ⟩:=hf
    exact ⟨avs,ρ,havs,by rw [ST.toSt_heap]; exact hρ,hr,hl⟩
  cases e with
  | normal=>exact ⟨.inl rfl,fin hs⟩
  | exit id=>exact hs.elim
  | ret=>exact ⟨.inr rfl,fin hs⟩
 exact HCall.of_body hC hfn hname hbody (CodeK.run hC hmix c _ _ key2)
def frzT1 (heap:Heap):AV->Option (AV × Heap)
 | .c (.sl b off len cp)=>match look heap b with
  | some (.var cells)=>frz1 heap (.c (.sl b off len cp))
  | _=>match toTree (look heap) (.sl b off len cp) with
   | some (t,m)=>some (.c (.t t),wrs heap m)
   | none=>none
 | x=>some (x,heap)
def frzTs:Heap->List AV->Option (List AV × Heap)
 | h,[]=>some ([],h)
 | h,x :: xs=>match frzT1 h x with
  | some (y,h1)=>match frzTs h1 xs with
   | some (ys,h2)=>some (y :: ys,h2)
   | none=>none
  | none=>none
theorem frzT1_rep {K:Ctx} {β:Nat->Option Reg} {S:Place} {a:Act} {w:World} {tm:List AV} {heap heap':Heap} (h:Sat K β S ⟨tm,heap⟩ a w) {x x':AV} {v:Value} (hx:VRep β S w x v) (hf:frzT1 heap x=some (x',heap')) :
  ∃ S',(∀ c o,S c o->S' c o)/\Sat K β S' ⟨tm,heap'⟩ a w/\VRep β S' w x' v:=by
 unfold frzT1 at hf
 split at hf
 ·split at hf
  ·exact frz1_rep h hx hf
  ·split at hf
   ·rename_i t m ht
    cases hf
    cases hx with | c hx=>
    obtain ⟨S',e1,e2,e3,e4⟩:=toTree_rep (st:=⟨tm,heap⟩) h (Marked.refl _) hx ht
    exact ⟨S',e1,e2,.c (.t e4)⟩
   ·cases hf
 ·cases hf; exact ⟨S,fun _ _ hs=>hs,h,hx⟩
theorem frzTs_rep {K:Ctx} {β:Nat->Option Reg} {a:Act} {w:World} {tm:List AV}:∀ (avs:List AV) (vs:List Value) (heap heap':Heap) (S:Place) (avs':List AV),Sat K β S ⟨tm,heap⟩ a w->vs.length=avs.length->(∀ (i:Nat) (x:AV),avs[i]?=some x->∃ v,vs[i]?=some v/\VRep β S w x v)->frzTs heap avs=some (avs',heap') ->
  ∃ S',(∀ c o,S c o->S' c o)/\Sat K β S' ⟨tm,heap'⟩ a w/\vs.length=avs'.length/\∀ (i:Nat) (x:AV),avs'[i]?=some x->∃ v,vs[i]?=some v/\VRep β S' w x v
 | [],vs,heap,heap',S,avs',h,hl,hr,hf=>by
  simp [frzTs] at hf; obtain ⟨rfl,rfl⟩:=hf
  exact ⟨S,fun _ _ hs=>hs,h,hl,by simp⟩
 | x :: xs,[],_,_,_,_,_,hl,_,_=>by simp at hl
 | x :: xs,v :: vs,heap,heap',S,avs',h,hl,hr,hf=>by
  unfold frzTs at hf
  split at hf
  ·rename_i y h1 hy
   split at hf
   ·rename_i ys h2 hys
    cases hf
    obtain ⟨v',hv',hx⟩:=hr 0 x rfl
    simp at hv'; subst hv'
    obtain ⟨S1,e1,e2,e3⟩:=frzT1_rep h hx hy
    obtain ⟨S2,f1,f2,f3,f4⟩:=frzTs_rep xs vs h1 heap' S1 ys e2 (by simpa using hl) (fun i z hz=>by
     obtain ⟨u,q1,q2⟩:=hr (i+1) z (by simpa using hz)
     exact ⟨u,by simpa using q1,q2.mono (fun _ _ hx=>hx) e1 fun _ _ _=>rfl⟩) hys
    refine ⟨S2,fun c o hs=>f1 _ _ (e1 _ _ hs),f2,by simp [f3],fun i z hz=>?_⟩
    cases i with
    | zero=>simp at hz; subst hz; exact ⟨v,rfl,e3.mono (fun _ _ hx=>hx) f1 fun _ _ _=>rfl⟩
    | succ i=>simpa using f4 i z (by simpa using hz)
   ·cases hf
  ·cases hf
theorem HCall.of_bodyX {f:FuncId} (hC:CfgOk P C) {fn:Func} {c:Code} {s s':St} (hfn:P.funcs[f]?=some fn) (hname:(fn.name == "runtime.NumGoroutine")=false) (hbody:fn.body=some c)
  (hrun:ARun P s.heap.length c ⟨s.tmps ++ List.replicate (fn.ntmps - s.tmps.length) .junk,s.heap⟩ fun e s2=>(e=.normal ∨ e=.ret)/\∃ avs0 avs heap ρ,fn.results.toList.mapM (resAV C s2)=some avs0/\frzTs s2.heap avs0=some (avs,heap)/\(St.mk avs heap).LeR s.heap.length ρ s'/\s'.refsLt=true/\s.heap.length<=s'.heap.length):HCall P f s s':=by
 refine ⟨⟨fn,hfn,by rw [hbody]; rfl,hname⟩,fun K β S a w hK hs=>?_⟩
 refine calls_of_wp hfn hbody ?_
 refine wp_mono (hrun K hK β S _ w ?_) fun e a' w' ⟨x,s2,hx,⟨hxe,avs0,avs,heap,ρ,hav,hfz,hle,href,hlen⟩,β',S1,hs2⟩=>?_
 ·refine ⟨by simp [hs.len],rfl,fun t x ht=>?_,hs.top,hs.blk,hs.dis,hs.sex,hs.sin,hs.sub,hs.keep,hs.arg⟩
  simp only at ht
  rw [List.getElem?_append] at ht
  split at ht
  ·rename_i hlt
   have:=hs.tmps t x ht
   rw [Array.getD_eq_getD_getElem?] at this ⊢
   rw [Array.getElem?_append,if_pos (by rw [hs.len]; exact hlt)]
   exact this
  ·rw [List.getElem?_replicate] at ht
   split at ht
   ·cases ht; exact .junk _
   ·cases ht
 ·obtain ⟨vs,r1,r2',r3'⟩:=run_results (P:=P) hC hs2 hav
  obtain ⟨S2,q1,hs2',r2,r3⟩:=frzTs_rep (tm:=s2.tmps) avs0 vs s2.heap heap S1 avs hs2 r2' r3' hfz
  have hs3:Sat K β' S2 ⟨avs,heap⟩ { a with tmps:=vs.toArray } w':=by
   refine ⟨by simp [r2],hs.defers,fun t x ht=>?_,hs2'.top,hs2'.blk,hs2'.dis,hs2'.sex,hs2'.sin,hs2'.sub,hs2'.keep,hs2'.arg⟩
   obtain ⟨v,e1,e2⟩:=r3 t x ht
   have:({ a with tmps:=vs.toArray }:Act).tmps.getD t undef=v:=by simp [e1]
   rw [this]; exact e2
  have hs4:=hs3.ren hle href hK hlen
  have hend:∃ v,(results fn a'.tmps).run P w'=.ok v w'/\∃ (us:List Value) (β':Nat->Option Reg) (S':Place),Ending.returned v=.returned (if us.length=1 then us.getD 0 undef else .tuple us.toArray)/\us.length=s'.tmps.length/\Sat K β' S' s' { a with tmps:=us.toArray } w':=
   ⟨_,r1,vs,_,S2,rfl,by rw [r2,hle.len],hs4⟩
  cases e with
  | normal=>exact ⟨hs2.defers,hend⟩
  | ret=>exact ⟨hs2.defers,hend⟩
  | exit id=>cases hx; rcases hxe with h | h <;> cases h
  | goto=>cases hx
  | panic=>cases hx
  | outgrown=>cases hx
def frzT1Z (Z:ZI) (heap:Heap):AV->OZ (AV × Heap)
 | .c (.sl b off len cp)=>match look heap b with
  | some (.var cells)=>frz1Z Z heap (.c (.sl b off len cp))
  | _=>match toTreeZ Z (look heap) (.sl b off len cp) with
   | some (o,t,m)=>some (o,.c (.t t),wrs heap m)
   | none=>none
 | x=>some ([],x,heap)
def frzTsZ (Z:ZI):Heap->List AV->OZ (List AV × Heap)
 | h,[]=>some ([],[],h)
 | h,x :: xs=>match frzT1Z Z h x with
  | some (o,y,h1)=>match frzTsZ Z h1 xs with
   | some (os,ys,h2)=>some (o ++ os,y :: ys,h2)
   | none=>none
  | none=>none
theorem frzT1Z_std {heap : Heap} {x : AV} {o : List Bool} {y : AV} {h' : Heap} (e : frzT1Z ZI.std heap x = some (o, y, h')) (ho : allT o) : frzT1 heap x = some (y, h') := by
  unfold frzT1Z at e
  unfold frzT1
  split at e
  · rename_i b off len cp
    split at e
    · rename_i cells hb
      have h3 := frz1Z_std e ho
      first | exact h3 | (rw [hb]; exact h3) | (simp only [hb]; exact h3)
    · rename_i hb
      split at e
      · rename_i o' t m ht
        cases e
        have h2 := toTreeZ_std ht ho
        cases hx : look heap b with
        | none => simp [h2]
        | some blk =>
          cases blk with
          | var cells => exact (hb cells hx).elim
          | rows => simp [h2]
          | map => simp [h2]
          | old => simp [h2]
      · cases e
  · rename_i hx
    cases e
    first | rfl | (split; · rename_i b off len cp; exact absurd rfl (hx b off len cp)
                   · rfl)
theorem frzTsZ_std:∀ {heap:Heap} {l:List AV} {o:List Bool} {ys:List AV} {h':Heap},frzTsZ ZI.std heap l=some (o,ys,h')->allT o->frzTs heap l=some (ys,h')
 | h,[],o,ys,h',e,ho=>by cases e; rfl
 | h,x :: xs,o,ys,h',e,ho=>by
  unfold frzTsZ at e
  split at e
  ·rename_i h1
   split at e
   ·rename_i h2
    cases e
    obtain ⟨p,q⟩:=qbh ho
    simp only [frzTs,frzT1Z_std h1 p,frzTsZ_std h2 q]
   ·cases e
  ·cases e
def FinHX (Z:ZI) (C:Cfg) (st:ST) (rvs:List ResultVar) (G:List AV->Heap->Prop):Prop:=
 match rvs.mapM (resAVT C st) with
 | none=>False
 | some avs0=>match frzTsZ Z st.heap avs0 with
  | none=>False
  | some (ob,avs,heap)=>needs ob (G avs heap)
theorem hcallZX (hC:CfgOk P C) (hmix:P.follows .mixedOrders=true) {f:FuncId} {fn:Func} {c:Code} {s s':St} (hfn:P.funcs[f]?=some fn) (hname:(fn.name == "runtime.NumGoroutine")=false) (hbody:fn.body=some c) (hT:codeT c=true) (hr:s'.refsLt=true) (hl:s.heap.length<=s'.heap.length)
  (h:∀ (zA:IntKind->Int->Int) (zB:Int->Int->Int) (zC:Int->Int->Int) (zD:Int->Int->Int) (zE:Int->Int->Int) (zF:Int->Int->Int) (zG:IntKind->Int->Int->Int) (zH:IntKind->Int->Int->Int) (zI:IntKind->Int->Int->Int) (zJ:IntKind->Int->Int->Int) (zK:IntKind->Int->Int->Int) (zL:IntKind->Int->Int->Int) (zM:Int->Int->Bool) (zN:Int->Int->Bool) (zO:Int->Int->Bool) (zP:Int->Int->Bool) (zQ:Bool->Bool) (zR:Bool->Bool->Bool) (zT:Bool->Bool->Bool) (zU:Int->Int->Int) (zV:Int->Int->Int) (zX:Int->Nat) (zY:Int->Nat->Bool) (zZ:Nat->Int) (zb:Nat->Int->Nat) (zc:Nat->Nat->Bool) (zd:Nat->Nat->Nat) (ze:Int->Int->Nat) (zg:Int->Int->Nat->Bool) (zh:Nat->Nat->Nat->Bool) (zi:Int->Int->Nat->Bool) (zj:Rows->Nat) (zk:Rows->Nat->Option (List Tree)) (zl:Rows->Nat->List Tree->Rows) (zm:IntKind->Rows->Nat->Bool) (zn:Rows->Nat->Int) (zo:IntKind->Rows->Nat->Int->Rows) (zq:Nat->Nat->Rows->Bool) (zr:Rows->Nat->Nat->Rows) (zs:Rows->Nat->Rows->Rows) (zt:Rows->Nat->Rows->Rows) (zu:Nat->List Tree->Rows) (zx:Nat->Rows->Bool) (zy:List Bool->Bool) (zz:List (Value × Tree)->Value->Bool) (zmget:List (Value × Tree)->Value->Bool) (zmset:List (Value × Tree)->Value->Tree->List (Value × Tree)) (zW:IntKind->List Int->Rows) (zth:(α:Type)->(Unit->α)->α) A L (G:List AV->Heap->Prop),Std P s.heap.length zA zB zC zD zE zF zG zH zI zJ zK zL zM zN zO zP zQ zR zT zU zV zX zY zZ zb zc zd ze zg zh zi zj zk zl zm zn zo zq zr zs zt zu zx zy zz zmget zmset zW zth A L->(∀ avs hp ρ,(St.mk avs hp).LeR s.heap.length ρ s'->G avs hp)->CodeKZ (ZI.mk zA zB zC zD zE zF zG zH zI zJ zK zL zM zN zO zP zQ zR zT zU zV zX zY zZ zb zc zd ze zg zh zi zj zk zl zm zn zo zq zr zs zt zu zx zy zz zmget zmset) C A L c (ST.ofSt ⟨s.tmps ++ List.replicate (fn.ntmps - s.tmps.length) .junk,s.heap⟩) fun e st=>match e with
   | .exit _=>False
   | .normal=>FinHX (ZI.mk zA zB zC zD zE zF zG zH zI zJ zK zL zM zN zO zP zQ zR zT zU zV zX zY zZ zb zc zd ze zg zh zi zj zk zl zm zn zo zq zr zs zt zu zx zy zz zmget zmset) C st fn.results.toList G
   | .ret=>FinHX (ZI.mk zA zB zC zD zE zF zG zH zI zJ zK zL zM zN zO zP zQ zR zT zU zV zX zY zZ zb zc zd ze zg zh zi zj zk zl zm zn zo zq zr zs zt zu zx zy zz zmget zmset) C st fn.results.toList G):HCall P f s s':=by
 have key:=h (fun (a:IntKind) (b:Int)=>a.wrap b) (fun (a:Int) (b:Int)=>a+b) (fun (a:Int) (b:Int)=>a - b) (fun (a:Int) (b:Int)=>a*b) (fun (a:Int) (b:Int)=>a.tdiv b) (fun (a:Int) (b:Int)=>a.tmod b) (fun (a:IntKind) (b:Int) (c:Int)=>a.wrap (b*2 ^ (Min.min c.toNat a.bits))) (fun (a:IntKind) (b:Int) (c:Int)=>b.fdiv (2 ^ (Min.min c.toNat a.bits))) (fun (a:IntKind) (b:Int) (c:Int)=>a.wrap ((BitVec.ofInt a.bits b &&& BitVec.ofInt a.bits c).toNat)) (fun (a:IntKind) (b:Int) (c:Int)=>a.wrap ((BitVec.ofInt a.bits b ||| BitVec.ofInt a.bits c).toNat)) (fun (a:IntKind) (b:Int) (c:Int)=>a.wrap ((BitVec.ofInt a.bits b ^^^ BitVec.ofInt a.bits c).toNat)) (fun (a:IntKind) (b:Int) (c:Int)=>a.wrap ((BitVec.ofInt a.bits b &&& ~~~ BitVec.ofInt a.bits c).toNat)) (fun (a:Int) (b:Int)=>decide (a=b)) (fun (a:Int) (b:Int)=>decide (a ≠ b)) (fun (a:Int) (b:Int)=>decide (a < b)) (fun (a:Int) (b:Int)=>decide (a<=b)) (fun (a:Bool)=>!a) (fun (a:Bool) (b:Bool)=>(a == b)) (fun (a:Bool) (b:Bool)=>!(a == b)) (fun (a:Int) (b:Int)=>if b > a then b else a) (fun (a:Int) (b:Int)=>if b < a then b else a) (fun (a:Int)=>a.toNat) (fun (a:Int) (b:Nat)=>decide (0<=a/\a < b)) (fun (a:Nat)=>(a:Int)) (fun (a:Nat) (b:Int)=>a+b.toNat) (fun (a:Nat) (b:Nat)=>decide (a=b)) (fun (a:Nat) (b:Nat)=>a+b) (fun (a:Int) (b:Int)=>a.toNat - b.toNat) (fun (a:Int) (b:Int) (c:Nat)=>decide (0<=a/\a<=b/\b<=c)) (fun (a:Nat) (b:Nat) (c:Nat)=>decide ((a+b)*c<=capBytes)) (fun (a:Int) (b:Int) (c:Nat)=>decide (0<=a/\a<=b/\b*c<=capBytes)) (fun (a:Rows)=>a.length) (fun (a:Rows) (b:Nat)=>a[b]?) (fun (a:Rows) (b:Nat) (c:List Tree)=>a.set b c) (fun (a:IntKind) (b:Rows) (c:Nat)=>ZI.std.isI a b c) (fun (a:Rows) (b:Nat)=>ZI.std.getI a b) (fun (a:IntKind) (b:Rows) (c:Nat) (d:Int)=>b.set c [.v (.int a d)]) (fun (a:Nat) (b:Nat) (c:Rows)=>decide (a+b<=c.length)) (fun (a:Rows) (b:Nat) (c:Nat)=>(a.drop b).take c) (fun (a:Rows) (b:Nat) (c:Rows)=>a.drop b ++ c) (fun (a:Rows) (b:Nat) (c:Rows)=>setRange a b c) (fun (a:Nat) (b:List Tree)=>List.replicate a b) (fun (a:Nat) (b:Rows)=>b.all fun r=>r.length == a) (fun (a:List Bool)=>a.all id) (fun (a:List (Value × Tree)) (b:Value)=>ZI.std.mok a b) (fun (a:List (Value × Tree)) (b:Value)=>ZI.std.mget a b) (fun (a:List (Value × Tree)) (b:Value) (c:Tree)=>(setEnt b c a).getD a) W (fun (α:Type) (f:Unit->α)=>f ()) (Shows P) (LoopT P s.heap.length) (fun avs hp=>∃ ρ,(St.mk avs hp).LeR s.heap.length ρ s') ⟨fun _ _=>rfl,fun _ _=>rfl,fun _ _=>rfl,fun _ _=>rfl,fun _ _=>rfl,fun _ _=>rfl,fun _ _ _=>rfl,fun _ _ _=>rfl,fun _ _ _=>rfl,fun _ _ _=>rfl,fun _ _ _=>rfl,fun _ _ _=>rfl,fun _ _=>rfl,fun _ _=>rfl,fun _ _=>rfl,fun _ _=>rfl,fun _=>rfl,fun _ _=>rfl,fun _ _=>rfl,fun _ _=>rfl,fun _ _=>rfl,fun _=>rfl,fun _ _=>rfl,fun _=>rfl,fun _ _=>rfl,fun _ _=>rfl,fun _ _=>rfl,fun _ _=>rfl,fun _ _ _=>rfl,fun _ _ _=>rfl,fun _ _ _=>rfl,fun _=>rfl,fun _ _=>rfl,fun _ _ _=>rfl,fun _ _ _=>rfl,fun _ _=>rfl,fun _ _ _ _=>rfl,fun _ _ _=>rfl,fun _ _ _=>rfl,fun _ _ _=>rfl,fun _ _ _=>rfl,fun _ _=>rfl,fun _ _=>rfl,fun _=>rfl,fun _ _=>rfl,fun _ _=>rfl,fun _ _ _=>rfl,rfl,fun _ _=>rfl,rfl,rfl⟩ (fun avs hp ρ h=>⟨ρ,h⟩)
 have k0:=codeKZ_std c _ (ST.ofSt_ok _) hT key
 rw [ST.toSt_ofSt] at k0
 have key2:=qbq c _ k0 (Q':=fun e s2=>(e=.normal ∨ e=.ret)/\∃ avs0 avs heap ρ,fn.results.toList.mapM (resAV C s2)=some avs0/\frzTs s2.heap avs0=some (avs,heap)/\(St.mk avs heap).LeR s.heap.length ρ s'/\s'.refsLt=true/\s.heap.length<=s'.heap.length) fun e s2 hs=>by
  obtain ⟨st,h1,rfl,hs⟩:=hs
  have fin:FinHX ZI.std C st fn.results.toList (fun avs hp=>∃ ρ,(St.mk avs hp).LeR s.heap.length ρ s')->∃ avs0 avs heap ρ,fn.results.toList.mapM (resAV C st.toSt)=some avs0/\frzTs st.toSt.heap avs0=some (avs,heap)/\(St.mk avs heap).LeR s.heap.length ρ s'/\s'.refsLt=true/\s.heap.length<=s'.heap.length:=fun hf=>by
   unfold FinHX at hf
   rw [show resAVT C st=resAV C st.toSt from funext fun r=>resAVT_std h1 r] at hf
   split at hf
   ·exact hf.elim
   ·rename_i avs0 havs
    split at hf
    ·exact hf.elim
    ·rename_i ob avs heap hfz
     obtain ⟨hob,ρ,hρ⟩:=qbl hf
     exact ⟨avs0,avs,heap,ρ,havs,by rw [ST.toSt_heap]; exact frzTsZ_std hfz hob,hρ,hr,hl⟩
  cases e with
  | normal=>exact ⟨.inl rfl,fin hs⟩
  | exit id=>exact hs.elim
  | ret=>exact ⟨.inr rfl,fin hs⟩
 exact HCall.of_bodyX hC hfn hname hbody (CodeK.run hC hmix c _ _ key2)
theorem endR {n0:Nat} {s':St} {G:List AV->Heap->Prop} (hG:∀ avs hp ρ,(St.mk avs hp).LeR n0 ρ s'->G avs hp) {avs:List AV} {hp:Heap} (m:List (Nat × Nat)) (h1:leTR (renF m) avs s'.tmps) (h2:leHR (renF m) hp 0 s'.heap) (h3:(liveR (renF m) 0 s'.heap).Nodup) (h4:∀ p ∈ m,n0<=p.1):G avs hp:=
 hG _ _ _ (leR_of m h1 h2 h3 h4)
end
open Go
theorem ACall.exact1 {P:Program} {f:FuncId} {cp:Bool} {res:Res} (h:∀ (base:Option Addr) (c:Nat),ACall P f [.val (.c (.v (.slice base 0 c)))] res):ACall P f [.val (.c (.lst cp []))] res:=by
 refine ⟨(h none 0).1,fun S w vals Rs hp=>?_⟩
 obtain ⟨v,hv,hok⟩:=hp.ok 0 _ rfl
 have hok:VRep noβ S w (.c (.t (.lst cp []))) v:=hok
 cases hok with | c hok=>
 cases hok with | t hok=>
 cases hok with | lst _ _ base cb co stride cap val h1 h2 h3 h4 h5=>
 have hone:∀ i arg,[Arg.val (.c (.v (.slice base 0 cap)))][i]?=some arg->i=0/\arg=Arg.val (.c (.v (.slice base 0 cap))):=fun i arg hi=>by
  cases i with
  | zero=>simp at hi; exact ⟨rfl,hi.symm⟩
  | succ i=>simp at hi
 have hone':∀ i arg,[Arg.val (.c (.lst cp []))][i]?=some arg->i=0/\arg=Arg.val (.c (.lst cp [])):=fun i arg hi=>by
  cases i with
  | zero=>simp at hi; exact ⟨rfl,hi.symm⟩
  | succ i=>simp at hi
 have hp':CallPre [.val (.c (.v (.slice base 0 cap)))] S w vals Rs:=by
  refine ⟨hp.len,fun i arg hi=>?_,hp.sex,fun i arg blk h1 h2=>?_,fun i j x y b b' hne h1 h2 h3 h4=>?_,fun i f caps v hi hv=>?_⟩
  ·obtain ⟨rfl,rfl⟩:=hone i arg hi
   exact ⟨_,hv,.c (.t (.v _ (fun l=>by simp)))⟩
  ·obtain ⟨rfl,rfl⟩:=hone i arg h1; cases h2
  ·obtain ⟨rfl,rfl⟩:=hone i x h1; cases h3
  ·obtain ⟨_,h⟩:=hone i _ hi; cases h
 have hl:Lent [Arg.val (.c (.v (.slice base 0 cap)))] Rs=Lent [Arg.val (.c (.lst cp []))] Rs:=by
  funext c o
  refine propext ⟨?_,?_⟩
  ·rintro ⟨i,arg,blk,h1,h2,_⟩
   obtain ⟨rfl,rfl⟩:=hone i arg h1; cases h2
  ·rintro ⟨i,arg,blk,h1,h2,_⟩
   obtain ⟨rfl,rfl⟩:=hone' i arg h1; cases h2
 refine ((h base cap).2 S w vals Rs hp').mono ?_
 rintro e w' ⟨v,rfl,hq⟩
 refine ⟨v,rfl,⟨?_⟩⟩
 obtain ⟨S',Rr,vs,q1,q2,q3,q4,q5,q6,q7,q8,q9⟩:=hq.p
 rw [hl] at q3 q5 q7
 refine ⟨S',Rr,vs,q1,q2,q3,q4,q5,q6,q7,q8,fun i blk hi=>?_⟩
 obtain ⟨arg,b0,e1,e2,e3⟩:=q9 i blk hi
 obtain ⟨rfl,rfl⟩:=hone i arg e1; cases e2
abbrev RV:=Nat->Rat
def rv (P:List Rat):RV:=fun j=>P.getD j 0
def sumN:Nat->(Nat->Rat)->Rat
 | 0,_=>0
 | n+1,f=>sumN n f+f n
theorem qab {f g:Nat->Rat}:∀ n,(∀ i,i < n->f i=g i)->sumN n f=sumN n g
 | 0,_=>rfl
 | n+1,h=>by rw [sumN,sumN,qab n fun i hi=>h i (by omega),h n (by omega)]
theorem qa3:∀ n,sumN n (fun _=>0)=0
 | 0=>rfl
 | n+1=>by rw [sumN,qa3 n,Rat.add_zero]
theorem sumN_add (f g:Nat->Rat):∀ n,sumN n (fun i=>f i+g i)=sumN n f+sumN n g
 | 0=>by simp [sumN,Rat.add_zero]
 | n+1=>by rw [sumN,sumN,sumN,sumN_add f g n]; grind
theorem qa4 (c:Rat) (f:Nat->Rat):∀ n,sumN n (fun i=>c*f i)=c*sumN n f
 | 0=>by simp [sumN,Rat.mul_zero]
 | n+1=>by rw [sumN,sumN,qa4 c f n]; grind
theorem sumN_swap (f:Nat->Nat->Rat) (m:Nat):∀ n,sumN n (fun i=>sumN m (fun l=>f i l))=sumN m (fun l=>sumN n (fun i=>f i l))
 | 0=>by simp only [sumN]; exact (qa3 m).symm
 | n+1=>by simp only [sumN]; rw [sumN_swap f m n,sumN_add]
theorem qbi {f:Nat->Rat} {i:Nat}:∀ n,i < n->(∀ l,l < n->l ≠ i->f l=0)->sumN n f=f i
 | 0,h,_=>by omega
 | n+1,h,hz=>by
  rw [sumN]
  by_cases hi:i=n
  ·subst hi
   rw [qab i (g:=fun _=>0) fun l hl=>hz l (by omega) (by omega),qa3,Rat.zero_add]
  ·rw [qbi n (by omega) fun l hl hne=>hz l (by omega) hne,hz n (by omega) (by omega),Rat.add_zero]
theorem sumN_const:∀ n:Nat,sumN n (fun _=>1)=(n:Rat)
 | 0=>rfl
 | n+1=>by rw [sumN,sumN_const n]; push_cast; rfl
inductive Sp (S:RV->Prop):RV->Prop
 | mem {v:RV}:S v->Sp S v
 | zero:Sp S (fun _=>0)
 | add {u v:RV}:Sp S u->Sp S v->Sp S (fun j=>u j+v j)
 | smul (c:Rat) {v:RV}:Sp S v->Sp S (fun j=>c*v j)
theorem Sp.trans {S T:RV->Prop} (h:∀ v,S v->Sp T v) {v:RV} (hv:Sp S v):Sp T v:=by
 induction hv with
 | mem hm=>exact h _ hm
 | zero=>exact .zero
 | add _ _ a b=>exact .add a b
 | smul c _ a=>exact .smul c a
theorem Sp.cast {S:RV->Prop} {u v:RV} (h:Sp S u) (e:∀ j,v j=u j):Sp S v:=by
 have:v=u:=funext e
 exact this ▸ h
theorem Sp.lin {S:RV->Prop} {u v w:RV} (c:Rat) (h1:Sp S u) (h2:Sp S v) (e:∀ j,w j=u j+c*v j):Sp S w:=(Sp.add h1 (Sp.smul c h2)).cast e
def Rs (n:Nat) (R:Nat->RV):RV->Prop:=fun v=>∃ i,i < n/\v=R i
theorem Sp.row {n:Nat} {R:Nat->RV} {i:Nat} (h:i < n):Sp (Rs n R) (R i):=.mem ⟨i,h,rfl⟩
structure SpE (S T:RV->Prop):Prop where
 l:∀ v,Sp S v->Sp T v
 r:∀ v,Sp T v->Sp S v
theorem SpE.refl (S:RV->Prop):SpE S S:=⟨fun _ h=>h,fun _ h=>h⟩
theorem SpE.symm {S T:RV->Prop} (h:SpE S T):SpE T S:=⟨h.r,h.l⟩
theorem SpE.trans {S T U:RV->Prop} (h:SpE S T) (g:SpE T U):SpE S U:=⟨fun v hv=>g.l v (h.l v hv),fun v hv=>h.r v (g.r v hv)⟩
theorem SpE.of {n m:Nat} {R T:Nat->RV} (h1:∀ i,i < n->Sp (Rs m T) (R i)) (h2:∀ i,i < m->Sp (Rs n R) (T i)):SpE (Rs n R) (Rs m T):=
 ⟨fun v hv=>hv.trans fun u ⟨i,hi,e⟩=>e ▸ h1 i hi,fun v hv=>hv.trans fun u ⟨i,hi,e⟩=>e ▸ h2 i hi⟩
theorem spe_swap {n:Nat} {R T:Nat->RV} {a b:Nat} (ha:a < n) (hb:b < n) (h:∀ i,i < n->T i=if i=a then R b else if i=b then R a else R i):SpE (Rs n R) (Rs n T):=by
 refine SpE.of (fun i hi=>?_) fun i hi=>?_
 ·by_cases h1:i=a
  ·have:=h b hb
   by_cases hab:b=a
   ·rw [if_pos hab] at this; rw [h1,<- hab,<- this]; exact .row hb
   ·rw [if_neg hab,if_pos rfl] at this; rw [h1,<- this]; exact .row hb
  ·by_cases h2:i=b
   ·have:=h a ha
    rw [if_pos rfl] at this; rw [h2,<- this]; exact .row ha
   ·have:=h i hi
    rw [if_neg h1,if_neg h2] at this; rw [<- this]; exact .row hi
 ·rw [h i hi]
  split
  ·exact .row hb
  ·split
   ·exact .row ha
   ·exact .row hi
theorem spe_scale {n:Nat} {R T:Nat->RV} {k:Nat} {c:Rat} (hc:c ≠ 0) (hk:k < n) (h1:∀ i,i < n->i ≠ k->T i=R i) (h2:∀ j,T k j=c*R k j):SpE (Rs n R) (Rs n T):=by
 have hi:=Rat.inv_mul_cancel c hc
 refine SpE.of (fun i hi'=>?_) fun i hi'=>?_
 ·by_cases h:i=k
  ·subst h
   refine (Sp.smul c⁻¹ (Sp.row (R:=T) hk)).cast fun j=>?_
   rw [h2]
   have:c⁻¹*(c*R i j)=c⁻¹*c*R i j:=by grind
   rw [this,hi,Rat.one_mul]
  ·rw [<- h1 i hi' h]; exact .row hi'
 ·by_cases h:i=k
  ·subst h
   exact (Sp.smul c (Sp.row (R:=R) hk)).cast h2
  ·rw [h1 i hi' h]; exact .row hi'
theorem spe_elim {n:Nat} {R T:Nat->RV} {k:Nat} {c:Nat->Rat} (hk:k < n) (h1:T k=R k) (h2:∀ i,i < n->i ≠ k->∀ j,T i j=R i j+c i*R k j):SpE (Rs n R) (Rs n T):=by
 refine SpE.of (fun i hi=>?_) fun i hi=>?_
 ·by_cases h:i=k
  ·rw [h,<- h1]; exact .row hk
  ·refine Sp.lin (-(c i)) (Sp.row (R:=T) hi) (Sp.row (R:=T) hk) fun j=>?_
   rw [h2 i hi h,h1]; grind
 ·by_cases h:i=k
  ·rw [h,h1]; exact .row hk
  ·exact Sp.lin (c i) (Sp.row (R:=R) hi) (Sp.row (R:=R) hk) (h2 i hi h)
structure UB (S:RV->Prop) (k:Nat) (b:Nat->RV) (c:Nat->Nat):Prop where
 mem:∀ i,i < k->Sp S (b i)
 one:∀ i,i < k->b i (c i)=1
 off:∀ i,i < k->∀ l,l < k->l ≠ i->b i (c l)=0
 gen:∀ v,Sp S v->∀ j,v j=sumN k fun i=>v (c i)*b i j
theorem ub_gen {S:RV->Prop} {k:Nat} {b:Nat->RV} {c:Nat->Nat} (h:∀ v,S v->∀ j,v j=sumN k fun i=>v (c i)*b i j):∀ v,Sp S v->∀ j,v j=sumN k fun i=>v (c i)*b i j:=fun v hv=>by
 induction hv with
 | mem hm=>exact h _ hm
 | zero=>
  intro j
  rw [qab k (g:=fun _=>0) fun i _=>Rat.zero_mul _,qa3]
 | add _ _ a b=>
  intro j
  show _+_=_
  rw [a j,b j,<- sumN_add]
  exact qab k fun i _=>by grind
 | smul c _ a=>
  intro j
  show _*_=_
  rw [a j,<- qa4]
  exact qab k fun i _=>by grind
theorem nat_rat_inj {a b:Nat} (h:(a:Rat)=(b:Rat)):a=b:=by exact_mod_cast h
theorem UB.card {S T:RV->Prop} {k m:Nat} {b d:Nat->RV} {c e:Nat->Nat} (h:UB S k b c) (g:UB T m d e) (hS:SpE S T):k=m:=by
 have h1:sumN k (fun i=>sumN m fun l=>b i (e l)*d l (c i))=(k:Rat):=by
  rw [<- sumN_const k]
  refine qab k fun i hi=>?_
  rw [<- g.gen (b i) (hS.l _ (h.mem i hi)) (c i),h.one i hi]
 have h2:sumN m (fun l=>sumN k fun i=>d l (c i)*b i (e l))=(m:Rat):=by
  rw [<- sumN_const m]
  refine qab m fun l hl=>?_
  rw [<- h.gen (d l) (hS.r _ (g.mem l hl)) (e l),g.one l hl]
 rw [sumN_swap] at h1
 refine nat_rat_inj ?_
 rw [<- h1,<- h2]
 exact qab m fun l _=>qab k fun i _=>Rat.mul_comm _ _
theorem UB.of_rows {k:Nat} {b:Nat->RV} {c:Nat->Nat} (h1:∀ i,i < k->b i (c i)=1) (h2:∀ i,i < k->∀ l,l < k->l ≠ i->b i (c l)=0):UB (Rs k b) k b c:=
 ⟨fun i hi=>.row hi,h1,h2,ub_gen fun v ⟨i,hi,e⟩ j=>by
  subst e
  rw [qbi k hi fun l hl hne=>by rw [h2 i hi l hl hne,Rat.zero_mul],h1 i hi,Rat.one_mul]⟩
structure RRE (S:RV->Prop) (k:Nat) (b:Nat->RV) (c:Nat->Nat):Prop where
 ub:UB S k b c
 lead:∀ i,i < k->∀ j,j < c i->b i j=0
 inc:∀ i l,i < l->l < k->c i < c l
theorem RRE.first {S:RV->Prop} {k:Nat} {b:Nat->RV} {c:Nat->Nat} (h:RRE S k b c) {v:RV} (hv:Sp S v) {q:Nat} (hq:v q ≠ 0) (hz:∀ j,j < q->v j=0):∃ i,i < k/\c i=q:=by
 refine Classical.byContradiction fun hn=>hq ?_
 rw [h.ub.gen v hv q,qab k (g:=fun _=>0) fun i hi=>?_,qa3]
 rcases Nat.lt_trichotomy (c i) q with h1 | h1 | h1
 ·rw [hz _ h1,Rat.zero_mul]
 ·exact absurd ⟨i,hi,h1⟩ hn
 ·rw [h.lead i hi q h1,Rat.mul_zero]
def dot (w:Nat) (u v:RV):Rat:=sumN w fun j=>u j*v j
theorem dot_span {S:RV->Prop} {w:Nat} {x:RV} (h:∀ v,S v->dot w v x=0):∀ v,Sp S v->dot w v x=0:=fun v hv=>by
 induction hv with
 | mem hm=>exact h _ hm
 | zero=>unfold dot; rw [qab w (g:=fun _=>0) fun i _=>Rat.zero_mul _,qa3]
 | add _ _ a b=>
  unfold dot at *
  rw [qab w (g:=fun j=>_*x j+_*x j) fun i _=>Rat.add_mul _ _ _,sumN_add,a,b,Rat.zero_add]
 | smul c _ a=>
  unfold dot at *
  rw [qab w (g:=fun j=>c*(_*x j)) fun i _=>Rat.mul_assoc _ _ _,qa4,a,Rat.mul_zero]
def elm (P Q:List Rat) (j:Nat):List Rat:=if P.getD j 0=0 then P else pacc P (-(P.getD j 0 / Q.getD j 0)) Q 0
theorem elm_len (P Q:List Rat) (j:Nat):(elm P Q j).length=P.length:=by
 unfold elm
 split
 ·rfl
 ·unfold pacc; exact qbn _ _ _ _ _
theorem pacc0_get {P Q:List Rat} (c:Rat) (h:P.length=Q.length) (x:Nat):(pacc P c Q 0).getD x 0=P.getD x 0+c*Q.getD x 0:=by
 unfold pacc
 rw [accL_get Q.length x (by omega)]
 by_cases hx:x < Q.length
 ·rw [if_pos ⟨Nat.zero_le _,by omega⟩,Nat.sub_zero]
 ·rw [if_neg (fun ⟨_,h⟩=>hx (by omega))]
  have:Q.getD x 0=0:=by rw [List.getD_eq_getElem?_getD,List.getElem?_eq_none (by omega)]; rfl
  rw [this,Rat.mul_zero,Rat.add_zero]
theorem elm_rv {P Q:List Rat} {j:Nat} (h:P.length=Q.length) (x:Nat):rv (elm P Q j) x=rv P x+(-(P.getD j 0 / Q.getD j 0))*rv Q x:=by
 unfold elm rv
 split
 ·rename_i h0
  rw [h0,Rat.div_def,Rat.zero_mul]; grind
 ·exact pacc0_get _ h x
theorem lsc_rv (c:Rat) (P:List Rat) (x:Nat):rv (lsc c P) x=c*rv P x:=by
 unfold rv
 rw [List.getD_eq_getElem?_getD,List.getD_eq_getElem?_getD,lsc,List.getElem?_map]
 cases P[x]? with
 | none=>simp [Rat.mul_zero]
 | some q=>simp
def rstep (R:Nat->List Rat) (k i0 j:Nat):Nat->List Rat:=fun i=>
 if i=k then lsc ((R i0).getD j 0)⁻¹ (R i0) else elm (if i=i0 then R k else R i) (lsc ((R i0).getD j 0)⁻¹ (R i0)) j
structure RdI (n w j k:Nat) (M R:Nat->List Rat) (p:Nat->Nat):Prop where
 len:∀ i,i < n->(R i).length=w
 sp:SpE (Rs n fun i=>rv (M i)) (Rs n fun i=>rv (R i))
 pj:∀ l,l < k->p l < j
 inc:∀ i l,i < l->l < k->p i < p l
 one:∀ l,l < k->rv (R l) (p l)=1
 off:∀ l,l < k->∀ i,i < n->i ≠ l->rv (R i) (p l)=0
 low:∀ i,k<=i->i < n->∀ j',j' < j->rv (R i) j'=0
 lead:∀ l,l < k->∀ j',j' < p l->rv (R l) j'=0
 kn:k<=n
theorem RdI.start {n w:Nat} {M:Nat->List Rat} (h:∀ i,i < n->(M i).length=w) (p:Nat->Nat):RdI n w 0 0 M M p:=
 ⟨h,SpE.refl _,fun l h=>by omega,fun i l _ h=>by omega,fun l h=>by omega,fun l h=>by omega,fun i _ _ j' h=>by omega,fun l h=>by omega,Nat.zero_le _⟩
theorem RdI.skip {n w j k:Nat} {M R:Nat->List Rat} {p:Nat->Nat} (h:RdI n w j k M R p) (hz:∀ i,k<=i->i < n->(R i).getD j 0=0):RdI n w (j+1) k M R p:=
 ⟨h.len,h.sp,fun l hl=>Nat.lt_succ_of_lt (h.pj l hl),h.inc,h.one,h.off,fun i h1 h2 j' hj=>by
  by_cases e:j'=j
  ·rw [e]; exact hz i h1 h2
  ·exact h.low i h1 h2 j' (by omega),h.lead,h.kn⟩
theorem RdI.step {n w j k i0:Nat} {M R:Nat->List Rat} {p:Nat->Nat} (h:RdI n w j k M R p) (h1:k<=i0) (h2:i0 < n) (hx:(R i0).getD j 0 ≠ 0) :
  RdI n w (j+1) (k+1) M (rstep R k i0 j) (fun l=>if l=k then j else p l):=by
 obtain ⟨x,hxe⟩:∃ x,x=(R i0).getD j 0:=⟨_,rfl⟩
 rw [<- hxe] at hx
 have hi:=Rat.inv_mul_cancel x hx
 have hi0:x⁻¹ ≠ 0:=fun h0=>by rw [h0,Rat.zero_mul] at hi; exact absurd hi (by decide)
 obtain ⟨S,hS⟩:∃ S,S=lsc x⁻¹ (R i0):=⟨_,rfl⟩
 have hSl:S.length=w:=by rw [hS]; simp [lsc,h.len i0 h2]
 have hSj:S.getD j 0=1:=by
  have:=lsc_rv x⁻¹ (R i0) j
  unfold rv at this
  rw [hS,this,<- hxe,hi]
 have hSz:∀ j',j' < j->rv S j'=0:=fun j' hj=>by rw [hS,lsc_rv,h.low i0 h1 h2 j' hj,Rat.mul_zero]
 have kn:k < n:=by omega
 obtain ⟨T,hT⟩:∃ T:Nat->List Rat,T=fun i=>if i=k then R i0 else if i=i0 then R k else R i:=⟨_,rfl⟩
 have hTl:∀ i,i < n->(T i).length=w:=fun i hi=>by
  rw [hT]
  simp only
  split
  ·exact h.len _ h2
  ·split
   ·exact h.len _ kn
   ·exact h.len _ hi
 have hR:∀ i,i ≠ k->rstep R k i0 j i=elm (T i) S j:=fun i hi=>by
  unfold rstep
  rw [if_neg hi,<- hxe,<- hS,hT]
  simp only
  rw [if_neg hi]
 have hRk:rstep R k i0 j k=S:=by unfold rstep; rw [if_pos rfl,<- hxe,hS]
 have hrv:∀ i,i < n->i ≠ k->∀ y,rv (rstep R k i0 j i) y=rv (T i) y+(-((T i).getD j 0))*rv S y:=fun i hi hne y=>by
  rw [hR i hne,elm_rv (by rw [hTl i hi,hSl]),hSj,Rat.div_def,show (1:Rat)⁻¹=1 by grind,Rat.mul_one]
 have hTlow:∀ i,k<=i->i < n->∀ j',j' < j->rv (T i) j'=0:=fun i h3 h4 j' hj=>by
  rw [hT]
  simp only
  split
  ·exact h.low _ h1 h2 _ hj
  ·split
   ·exact h.low _ (Nat.le_refl k) kn _ hj
   ·exact h.low _ h3 h4 _ hj
 have hTlt:∀ i,i < k->T i=R i:=fun i hi=>by
  rw [hT]
  simp only
  rw [if_neg (by omega),if_neg (by omega)]
 have hoffT:∀ l,l < k->∀ i,i < n->i ≠ l->rv (T i) (p l)=0:=fun l hl i hi hne=>by
  by_cases hik:i < k
  ·rw [hTlt i hik]; exact h.off l hl i hi hne
  ·exact hTlow i (by omega) hi _ (h.pj l hl)
 refine ⟨fun i hi=>?_,?_,fun l hl=>?_,fun i l hil hl=>?_,fun l hl=>?_,fun l hl i hi hne=>?_,fun i h3 h4 j' hj=>?_,fun l hl j' hj=>?_,by omega⟩
 ·by_cases e:i=k
  ·rw [e,hRk,hSl]
  ·rw [hR i e,elm_len,hTl i hi]
 ·refine h.sp.trans (SpE.trans (spe_swap (T:=fun i=>rv (T i)) kn h2 fun i hi=>?_) (SpE.trans (spe_scale (T:=fun i=>rv (if i=k then S else T i)) (c:=x⁻¹) (k:=k) hi0 kn (fun i hi hne=>?_) fun y=>?_) (spe_elim (k:=k) (c:=fun i=>-((T i).getD j 0)) kn ?_ fun i hi hne y=>?_)))
  ·rw [hT]
   by_cases e:i=k
   ·simp only [e,if_true]
   ·by_cases e2:i=i0
    ·simp only [e2,if_true]; split <;> rfl
    ·simp only [e,e2,if_false]
  ·simp only [hne,if_false]
  ·simp only [if_true]
   rw [hS,lsc_rv,hT]
   simp only [if_true]
  ·simp only [if_true,hRk]
  ·simp only [hne,if_true,if_false]
   exact hrv i hi hne y
 ·by_cases e:l=k
  ·rw [if_pos e]; omega
  ·rw [if_neg e]; have:=h.pj l (by omega); omega
 ·by_cases e:l=k
  ·rw [if_pos e,if_neg (by omega)]; exact h.pj i (by omega)
  ·rw [if_neg e,if_neg (by omega)]; exact h.inc i l hil (by omega)
 ·by_cases e:l=k
  ·rw [if_pos e,e,hRk]; exact hSj
  ·rw [if_neg e]
   have hl':l < k:=by omega
   rw [hrv l (by omega) e,hTlt l hl',h.one l hl',hSz _ (h.pj l hl'),Rat.mul_zero,Rat.add_zero]
 ·by_cases e:l=k
  ·rw [if_pos e]
   have hik:i ≠ k:=by omega
   rw [hrv i hi hik]
   have:rv S j=1:=hSj
   rw [this]
   show (T i).getD j 0+_=0
   grind
  ·rw [if_neg e]
   have hl':l < k:=by omega
   by_cases hik:i=k
   ·rw [hik,hRk]; exact hSz _ (h.pj l hl')
   ·rw [hrv i hi hik,hoffT l hl' i hi hne,hSz _ (h.pj l hl')]; grind
 ·have hik:i ≠ k:=by omega
  rw [hrv i h4 hik]
  by_cases e:j'=j
  ·rw [e]
   have:rv S j=1:=hSj
   rw [this]
   show (T i).getD j 0+_=0
   grind
  ·rw [hTlow i (by omega) h4 j' (by omega),hSz j' (by omega)]; grind
 ·by_cases e:l=k
  ·rw [if_pos e] at hj
   rw [e,hRk]; exact hSz j' hj
  ·rw [if_neg e] at hj
   have hl':l < k:=by omega
   have:=h.pj l hl'
   rw [hrv l (by omega) e,hTlt l hl',h.lead l hl' j' hj,hSz j' (by omega)]; grind
theorem RdI.rre {n w k:Nat} {M R:Nat->List Rat} {p:Nat->Nat} (h:RdI n w w k M R p):RRE (Rs n fun i=>rv (M i)) k (fun i=>rv (R i)) p:=by
 have hz:∀ i,k<=i->i < n->∀ y,rv (R i) y=0:=fun i h1 h2 y=>by
  by_cases hy:y < w
  ·exact h.low i h1 h2 y hy
  ·unfold rv
   rw [List.getD_eq_getElem?_getD,List.getElem?_eq_none (by rw [h.len i h2]; omega)]; rfl
 have hkn:=h.kn
 refine ⟨⟨fun i hi=>h.sp.r _ (Sp.row (R:=fun i=>rv (R i)) (by omega)),h.one,fun i hi l hl hne=>h.off l hl i (by omega) (by omega),fun v hv=>?_⟩,h.lead,h.inc⟩
 refine ub_gen (S:=Rs n fun i=>rv (R i)) (fun v ⟨i,hi,e⟩ j=>?_) v (h.sp.l v hv)
 subst e
 show rv (R i) j=sumN k fun l=>rv (R i) (p l)*rv (R l) j
 by_cases hik:i < k
 ·rw [qbi k hik fun l hl hne=>by rw [h.off l hl i hi (by omega),Rat.zero_mul],h.one i hik,Rat.one_mul]
 ·rw [hz i (by omega) hi,qab k (g:=fun _=>0) fun l hl=>by rw [h.off l hl i hi (by omega),Rat.zero_mul],qa3]
end Go.Abs
end
section
namespace Go.Proofs.YtjfmkcmepdedaaaGreat
open Go Go.Abs Go.Abs.M Go.Proofs
theorem qba (q:Rat):∃ c,(c=0 ↔ q=0)/\ACall Tryz.prog 36 [.val (.agg (qc q).row)] ⟨[.val (ti .i64 c)],[none]⟩:=
 ⟨cmpI q.num 0,(cmp00 q.num).trans Rat.num_eq_zero,qsign_call _ (qc_isR q).n rfl⟩
theorem msub_row {x y:Rat} {a b:Nat} (h1:Qs x a) (h2:Qs y b) (h:a+b<=68719476736) :
  Qs (x - y) (a+b+1)/\ACall Tryz.prog 126 [.val (.agg (qc x).row),.val (.agg (qc y).row)] ⟨[.val (.agg (qc (x - y)).row)],[none,none]⟩:=by
 refine ⟨by rw [Rat.sub_eq_add_neg]; exact add_small h1 h2.neg,?_⟩
 obtain ⟨u,w,v,p,hr,c⟩:=psub_call (qc_isR x) (qc_isR y) (h1.mono (by omega)) (h2.mono (by omega))
 rw [qc_row hr] at c
 exact c
def msuSt (X:Abs.Rows) (third:AV) (h2:Option Blk) (n:Nat) (s t:Bool) (r p:Abs.Rows) (N i:Int):St:=mkSt 33 [.c (.sl 0 0 n false),.agg [.t (.v (.bool s)),.t (.lst false r),.t (.v (.bool t)),.t (.lst false p)],third,.junk,.c (.ptr 3 0 0),.junk,.junk,.junk,.junk,.junk,.junk,third,vi .i64 N,vi .i64 i]
 [some (.rows 4 X false false),none,h2,some (.var [.t (.v (.bool s)),.t (.lst false r),.t (.v (.bool t)),.t (.lst false p)])]
def msuStV (X Y:Abs.Rows) (n:Nat) (s t:Bool) (r p:Abs.Rows) (N i:Int):St:=msuSt X (.c (.t (.lst false Y))) none n s t r p N i
theorem msubv_call (R B:List Rat) (c:Rat) (a b d:Nat) (hl:B.length<=R.length) (hR:R.length<=1000) (h1:∀ q ∈ R,Qs q a) (h2:Qs c b) (h3:∀ q ∈ B,Qs q d) (ha:a+(b+d)<=68719476736) (hbd:b+d<=68719476736) :
  ACall Tryz.prog 94 [.bor 4 (ur R),.val (.agg (qc c).row),.val (tl (ur B))] ⟨[],[some (.rows 4 (ur (pacc R (-c) B 0)) false false),none,none]⟩:=by
 obtain ⟨X,hX⟩:∃ X,X=ur R:=⟨_,rfl⟩
 obtain ⟨Y,hY⟩:∃ Y,Y=ur B:=⟨_,rfl⟩
 obtain ⟨Z,hZ⟩:∃ Z,Z=ur (pacc R (-c) B 0):=⟨_,rfl⟩
 obtain ⟨n,hn⟩:∃ n,n=R.length:=⟨_,rfl⟩
 obtain ⟨m,hm⟩:∃ m,m=B.length:=⟨_,rfl⟩
 have hXl:X.length=n:=by rw [hX,qau,hn]
 have hYl:Y.length=m:=by rw [hY,qau,hm]
 rw [<- hX,<- hY,<- hZ]
 obtain ⟨sg,hsg,cs⟩:=qba c
 obtain ⟨s,t,r,p,hrow,_⟩:=qrow c
 have hmul:=fun d0 (h:Qs d0 d)=>pmul_row h2 h hbd
 rw [hrow] at cs hmul
 rw [hrow]
 by_cases hc0:c=0
 ·have hXZ:X=Z:=by rw [hX,hZ,hc0,show -(0:Rat)=0 by grind]; unfold pacc; rw [accL_zero _ hl]
  have e0:=hsg.2 hc0
  rw [e0] at cs
  clear hmul
  refine callZ ccOk mixed [] Tryz.func94 rfl rfl (by kernel_rfl) fun zA zB zC zD zE zF zG zH zI zJ zK zL zM zN zO zP zQ zR zT zU zV zX zY zZ zb zc zd ze zg zh zi zj zk zl zm zn zo zq zr zs zt zu zx zy zz zmget zmset zW zth A L F hS hF=>?_
  have z1:zM 0 0=true:=by rw [hS.eq]; rfl
  subst hXZ
  have e1:zc (zj X) (zj X)=true:=by rw [hS.neq]; exact decide_eq_true rfl
  have e2:zc (zj Y) (zj Y)=true:=by rw [hS.neq]; exact decide_eq_true rfl
  cbv
  refine ⟨_,hS.call (cs),?_⟩
  cbv
  refine bT (z1) ?_
  refine nd (e1) ?_
  exact hF _ (ResLe.refl _)
 ·have e0:sg ≠ 0:=fun h=>hc0 (hsg.1 h)
  refine callZ ccOk mixed [] Tryz.func94 rfl rfl (by kernel_rfl) fun zA zB zC zD zE zF zG zH zI zJ zK zL zM zN zO zP zQ zR zT zU zV zX zY zZ zb zc zd ze zg zh zi zj zk zl zm zn zo zq zr zs zt zu zx zy zz zmget zmset zW zth A L F hS hF=>?_
  have z1:zM sg 0=false:=by rw [hS.eq]; exact decide_eq_false e0
  have hlx:zj X=n:=by rw [hS.len,hXl]
  have hly:zj Y=m:=by rw [hS.len,hYl]
  obtain ⟨N,hN,hN2⟩:∃ N:Int,N=m/\zZ m=N:=⟨_,rfl,by rw [hS.ofN]⟩
  have hN3:zZ (zj Y)=N:=by rw [hly,hN2]
  cbv
  refine ⟨_,hS.call (cs),?_⟩
  cbv
  refine bF (z1) ?_
  have hN:N=(m:Int):=hN
  refine loopZ ccOk mixed hS (fun (j:Nat) s'=>∃ (i:Nat) (I:Int) (X':Abs.Rows),I=i/\i+j=m/\X'=ur (accL R (-c) B 0 i)/\s'=msuStV X' Y n s t r p N I) (n:=m) (s0:=msuStV X Y n s t r p N 0) (qao ?_ ?_) rfl (Nat.succ_le_succ (Nat.succ_le_succ (Nat.succ_le_succ (Nat.zero_le _)))) ?_ ?_
  ·simp [leT,msuStV,msuSt,mkSt,vi,hN2,hN3,hlx,hly]
  ·simp [leH,msuStV,msuSt,mkSt]
  ·exact ⟨0,0,X,rfl,by omega,hX,rfl⟩
  ·rintro j s1 ⟨i,I,X',hI,hij,hX',hs1⟩
   by_cases hi:i < m
   ·have l1:zO I N=true:=by rw [hS.lt]; exact decide_eq_true (by omega)
    obtain ⟨d0,hd0⟩:∃ q,q=B.getD i 0:=⟨_,rfl⟩
    have hBi:B[i]?=some d0:=by rw [hd0,List.getD_eq_getElem?_getD,List.getElem?_eq_getElem (by omega)]; rfl
    have hYi:Y[i]?=some (qc d0).row:=by rw [hY]; exact ur_get hBi
    have hQd:Qs d0 d:=h3 _ (List.mem_of_getElem? hBi)
    obtain ⟨sd,hsd,cd⟩:=qba d0
    obtain ⟨hQm,cm⟩:=hmul d0 hQd
    obtain ⟨s2,t2,r2,p2,hrow2,_⟩:=qrow d0
    rw [hrow2] at hYi cd cm
    have j1:zX I=i:=by rw [hS.nat]; omega
    have n0:zP 0 I=true:=by rw [hS.le]; exact decide_eq_true (by omega)
    have j2:zk Y i=some [.v (.bool s2),.lst false r2,.v (.bool t2),.lst false p2]:=by rw [hS.nth]; exact hYi
    obtain ⟨I',hI',i1⟩:∃ I':Int,I'=((i+1:Nat):Int)/\zA .i64 (zB I 1)=I':=⟨I+1,by omega,by rw [hS.add,hS.wrap,wrap_i64 (by omega) (by omega)]⟩
    have hjj:j - 1 < j:=by omega
    have g1:zY I n=true:=by rw [hS.inb]; exact decide_eq_true (by omega)
    have g0:zY I m=true:=by rw [hS.inb]; exact decide_eq_true (by omega)
    have g2:zb 0 I=i:=by rw [hS.idx]; omega
    by_cases hdz:d0=0
    ·have e0:=hsd.2 hdz
     rw [e0] at cd
     have z2:zN 0 0=false:=by rw [hS.ne]; rfl
     have hnx:∃ (i2:Nat) (I2:Int) (X2:Abs.Rows),I2=i2/\i2+(j - 1)=m/\X2=ur (accL R (-c) B 0 i2)/\msuStV X' Y n s t r p N I'=msuStV X2 Y n s t r p N I2:=⟨i+1,I',X',hI',by omega,by rw [hX',accL_skip (by omega) (by rw [<- hd0,hdz,Rat.mul_zero])],rfl⟩
     clear hmul
     subst hs1
     cbv
     refine bT l1 ?_
     rw [j1,j2]
     cbv
     refine nd (n0) ?_
     refine ⟨_,hS.call (cd),?_⟩
     cbv
     refine bF (z2) ?_
     exact again (s':=msuStV X' Y n s t r p N I') (m:=j - 1) (by simp [leT,msuStV,msuSt,mkSt,vi,i1]) (by simp [leH,msuStV,msuSt,mkSt]) rfl (Nat.succ_le_succ (Nat.succ_le_succ (Nat.succ_le_succ (Nat.zero_le _)))) hjj hnx
    ·have z2:zN sd 0=true:=by rw [hS.ne]; exact decide_eq_true (fun h=>hdz (hsd.1 h))
     obtain ⟨x0,hx0⟩:∃ x0,x0=R.getD i 0:=⟨_,rfl⟩
     have hRx:R[i]?=some x0:=by rw [hx0,List.getD_eq_getElem?_getD,List.getElem?_eq_getElem (by omega)]; rfl
     have hQx:Qs x0 a:=h1 _ (List.mem_of_getElem? hRx)
     have hAx:(accL R (-c) B 0 i).getD i 0=x0:=by rw [accL_get _ _ (by omega),if_neg (by omega),hx0]
     have hAg:(accL R (-c) B 0 i)[i]?=some x0:=by
      rw [<- hAx,List.getD_eq_getElem?_getD,List.getElem?_eq_getElem (by rw [qbn]; omega)]; rfl
     have hXg:X'[i]?=some (qc x0).row:=by rw [hX']; exact ur_get hAg
     obtain ⟨_,ca⟩:=msub_row hQx hQm (by omega)
     obtain ⟨X2,hX2⟩:∃ X2,X2=ur (accL R (-c) B 0 (i+1)):=⟨_,rfl⟩
     have hset:X'.set i (qc (x0 - c*d0)).row=X2:=by
      rw [hX',ur_set,hX2]
      show _=ur ((accL R (-c) B 0 i).set (i+0) _)
      rw [Nat.add_zero,hAx,<- hd0]
      congr 2
      grind
     obtain ⟨s3,t3,r3,p3,hrow3,_⟩:=qrow x0
     obtain ⟨s4,t4,r4,p4,hrow4,_⟩:=qrow (c*d0)
     obtain ⟨s5,t5,r5,p5,hrow5,_⟩:=qrow (x0 - c*d0)
     rw [hrow3] at hXg ca
     rw [hrow4] at cm ca
     rw [hrow5] at ca hset
     have g3:zk X' i=some [.v (.bool s3),.lst false r3,.v (.bool t3),.lst false p3]:=by rw [hS.nth]; exact hXg
     have g4:zl X' i [.v (.bool s5),.lst false r5,.v (.bool t5),.lst false p5]=X2:=by rw [hS.setr]; exact hset
     have hnx:∃ (i2:Nat) (I2:Int) (X3:Abs.Rows),I2=i2/\i2+(j - 1)=m/\X3=ur (accL R (-c) B 0 i2)/\msuStV X2 Y n s t r p N I'=msuStV X3 Y n s t r p N I2:=⟨i+1,I',X2,hI',by omega,hX2,rfl⟩
     clear hmul hset
     subst hs1
     cbv
     refine bT l1 ?_
     rw [j1,j2]
     cbv
     refine nd (n0) ?_
     refine ⟨_,hS.call (cd),?_⟩
     cbv
     refine bT (z2) ?_
     refine nd (g1) ?_
     rw [g2,g3]
     cbv
     refine ⟨_,hS.call (cm),?_⟩
     cbv
     refine ⟨_,hS.call (ca),?_⟩
     cbv
     refine nd (g1) ?_
     rw [g2,g3]
     cbv
     exact again (s':=msuStV X2 Y n s t r p N I') (m:=j - 1) (by simp [leT,msuStV,msuSt,mkSt,vi,i1]) (by simp [leH,msuStV,msuSt,mkSt,g4]) rfl (Nat.succ_le_succ (Nat.succ_le_succ (Nat.succ_le_succ (Nat.zero_le _)))) hjj hnx
   ·have l1:zO I N=false:=by rw [hS.lt]; exact decide_eq_false (by omega)
    have hXZ:X'=Z:=by rw [hX',hZ,show i=B.length by omega]; rfl
    subst hXZ
    subst hs1
    have e1:zc (zj X') (zj X)=true:=by rw [hS.neq,hS.len,hS.len,hX',hX,qau,qau,qbn]; exact decide_eq_true rfl
    have e2:zc (zj Y) (zj Y)=true:=by rw [hS.neq]; exact decide_eq_true rfl
    cbv
    refine bF l1 (nd e1 ?_)
    exact hF _ (ResLe.refl _)
def msuStB (X Y:Abs.Rows) (m n:Nat) (s t:Bool) (r p:Abs.Rows) (N i:Int):St:=msuSt X (.c (.sl 2 0 m false)) (some (.rows 4 Y false false)) n s t r p N i
theorem msubb_call (R B:List Rat) (c:Rat) (a b d:Nat) (hl:B.length<=R.length) (hR:R.length<=1000) (h1:∀ q ∈ R,Qs q a) (h2:Qs c b) (h3:∀ q ∈ B,Qs q d) (ha:a+(b+d)<=68719476736) (hbd:b+d<=68719476736) :
  ACall Tryz.prog 94 [.bor 4 (ur R),.val (.agg (qc c).row),.bor 4 (ur B)] ⟨[],[some (.rows 4 (ur (pacc R (-c) B 0)) false false),none,some (.rows 4 (ur B) false false)]⟩:=by
 obtain ⟨X,hX⟩:∃ X,X=ur R:=⟨_,rfl⟩
 obtain ⟨Y,hY⟩:∃ Y,Y=ur B:=⟨_,rfl⟩
 obtain ⟨Z,hZ⟩:∃ Z,Z=ur (pacc R (-c) B 0):=⟨_,rfl⟩
 obtain ⟨n,hn⟩:∃ n,n=R.length:=⟨_,rfl⟩
 obtain ⟨m,hm⟩:∃ m,m=B.length:=⟨_,rfl⟩
 have hXl:X.length=n:=by rw [hX,qau,hn]
 have hYl:Y.length=m:=by rw [hY,qau,hm]
 rw [<- hX,<- hY,<- hZ]
 obtain ⟨sg,hsg,cs⟩:=qba c
 obtain ⟨s,t,r,p,hrow,_⟩:=qrow c
 have hmul:=fun d0 (h:Qs d0 d)=>pmul_row h2 h hbd
 rw [hrow] at cs hmul
 rw [hrow]
 by_cases hc0:c=0
 ·have hXZ:X=Z:=by rw [hX,hZ,hc0,show -(0:Rat)=0 by grind]; unfold pacc; rw [accL_zero _ hl]
  have e0:=hsg.2 hc0
  rw [e0] at cs
  clear hmul
  refine callZ ccOk mixed [] Tryz.func94 rfl rfl (by kernel_rfl) fun zA zB zC zD zE zF zG zH zI zJ zK zL zM zN zO zP zQ zR zT zU zV zX zY zZ zb zc zd ze zg zh zi zj zk zl zm zn zo zq zr zs zt zu zx zy zz zmget zmset zW zth A L F hS hF=>?_
  have z1:zM 0 0=true:=by rw [hS.eq]; rfl
  subst hXZ
  have e1:zc (zj X) (zj X)=true:=by rw [hS.neq]; exact decide_eq_true rfl
  have e2:zc (zj Y) (zj Y)=true:=by rw [hS.neq]; exact decide_eq_true rfl
  cbv
  refine ⟨_,hS.call (cs),?_⟩
  cbv
  refine bT (z1) ?_
  refine nd (e1) ?_
  refine nd (e2) ?_
  exact hF _ (ResLe.refl _)
 ·have e0:sg ≠ 0:=fun h=>hc0 (hsg.1 h)
  refine callZ ccOk mixed [] Tryz.func94 rfl rfl (by kernel_rfl) fun zA zB zC zD zE zF zG zH zI zJ zK zL zM zN zO zP zQ zR zT zU zV zX zY zZ zb zc zd ze zg zh zi zj zk zl zm zn zo zq zr zs zt zu zx zy zz zmget zmset zW zth A L F hS hF=>?_
  have z1:zM sg 0=false:=by rw [hS.eq]; exact decide_eq_false e0
  have hlx:zj X=n:=by rw [hS.len,hXl]
  have hly:zj Y=m:=by rw [hS.len,hYl]
  obtain ⟨N,hN,hN2⟩:∃ N:Int,N=m/\zZ m=N:=⟨_,rfl,by rw [hS.ofN]⟩
  have hN3:zZ (zj Y)=N:=by rw [hly,hN2]
  cbv
  refine ⟨_,hS.call (cs),?_⟩
  cbv
  refine bF (z1) ?_
  have hN:N=(m:Int):=hN
  refine loopZ ccOk mixed hS (fun (j:Nat) s'=>∃ (i:Nat) (I:Int) (X':Abs.Rows),I=i/\i+j=m/\X'=ur (accL R (-c) B 0 i)/\s'=msuStB X' Y m n s t r p N I) (n:=m) (s0:=msuStB X Y m n s t r p N 0) (qao ?_ ?_) rfl (Nat.succ_le_succ (Nat.succ_le_succ (Nat.succ_le_succ (Nat.zero_le _)))) ?_ ?_
  ·simp [leT,msuStB,msuSt,mkSt,vi,hN2,hN3,hlx,hly]
  ·simp [leH,msuStB,msuSt,mkSt]
  ·exact ⟨0,0,X,rfl,by omega,hX,rfl⟩
  ·rintro j s1 ⟨i,I,X',hI,hij,hX',hs1⟩
   by_cases hi:i < m
   ·have l1:zO I N=true:=by rw [hS.lt]; exact decide_eq_true (by omega)
    obtain ⟨d0,hd0⟩:∃ q,q=B.getD i 0:=⟨_,rfl⟩
    have hBi:B[i]?=some d0:=by rw [hd0,List.getD_eq_getElem?_getD,List.getElem?_eq_getElem (by omega)]; rfl
    have hYi:Y[i]?=some (qc d0).row:=by rw [hY]; exact ur_get hBi
    have hQd:Qs d0 d:=h3 _ (List.mem_of_getElem? hBi)
    obtain ⟨sd,hsd,cd⟩:=qba d0
    obtain ⟨hQm,cm⟩:=hmul d0 hQd
    obtain ⟨s2,t2,r2,p2,hrow2,_⟩:=qrow d0
    rw [hrow2] at hYi cd cm
    have j1:zX I=i:=by rw [hS.nat]; omega
    have n0:zP 0 I=true:=by rw [hS.le]; exact decide_eq_true (by omega)
    have j2:zk Y i=some [.v (.bool s2),.lst false r2,.v (.bool t2),.lst false p2]:=by rw [hS.nth]; exact hYi
    obtain ⟨I',hI',i1⟩:∃ I':Int,I'=((i+1:Nat):Int)/\zA .i64 (zB I 1)=I':=⟨I+1,by omega,by rw [hS.add,hS.wrap,wrap_i64 (by omega) (by omega)]⟩
    have hjj:j - 1 < j:=by omega
    have g1:zY I n=true:=by rw [hS.inb]; exact decide_eq_true (by omega)
    have g0:zY I m=true:=by rw [hS.inb]; exact decide_eq_true (by omega)
    have g2:zb 0 I=i:=by rw [hS.idx]; omega
    by_cases hdz:d0=0
    ·have e0:=hsd.2 hdz
     rw [e0] at cd
     have z2:zN 0 0=false:=by rw [hS.ne]; rfl
     have hnx:∃ (i2:Nat) (I2:Int) (X2:Abs.Rows),I2=i2/\i2+(j - 1)=m/\X2=ur (accL R (-c) B 0 i2)/\msuStB X' Y m n s t r p N I'=msuStB X2 Y m n s t r p N I2:=⟨i+1,I',X',hI',by omega,by rw [hX',accL_skip (by omega) (by rw [<- hd0,hdz,Rat.mul_zero])],rfl⟩
     clear hmul
     subst hs1
     cbv
     refine bT l1 ?_
     refine nd g0 ?_
     rw [g2,j2]
     cbv
     refine ⟨_,hS.call (cd),?_⟩
     cbv
     refine bF (z2) ?_
     exact again (s':=msuStB X' Y m n s t r p N I') (m:=j - 1) (by simp [leT,msuStB,msuSt,mkSt,vi,i1]) (by simp [leH,msuStB,msuSt,mkSt]) rfl (Nat.succ_le_succ (Nat.succ_le_succ (Nat.succ_le_succ (Nat.zero_le _)))) hjj hnx
    ·have z2:zN sd 0=true:=by rw [hS.ne]; exact decide_eq_true (fun h=>hdz (hsd.1 h))
     obtain ⟨x0,hx0⟩:∃ x0,x0=R.getD i 0:=⟨_,rfl⟩
     have hRx:R[i]?=some x0:=by rw [hx0,List.getD_eq_getElem?_getD,List.getElem?_eq_getElem (by omega)]; rfl
     have hQx:Qs x0 a:=h1 _ (List.mem_of_getElem? hRx)
     have hAx:(accL R (-c) B 0 i).getD i 0=x0:=by rw [accL_get _ _ (by omega),if_neg (by omega),hx0]
     have hAg:(accL R (-c) B 0 i)[i]?=some x0:=by
      rw [<- hAx,List.getD_eq_getElem?_getD,List.getElem?_eq_getElem (by rw [qbn]; omega)]; rfl
     have hXg:X'[i]?=some (qc x0).row:=by rw [hX']; exact ur_get hAg
     obtain ⟨_,ca⟩:=msub_row hQx hQm (by omega)
     obtain ⟨X2,hX2⟩:∃ X2,X2=ur (accL R (-c) B 0 (i+1)):=⟨_,rfl⟩
     have hset:X'.set i (qc (x0 - c*d0)).row=X2:=by
      rw [hX',ur_set,hX2]
      show _=ur ((accL R (-c) B 0 i).set (i+0) _)
      rw [Nat.add_zero,hAx,<- hd0]
      congr 2
      grind
     obtain ⟨s3,t3,r3,p3,hrow3,_⟩:=qrow x0
     obtain ⟨s4,t4,r4,p4,hrow4,_⟩:=qrow (c*d0)
     obtain ⟨s5,t5,r5,p5,hrow5,_⟩:=qrow (x0 - c*d0)
     rw [hrow3] at hXg ca
     rw [hrow4] at cm ca
     rw [hrow5] at ca hset
     have g3:zk X' i=some [.v (.bool s3),.lst false r3,.v (.bool t3),.lst false p3]:=by rw [hS.nth]; exact hXg
     have g4:zl X' i [.v (.bool s5),.lst false r5,.v (.bool t5),.lst false p5]=X2:=by rw [hS.setr]; exact hset
     have hnx:∃ (i2:Nat) (I2:Int) (X3:Abs.Rows),I2=i2/\i2+(j - 1)=m/\X3=ur (accL R (-c) B 0 i2)/\msuStB X2 Y m n s t r p N I'=msuStB X3 Y m n s t r p N I2:=⟨i+1,I',X2,hI',by omega,hX2,rfl⟩
     clear hmul hset
     subst hs1
     cbv
     refine bT l1 ?_
     refine nd g0 ?_
     rw [g2,j2]
     cbv
     refine ⟨_,hS.call (cd),?_⟩
     cbv
     refine bT (z2) ?_
     refine nd (g1) ?_
     rw [g2,g3]
     cbv
     refine ⟨_,hS.call (cm),?_⟩
     cbv
     refine ⟨_,hS.call (ca),?_⟩
     cbv
     refine nd (g1) ?_
     rw [g2,g3]
     cbv
     exact again (s':=msuStB X2 Y m n s t r p N I') (m:=j - 1) (by simp [leT,msuStB,msuSt,mkSt,vi,i1]) (by simp [leH,msuStB,msuSt,mkSt,g4]) rfl (Nat.succ_le_succ (Nat.succ_le_succ (Nat.succ_le_succ (Nat.zero_le _)))) hjj hnx
   ·have l1:zO I N=false:=by rw [hS.lt]; exact decide_eq_false (by omega)
    have hXZ:X'=Z:=by rw [hX',hZ,show i=B.length by omega]; rfl
    subst hXZ
    subst hs1
    have e1:zc (zj X') (zj X)=true:=by rw [hS.neq,hS.len,hS.len,hX',hX,qau,qau,qbn]; exact decide_eq_true rfl
    have e2:zc (zj Y) (zj Y)=true:=by rw [hS.neq]; exact decide_eq_true rfl
    cbv
    refine bF l1 (nd e1 ?_)
    refine nd (e2) ?_
    exact hF _ (ResLe.refl _)
theorem mdiv_row {x y:Rat} {a b:Nat} (h0:y ≠ 0) (h1:Qs x a) (h2:Qs y b) (h:a+b<=68719476736) :
  Qs (x / y) (a+b)/\ACall Tryz.prog 105 [.val (.agg (qc x).row),.val (.agg (qc y).row)] ⟨[.val (.agg (qc (x / y)).row),.val (ti .i64 0)],[none,none]⟩:=by
 obtain ⟨hi,c1⟩:=pinv_row h0 h2 (by omega)
 obtain ⟨hm,c2⟩:=pmul_row h1 hi h
 rw [<- Rat.div_def] at hm c2
 refine ⟨hm,?_⟩
 obtain ⟨s,t,r,p,hrow,_⟩:=qrow x
 obtain ⟨s2,t2,r2,p2,hrow2,_⟩:=qrow y
 obtain ⟨s3,t3,r3,p3,hrow3,_⟩:=qrow y⁻¹
 obtain ⟨s4,t4,r4,p4,hrow4,_⟩:=qrow (x / y)
 rw [hrow2,hrow3] at c1
 rw [hrow,hrow3,hrow4] at c2
 rw [hrow,hrow2,hrow4]
 refine callZ ccOk mixed [.val,.val] Tryz.func105 rfl rfl (by kernel_rfl) fun zA zB zC zD zE zF zG zH zI zJ zK zL zM zN zO zP zQ zR zT zU zV zX zY zZ zb zc zd ze zg zh zi zj zk zl zm zn zo zq zr zs zt zu zx zy zz zmget zmset zW zth A L F hS hF=>?_
 have e1:zN 0 0=false:=by rw [hS.ne]; rfl
 cbv
 refine ⟨_,hS.call (c1),?_⟩
 cbv
 refine bF (e1) ?_
 refine ⟨_,hS.call (c2),?_⟩
 cbv
 exact hF _ (ResLe.refl _)
end Go.Proofs.YtjfmkcmepdedaaaGreat
end
section
namespace Go.Abs
def pvt (R:Nat->List Rat) (j:Nat):Nat->Nat->Int
 | 0,_=>-1
 | m+1,i=>if (R i).getD j 0=0 then pvt R j m (i+1) else (i:Int)
theorem pvt_spec (R:Nat->List Rat) (j:Nat):∀ m i,(pvt R j m i=-1/\∀ l,i<=l->l < i+m->(R l).getD j 0=0) ∨ ∃ l,i<=l/\l < i+m/\pvt R j m i=(l:Int)/\(R l).getD j 0 ≠ 0
 | 0,i=>.inl ⟨rfl,fun l h1 h2=>by omega⟩
 | m+1,i=>by
  unfold pvt
  split
  ·rename_i h0
   rcases pvt_spec R j m (i+1) with ⟨h1,h2⟩ | ⟨l,h1,h2,h3,h4⟩
   ·refine .inl ⟨h1,fun l h3 h4=>?_⟩
    by_cases e:l=i
    ·rw [e]; exact h0
    ·exact h2 l (by omega) (by omega)
   ·exact .inr ⟨l,by omega,by omega,h3,h4⟩
  ·rename_i h0
   exact .inr ⟨i,Nat.le_refl _,by omega,rfl,h0⟩
structure RdS where
 k:Nat
 R:Nat->List Rat
 p:Nat->Nat
def rdNext (n j:Nat) (s:RdS):RdS:=
 if pvt s.R j (n - s.k) s.k=-1 then s else ⟨s.k+1,rstep s.R s.k (pvt s.R j (n - s.k) s.k).toNat j,fun l=>if l=s.k then j else s.p l⟩
def rdIt (n:Nat) (M:Nat->List Rat):Nat->RdS
 | 0=>⟨0,M,fun _=>0⟩
 | j+1=>rdNext n j (rdIt n M j)
theorem rdIt_ok {n w:Nat} {M:Nat->List Rat} (h:∀ i,i < n->(M i).length=w):∀ j,RdI n w j (rdIt n M j).k M (rdIt n M j).R (rdIt n M j).p
 | 0=>RdI.start h _
 | j+1=>by
  have ih:=rdIt_ok h j
  have hk:=ih.kn
  show RdI n w (j+1) (rdNext n j (rdIt n M j)).k M (rdNext n j (rdIt n M j)).R (rdNext n j (rdIt n M j)).p
  unfold rdNext
  rcases pvt_spec (rdIt n M j).R j (n - (rdIt n M j).k) (rdIt n M j).k with ⟨h1,h2⟩ | ⟨l,h1,h2,h3,h4⟩
  ·rw [if_pos h1]
   exact ih.skip fun i h3 h4=>h2 i h3 (by omega)
  ·rw [if_neg (by omega),h3,Int.toNat_natCast]
   exact ih.step h1 (by omega) h4
def pl (p:Nat->Nat) (k:Nat):List Int:=(List.range k).map fun l=>(p l:Int)
theorem pl_len (p:Nat->Nat) (k:Nat):(pl p k).length=k:=by simp [pl]
theorem pl_succ (p:Nat->Nat) (k:Nat):pl p (k+1)=pl p k ++ [(p k:Int)]:=by simp [pl,List.range_succ]
theorem pl_congr {p q:Nat->Nat} {k:Nat} (h:∀ l,l < k->p l=q l):pl p k=pl q k:=List.map_congr_left fun l hl=>by rw [h l (List.mem_range.1 hl)]
end Go.Abs
namespace Go.Abs
theorem rdIt_skip {n j k:Nat} {M:Nat->List Rat} (hk:(rdIt n M j).k=k) (h:pvt (rdIt n M j).R j (n - k) k=-1):rdIt n M (j+1)=rdIt n M j:=by
 show rdNext n j (rdIt n M j)=_
 unfold rdNext
 rw [hk,if_pos h]
theorem rdIt_step {n j k l:Nat} {M:Nat->List Rat} (hk:(rdIt n M j).k=k) (h:pvt (rdIt n M j).R j (n - k) k=(l:Int)):rdIt n M (j+1)=⟨k+1,rstep (rdIt n M j).R k l j,fun x=>if x=k then j else (rdIt n M j).p x⟩:=by
 show rdNext n j (rdIt n M j)=_
 unfold rdNext
 rw [hk,if_neg (by omega),h,Int.toNat_natCast]
theorem pl_step (p:Nat->Nat) (k j:Nat):pl (fun x=>if x=k then j else p x) (k+1)=pl p k ++ [(j:Int)]:=by
 rw [pl_succ,if_pos rfl]
 congr 1
 exact pl_congr fun l hl=>by rw [if_neg (by omega)]
open Go
variable {P:Program} {C:Cfg} {n0:Nat} {zA:IntKind->Int->Int} {zB:Int->Int->Int} {zC:Int->Int->Int} {zD:Int->Int->Int} {zE:Int->Int->Int} {zF:Int->Int->Int} {zG:IntKind->Int->Int->Int} {zH:IntKind->Int->Int->Int} {zI:IntKind->Int->Int->Int} {zJ:IntKind->Int->Int->Int} {zK:IntKind->Int->Int->Int} {zL:IntKind->Int->Int->Int} {zM:Int->Int->Bool} {zN:Int->Int->Bool} {zO:Int->Int->Bool} {zP:Int->Int->Bool} {zQ:Bool->Bool} {zR:Bool->Bool->Bool} {zT:Bool->Bool->Bool} {zU:Int->Int->Int} {zV:Int->Int->Int} {zX:Int->Nat} {zY:Int->Nat->Bool} {zZ:Nat->Int} {zb:Nat->Int->Nat} {zc:Nat->Nat->Bool} {zd:Nat->Nat->Nat} {ze:Int->Int->Nat} {zg:Int->Int->Nat->Bool} {zh:Nat->Nat->Nat->Bool} {zi:Int->Int->Nat->Bool} {zj:Rows->Nat} {zk:Rows->Nat->Option (List Tree)} {zl:Rows->Nat->List Tree->Rows} {zm:IntKind->Rows->Nat->Bool} {zn:Rows->Nat->Int} {zo:IntKind->Rows->Nat->Int->Rows} {zq:Nat->Nat->Rows->Bool} {zr:Rows->Nat->Nat->Rows} {zs:Rows->Nat->Rows->Rows} {zt:Rows->Nat->Rows->Rows} {zu:Nat->List Tree->Rows} {zx:Nat->Rows->Bool} {zy:List Bool->Bool} {zz:List (Value × Tree)->Value->Bool} {zmget:List (Value × Tree)->Value->Bool} {zmset:List (Value × Tree)->Value->Tree->List (Value × Tree)} {zW:IntKind->List Int->Rows} {zth:(α:Type)->(Unit->α)->α} {A:FuncId->Ask->Ans->Prop} {L:Code->St->(AExit->ST->Prop)->Prop}
theorem Std.hcall (h:Std P n0 zA zB zC zD zE zF zG zH zI zJ zK zL zM zN zO zP zQ zR zT zU zV zX zY zZ zb zc zd ze zg zh zi zj zk zl zm zn zo zq zr zs zt zu zx zy zz zmget zmset zW zth A L) {f:FuncId} {s s':St} (hc:HCall P f s s'):A f (.h s) (.h s'):=by rw [h.a]; exact hc
def addL (z:Int->Int->Int) (a b:Int):Int:=
 match a with
 | .ofNat n=>(match b with | .ofNat m=>Int.ofNat (n+m) | .negSucc _=>z a b)
 | .negSucc _=>z a b
def wrapL (z:IntKind->Int->Int) (k:IntKind) (a:Int):Int:=
 match k with
 | .i64=>(match a with
  | .ofNat n=>(match Nat.blt n 1000 with | true=>Int.ofNat n | false=>z .i64 a)
  | .negSucc _=>z .i64 a)
 | k=>z k a
theorem Std.addL (h:Std P n0 zA zB zC zD zE zF zG zH zI zJ zK zL zM zN zO zP zQ zR zT zU zV zX zY zZ zb zc zd ze zg zh zi zj zk zl zm zn zo zq zr zs zt zu zx zy zz zmget zmset zW zth A L):∃ z,zB=Go.Abs.addL z:=⟨zB,by
 funext a b
 unfold Go.Abs.addL
 split
 ·split
  ·rw [h.add]; rfl
  ·rfl
 ·rfl⟩
theorem Std.wrapL (h:Std P n0 zA zB zC zD zE zF zG zH zI zJ zK zL zM zN zO zP zQ zR zT zU zV zX zY zZ zb zc zd ze zg zh zi zj zk zl zm zn zo zq zr zs zt zu zx zy zz zmget zmset zW zth A L):∃ z,zA=Go.Abs.wrapL z:=⟨zA,by
 funext k a
 unfold Go.Abs.wrapL
 split
 ·split
  ·split
   ·rename_i n _ hn
    have:n < 1000:=by simpa using hn
    rw [h.wrap]
    exact wrap_i64 (by show -9223372036854775808<=(n:Int); omega) (by show (n:Int) < 9223372036854775808; omega)
   ·rfl
  ·rfl
 ·rfl⟩
def LN (_:Nat):Prop:=True
def LN.v {n:Nat} (_:LN n):Nat:=n
def mrh (n w:Nat) (X:Nat->Rows):List (Option Blk):=some (.var ((List.range n).map fun q=>.sl (q+1) 0 w false)) :: (List.range n).map fun q=>some (.rows 4 (X q) true false)
def knum (kk q:Nat):Nat:=if q=kk then 1 else if q < kk then q+2 else q+1
def mrk (n kk w:Nat) (X:Nat->Rows):List (Option Blk):=some (.var ((List.range n).map fun q=>.sl (knum kk q) 0 w false)) :: some (.rows 4 (X kk) true false) :: ((List.range n).filter fun q=>q != kk).map fun q=>some (.rows 4 (X q) true false)
def mqh (n i d w:Nat) (X:Nat->Rows):List (Option Blk):=some (.var ((List.range n).map fun q=>if q < i then .sl (q+d) 0 w false else .t (.lst true []))) :: (List.range i).map fun q=>some (.rows 4 (X q) true false)
end Go.Abs
end
section
namespace Go.Proofs.YtjfmkcmepdedaaaGreat
open Go Go.Abs Go.Abs.M Go.Proofs
def pvSt (n w:Nat) (X:Nat->Abs.Rows) (J I:Int):St:=mkSt 25 [.c (.sl 0 0 n false),.junk,vi .i64 J,.junk,.junk,.junk,.junk,vi .i64 I] (mrh n w X)
theorem mpiv (n:Nat) (hn:n<=4) (R:Nat->List Rat) (w k j:Nat) (hk:k<=n) (hw:w<=1000) (hj:j < w) (hl:∀ i,i < n->(R i).length=w) {J K T:Int} (hJ:J=j) (hK:K=k) (hT:T=pvt R j (n - k) k) {X:Nat->Abs.Rows} (hX:∀ i,i < n->X i=ur (R i)) :
  HCall Tryz.prog 57 ⟨[.c (.sl 0 0 n false),vi .i64 K,vi .i64 J],mrh n w X⟩ ⟨[vi .i64 T],mrh n w X⟩:=by
 have hcell:∀ i,i < n->(X i)[j]?=some (qc ((R i).getD j 0)).row:=fun i hi=>by
  rw [hX i hi]
  exact ur_get (by rw [List.getD_eq_getElem?_getD,List.getElem?_eq_getElem (by rw [hl i hi]; exact hj)]; rfl)
 have L4:LN n:=trivial
 obtain ⟨N,hN⟩:∃ N,N=n:=⟨_,rfl⟩
 rw [<- hN] at hcell hl hT hk
 clear hX
 obtain rfl | rfl | rfl | rfl | rfl:n=0 ∨ n=1 ∨ n=2 ∨ n=3 ∨ n=4:=by omega
 all_goals
  refine hcallZ ccOk mixed Tryz.func57 rfl rfl (by kernel_rfl) rfl (by simp) fun zA zB zC zD zE zF zG zH zI zJ zK zL zM zN zO zP zQ zR zT zU zV zX zY zZ zb zc zd ze zg zh zi zj zk zl zm zn zo zq zr zs zt zu zx zy zz zmget zmset zW zth A L G hS hG=>?_
  obtain rfl:zZ=fun a:Nat=>(a:Int):=by funext a; exact hS.ofN a
  have hJ:J=(j:Int):=hJ
  have b1:zY J w=true:=by rw [hS.inb]; exact decide_eq_true (by omega)
  have b2:zb 0 J=j:=by rw [hS.idx]; omega
  have hv:L4.v=N:=hN.symm
  cbv
  refine loopZR ccOk mixed hS (fun (m:Nat) s'=>∃ (i:Nat) (I:Int),I=i/\m+i=N/\k<=i/\pvt R j (N - i) i=T/\s'=pvSt L4.v w X J I) (n:=N - k) (s0:=pvSt L4.v w X J K) (qao ?_ ?_) rfl (by simp [pvSt,mkSt,mrh,LN.v]) ?_ ?_
  ·simp [leT,pvSt,mkSt,vi,vb,LN.v]
  ·simp [leH,pvSt,mkSt,mrh,LN.v,List.range,List.range.loop]
  ·exact ⟨k,K,hK,by omega,Nat.le_refl _,hT.symm,rfl⟩
  ·rintro m s1 ⟨i,I,hI,hm,hki,hpv,hs1⟩
   by_cases hi:i < N
   ·have l1:zO I (L4.v:Int)=true:=by rw [hS.lt]; exact decide_eq_true (by omega)
    obtain ⟨sg,hsg,cs⟩:=qba ((R i).getD j 0)
    obtain ⟨s,t,r,p,hrow,_⟩:=qrow ((R i).getD j 0)
    have u:=hcell i hi
    rw [hrow] at u cs
    have u2:zk (X i) j=some [.v (.bool s),.lst false r,.v (.bool t),.lst false p]:=by rw [hS.nth]; exact u
    obtain ⟨I',hI',i1⟩:∃ I':Int,I'=((i+1:Nat):Int)/\zA .i64 (zB I 1)=I':=⟨I+1,by omega,by rw [hS.add,hS.wrap,wrap_i64 (by omega) (by omega)]⟩
    have i2:zA .i64 (zB (Int.ofNat i) 1)=I':=by rw [<- i1,hI]; rfl
    have hpv:(if (R i).getD j 0=0 then pvt R j (N - (i+1)) (i+1) else (i:Int))=T:=by
     rw [show N - i=N - (i+1)+1 by omega] at hpv; exact hpv
    by_cases hz:(R i).getD j 0=0
    ·rw [if_pos hz] at hpv
     have e0:zN sg 0=false:=by rw [hS.ne]; exact decide_eq_false (by simp [hsg.2 hz])
     have hjj:m - 1 < m:=by omega
     have hnx:∃ (i2:Nat) (I2:Int),I2=i2/\(m - 1)+i2=N/\k<=i2/\pvt R j (N - i2) i2=T/\pvSt L4.v w X J I'=pvSt L4.v w X J I2:=⟨i+1,I',hI',by omega,by omega,hpv,rfl⟩
     clear hpv hcell hI' u hsg
     obtain rfl | rfl | rfl | rfl:i=0 ∨ i=1 ∨ i=2 ∨ i=3:=by omega
     all_goals first | (exfalso; omega) | skip
     all_goals
      subst hI
      subst hs1
      cbv
      refine bT l1 (nd b1 ?_)
      rw [b2,u2]
      cbv
      refine ⟨_,hS.call (cs),?_⟩
      cbv
      refine bF (e0) ?_
      refine againR [] (s':=pvSt L4.v w X J I') (k:=m - 1) ?_ ?_ ?_ ?_ rfl (by simp [pvSt,mkSt,mrh,LN.v]) hjj hnx
      ·rw [i2]; simp [leTR,pvSt,mkSt,vi,AV.ren,AV.noTup,Cell.ren,renF,LN.v]
      ·simp [leHR,pvSt,mkSt,Abs.look,renF,Blk.ren,Cell.ren,mrh,LN.v,List.range,List.range.loop]
      ·simp [liveR,pvSt,mkSt,renF,mrh,LN.v,List.range,List.range.loop]
      ·simp
    ·rw [if_neg hz] at hpv
     have e0:zN sg 0=true:=by rw [hS.ne]; exact decide_eq_true (fun h=>hz (hsg.1 h))
     clear hcell hI' u hsg
     obtain rfl | rfl | rfl | rfl:i=0 ∨ i=1 ∨ i=2 ∨ i=3:=by omega
     all_goals first | (exfalso; omega) | skip
     all_goals
      subst hI
      subst hs1
      cbv
      refine bT l1 (nd b1 ?_)
      rw [b2,u2]
      cbv
      refine ⟨_,hS.call (cs),?_⟩
      cbv
      refine bT (e0) ?_
      refine endR hG [] ?_ ?_ ?_ ?_
      ·simp [leTR,vi,AV.ren,AV.noTup,Cell.ren,<- hpv]
      ·simp [leHR,Abs.look,renF,Blk.ren,Cell.ren,mrh,List.range,List.range.loop]
      ·simp [liveR,renF,mrh,List.range,List.range.loop]
      ·simp
   ·have l1:zO I (L4.v:Int)=false:=by rw [hS.lt]; exact decide_eq_false (by omega)
    obtain rfl:i=N:=by omega
    have hT1:T=-1:=by rw [Nat.sub_self] at hpv; exact hpv.symm
    subst hN
    subst hI
    subst hs1
    cbv
    refine bF l1 ?_
    refine endR hG [] ?_ ?_ ?_ ?_
    ·simp [leTR,vi,AV.ren,AV.noTup,Cell.ren,hT1]
    ·simp [leHR,Abs.look,renF,Blk.ren,Cell.ren,mrh,List.range,List.range.loop]
    ·simp [liveR,renF,mrh,List.range,List.range.loop]
    ·simp
open Go Go.Abs Go.Abs.M Go.Proofs
theorem elim_row {P Q:List Rat} {j w K:Nat} (hj:j < w) (hw:w<=1000) (hP:P.length=w) (hQ:Q.length=w) (qP:∀ q ∈ P,Qs q K) (qQ:∀ q ∈ Q,Qs q K) (hK:K<=1000000000) (h0:Q.getD j 0 ≠ 0) :
  ∃ (s t:Bool) (r p:Abs.Rows) (sg:Int),(ur P)[j]?=some [.v (.bool s),.lst false r,.v (.bool t),.lst false p]/\ACall Tryz.prog 36 [.val (.agg [.v (.bool s),.lst false r,.v (.bool t),.lst false p])] ⟨[.val (ti .i64 sg)],[none]⟩ /\
   ((sg=0/\elm P Q j=P) ∨ (sg ≠ 0/\∃ (s2 t2:Bool) (r2 p2:Abs.Rows) (s3 t3:Bool) (r3 p3:Abs.Rows),(ur Q)[j]?=some [.v (.bool s2),.lst false r2,.v (.bool t2),.lst false p2] /\
    ACall Tryz.prog 105 [.val (.agg [.v (.bool s),.lst false r,.v (.bool t),.lst false p]),.val (.agg [.v (.bool s2),.lst false r2,.v (.bool t2),.lst false p2])] ⟨[.val (.agg [.v (.bool s3),.lst false r3,.v (.bool t3),.lst false p3]),.val (ti .i64 0)],[none,none]⟩ /\
    ACall Tryz.prog 94 [.bor 4 (ur P),.val (.agg [.v (.bool s3),.lst false r3,.v (.bool t3),.lst false p3]),.bor 4 (ur Q)] ⟨[],[some (.rows 4 (ur (elm P Q j)) false false),none,some (.rows 4 (ur Q) false false)]⟩)):=by
 have gP:P[j]?=some (P.getD j 0):=by rw [List.getD_eq_getElem?_getD,List.getElem?_eq_getElem (by omega)]; rfl
 have gQ:Q[j]?=some (Q.getD j 0):=by rw [List.getD_eq_getElem?_getD,List.getElem?_eq_getElem (by omega)]; rfl
 have kP:=qP _ (List.mem_of_getElem? gP)
 have kQ:=qQ _ (List.mem_of_getElem? gQ)
 obtain ⟨sg,hsg,cs⟩:=qba (P.getD j 0)
 obtain ⟨s,t,r,p,hrow,_⟩:=qrow (P.getD j 0)
 have uP:=ur_get gP
 rw [hrow] at uP cs
 refine ⟨s,t,r,p,sg,uP,cs,?_⟩
 by_cases hz:P.getD j 0=0
 ·exact .inl ⟨hsg.2 hz,by unfold elm; rw [if_pos hz]⟩
 ·refine .inr ⟨fun h=>hz (hsg.1 h),?_⟩
  obtain ⟨hd,cd⟩:=mdiv_row h0 kP kQ (by omega)
  obtain ⟨s2,t2,r2,p2,hrow2,_⟩:=qrow (Q.getD j 0)
  obtain ⟨s3,t3,r3,p3,hrow3,_⟩:=qrow (P.getD j 0 / Q.getD j 0)
  have cu:=msubb_call P Q (P.getD j 0 / Q.getD j 0) K (K+K) K (by omega) (by omega) qP hd qQ (by omega) (by omega)
  have uQ:=ur_get gQ
  rw [hrow2] at uQ
  rw [hrow,hrow2,hrow3] at cd
  rw [hrow3] at cu
  have e:elm P Q j=pacc P (-(P.getD j 0 / Q.getD j 0)) Q 0:=by unfold elm; rw [if_neg hz]
  rw [<- e] at cu
  exact ⟨s2,t2,r2,p2,s3,t3,r3,p3,uQ,cd,cu⟩
def meSt (n kk off ln w:Nat) (X:Nat->Abs.Rows) (J I:Int):St:=mkSt 39 [.c (.sl 0 off ln false),.c (.sl 1 0 w false),vi .i64 J,.junk,.junk,.junk,.junk,.junk,.junk,.junk,.c (.sl 0 off ln false),vi .i64 ln,vi .i64 I] (mrk n kk w X)
theorem melim (n off ln kk:Nat) (hn:n<=4) (hkk:kk < n) (hof:(off=0/\ln=kk) ∨ (off=kk+1/\ln=n - kk - 1)) (R:Nat->List Rat) (w j K:Nat) (hw:w<=1000) (hj:j < w) (hK:K<=1000000000) (hl:∀ i,i < n->(R i).length=w) (hq:∀ i,i < n->∀ q ∈ R i,Qs q K) (hp:(R kk).getD j 0 ≠ 0) {J:Int} (hJ:J=j) {X Y:Nat->Abs.Rows}
  (hX:∀ i,i < n->X i=ur (R i)) (hY:∀ i,i < n->Y i=if off<=i/\i < off+ln then ur (elm (R i) (R kk) j) else ur (R i)) :
  HCall Tryz.prog 58 ⟨[.c (.sl 0 off ln false),.c (.sl 1 0 w false),vi .i64 J],mrk n kk w X⟩ ⟨[],mrk n kk w Y⟩:=by
 have hrow:=fun q (h:q < n)=>elim_row hj hw (hl q h) (hl kk hkk) (hq q h) (hq kk hkk) hK hp
 have lX:∀ i,i < n->(X i).length=w:=fun i hi=>by rw [hX i hi,qau,hl i hi]
 have lY:∀ i,i < n->(Y i).length=w:=fun i hi=>by rw [hY i hi]; split <;> simp [qau,elm_len,hl i hi]
 have hXY:∀ i,i < n->¬(off<=i/\i < off+ln)->Y i=X i:=fun i hi h=>by rw [hY i hi,if_neg h,hX i hi]
 have hYe:∀ i,off<=i->i < off+ln->Y i=ur (elm (R i) (R kk) j):=fun i h1 h2=>by rw [hY i (by omega),if_pos ⟨h1,h2⟩]
 clear hY
 have Ln:LN n:=trivial
 have Lk:LN kk:=trivial
 have Lo:LN off:=trivial
 have Ll:LN ln:=trivial
 obtain ⟨N,hN⟩:∃ N,N=n:=⟨_,rfl⟩
 obtain ⟨C,hC⟩:∃ N,N=kk:=⟨_,rfl⟩
 obtain ⟨O,hO⟩:∃ N,N=off:=⟨_,rfl⟩
 obtain ⟨M,hM⟩:∃ N,N=ln:=⟨_,rfl⟩
 rw [<- hN] at hn hkk hl hq lX lY hrow hX hXY
 rw [<- hC] at hkk hp hrow hYe
 rw [<- hO,<- hM] at hXY hYe
 rw [<- hN,<- hC,<- hO,<- hM] at hof
 obtain rfl | rfl | rfl | rfl:n=1 ∨ n=2 ∨ n=3 ∨ n=4:=by omega
 all_goals obtain rfl | rfl | rfl | rfl:kk=0 ∨ kk=1 ∨ kk=2 ∨ kk=3:=by omega
 all_goals first | (exfalso; omega) | skip
 all_goals obtain rfl | rfl | rfl | rfl | rfl:off=0 ∨ off=1 ∨ off=2 ∨ off=3 ∨ off=4:=by omega
 all_goals first | (exfalso; omega) | skip
 all_goals obtain rfl | rfl | rfl | rfl:ln=0 ∨ ln=1 ∨ ln=2 ∨ ln=3:=by omega
 all_goals first | (exfalso; omega) | skip
 all_goals
  refine hcallZ ccOk mixed Tryz.func58 rfl rfl (by kernel_rfl) rfl (by simp [mrk]) fun zA zB zC zD zE zF zG zH zI zJ zK zL zM zN zO zP zQ zR zT zU zV zX zY zZ zb zc zd ze zg zh zi zj zk zl zm zn zo zq zr zs zt zu zx zy zz zmget zmset zW zth A L G hS hG=>?_
  obtain rfl:zZ=fun a:Nat=>(a:Int):=by funext a; exact hS.ofN a
  have hJ:J=(j:Int):=hJ
  have b1:zY J w=true:=by rw [hS.inb]; exact decide_eq_true (by omega)
  have b2:zb 0 J=j:=by rw [hS.idx]; omega
  have f:∀ X:Abs.Rows,X.length=w->zq 0 w X=true:=fun X h=>by rw [hS.fit]; exact decide_eq_true (by omega)
  have pt:∀ X:Abs.Rows,X.length=w->zr X 0 w=X:=fun X h=>by rw [hS.part,List.drop_zero,List.take_of_length_le (by omega)]
  have g:∀ X:Abs.Rows,X.length=w->zc (zj X) w=true:=fun X h=>by rw [hS.len,hS.neq]; exact decide_eq_true h
  have sg1:∀ X Y:Abs.Rows,X.length=w->Y.length=w->zt X 0 Y=Y:=fun X Y h h2=>by rw [hS.setg]; simp [setRange,h,h2]
  have hv:Ll.v=M:=hM.symm
  cbv
  refine loopZR ccOk mixed hS (fun (m:Nat) s'=>∃ (i:Nat) (I:Int) (Z:Nat->Abs.Rows),I=i/\m+i=M/\(∀ q,q < N->Z q=if q < O+i then Y q else X q)/\s'=meSt Ln.v Lk.v Lo.v Ll.v w Z J I) (n:=M) (s0:=meSt Ln.v Lk.v Lo.v Ll.v w X J 0) (qao ?_ ?_) rfl (by simp [meSt,mkSt,mrk,LN.v,List.range,List.range.loop]) ?_ ?_
  ·simp [leT,meSt,mkSt,vi,vb,LN.v]
  ·simp [leH,meSt,mkSt,mrk,knum,LN.v,List.range,List.range.loop]
  ·exact ⟨0,0,X,rfl,by omega,fun q h=>by
    split
    ·exact (hXY q h (by omega)).symm
    ·rfl,rfl⟩
  ·rintro m s1 ⟨i,I,Z,hI,hm,hZ,hs1⟩
   by_cases hi:i < M
   ·have l1:zO I (Ll.v:Int)=true:=by rw [hS.lt]; exact decide_eq_true (by omega)
    obtain ⟨q,hqO⟩:∃ q,q=O+i:=⟨_,rfl⟩
    have hqN:q < N:=by omega
    have Zq:Z q=X q:=by rw [hZ q hqN,if_neg (by omega)]
    have ZC:Z C=X C:=by
     rw [hZ C hkk]
     split
     ·exact hXY C hkk (by omega)
     ·rfl
    have lZq:(Z q).length=w:=by rw [Zq]; exact lX q hqN
    have lZC:(Z C).length=w:=by rw [ZC]; exact lX C hkk
    have lYq:=lY q hqN
    obtain ⟨s,t,r,p,sg,u,cs,hcase⟩:=hrow q hqN
    rw [<- hX q hqN,<- hX C hkk,<- hYe q (by omega) (by omega),<- Zq,<- ZC] at hcase
    rw [<- hX q hqN,<- Zq] at u
    have hYZ:elm (R q) (R C) j=R q->Y q=Z q:=fun h=>by rw [hYe q (by omega) (by omega),h,Zq,hX q hqN]
    have u2:zk (Z q) j=some [.v (.bool s),.lst false r,.v (.bool t),.lst false p]:=by rw [hS.nth]; exact u
    obtain ⟨I',hI',i1⟩:∃ I':Int,I'=((i+1:Nat):Int)/\zA .i64 (zB I 1)=I':=⟨I+1,by omega,by rw [hS.add,hS.wrap,wrap_i64 (by omega) (by omega)]⟩
    have i2:zA .i64 (zB (Int.ofNat i) 1)=I':=by rw [<- i1,hI]; rfl
    have hnx:∃ (i3:Nat) (I3:Int) (Z3:Nat->Abs.Rows),I3=i3/\(m - 1)+i3=M/\(∀ q,q < N->Z3 q=if q < O+i3 then Y q else X q)/\meSt Ln.v Lk.v Lo.v Ll.v w (fun x=>if x=q then Y q else Z x) J I'=meSt Ln.v Lk.v Lo.v Ll.v w Z3 J I3:=⟨i+1,I',_,hI',by omega,fun x hx=>by
     show (if x=q then Y q else Z x)=_
     by_cases h:x=q
     ·rw [if_pos h,if_pos (by omega),h]
     ·rw [if_neg h,hZ x hx]
      by_cases h2:x < O+i
      ·rw [if_pos h2,if_pos (by omega)]
      ·rw [if_neg h2,if_neg (by omega)],rfl⟩
    have hmm:m - 1 < m:=by omega
    clear hX hZ hrow hXY hYe lX lY hl hq hI' i1 Zq ZC u
    rcases hcase with ⟨h0,he⟩ | ⟨h0,s2,t2,r2,p2,s3,t3,r3,p3,u3,cd,cu⟩
    ·have e0:zN sg 0=false:=by rw [hS.ne]; exact decide_eq_false (by simp [h0])
     have he2:=hYZ he
     clear hYZ
     obtain rfl | rfl | rfl | rfl:q=0 ∨ q=1 ∨ q=2 ∨ q=3:=by omega
     all_goals first | (exfalso; omega) | skip
     all_goals obtain rfl | rfl | rfl:i=0 ∨ i=1 ∨ i=2:=by omega
     all_goals first | (exfalso; omega) | skip
     all_goals
      subst hC
      subst hI
      subst hs1
      cbv
      refine bT l1 (nd b1 ?_)
      rw [b2,u2]
      cbv
      refine ⟨_,hS.call (cs),?_⟩
      cbv
      refine bF (e0) ?_
      refine againR [] (s':=meSt Ln.v Lk.v Lo.v Ll.v w (fun x=>if x=_ then Y _ else Z x) J I') (k:=m - 1) ?_ ?_ ?_ ?_ rfl (by simp [meSt,mkSt,mrk,LN.v]) hmm hnx
      ·rw [i2]; simp [leTR,meSt,mkSt,vi,AV.ren,AV.noTup,Cell.ren,renF,LN.v]
      ·simp [leHR,meSt,mkSt,Abs.look,renF,Blk.ren,Cell.ren,mrk,knum,LN.v,List.range,List.range.loop,he2]
      ·simp [liveR,meSt,mkSt,renF,mrk,LN.v,List.range,List.range.loop]
      ·simp
    ·have u4:zk (Z C) j=some [.v (.bool s2),.lst false r2,.v (.bool t2),.lst false p2]:=by rw [hS.nth]; exact u3
     have e0:zN sg 0=true:=by rw [hS.ne]; exact decide_eq_true h0
     obtain rfl | rfl | rfl | rfl:q=0 ∨ q=1 ∨ q=2 ∨ q=3:=by omega
     all_goals first | (exfalso; omega) | skip
     all_goals obtain rfl | rfl | rfl:i=0 ∨ i=1 ∨ i=2:=by omega
     all_goals first | (exfalso; omega) | skip
     all_goals
      subst hC
      subst hI
      subst hs1
      cbv
      refine bT l1 (nd b1 ?_)
      rw [b2,u2]
      cbv
      refine ⟨_,hS.call (cs),?_⟩
      cbv
      refine bT (e0) ?_
      refine nd (b1) ?_
      rw [b2,u2]
      cbv
      refine nd (b1) ?_
      rw [b2,u4]
      cbv
      refine ⟨_,hS.call (cd),?_⟩
      cbv
      refine nd ((f _ lZq)) ?_
      refine nd ((f _ lZC)) ?_
      rw [pt _ lZq,pt _ lZC]
      refine ⟨_,hS.call (cu),?_⟩
      cbv
      refine nd ((g _ lYq)) ?_
      refine nd ((g _ lZC)) ?_
      refine againR [] (s':=meSt Ln.v Lk.v Lo.v Ll.v w (fun x=>if x=_ then Y _ else Z x) J I') (k:=m - 1) ?_ ?_ ?_ ?_ rfl (by simp [meSt,mkSt,mrk,LN.v]) hmm hnx
      ·rw [i2]; simp [leTR,meSt,mkSt,vi,AV.ren,AV.noTup,Cell.ren,renF,LN.v]
      ·simp [leHR,meSt,mkSt,Abs.look,renF,Blk.ren,Cell.ren,mrk,knum,LN.v,List.range,List.range.loop,sg1 _ _ lZq lYq,sg1 _ _ lZC lZC]
      ·simp [liveR,meSt,mkSt,renF,mrk,LN.v,List.range,List.range.loop]
      ·simp
   ·have l1:zO I (Ll.v:Int)=false:=by rw [hS.lt]; exact decide_eq_false (by omega)
    have hE:∀ q,q < N->Z q=Y q:=fun q h=>by
     rw [hZ q h]
     split
     ·rfl
     ·exact (hXY q h (by omega)).symm
    obtain rfl:i=M:=by omega
    subst hM
    subst hI
    subst hN
    subst hs1
    cbv
    refine bF l1 ?_
    refine endR hG [] ?_ ?_ ?_ ?_
    ·simp [leTR]
    ·simp [leHR,Abs.look,renF,Blk.ren,Cell.ren,mrk,knum,List.range,List.range.loop,hE]
    ·simp [liveR,renF,mrk,List.range,List.range.loop]
    ·simp
open Go Go.Abs Go.Abs.M Go.Proofs
def mr (n:Nat) (M:Nat->List Rat):Abs.Rows:=(List.range n).map fun i=>[.lst false (ur (M i))]
theorem mr_len (n:Nat) (M:Nat->List Rat):(mr n M).length=n:=by simp [mr]
theorem mr_get {n:Nat} {M:Nat->List Rat} {i:Nat} (h:i < n):(mr n M)[i]?=some [.lst false (ur (M i))]:=by simp [mr,List.getElem?_map,List.getElem?_range h]
theorem mr_succ (n:Nat) (M:Nat->List Rat):mr (n+1) M=mr n M ++ [[.lst false (ur (M n))]]:=by simp [mr,List.range_succ]
theorem mwidth_call (n w:Nat) (M:Nat->List Rat) (h:∀ i,i < n->(M i).length=w) (hn:n < 9223372036854775808):HCall Tryz.prog 80 ⟨[.c (.t (.lst false (mr n M)))],[]⟩ ⟨[vi .i64 ((if n=0 then 0 else w:Nat):Int)],[]⟩:=by
 obtain ⟨X,hX⟩:∃ X,X=mr n M:=⟨_,rfl⟩
 have lX:X.length=n:=by rw [hX,mr_len]
 obtain ⟨T,hT⟩:∃ T:Int,T=((if n=0 then 0 else w:Nat):Int):=⟨_,rfl⟩
 rw [<- hX,<- hT]
 by_cases h0:n=0
 ·rw [if_pos h0] at hT
  refine hcallZ ccOk mixed Tryz.func80 rfl rfl (by kernel_rfl) rfl (by simp) fun zA zB zC zD zE zF zG zH zI zJ zK zL zM zN zO zP zQ zR zT zU zV zX zY zZ zb zc zd ze zg zh zi zj zk zl zm zn zo zq zr zs zt zu zx zy zz zmget zmset zW zth A L G hS hG=>?_
  have e1:zM (zZ (zj X)) 0=true:=by rw [hS.eq,hS.ofN,hS.len,lX]; exact decide_eq_true (by omega)
  cbv
  refine bT e1 ?_
  refine endR hG [] ?_ ?_ ?_ ?_
  ·simp [leTR,vi,AV.ren,AV.noTup,Cell.ren,hT]
  ·simp [leHR]
  ·simp [liveR]
  ·simp
 ·rw [if_neg h0] at hT
  have hX0:X[0]?=some [.lst false (ur (M 0))]:=by rw [hX]; exact mr_get (by omega)
  have l0:(ur (M 0)).length=w:=by rw [qau,h 0 (by omega)]
  generalize ur (M 0)=U at *
  refine hcallZ ccOk mixed Tryz.func80 rfl rfl (by kernel_rfl) rfl (by simp) fun zA zB zC zD zE zF zG zH zI zJ zK zL zM zN zO zP zQ zR zT zU zV zX zY zZ zb zc zd ze zg zh zi zj zk zl zm zn zo zq zr zs zt zu zx zy zz zmget zmset zW zth A L G hS hG=>?_
  have e1:zM (zZ (zj X)) 0=false:=by rw [hS.eq,hS.ofN,hS.len,lX]; exact decide_eq_false (by omega)
  have j1:zX 0=0:=by rw [hS.nat]; rfl
  have j2:zk X 0=some [.lst false U]:=by rw [hS.nth]; exact hX0
  have n0:zP 0 0=true:=by rw [hS.le]; rfl
  have e2:zZ (zj U)=T:=by rw [hS.ofN,hS.len,l0,hT]
  cbv
  refine bF e1 ?_
  rw [j1,j2]
  cbv
  refine nd (n0) ?_
  refine endR hG [] ?_ ?_ ?_ ?_
  ·simp [leTR,vi,AV.ren,AV.noTup,Cell.ren,e2]
  ·simp [leHR]
  ·simp [liveR]
  ·simp
def mzSt (N:Int) (n:Nat) (X:Abs.Rows) (i:Int):St:=mkSt 18 [vi .i64 N,.junk,.junk,.c (.sl 1 0 n false),.junk,.junk,.junk,.junk,vi .i64 N,vi .i64 i] [none,some (.rows 4 X true false)]
theorem mzeros_call (n:Nat) (hn:n<=1000):ACall Tryz.prog 60 [.val (ti .i64 (n:Int))] ⟨[.own 4 (ur (List.replicate n 0))],[none]⟩:=by
 obtain ⟨N,hN⟩:∃ N:Int,N=n:=⟨_,rfl⟩
 rw [<- hN]
 obtain ⟨s,r,v,p,hz,cw⟩:=pWhole_call 0 (by omega) (by omega)
 have hrow:=qc_row hz
 rw [show ((0:Int):Rat)=0 from rfl] at hrow
 obtain ⟨T,hT⟩:∃ T,T=ur (List.replicate n 0):=⟨_,rfl⟩
 have hzr:(qc 0).row=[.v (.bool s),.lst false r,.v (.bool v),.lst false p]:=hrow.symm
 have hXs:∀ i,i < n->∃ X X':Abs.Rows,X=ur (List.replicate i 0) ++ List.replicate (n - i) rawZ/\X'=ur (List.replicate (i+1) 0) ++ List.replicate (n - (i+1)) rawZ/\X[i]?=some rawZ/\X.set i [.v (.bool s),.lst false r,.v (.bool v),.lst false p]=X':=fun i hi=>by
  have hl:(ur (List.replicate i 0)).length=i:=by rw [qau,List.length_replicate]
  obtain ⟨m,hm⟩:∃ m,n - i=m+1:=⟨n - i - 1,by omega⟩
  refine ⟨_,_,rfl,rfl,?_,?_⟩
  ·rw [List.getElem?_append_right (by omega),hl,Nat.sub_self,hm]; rfl
  ·rw [List.set_append_right _ _ (by omega),hl,Nat.sub_self,hm,show n - (i+1)=m by omega,List.replicate_succ,List.set_cons_zero,List.replicate_succ' (n:=i),ur_app,List.append_assoc,hzr]; rfl
 rw [<- hT]
 refine callZ ccOk mixed [.own 4] Tryz.func60 rfl rfl (by kernel_rfl) fun zA zB zC zD zE zF zG zH zI zJ zK zL zM zN zO zP zQ zR zT zU zV zX zY zZ zb zc zd ze zg zh zi zj zk zl zm zn zo zq zr zs zt zu zx zy zz zmget zmset zW zth A L F hS hF=>?_
 have k0:zi N N 64=true:=by rw [hS.mkok]; exact decide_eq_true (by unfold capBytes; omega)
 have k1:zX N=n:=by rw [hS.nat]; omega
 have k3:zZ n=N:=by rw [hS.ofN,hN]
 have k2:zu n [.v (.bool false),.lst true [],.v (.bool false),.lst true []]=ur (List.replicate 0 0) ++ List.replicate (n - 0) rawZ:=by rw [hS.rep]; rfl
 cbv
 have hN:N=(n:Int):=hN
 refine nd k0 ?_
 refine loopZ ccOk mixed hS (fun (m:Nat) s'=>∃ (i:Nat) (I:Int) (X:Abs.Rows),I=i/\i+m=n/\X=ur (List.replicate i 0) ++ List.replicate (n - i) rawZ/\s'=mzSt N n X I) (n:=n) (s0:=mzSt N n (ur (List.replicate 0 0) ++ List.replicate (n - 0) rawZ) 0) (qao ?_ ?_) rfl (by show 1<=2; omega) ?_ ?_
 ·simp [leT,mzSt,mkSt,vi,k1,k3]
 ·simp [leH,mzSt,mkSt,k1,k2]
 ·exact ⟨0,0,_,rfl,by omega,rfl,rfl⟩
 ·rintro m s1 ⟨i,I,X,hI,him,hX,hs1⟩
  by_cases hi:i < n
  ·obtain ⟨X0,X',e1,e2,e3,e4⟩:=hXs i hi
   rw [<- hX] at e1
   subst e1
   have l1:zO I N=true:=by rw [hS.lt]; exact decide_eq_true (by omega)
   have g1:zY I n=true:=by rw [hS.inb]; exact decide_eq_true (by omega)
   have g2:zb 0 I=i:=by rw [hS.idx]; omega
   have g3:zk X0 i=some [.v (.bool false),.lst true [],.v (.bool false),.lst true []]:=by rw [hS.nth]; exact e3
   have g4:zl X0 i [.v (.bool s),.lst false r,.v (.bool v),.lst false p]=X':=by rw [hS.setr]; exact e4
   obtain ⟨I',hI',i1⟩:∃ I':Int,I'=((i+1:Nat):Int)/\zA .i64 (zB I 1)=I':=⟨I+1,by omega,by rw [hS.add,hS.wrap,wrap_i64 (by omega) (by omega)]⟩
   have hmm:m - 1 < m:=by omega
   have hnx:∃ (i2:Nat) (I2:Int) (X2:Abs.Rows),I2=i2/\i2+(m - 1)=n/\X2=ur (List.replicate i2 0) ++ List.replicate (n - i2) rawZ/\mzSt N n X' I'=mzSt N n X2 I2:=⟨i+1,I',X',hI',by omega,e2,rfl⟩
   clear hXs
   subst hs1
   cbv
   refine bT l1 ?_
   refine ⟨_,hS.call (cw),?_⟩
   cbv
   refine nd (g1) ?_
   rw [g2,g3]
   cbv
   exact again (s':=mzSt N n X' I') (m:=m - 1) (by simp [leT,mzSt,mkSt,vi,i1]) (by simp [leH,mzSt,mkSt,g4]) rfl (by show 1<=2; omega) hmm hnx
  ·have l1:zO I N=false:=by rw [hS.lt]; exact decide_eq_false (by omega)
   have hin:i=n:=by omega
   have hXT:X=T:=by rw [hX,hT,hin,Nat.sub_self]; simp
   have e1:zc n (zj T)=true:=by rw [hS.neq,hS.len,hT,qau,List.length_replicate]; exact decide_eq_true rfl
   subst hXT
   subst hs1
   cbv
   refine bF l1 (nd e1 ?_)
   exact hF _ (ResLe.refl _)
theorem mclone_call (P:List Rat) (hP:P.length<=1000):ACall Tryz.prog 56 [.val (tl (ur P))] ⟨[.own 4 (ur P)],[none]⟩:=by
 match P,hP with
 | [],_=>
  refine ACall.exact1 fun base c=>?_
  cases base with
  | none=>
   refine callZ ccOk mixed [.own 4] Tryz.func56 rfl rfl (by kernel_rfl) fun zA zB zC zD zE zF zG zH zI zJ zK zL zM zN zO zP zQ zR zT zU zV zX zY zZ zb zc zd ze zg zh zi zj zk zl zm zn zo zq zr zs zt zu zx zy zz zmget zmset zW zth A L F hS hF=>?_
   cbv
   refine bT rfl ?_
   exact hF _ (ResLe.refl _)
  | some ad=>
   refine callZ ccOk mixed [.own 4] Tryz.func56 rfl rfl (by kernel_rfl) fun zA zB zC zD zE zF zG zH zI zJ zK zL zM zN zO zP zQ zR zT zU zV zX zY zZ zb zc zd ze zg zh zi zj zk zl zm zn zo zq zr zs zt zu zx zy zz zmget zmset zW zth A L F hS hF=>?_
   have e1:zc (zj []) 0=true:=by rw [hS.len,hS.neq]; rfl
   have e2:zc 0 (zj [])=true:=by rw [hS.len,hS.neq]; rfl
   cbv
   refine bF rfl (bT e1 (nd e2 ?_))
   exact hF _ (ResLe.refl _)
 | q :: P',hP=>
  obtain ⟨row,hrw⟩:∃ row,row=(qc q).row:=⟨_,rfl⟩
  obtain ⟨X,hX⟩:∃ X,X=ur P':=⟨_,rfl⟩
  have e:ur (q :: P')=row :: X:=by rw [hrw,hX]; simp [ur,qrows]
  have lX:X.length=P'.length:=by rw [hX,qau]
  have w4:((row :: X).all fun r=>r.length == 4)=true:=by
   rw [<- e]
   refine List.all_eq_true.2 fun r hr=>?_
   obtain ⟨c,_,rfl⟩:=List.mem_map.1 hr
   rfl
  have lP:P'.length < 1000:=by simp at hP; omega
  rw [e]
  refine callZ ccOk mixed [.own 4] Tryz.func56 rfl rfl (by kernel_rfl) fun zA zB zC zD zE zF zG zH zI zJ zK zL zM zN zO zP zQ zR zT zU zV zX zY zZ zb zc zd ze zg zh zi zj zk zl zm zn zo zq zr zs zt zu zx zy zz zmget zmset zW zth A L F hS hF=>?_
  have e1:zc (zj (row :: X)) 0=false:=by rw [hS.len,hS.neq]; exact decide_eq_false (by simp)
  have e2:zQ (zc (zj (row :: X)) 0)=true:=by rw [e1,hS.not]; rfl
  have e3:zx 4 (row :: X)=true:=by rw [hS.wide]; exact w4
  have e4:zh 0 (zj (row :: X)) 64=true:=by rw [hS.len,hS.room]; exact decide_eq_true (by unfold capBytes; simp only [List.length_cons]; omega)
  have e5:zc (zd 0 0) (zj [])=true:=by rw [hS.nadd,hS.len,hS.neq]; rfl
  have e6:zs [] 0 (row :: X)=row :: X:=by rw [hS.ext]; rfl
  have e7:zc (zd 0 (zj (row :: X))) (zj (zs [] 0 (row :: X)))=true:=by rw [e6,hS.nadd,hS.neq,Nat.zero_add]; exact decide_eq_true rfl
  cbv
  refine bF rfl (bF e1 (nd e2 (nd e3 (nd e4 (nd e5 (nd e7 ?_))))))
  rw [e6]
  exact hF _ (ResLe.refl _)
open Go Go.Abs Go.Abs.M Go.Proofs
def vmul (P:List Rat) (B:Nat->List Rat) (w:Nat):Nat->List Rat
 | 0=>List.replicate w 0
 | k+1=>pacc (vmul P B w k) (P.getD k 0) (B k) 0
theorem vmul_len (P:List Rat) (B:Nat->List Rat) (w:Nat):∀ k,(vmul P B w k).length=w
 | 0=>by simp [vmul]
 | k+1=>by
  rw [vmul,pacc,qbn,vmul_len P B w k]
theorem vmul_qs {P:List Rat} {B:Nat->List Rat} {w m a b:Nat} (hl:∀ i,i < m->(B i).length=w) (h1:∀ q ∈ P,Qs q a) (h2:∀ i,i < m->∀ q ∈ B i,Qs q b):∀ k,k<=P.length->k<=m->∀ q ∈ vmul P B w k,Qs q (1+k*(a+b+1))
 | 0,_,_=>fun q hq=>by
  rw [vmul] at hq
  rw [(List.mem_replicate.1 hq).2]
  exact Qs.zero (by omega)
 | k+1,hk,hm=>fun q hq=>by
  have ih:=vmul_qs hl h1 h2 k (by omega) (by omega)
  have gP:P.getD k 0 ∈ P:=by rw [List.getD_eq_getElem?_getD,List.getElem?_eq_getElem (by omega)]; exact List.getElem_mem (by omega)
  have:=accL_all (k:=0) ih (h1 _ gP) (h2 k (by omega)) (by rw [hl k (by omega),vmul_len]; omega) q hq
  refine this.mono ?_
  rw [Nat.succ_mul]; omega
def ml1St (BM ROW X:Abs.Rows) (w:Nat) (N I:Int):St:=mkSt 27 [.junk,.c (.ptr 1 0 0),.junk,.junk,.c (.sl 2 0 w false),.junk,.junk,.junk,.junk,.junk,.c (.t (.lst false ROW)),vi .i64 N,vi .i64 I] [none,some (.var [.t (.lst false BM)]),some (.rows 4 X true false)]
theorem mmul1_call (P:List Rat) (B:Nat->List Rat) (m w a b:Nat) (hm:m<=1000) (hw:w<=1000) (hl:∀ i,i < m->(B i).length=w) (h0:m=0->w=0) (hP:P.length<=m) (h1:∀ q ∈ P,Qs q a) (h2:∀ i,i < m->∀ q ∈ B i,Qs q b) (hab:1001*(a+b+1)<=68719476736) :
  ACall Tryz.prog 93 [.val (tl (ur P)),.ref [.lst false (mr m B)]] ⟨[.own 4 (ur (vmul P B w P.length))],[none,some (.var [.t (.lst false (mr m B))])]⟩:=by
 obtain ⟨n,hn⟩:∃ n,n=P.length:=⟨_,rfl⟩
 obtain ⟨ROW,hROW⟩:∃ R,R=ur P:=⟨_,rfl⟩
 obtain ⟨BM,hBM⟩:∃ R,R=mr m B:=⟨_,rfl⟩
 obtain ⟨T,hT⟩:∃ T,T=ur (vmul P B w P.length):=⟨_,rfl⟩
 have lR:ROW.length=n:=by rw [hROW,qau,hn]
 have cz:=mzeros_call w hw
 have cw:=mwidth_call m w B hl (by omega)
 rw [show (if m=0 then 0 else w)=w by split <;> omega] at cw
 obtain ⟨W0,hW0⟩:∃ X:Int,X=(w:Int):=⟨_,rfl⟩
 rw [<- hBM,<- hW0] at cw
 rw [<- hW0] at cz
 rw [<- hROW,<- hBM,<- hT]
 refine callZ ccOk mixed [.own 4] Tryz.func93 rfl rfl (by kernel_rfl) fun zA zB zC zD zE zF zG zH zI zJ zK zL zM zN zO zP zQ zR zT zU zV zX zY zZ zb zc zd ze zg zh zi zj zk zl zm zn zo zq zr zs zt zu zx zy zz zmget zmset zW zth A L F hS hF=>?_
 obtain ⟨N,hN,hN2⟩:∃ N:Int,N=n/\zZ (zj ROW)=N:=⟨_,rfl,by rw [hS.ofN,hS.len,lR]⟩
 obtain ⟨Z,hZ⟩:∃ Z,Z=ur (List.replicate w 0):=⟨_,rfl⟩
 have lZ:zj Z=w:=by rw [hS.len,hZ,qau]; simp
 rw [<- hZ] at cz
 cbv
 refine ⟨_,hS.hcall cw,?_⟩
 cbv
 refine ⟨_,hS.call cz,?_⟩
 cbv
 rw [hN2]
 have hN:N=(n:Int):=hN
 refine loopZR ccOk mixed hS (fun (m:Nat) s'=>∃ (i:Nat) (I:Int) (X:Abs.Rows),I=i/\m+i=n/\X=ur (vmul P B w i)/\s'=ml1St BM ROW X w N I) (n:=n) (s0:=ml1St BM ROW Z w N 0) (qao ?_ ?_) rfl (Nat.succ_le_succ (Nat.succ_le_succ (Nat.zero_le _))) ?_ ?_
 ·simp [leT,ml1St,mkSt,vi,vb,lZ]
 ·simp [leH,ml1St,mkSt]
 ·exact ⟨0,0,Z,rfl,by omega,hZ,rfl⟩
 ·rintro m' s1 ⟨i,I,X,hI,hm',hX,hs1⟩
  have hI:I=(i:Int):=hI
  have lX:X.length=w:=by rw [hX,qau,vmul_len]
  have f1:zq 0 w X=true:=by rw [hS.fit]; exact decide_eq_true (by omega)
  have f2:zr X 0 w=X:=by rw [hS.part,List.drop_zero,List.take_of_length_le (by omega)]
  by_cases hi:i < n
  ·have l1:zO I N=true:=by rw [hS.lt]; exact decide_eq_true (by omega)
   obtain ⟨x,hx⟩:∃ x,x=P.getD i 0:=⟨_,rfl⟩
   have gP:P[i]?=some x:=by rw [hx,List.getD_eq_getElem?_getD,List.getElem?_eq_getElem (by omega)]; rfl
   have hxq:Qs x a:=h1 x (List.mem_of_getElem? gP)
   obtain ⟨hnq,cneg⟩:=pneg_row hxq (by omega)
   obtain ⟨s,t,r,p,hrow,_⟩:=qrow x
   obtain ⟨s2,t2,r2,p2,hrow2,_⟩:=qrow (-x)
   have hRi:=ur_get gP
   rw [<- hROW,hrow] at hRi
   rw [hrow,hrow2] at cneg
   obtain ⟨BR,hBR⟩:∃ X,X=ur (B i):=⟨_,rfl⟩
   have qX:=vmul_qs hl h1 h2 i (by omega) (by omega)
   have hbig:1+i*(a+b+1)+(a+b)<=68719476736:=by
    have:=Nat.mul_le_mul_right (a+b+1) (show i<=1000 by omega)
    omega
   have csub:=msubv_call (vmul P B w i) (B i) (-x) (1+i*(a+b+1)) a b (by rw [vmul_len,hl i (by omega)]; omega) (by rw [vmul_len]; exact hw) qX hnq (h2 i (by omega)) hbig (by omega)
   rw [Rat.neg_neg] at csub
   obtain ⟨Y,hY⟩:∃ Y,Y=ur (vmul P B w (i+1)):=⟨_,rfl⟩
   have e:pacc (vmul P B w i) x (B i) 0=vmul P B w (i+1):=by rw [hx]; rfl
   rw [e,<- hX,<- hY,<- hBR,hrow2] at csub
   have lY:Y.length=w:=by rw [hY,qau,vmul_len]
   have g1:zc (zj Y) w=true:=by rw [hS.len,hS.neq]; exact decide_eq_true lY
   have g2:zt X 0 Y=Y:=by rw [hS.setg]; simp [setRange,lX,lY]
   have j1:zX I=i:=by rw [hS.nat]; omega
   have j2:zk ROW i=some [.v (.bool s),.lst false r,.v (.bool t),.lst false p]:=by rw [hS.nth]; exact hRi
   have j3:zk BM i=some [.lst false BR]:=by rw [hS.nth,hBM,hBR]; exact mr_get (by omega)
   have n0:zP 0 I=true:=by rw [hS.le]; exact decide_eq_true (by omega)
   obtain ⟨I',hI',i1⟩:∃ I':Int,I'=((i+1:Nat):Int)/\zA .i64 (zB I 1)=I':=⟨I+1,by omega,by rw [hS.add,hS.wrap,wrap_i64 (by omega) (by omega)]⟩
   have hmm:m' - 1 < m':=by omega
   have hnx:∃ (i2:Nat) (I2:Int) (X2:Abs.Rows),I2=i2/\(m' - 1)+i2=n/\X2=ur (vmul P B w i2)/\ml1St BM ROW Y w N I'=ml1St BM ROW X2 w N I2:=⟨i+1,I',Y,hI',by omega,hY,rfl⟩
   clear hX hY e qX hbig
   subst hs1
   cbv
   refine bT l1 ?_
   rw [j1,j2]
   cbv
   refine nd (n0) ?_
   refine ⟨_,hS.call (cneg),?_⟩
   cbv
   rw [j1,j3]
   cbv
   refine nd (n0) ?_
   refine nd (f1) ?_
   rw [f2]
   refine ⟨_,hS.call (csub),?_⟩
   cbv
   refine nd (g1) ?_
   refine againR [] (s':=ml1St BM ROW Y w N I') (k:=m' - 1) ?_ ?_ ?_ ?_ rfl (Nat.succ_le_succ (Nat.succ_le_succ (Nat.zero_le _))) hmm hnx
   ·simp [leTR,ml1St,mkSt,vi,AV.ren,AV.noTup,Cell.ren,renF,i1]
   ·simp [leHR,ml1St,mkSt,Abs.look,renF,Blk.ren,Cell.ren,g2]
   ·simp [liveR,ml1St,mkSt,renF]
   ·simp
  ·have l1:zO I N=false:=by rw [hS.lt]; exact decide_eq_false (by omega)
   have hXT:X=T:=by rw [hX,hT,show i=P.length by omega]
   have g1:zc w (zj T)=true:=by rw [hS.neq,hS.len,<- hXT,lX]; exact decide_eq_true rfl
   subst hXT
   subst hs1
   cbv
   refine bF l1 (nd g1 ?_)
   exact hF _ (ResLe.refl _)
open Go Go.Abs Go.Abs.M Go.Proofs
def mqSt (n i w:Nat) (R:Abs.Rows) (X:Nat->Abs.Rows) (I:Int):St:=mkSt 26 [.junk,.c (.t (.v (.func (.func 56) #[] #[]))),.junk,.junk,.junk,.c (.sl 0 0 n false),.junk,.junk,.junk,.junk,.junk,.c (.t (.lst false R)),vi .i64 n,vi .i64 I] (mqh n i 1 w X)
theorem mqapp (n:Nat) (hn:n<=4) (M:Nat->List Rat) (w:Nat) (hw:w<=1000) (hl:∀ i,i < n->(M i).length=w) {X:Nat->Abs.Rows} (hX:∀ i,i < n->X i=ur (M i)) :
  HCall Tryz.prog 55 ⟨[.c (.t (.lst false (mr n M))),.c (.t (.v (.func (.func 56) #[] #[])))],[]⟩ ⟨[.c (.sl 0 0 n false)],mrh n w X⟩:=by
 have c:∀ i,i < n->∃ row,(mr n M)[i]?=some [.lst false row]/\(X i).length=w/\ACall Tryz.prog 56 [.val (tl row)] ⟨[.own 4 (X i)],[none]⟩:=fun i hi=>⟨_,mr_get hi,by rw [hX i hi,qau,hl i hi],by rw [hX i hi]; exact mclone_call _ (by rw [hl i hi]; exact hw)⟩
 clear hX hl
 have lR:=mr_len n M
 generalize mr n M=R at *
 have L4:LN n:=trivial
 obtain ⟨N,hN⟩:∃ N,N=n:=⟨_,rfl⟩
 rw [<- hN] at c
 obtain rfl | rfl | rfl | rfl | rfl:n=0 ∨ n=1 ∨ n=2 ∨ n=3 ∨ n=4:=by omega
 all_goals
  refine hcallZ ccOk mixed Tryz.func55 rfl rfl (by kernel_rfl) rfl (by simp [mqh,mrh]) fun zA zB zC zD zE zF zG zH zI zJ zK zL zM zN zO zP zQ zR zT zU zV zX zY zZ zb zc zd ze zg zh zi zj zk zl zm zn zo zq zr zs zt zu zx zy zz zmget zmset zW zth A L G hS hG=>?_
  have hv:L4.v=N:=hN.symm
  have hN2:zZ (zj R)=(L4.v:Int):=by rw [hS.ofN,hS.len,lR]; rfl
  have kk:zX (L4.v:Int)=L4.v:=by rw [hS.nat]; rfl
  have km:zi (Int.ofNat L4.v) (Int.ofNat L4.v) 24=true:=by rw [hS.mkok]; exact decide_eq_true (by unfold capBytes; simp [LN.v])
  cbv
  rw [hN2]
  refine nd km ?_
  rw [kk]
  refine loopZR ccOk mixed hS (fun (m:Nat) s'=>∃ (i:Nat) (I:Int),I=i/\m+i=N/\s'=mqSt L4.v i  w R X I) (n:=N) (s0:=mqSt L4.v 0  w R X 0) (qao ?_ ?_) rfl (by simp [mqSt,mkSt,mqh]) ?_ ?_
  ·simp [leT,mqSt,mkSt,vi,vb,LN.v]
  ·simp [leH,mqSt,mkSt,mqh,LN.v,List.range,List.range.loop,List.replicate]
  ·exact ⟨0,0,rfl,by omega,rfl⟩
  ·rintro m s1 ⟨i,I,hI,hm,hs1⟩
   by_cases hi:i < N
   ·have l1:zO I (L4.v:Int)=true:=by rw [hS.lt]; exact decide_eq_true (by omega)
    obtain ⟨row,ri,lX,ci⟩:=c i hi
    have t:zk R i=some [.lst false row]:=by rw [hS.nth]; exact ri
    have j:zX (Int.ofNat i)=i:=by rw [hS.nat]; rfl
    have n0:zP 0 (Int.ofNat i)=true:=by rw [hS.le]; exact decide_eq_true (Int.natCast_nonneg i)
    have z:zj (X i)=w:=by rw [hS.len,lX]
    obtain ⟨I',hI',i1⟩:∃ I':Int,I'=((i+1:Nat):Int)/\zA .i64 (zB I 1)=I':=⟨I+1,by omega,by rw [hS.add,hS.wrap,wrap_i64 (by omega) (by omega)]⟩
    have i2:zA .i64 (zB (Int.ofNat i) 1)=I':=by rw [<- i1,hI]; rfl
    have hnx:∃ (i3:Nat) (I3:Int),I3=i3/\(m - 1)+i3=N/\mqSt L4.v (i+1)  w R X I'=mqSt L4.v i3  w R X I3:=⟨i+1,I',hI',by omega,rfl⟩
    have hmm:m - 1 < m:=by omega
    clear c ri lX i1 hI'
    obtain rfl | rfl | rfl | rfl:i=0 ∨ i=1 ∨ i=2 ∨ i=3:=by omega
    all_goals first | (exfalso; omega) | skip
    all_goals
     subst hI
     subst hs1
     cbv
     refine bT l1 ?_
     rw [show zX _=_ from j,t]
     cbv
     refine nd (n0) ?_
     refine ⟨_,hS.call (ci),?_⟩
     cbv
     refine againR [] (s':=mqSt L4.v (_+1)  w R X I') (k:=m - 1) ?_ ?_ ?_ ?_ rfl (by simp [mqSt,mkSt,mqh]) hmm hnx
     ·rw [i2]; simp [leTR,mqSt,mkSt,vi,AV.ren,AV.noTup,Cell.ren,renF,LN.v,z]
     ·simp [leHR,mqSt,mkSt,mqh,Abs.look,renF,Blk.ren,Cell.ren,LN.v,List.range,List.range.loop,z]
     ·simp [liveR,mqSt,mkSt,renF,mqh,LN.v,List.range,List.range.loop]
     ·simp
   ·have l1:zO I (L4.v:Int)=false:=by rw [hS.lt]; exact decide_eq_false (by omega)
    obtain rfl:i=N:=by omega
    clear c
    subst hN
    subst hI
    subst hs1
    cbv
    refine bF l1 ?_
    refine endR hG [] ?_ ?_ ?_ ?_
    ·simp [leTR,AV.ren,AV.noTup,Cell.ren,renF]
    ·simp [leHR,Abs.look,renF,Blk.ren,Cell.ren,mqh,mrh,List.range,List.range.loop]
    ·simp [liveR,renF,mqh,mrh,List.range,List.range.loop]
    ·simp
def mtSt (n i:Nat) (BM:Abs.Rows) (w:Nat) (R:Abs.Rows) (X:Nat->Abs.Rows) (I:Int):St:=mkSt 26 [.junk,.c (.clo 93 [(0,0,0)]),.junk,.junk,.junk,.c (.sl 1 0 n false),.junk,.junk,.junk,.junk,.junk,.c (.t (.lst false R)),vi .i64 n,vi .i64 I] (some (.var [.t (.lst false BM)]) :: mqh n i 2 w X)
theorem mtapp (n:Nat) (hn:n<=4) (M B:Nat->List Rat) (m w a b:Nat) (hm:m<=1000) (hw:w<=1000) (hl:∀ i,i < m->(B i).length=w) (h0:m=0->w=0) (hP:∀ i,i < n->(M i).length=m) (h1:∀ i,i < n->∀ q ∈ M i,Qs q a) (h2:∀ i,i < m->∀ q ∈ B i,Qs q b) (hab:1001*(a+b+1)<=68719476736) {BM:Abs.Rows} (hBM:BM=mr m B) {X:Nat->Abs.Rows} (hX:∀ i,X i=ur (vmul (M i) B w (M i).length)) :
  HCall Tryz.prog 55 ⟨[.c (.t (.lst false (mr n M))),.c (.clo 93 [(0,0,0)])],[some (.var [.t (.lst false BM)])]⟩ ⟨[.c (.sl 1 0 n false)],some (.var [.t (.lst false BM)]) :: mqh n n 2 w X⟩:=by
 have c:∀ i,i < n->∃ row,(mr n M)[i]?=some [.lst false row]/\(X i).length=w/\ACall Tryz.prog 93 [.val (tl row),.ref [.lst false BM]] ⟨[.own 4 (X i)],[none,some (.var [.t (.lst false BM)])]⟩:=fun i hi=>⟨_,mr_get hi,by rw [hX i,qau,vmul_len],by rw [hX i,hBM]; exact mmul1_call (M i) B m w a b hm hw hl h0 (by rw [hP i hi]; omega) (h1 i hi) h2 hab⟩
 clear hX hl h0 hP h1 h2 hab hBM
 have lR:=mr_len n M
 generalize mr n M=R at *
 have L4:LN n:=trivial
 obtain ⟨N,hN⟩:∃ N,N=n:=⟨_,rfl⟩
 rw [<- hN] at c
 obtain rfl | rfl | rfl | rfl | rfl:n=0 ∨ n=1 ∨ n=2 ∨ n=3 ∨ n=4:=by omega
 all_goals
  refine hcallZ ccOk mixed Tryz.func55 rfl rfl (by kernel_rfl) rfl (by simp [mqh,mrh]) fun zA zB zC zD zE zF zG zH zI zJ zK zL zM zN zO zP zQ zR zT zU zV zX zY zZ zb zc zd ze zg zh zi zj zk zl zm zn zo zq zr zs zt zu zx zy zz zmget zmset zW zth A L G hS hG=>?_
  have hv:L4.v=N:=hN.symm
  have hN2:zZ (zj R)=(L4.v:Int):=by rw [hS.ofN,hS.len,lR]; rfl
  have kk:zX (L4.v:Int)=L4.v:=by rw [hS.nat]; rfl
  have km:zi (Int.ofNat L4.v) (Int.ofNat L4.v) 24=true:=by rw [hS.mkok]; exact decide_eq_true (by unfold capBytes; simp [LN.v])
  cbv
  rw [hN2]
  refine nd km ?_
  rw [kk]
  refine loopZR ccOk mixed hS (fun (m:Nat) s'=>∃ (i:Nat) (I:Int),I=i/\m+i=N/\s'=mtSt L4.v i BM w R X I) (n:=N) (s0:=mtSt L4.v 0 BM w R X 0) (qao ?_ ?_) rfl (by simp [mtSt,mkSt,mqh]) ?_ ?_
  ·simp [leT,mtSt,mkSt,vi,vb,LN.v]
  ·simp [leH,mtSt,mkSt,mqh,LN.v,List.range,List.range.loop,List.replicate]
  ·exact ⟨0,0,rfl,by omega,rfl⟩
  ·rintro m s1 ⟨i,I,hI,hm,hs1⟩
   by_cases hi:i < N
   ·have l1:zO I (L4.v:Int)=true:=by rw [hS.lt]; exact decide_eq_true (by omega)
    obtain ⟨row,ri,lX,ci⟩:=c i hi
    have t:zk R i=some [.lst false row]:=by rw [hS.nth]; exact ri
    have j:zX (Int.ofNat i)=i:=by rw [hS.nat]; rfl
    have n0:zP 0 (Int.ofNat i)=true:=by rw [hS.le]; exact decide_eq_true (Int.natCast_nonneg i)
    have z:zj (X i)=w:=by rw [hS.len,lX]
    obtain ⟨I',hI',i1⟩:∃ I':Int,I'=((i+1:Nat):Int)/\zA .i64 (zB I 1)=I':=⟨I+1,by omega,by rw [hS.add,hS.wrap,wrap_i64 (by omega) (by omega)]⟩
    have i2:zA .i64 (zB (Int.ofNat i) 1)=I':=by rw [<- i1,hI]; rfl
    have hnx:∃ (i3:Nat) (I3:Int),I3=i3/\(m - 1)+i3=N/\mtSt L4.v (i+1) BM w R X I'=mtSt L4.v i3 BM w R X I3:=⟨i+1,I',hI',by omega,rfl⟩
    have hmm:m - 1 < m:=by omega
    clear c ri lX i1 hI'
    obtain rfl | rfl | rfl | rfl:i=0 ∨ i=1 ∨ i=2 ∨ i=3:=by omega
    all_goals first | (exfalso; omega) | skip
    all_goals
     subst hI
     subst hs1
     cbv
     refine bT l1 ?_
     rw [show zX _=_ from j,t]
     cbv
     refine nd (n0) ?_
     refine ⟨_,hS.call (ci),?_⟩
     cbv
     refine againR [] (s':=mtSt L4.v (_+1) BM w R X I') (k:=m - 1) ?_ ?_ ?_ ?_ rfl (by simp [mtSt,mkSt,mqh]) hmm hnx
     ·rw [i2]; simp [leTR,mtSt,mkSt,vi,AV.ren,AV.noTup,Cell.ren,renF,LN.v,z]
     ·simp [leHR,mtSt,mkSt,mqh,Abs.look,renF,Blk.ren,Cell.ren,LN.v,List.range,List.range.loop,z]
     ·simp [liveR,mtSt,mkSt,renF,mqh,LN.v,List.range,List.range.loop]
     ·simp
   ·have l1:zO I (L4.v:Int)=false:=by rw [hS.lt]; exact decide_eq_false (by omega)
    obtain rfl:i=N:=by omega
    clear c
    subst hN
    subst hI
    subst hs1
    cbv
    refine bF l1 ?_
    refine endR hG [] ?_ ?_ ?_ ?_
    ·simp [leTR,AV.ren,AV.noTup,Cell.ren,renF]
    ·simp [leHR,Abs.look,renF,Blk.ren,Cell.ren,mqh,mrh,List.range,List.range.loop]
    ·simp [liveR,renF,mqh,mrh,List.range,List.range.loop]
    ·simp
open Go Go.Abs Go.Abs.M Go.Proofs
theorem mred1_call {c x:Rat} {a b:Nat} (h1:Qs c a) (h2:Qs x b) (h:a+b<=68719476736) :
  ACall Tryz.prog 108 [.val (.agg (qc x).row),.ref (qc c).row] ⟨[.val (.agg (qc (c*x)).row)],[none,some (.var ((qc c).row.map .t))]⟩:=by
 obtain ⟨_,cm⟩:=pmul_row h1 h2 h
 obtain ⟨s,t,r,p,hrow,_⟩:=qrow c
 obtain ⟨s2,t2,r2,p2,hrow2,_⟩:=qrow x
 obtain ⟨s3,t3,r3,p3,hrow3,_⟩:=qrow (c*x)
 rw [hrow,hrow2,hrow3] at cm
 rw [hrow,hrow2,hrow3]
 refine callZ ccOk mixed [.val] Tryz.func108 rfl rfl (by kernel_rfl) fun zA zB zC zD zE zF zG zH zI zJ zK zL zM zN zO zP zQ zR zT zU zV zX zY zZ zb zc zd ze zg zh zi zj zk zl zm zn zo zq zr zs zt zu zx zy zz zmget zmset zW zth A L F hS hF=>?_
 cbv
 refine ⟨_,hS.call (cm),?_⟩
 cbv
 exact hF _ (ResLe.refl _)
def mapSt (R:Abs.Rows) (s t:Bool) (r p:Abs.Rows) (n:Nat) (X:Abs.Rows) (N I:Int):St:=mkSt 26 [.junk,.c (.clo 108 [(2,0,0)]),.junk,.junk,.junk,.c (.sl 3 0 n false),.junk,.junk,.junk,.junk,.junk,.c (.t (.lst false R)),vi .i64 N,vi .i64 I] [none,none,some (.var [.t (.v (.bool s)),.t (.lst false r),.t (.v (.bool t)),.t (.lst false p)]),some (.rows 4 X true false)]
theorem mapply_call (c:Rat) (P:List Rat) (a b:Nat) (h1:Qs c a) (h2:∀ q ∈ P,Qs q b) (hab:a+b<=68719476736) (hP:P.length<=1000) :
  ACall Tryz.prog 107 [.val (tl (ur P)),.clo 108 [(2,0,0)],.gh (qc c).row] ⟨[.own 4 (ur (lsc c P))],[none,none,some (.var ((qc c).row.map .t))]⟩:=by
 obtain ⟨n,hn⟩:∃ n,n=P.length:=⟨_,rfl⟩
 have cf:=fun q (hq:q ∈ P)=>mred1_call h1 (h2 q hq) hab
 obtain ⟨T,hT⟩:∃ T,T=ur (lsc c P):=⟨_,rfl⟩
 obtain ⟨R,hR⟩:∃ R,R=ur P:=⟨_,rfl⟩
 have lR:R.length=n:=by rw [hR,qau,hn]
 have lT:T.length=n:=by rw [hT,qau,hn]; simp [lsc]
 rw [<- hT,<- hR]
 obtain ⟨s,t,r,p,hrow,_⟩:=qrow c
 rw [hrow] at cf
 rw [hrow]
 have hXs:∀ i,i < n->∃ (q:Rat),q ∈ P/\R[i]?=some (qc q).row/\∀ X:Abs.Rows,X=T.take i ++ List.replicate (n - i) rawZ->X[i]?=some rawZ/\X.set i (qc (c*q)).row=T.take (i+1) ++ List.replicate (n - (i+1)) rawZ:=fun i hi=>by
  have hPi:P[i]?=some (P.getD i 0):=by rw [List.getD_eq_getElem?_getD,List.getElem?_eq_getElem (by omega)]; rfl
  have hTi:T[i]?=some (qc (c*P.getD i 0)).row:=by
   rw [hT]
   refine ur_get ?_
   rw [lsc,List.getElem?_map,hPi]; rfl
  refine ⟨P.getD i 0,List.mem_of_getElem? hPi,by rw [hR]; exact ur_get hPi,fun X hX=>?_⟩
  have hl:(T.take i).length=i:=by rw [List.length_take]; omega
  obtain ⟨m,hm⟩:∃ m,n - i=m+1:=⟨n - i - 1,by omega⟩
  refine ⟨?_,?_⟩
  ·rw [hX,List.getElem?_append_right (by omega),hl,Nat.sub_self,hm]; rfl
  ·rw [hX,List.set_append_right _ _ (by omega),hl,Nat.sub_self,hm,show n - (i+1)=m by omega,List.replicate_succ,List.set_cons_zero,List.take_add_one,hTi,List.append_assoc]; rfl
 refine callZ ccOk mixed [.own 4] Tryz.func107 rfl rfl (by kernel_rfl) fun zA zB zC zD zE zF zG zH zI zJ zK zL zM zN zO zP zQ zR zT zU zV zX zY zZ zb zc zd ze zg zh zi zj zk zl zm zn zo zq zr zs zt zu zx zy zz zmget zmset zW zth A L F hS hF=>?_
 obtain ⟨N,hN,hN2⟩:∃ N:Int,N=n/\zZ (zj R)=N:=⟨_,rfl,by rw [hS.ofN,hS.len,lR]⟩
 have k0:zi N N 64=true:=by rw [hS.mkok]; exact decide_eq_true (by unfold capBytes; omega)
 have k1:zX N=n:=by rw [hS.nat]; omega
 have k2:zu n [.v (.bool false),.lst true [],.v (.bool false),.lst true []]=T.take 0 ++ List.replicate (n - 0) rawZ:=by rw [hS.rep]; rfl
 cbv
 have hN:N=(n:Int):=hN
 rw [hN2]
 refine nd k0 ?_
 refine loopZ ccOk mixed hS (fun (m:Nat) s'=>∃ (i:Nat) (I:Int) (X:Abs.Rows),I=i/\i+m=n/\X=T.take i ++ List.replicate (n - i) rawZ/\s'=mapSt R s t r p n X N I) (n:=n) (s0:=mapSt R s t r p n (T.take 0 ++ List.replicate (n - 0) rawZ) N 0) (qao ?_ ?_) rfl (Nat.succ_le_succ (Nat.succ_le_succ (Nat.succ_le_succ (Nat.zero_le _)))) ?_ ?_
 ·simp [leT,mapSt,mkSt,vi,k1]
 ·simp [leH,mapSt,mkSt,k1,k2]
 ·exact ⟨0,0,_,rfl,by omega,rfl,rfl⟩
 ·rintro m s1 ⟨i,I,X,hI,him,hX,hs1⟩
  by_cases hi:i < n
  ·obtain ⟨q,hq,e2,e3⟩:=hXs i hi
   obtain ⟨e4,e5⟩:=e3 X hX
   have cq:=cf q hq
   obtain ⟨s2,t2,r2,p2,hrow2,_⟩:=qrow q
   obtain ⟨s3,t3,r3,p3,hrow3,_⟩:=qrow (c*q)
   rw [hrow2] at e2 cq
   rw [hrow3] at cq e5
   obtain ⟨X',hX'⟩:∃ X',X'=T.take (i+1) ++ List.replicate (n - (i+1)) rawZ:=⟨_,rfl⟩
   rw [<- hX'] at e5
   have l1:zO I N=true:=by rw [hS.lt]; exact decide_eq_true (by omega)
   have j1:zX I=i:=by rw [hS.nat]; omega
   have j2:zk R i=some [.v (.bool s2),.lst false r2,.v (.bool t2),.lst false p2]:=by rw [hS.nth]; exact e2
   have n0:zP 0 I=true:=by rw [hS.le]; exact decide_eq_true (by omega)
   have g1:zY I n=true:=by rw [hS.inb]; exact decide_eq_true (by omega)
   have g2:zb 0 I=i:=by rw [hS.idx]; omega
   have g3:zk X i=some [.v (.bool false),.lst true [],.v (.bool false),.lst true []]:=by rw [hS.nth]; exact e4
   have g4:zl X i [.v (.bool s3),.lst false r3,.v (.bool t3),.lst false p3]=X':=by rw [hS.setr]; exact e5
   obtain ⟨I',hI',i1⟩:∃ I':Int,I'=((i+1:Nat):Int)/\zA .i64 (zB I 1)=I':=⟨I+1,by omega,by rw [hS.add,hS.wrap,wrap_i64 (by omega) (by omega)]⟩
   have hmm:m - 1 < m:=by omega
   have hnx:∃ (i2:Nat) (I2:Int) (X2:Abs.Rows),I2=i2/\i2+(m - 1)=n/\X2=T.take i2 ++ List.replicate (n - i2) rawZ/\mapSt R s t r p n X' N I'=mapSt R s t r p n X2 N I2:=⟨i+1,I',X',hI',by omega,hX',rfl⟩
   clear hXs e3 e5 cf hX'
   subst hs1
   cbv
   refine bT l1 ?_
   rw [j1,j2]
   cbv
   refine nd (n0) ?_
   refine ⟨_,hS.call (cq),?_⟩
   cbv
   refine nd (g1) ?_
   rw [g2,g3]
   cbv
   exact again (s':=mapSt R s t r p n X' N I') (m:=m - 1) (by simp [leT,mapSt,mkSt,vi,i1]) (by simp [leH,mapSt,mkSt,g4]) rfl (Nat.succ_le_succ (Nat.succ_le_succ (Nat.succ_le_succ (Nat.zero_le _)))) hmm hnx
  ·have l1:zO I N=false:=by rw [hS.lt]; exact decide_eq_false (by omega)
   have hXT:X=T:=by rw [hX,show i=n by omega,Nat.sub_self,List.take_of_length_le (by omega)]; simp
   have e1:zc n (zj T)=true:=by rw [hS.neq,hS.len,lT]; exact decide_eq_true rfl
   subst hXT
   clear hXs cf
   subst hs1
   cbv
   refine bF l1 (nd e1 ?_)
   exact hF _ (ResLe.refl _)
end Go.Proofs.YtjfmkcmepdedaaaGreat
end
