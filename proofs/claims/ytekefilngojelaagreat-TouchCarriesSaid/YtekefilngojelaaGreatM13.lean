/- A part. -/
import Derived.Test.YtekefilngojelaaGreatM12
set_option maxHeartbeats 0
set_option maxRecDepth 100000
set_option linter.unusedVariables false
set_option linter.unusedSimpArgs false
section
namespace Go.Proofs.YtekefilngojelaaGreat
open Go Go.Abs Go.Abs.M Go.Proofs
def BJ (X:Abs.Rows) (I:Int):St:=ae 19 [.c (.t (.aa false X)),.af,vb false,vi .i64 I] [none]
theorem H7 (l:List (Rat×Rat)) (hl:∀x∈l,Qs x.1 100/\Qs x.2 100/\x.1<=x.2) (hk:l.length<=64):aH 90 [.val (tl (KO l))] ⟨[.val (tb true)],[none]⟩:=by
 obtain⟨X,hX⟩:=aq (KO l);obtain⟨n,fx⟩:=aq (l.length);have lX:X.length=n:=by rw[hX,Qa,fx]
 rw[<-hX];refine an ai mixed [.val] Tryz.func90 rfl rfl (by kernel_rfl) ?_;intros;rename_i zX zY _ _ _ _ _ _ zz _ _ _ _ _ _ _ ab aB _ _ _ _ _ _ _ _ _ _ _ _ _ _ _ _ _ _ A L F hS hF;have lE:=hS.fh lX;have y:zY true=false:=by rw[hS.not];rfl
 have Ej:zX (zz (ab X)) 64=true:=by rw[hS.le,hS.az,hS.len,lX];exact decide_eq_true (by omega)
 cbv;refine fX ai mixed hS (n:=n) (fun i (_:Unit)=>BJ X (Int.ofNat i)) (fun i _=>True) (a0:=()) (fy ?_ ?_) rfl (Nat.le_refl 1) trivial ?_ ?_
 ·simp[dS,BJ,ae,vi,vb]
 ·simp[dU,BJ,ae]
 ·rintro i ⟨⟩ hi -
  obtain⟨c1,i1,j1,n0⟩:=hS.ic lX hi (by omega);obtain⟨x,vn,hr,_⟩:=WS (l:=l) (i:=i) (by omega);obtain⟨x1,x2,x3⟩:=hl x vn;have d0:=Rm x.1 x.2 x1 x2 x3;have j2:aB X i=some ((qc x.1).row++(qc x.2).row):=by rw[hS.nth,hX];exact hr
  obtain⟨s0,t0,r0,q0,w0,_⟩:=bX x.1;obtain⟨s1,t1,r1,q1,w1,_⟩:=bX x.2;rw[w0,w1]at d0 j2;simp only[List.cons_append,List.nil_append]at d0 j2;clear w0 w1 hr;refine⟨?_⟩;cbv;apply bT c1;simp only[j1,j2];cbv;apply nd n0;refine hS.cl d0 ?_;cbv;apply bF y;refine aU [] () ?_ ?_ ?_ ?_ rfl (Nat.le_refl 1) trivial
  ·simp[bd,BJ,ae,vi,vb,AV.aw,AV.aJ,Cell.aw]
   exact i1
  ·simp[bf,BJ,ae]
  ·simp[aF,BJ,ae]
  ·simp
 ·rintro⟨⟩ -
  refine⟨?_⟩;cbv;apply bF lE;exact bc hF (jf Ej)
def BM (X:Abs.Rows) (n I:Int):St:=ae 32 [.c (.t (.aa false X)),vi .i64 n,.af,.af,vb false,vi .i64 I] [none,none]
theorem yX (l:List (Rat×List T2)) (n:Int) (hn:2<=n/\n<=4) (hl:∀x∈l,Qs x.1 100/\VP x.2 64) (hk:l.length<=64):aH 84 [.val (tl (KQ l)),.val (ti .i64 n)] ⟨[.val (tb true)],[none,none]⟩:=by
 obtain⟨X,hX⟩:=aq (KQ l);obtain⟨k,tw⟩:=aq (l.length);have lX:X.length=k:=by rw[hX,Qb,tw]
 rw[<-hX];refine an ai mixed [.val] Tryz.func84 rfl rfl (by kernel_rfl) ?_;intros;rename_i zX zY _ _ _ _ _ _ zz _ _ _ _ _ _ _ ab aB _ _ _ _ _ _ _ _ _ _ _ _ _ _ _ _ _ _ A L F hS hF;have lE:=hS.fh lX;have y:zY true=false:=by rw[hS.not];rfl
 have Ej:zX (zz (ab X)) 64=true:=by rw[hS.le,hS.az,hS.len,lX];exact decide_eq_true (by omega)
 cbv;refine fX ai mixed hS (n:=k) (fun i (_:Unit)=>BM X n (Int.ofNat i)) (fun i _=>True) (a0:=()) (fy ?_ ?_) rfl (by show 2<=2;omega) trivial ?_ ?_
 ·simp[dS,BM,ae,vi,vb]
 ·simp[dU,BM,ae]
 ·rintro i ⟨⟩ hi -
  obtain⟨c1,i1,j1,n0⟩:=hS.ic lX hi (by omega);obtain⟨x,vn,hr,_⟩:=WT (l:=l) (i:=i) (by omega);obtain⟨x1,x2⟩:=hl x vn;have d0:=Re (x1.mono (by omega):Qs x.1 1000000);have d1:=gY x.2 n 64 (by omega) x2;rw[decide_eq_true (Or.inl hn.1)]at d1;have j2:aB X i=some ((qc x.1).row ++ [.aa false (aP x.2)]):=by rw[hS.nth,hX];exact hr
  obtain⟨s0,t0,r0,q0,w0,_⟩:=bX x.1;rw[w0]at d0 j2;simp only[List.cons_append,List.nil_append]at j2;generalize aP x.2=Z at *;clear w0 hr;refine⟨?_⟩;cbv;apply bT c1;simp only[j1,j2];cbv;apply nd n0;refine hS.cl d0 ?_;cbv;apply bF y;simp only[j1,j2];cbv;apply nd n0;refine hS.cl d1 ?_;cbv;apply bF y;refine aU [] () ?_ ?_ ?_ ?_ rfl (by show 2<=2;omega) trivial
  ·simp[bd,BM,ae,vi,vb,AV.aw,AV.aJ,Cell.aw]
   exact i1
  ·simp[bf,BM,ae]
  ·simp[aF,BM,ae]
  ·simp
 ·rintro⟨⟩ -
  refine⟨?_⟩;cbv;apply bF lE;exact bc hF (jf Ej)
def BN (X:Abs.Rows) (r c n I:Int):St:=ae 36 [.c (.t (.aa false X)),vi .i64 r,vi .i64 c,vi .i64 n,.af,.af,.af,.af,vb false,vi .i64 I] [none,none,none,none]
def WU (l:fi) (r c:Nat):Prop:=l.length=r/\∀p∈l,p.length=c/\∀q∈p,VP q 64
theorem j9 (l:fi) (r c:Nat) (n:Int) (hn:2<=n/\n<=4) (hl:WU l r c) (hr:r<=1000) (hc:c<=1000) :
  aH 85 [.val (tl (dL l)),.val (ti .i64 (r:Int)),.val (ti .i64 (c:Int)),.val (ti .i64 n)] ⟨[.val (tb true)],[none,none,none,none]⟩:=by
 obtain⟨X,hX⟩:=aq (dL l);have lX:X.length=r:=by rw[hX,mD,hl.1]
 obtain⟨R,hR⟩:=aq (r:Int);obtain⟨C,hC⟩:=aq (c:Int);rw[<-hX,<-hR,<-hC];refine an ai mixed [.val] Tryz.func85 rfl rfl (by kernel_rfl) ?_;intros;rename_i zU _ _ zY _ _ _ _ _ _ zz _ _ _ _ _ _ _ ab aB _ _ _ _ _ _ _ _ _ _ _ _ _ _ _ _ _ _ A L F hS hF;have lE:=hS.fh lX;have y:zY true=false:=by rw[hS.not];rfl
 have l0:zU (zz (ab X)) R=false:=by rw[hS.ne,hS.az,hS.len,lX,hR];exact decide_eq_false (by simp)
 cbv;apply bF l0;refine fX ai mixed hS (n:=r) (fun i (_:Unit)=>BN X R C n (Int.ofNat i)) (fun i _=>True) (a0:=()) (fy ?_ ?_) rfl (by show 4<=4;omega) trivial ?_ ?_
 ·simp[dS,BN,ae,vi,vb]
 ·simp[dU,BN,ae]
 ·rintro i ⟨⟩ hi -
  obtain⟨c1,i1,j1,n0⟩:=hS.ic lX hi (by omega);obtain⟨p,hp,_,vx,_⟩:=H5 (l:=l) (i:=i) (by have:=hl.1;omega);obtain⟨g1,g2⟩:=hl.2 p hp;have d1:=jL p n hn g2 (by omega);have j2:aB X i=some [.aa false (aj p)]:=by rw[hS.nth,hX];exact vx
  have l2:zU (zz (ab (aj p))) C=false:=by rw[hS.ne,hS.az,hS.len,lB,hC,g1];exact decide_eq_false (by simp)
  generalize aj p=Z at *;clear vx;refine⟨?_⟩;cbv;apply bT c1;simp only[j1,j2];cbv;apply nd n0;apply bF l2;simp only[j1,j2];cbv;apply nd n0;refine hS.cl d1 ?_;cbv;apply bF y;refine aU [] () ?_ ?_ ?_ ?_ rfl (by show 4<=4;omega) trivial
  ·simp[bd,BN,ae,vi,vb,AV.aw,AV.aJ,Cell.aw]
   exact i1
  ·simp[bf,BN,ae]
  ·simp[aF,BN,ae]
  ·simp
 ·rintro⟨⟩ -
  refine⟨?_⟩;cbv;apply bF lE;exact aC hF
end Go.Proofs.YtekefilngojelaaGreat
end
