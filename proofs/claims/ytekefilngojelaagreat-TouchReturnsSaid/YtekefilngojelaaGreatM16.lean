/- A part of the proof. -/
import Derived.Test.YtekefilngojelaaGreatM15
set_option maxHeartbeats 0
set_option maxRecDepth 100000
set_option linter.unusedVariables false
set_option linter.unusedSimpArgs false
section
namespace Go.Proofs.YtekefilngojelaaGreat
open Go Go.Abs Go.Abs.M Go.Proofs
def BR (X:Abs.Rows) (I:Int):St:=ae 19 [.c (.t (.aa false X)),.af,vb false,vi .i64 I] [none]
theorem Iu (l:List (Rat×Rat)) (hl:∀x∈l,Qs x.1 100/\Qs x.2 100/\x.1<=x.2) (hk:l.length<=64):ah Tryz.prog 90 [.val (tl (Gn l))] ⟨[.val (tb true)],[none]⟩:=by
 obtain⟨X,hX⟩:∃X,X=Gn l:=⟨_,rfl⟩;obtain⟨n,fD⟩:∃n,n=l.length:=⟨_,rfl⟩;have lX:X.length=n:=by rw[hX,JF,fD]
 rw[<-hX];refine ar aj mixed [.val] Tryz.func90 rfl rfl (by kernel_rfl) ?_;intros;rename_i zX zY _ _ _ _ _ _ zz _ _ _ _ _ _ _ ab aD _ _ _ _ _ _ _ _ _ _ _ _ _ _ _ _ _ _ A L F hS hF;have lE:=hS.eU lX;have y:zY true=false:=by rw[hS.not];rfl
 have Es:zX (zz (ab X)) 64=true:=by rw[hS.le,hS.aB,hS.len,lX];exact decide_eq_true (by omega)
 cbv;refine fA aj mixed hS (n:=n) (fun i (_:Unit)=>BR X (Int.ofNat i)) (fun i _=>True) (a0:=()) (fi ?_ ?_) rfl (Nat.le_refl 1) trivial ?_ ?_
 ·simp[dO,BR,ae,vi,vb]
 ·simp[dP,BR,ae]
 ·rintro i ⟨⟩ hi -
  obtain⟨c1,i1,j1,n0⟩:=hS.gC lX hi (by omega);obtain⟨x,kY,hr,_⟩:=RM (l:=l) (i:=i) (by omega);obtain⟨x1,x2,x3⟩:=hl x kY;have d0:=RP x.1 x.2 x1 x2 x3;have j2:aD X i=some ((qc x.1).row++(qc x.2).row):=by rw[hS.nth,hX];exact hr
  obtain⟨s0,t0,r0,q0,w0,_⟩:=bD x.1;obtain⟨s1,t1,r1,q1,w1,_⟩:=bD x.2;rw[w0,w1]at d0 j2;simp only[List.cons_append,List.nil_append]at d0 j2;clear w0 w1 hr;refine⟨?_⟩;cbv;refine bT c1 ?_;simp only[j1,j2];cbv;refine nd n0 ?_;refine⟨_,hS.call d0,?_⟩;cbv;refine bF y ?_;refine aQ [] () ?_ ?_ ?_ ?_ rfl (Nat.le_refl 1) trivial
  ·simp[aZ,BR,ae,vi,vb,AV.ay,AV.aI,Cell.ay]
   exact i1
  ·simp[a8,BR,ae]
  ·simp[aF,BR,ae]
  ·simp
 ·rintro⟨⟩ -
  refine⟨?_⟩;cbv;refine bF lE ?_;exact bn hF (jz Es)
def BS (X:Abs.Rows) (n I:Int):St:=ae 32 [.c (.t (.aa false X)),vi .i64 n,.af,.af,vb false,vi .i64 I] [none,none]
theorem Aa (l:List (Rat×List T2)) (n:Int) (hn:2<=n/\n<=4) (hl:∀x∈l,Qs x.1 100/\VP x.2 64) (hk:l.length<=64):ah Tryz.prog 84 [.val (tl (Gp l)),.val (ti .i64 n)] ⟨[.val (tb true)],[none,none]⟩:=by
 obtain⟨X,hX⟩:∃X,X=Gp l:=⟨_,rfl⟩;obtain⟨k,ta⟩:∃n,n=l.length:=⟨_,rfl⟩;have lX:X.length=k:=by rw[hX,JG,ta]
 rw[<-hX];refine ar aj mixed [.val] Tryz.func84 rfl rfl (by kernel_rfl) ?_;intros;rename_i zX zY _ _ _ _ _ _ zz _ _ _ _ _ _ _ ab aD _ _ _ _ _ _ _ _ _ _ _ _ _ _ _ _ _ _ A L F hS hF;have lE:=hS.eU lX;have y:zY true=false:=by rw[hS.not];rfl
 have Es:zX (zz (ab X)) 64=true:=by rw[hS.le,hS.aB,hS.len,lX];exact decide_eq_true (by omega)
 cbv;refine fA aj mixed hS (n:=k) (fun i (_:Unit)=>BS X n (Int.ofNat i)) (fun i _=>True) (a0:=()) (fi ?_ ?_) rfl (by show 2<=2;omega) trivial ?_ ?_
 ·simp[dO,BS,ae,vi,vb]
 ·simp[dP,BS,ae]
 ·rintro i ⟨⟩ hi -
  obtain⟨c1,i1,j1,n0⟩:=hS.gC lX hi (by omega);obtain⟨x,kY,hr,_⟩:=RO (l:=l) (i:=i) (by omega);obtain⟨x1,x2⟩:=hl x kY;have d0:=RE (x1.mono (by omega):Qs x.1 1000000);have d1:=gQ x.2 n 64 (by omega) x2;rw[decide_eq_true (Or.inl hn.1)]at d1;have j2:aD X i=some ((qc x.1).row ++ [.aa false (aV x.2)]):=by rw[hS.nth,hX];exact hr
  obtain⟨s0,t0,r0,q0,w0,_⟩:=bD x.1;rw[w0]at d0 j2;simp only[List.cons_append,List.nil_append]at j2;generalize aV x.2=Z at *;clear w0 hr;refine⟨?_⟩;cbv;refine bT c1 ?_;simp only[j1,j2];cbv;refine nd n0 ?_;refine⟨_,hS.call d0,?_⟩;cbv;refine bF y ?_;simp only[j1,j2];cbv;refine nd n0 ?_;refine⟨_,hS.call d1,?_⟩;cbv;refine bF y ?_;refine aQ [] () ?_ ?_ ?_ ?_ rfl (by show 2<=2;omega) trivial
  ·simp[aZ,BS,ae,vi,vb,AV.ay,AV.aI,Cell.ay]
   exact i1
  ·simp[a8,BS,ae]
  ·simp[aF,BS,ae]
  ·simp
 ·rintro⟨⟩ -
  refine⟨?_⟩;cbv;refine bF lE ?_;exact bn hF (jz Es)
def BV (X:Abs.Rows) (r c n I:Int):St:=ae 36 [.c (.t (.aa false X)),vi .i64 r,vi .i64 c,vi .i64 n,.af,.af,.af,.af,vb false,vi .i64 I] [none,none,none,none]
def Xu (l:List (List (List T2))) (r c:Nat):Prop:=l.length=r/\∀p∈l,p.length=c/\∀q∈p,VP q 64
theorem jZ (l:List (List (List T2))) (r c:Nat) (n:Int) (hn:2<=n/\n<=4) (hl:Xu l r c) (hr:r<=1000) (hc:c<=1000) :
  ah Tryz.prog 85 [.val (tl (di l)),.val (ti .i64 (r:Int)),.val (ti .i64 (c:Int)),.val (ti .i64 n)] ⟨[.val (tb true)],[none,none,none,none]⟩:=by
 obtain⟨X,hX⟩:∃X,X=di l:=⟨_,rfl⟩;have lX:X.length=r:=by rw[hX,jY,hl.1]
 obtain⟨R,hR⟩:∃R:Int,R=(r:Int):=⟨_,rfl⟩;obtain⟨C,hC⟩:∃R:Int,R=(c:Int):=⟨_,rfl⟩;rw[<-hX,<-hR,<-hC];refine ar aj mixed [.val] Tryz.func85 rfl rfl (by kernel_rfl) ?_;intros;rename_i zU _ _ zY _ _ _ _ _ _ zz _ _ _ _ _ _ _ ab aD _ _ _ _ _ _ _ _ _ _ _ _ _ _ _ _ _ _ A L F hS hF;have lE:=hS.eU lX;have y:zY true=false:=by rw[hS.not];rfl
 have l0:zU (zz (ab X)) R=false:=by rw[hS.ne,hS.aB,hS.len,lX,hR];exact decide_eq_false (by simp)
 cbv;refine bF l0 ?_;refine fA aj mixed hS (n:=r) (fun i (_:Unit)=>BV X R C n (Int.ofNat i)) (fun i _=>True) (a0:=()) (fi ?_ ?_) rfl (by show 4<=4;omega) trivial ?_ ?_
 ·simp[dO,BV,ae,vi,vb]
 ·simp[dP,BV,ae]
 ·rintro i ⟨⟩ hi -
  obtain⟨c1,i1,j1,n0⟩:=hS.gC lX hi (by omega);obtain⟨p,hp,_,ym,_⟩:=DG (l:=l) (i:=i) (by have:=hl.1;omega);obtain⟨g1,g2⟩:=hl.2 p hp;have d1:=jD p n hn g2 (by omega);have j2:aD X i=some [.aa false (an p)]:=by rw[hS.nth,hX];exact ym
  have l2:zU (zz (ab (an p))) C=false:=by rw[hS.ne,hS.aB,hS.len,nU,hC,g1];exact decide_eq_false (by simp)
  generalize an p=Z at *;clear ym;refine⟨?_⟩;cbv;refine bT c1 ?_;simp only[j1,j2];cbv;refine nd n0 ?_;refine bF l2 ?_;simp only[j1,j2];cbv;refine nd n0 ?_;refine⟨_,hS.call d1,?_⟩;cbv;refine bF y ?_;refine aQ [] () ?_ ?_ ?_ ?_ rfl (by show 4<=4;omega) trivial
  ·simp[aZ,BV,ae,vi,vb,AV.ay,AV.aI,Cell.ay]
   exact i1
  ·simp[a8,BV,ae]
  ·simp[aF,BV,ae]
  ·simp
 ·rintro⟨⟩ -
  refine⟨?_⟩;cbv;refine bF lE ?_;exact hF _ (ak.refl _)
end Go.Proofs.YtekefilngojelaaGreat
end
