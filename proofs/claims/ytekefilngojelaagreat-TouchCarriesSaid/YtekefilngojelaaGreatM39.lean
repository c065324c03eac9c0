/- A part. -/
import Derived.Test.YtekefilngojelaaGreatM15
import Derived.Test.YtekefilngojelaaGreatM22
import Derived.Test.YtekefilngojelaaGreatM38
set_option maxHeartbeats 0
set_option maxRecDepth 100000
set_option linter.unusedVariables false
set_option linter.unusedSimpArgs false
section
namespace Go.Proofs.YtekefilngojelaaGreat
open Go Go.Abs Go.Abs.M Go.Proofs
theorem Ck (N:Int) (E:aS) (D:Tree) (k:Int) (aG:aS) (C:fi) (q:jJ) (hE:∀p∈E,P3 p) (h4:E.length<=4) (hc:aG≠[]->(∀p∈aG,P3 p)/\aG.length=E.length) (hC:∀r∈C,(∀p∈r,P3 p)/\r.length=E.length) (h7:C.length<=7) :
  aH 21 [.val (.agg (fT N (.aa false (aj E)) D k (.aa false (aj aG)) (.aa false (dL C)) q))] ⟨[.val (tl (aj (pM E aG C)))],[none]⟩:=by
 have hr:∀r,r∈C->aH 49 [.val (tl (aj r)),.val (tl (aj E))] ⟨[.val (tl (aP (kG r E))),.val (ti .i64 0)],[none,none]⟩:=fun r h=>yf r E (hC r h).1 hE (hC r h).2 h4
 have hd:aG≠[]->aH 49 [.val (tl (aj aG)),.val (tl (aj E))] ⟨[.val (tl (aP (kG aG E))),.val (ti .i64 0)],[none,none]⟩:=fun h=>yf aG E (hc h).1 hE (hc h).2 h4
 have lc:aG≠[]->0<(aj aG).length:=fun h=>by rw[lB];exact List.length_pos_iff.2 h
 clear hE hc hC h4;cases q;unfold fT;rcases C with _|⟨r0,_|⟨r1,_|⟨r2,_|⟨r3,_|⟨r4,_|⟨r5,_|⟨r6,_|⟨r7,C⟩⟩⟩⟩⟩⟩⟩⟩
 rotate_right
 ·simp only[List.length_cons]at h7;omega
 all_goals
  try have c0:=hr r0 (by simp)
  try have c1:=hr r1 (by simp)
  try have c2:=hr r2 (by simp)
  try have c3:=hr r3 (by simp)
  try have c4:=hr r4 (by simp)
  try have c5:=hr r5 (by simp)
  try have c6:=hr r6 (by simp)
  clear hr h7;have pc:∀(a:List T2) (l:aS),aj (a::l)=[.aa false (aP a)]::aj l:=fun _ _=>rfl
  have pn:aj []=[]:=rfl;have tc:∀(a:aS) (l:fi),dL (a::l)=[.aa false (aj a)]::dL l:=fun _ _=>rfl
  have tn:dL []=[]:=rfl;rcases Classical.em (aG=[]) with h0|h0
  all_goals
   try subst h0
   try have cd:=hd h0
   try have l0:=lc h0
   clear hd lc
   first|simp only[pM,if_neg h0,pc,pn,tc,tn,List.map_cons,List.map_nil,List.cons_append,List.nil_append]|simp only[pM,if_pos,pc,pn,tc,tn,List.map_cons,List.map_nil,List.cons_append,List.nil_append]
   clear pc pn tc tn;generalize aj E=XE at *
   try generalize aj aG=XC at *
   try generalize aP (kG aG E)=SC at *
   try generalize aj r0=Y0 at *
   try generalize aP (kG r0 E)=S0 at *
   try generalize aj r1=Y1 at *
   try generalize aP (kG r1 E)=S1 at *
   try generalize aj r2=Y2 at *
   try generalize aP (kG r2 E)=S2 at *
   try generalize aj r3=Y3 at *
   try generalize aP (kG r3 E)=S3 at *
   try generalize aj r4=Y4 at *
   try generalize aP (kG r4 E)=S4 at *
   try generalize aj r5=Y5 at *
   try generalize aP (kG r5 E)=S5 at *
   try generalize aj r6=Y6 at *
   try generalize aP (kG r6 E)=S6 at *
   as_aux_lemma=>
    refine fb ai mixed [.val] Tryz.func21 rfl rfl (by kernel_rfl) ?_;intros;rename_i zV _ _ _ _ _ _ _ _ _ _ _ _ _ _ _ _ _ _ _ A L F hS hF
    try have m0:me zV 0 (Int.ofNat XC.length)=true:=dT (hS.lt ..) (by simp only[Int.ofNat_eq_natCast];omega)
    try cbv at m0
    cbv;repeat (first|exact aC hF|apply bT rfl|apply bF rfl|apply nd rfl|(apply tT rfl;cbv)|(apply tF rfl;cbv)|(refine fm ai mixed hS (9) ?_;cbv)|(apply tT m0;cbv)|(refine hS.cl cd ?_;cbv)|(refine hS.cl c0 ?_;cbv)|(refine hS.cl c1 ?_;cbv)|(refine hS.cl c2 ?_;cbv)|(refine hS.cl c3 ?_;cbv)|(refine hS.cl c4 ?_;cbv)|(refine hS.cl c5 ?_;cbv)|(refine hS.cl c6 ?_;cbv))
end Go.Proofs.YtekefilngojelaaGreat
end
