/-
  A part of the proof: Cfg1k, MDig, RefA1k, MCmp, RefB1k, MArith, RefC1k, RefD1k, IntU, RefE1k, MKnuth, MWds, RefF1k, RefG1k, MDiv, RefH1k, RefI1k, MEdiv, RefJ1k, RefK1k, RatU, RefL1k, GabsB, IntA1k, IntB1k, IntC1k, IntD1k, IntF1k, MQw, IntE1k, IntG1k, IntH1k, IntI1k.
-/
import Derived.Test.YtjfmkcmepdedaaaGreatM9
import Derived.Test.YtjfmkcmepdedaaaGreatProg
set_option maxHeartbeats 0
set_option maxRecDepth 100000
set_option linter.unusedVariables false
set_option linter.unusedSimpArgs false
set_option linter.unusedSectionVars false
section
namespace Go.Proofs.YtjfmkcmepdedaaaGreat
open Go Go.Abs Go.Proofs
def tab:BT TI:=(.node 44 ⟨.slice 36,1,24,[.lst true []]⟩ (.node 19 ⟨.struct [(0,17)],1,8,[.v (.pointer none)]⟩ (.node 9 ⟨.string,1,16,[.v (.string ⟨#[]⟩)]⟩ (.node 5 ⟨.int .u8,1,1,[.v
 (.int .u8 0)]⟩ (.node 3 ⟨.int .i64,1,8,[.v (.int .i64 0)]⟩ (.node 2 ⟨.int .i64,1,8,[.v (.int .i64 0)]⟩ .leaf .leaf) (.node 4 ⟨.bool,1,1,[.v (.bool false)]⟩ .leaf .leaf))
 (.node 7 ⟨.struct [(0,2),(1,3),(2,4),(3,6)],4,24,[.v (.int .i64 0),.v (.int .i64 0),.v (.bool false),.v (.int .u8 0)]⟩ (.node 6 ⟨.int .u8,1,1,[.v (.int .u8 0)]⟩
 .leaf .leaf) (.node 8 ⟨.struct [(0,2),(1,3),(2,4),(3,6)],4,24,[.v (.int .i64 0),.v (.int .i64 0),.v (.bool false),.v (.int .u8 0)]⟩ .leaf .leaf))) (.node 13 ⟨.struct
 [(0,9),(1,12)],2,24,[.v (.string ⟨#[]⟩),.v (.int .u64 0)]⟩ (.node 11 ⟨.string,1,16,[.v (.string ⟨#[]⟩)]⟩ (.node 10 ⟨.string,1,16,[.v (.string ⟨#[]⟩)]⟩ .leaf .leaf)
 (.node 12 ⟨.int .u64,1,8,[.v (.int .u64 0)]⟩ .leaf .leaf)) (.node 18 ⟨.struct [(0,17)],1,8,[.v (.pointer none)]⟩ (.node 14 ⟨.struct [(0,9),(1,12)],2,24,[.v (.string
 ⟨#[]⟩),.v (.int .u64 0)]⟩ .leaf .leaf) .leaf))) (.node 29 ⟨.slice 44,1,24,[.lst true []]⟩ (.node 24 ⟨.struct [(0,22)],1,24,[.lst true []]⟩ (.node 22 ⟨.slice 84,1,24,
 [.lst true []]⟩ (.node 21 ⟨.int .i32,1,4,[.v (.int .i32 0)]⟩ .leaf .leaf) (.node 23 ⟨.struct [(0,22)],1,24,[.lst true []]⟩ .leaf .leaf)) (.node 26 ⟨.struct [(0,5),(1,5),
 (2,4)],3,3,[.v (.int .u8 0),.v (.int .u8 0),.v (.bool false)]⟩ (.node 25 ⟨.struct [(0,5),(1,5),(2,4)],3,3,[.v (.int .u8 0),.v (.int .u8 0),.v (.bool false)]⟩ .leaf
 .leaf) (.node 28 ⟨.slice 44,1,24,[.lst true []]⟩ .leaf .leaf))) (.node 35 ⟨.struct [(0,34),(2,34)],4,64,[.v (.bool false),.lst true [],.v (.bool false),.lst true []]⟩
 (.node 33 ⟨.struct [(0,4),(1,32)],2,32,[.v (.bool false),.lst true []]⟩ (.node 32 ⟨.slice 124,1,24,[.lst true []]⟩ .leaf .leaf) (.node 34 ⟨.struct [(0,4),(1,32)],2,
 32,[.v (.bool false),.lst true []]⟩ .leaf .leaf)) (.node 37 ⟨.int .i64,1,8,[.v (.int .i64 0)]⟩ (.node 36 ⟨.struct [(0,34),(2,34)],4,64,[.v (.bool false),.lst true [],
 .v (.bool false),.lst true []]⟩ .leaf .leaf) .leaf)))) (.node 136 ⟨.slice 34,1,24,[.lst true []]⟩ (.node 86 ⟨.struct [(0,84),(1,84),(2,5)],3,3,[.v (.int .i8 0),.v
 (.int .i8 0),.v (.int .u8 0)]⟩ (.node 76 ⟨.array 4 5,4,4,[.v (.int .u8 0),.v (.int .u8 0),.v (.int .u8 0),.v (.int .u8 0)]⟩ (.node 52 ⟨.array 2 24,2,48,[.lst true [],
 .lst true []]⟩ (.node 45 ⟨.slice 36,1,24,[.lst true []]⟩ .leaf .leaf) (.node 75 ⟨.array 3 24,3,72,[.lst true [],.lst true [],.lst true []]⟩ .leaf .leaf)) (.node 84 ⟨.int
 .i8,1,1,[.v (.int .i8 0)]⟩ (.node 81 ⟨.slice 2,1,24,[.lst true []]⟩ .leaf .leaf) (.node 85 ⟨.struct [(0,84),(1,84),(2,5)],3,3,[.v (.int .i8 0),.v (.int .i8 0),.v
 (.int .u8 0)]⟩ .leaf .leaf))) (.node 127 ⟨.slice 129,1,24,[.lst true []]⟩ (.node 96 ⟨.slice 45,1,24,[.lst true []]⟩ (.node 92 ⟨.slice 3,1,24,[.lst true []]⟩ .leaf .leaf)
 (.node 124 ⟨.int .u32,1,4,[.v (.int .u32 0)]⟩ .leaf .leaf)) (.node 129 ⟨.struct [(0,3),(1,44),(2,45)],3,56,[.v (.int .i64 0),.lst true [],.lst true []]⟩ (.node 128
 ⟨.struct [(0,3),(1,44),(2,45)],3,56,[.v (.int .i64 0),.lst true [],.lst true []]⟩ .leaf .leaf) .leaf))) (.node 162 ⟨.struct [(0,160)],0,0,[]⟩ (.node 159 ⟨.struct [(0,
 17),(1,17),(2,17),(3,9)],4,40,[.v (.pointer none),.v (.pointer none),.v (.pointer none),.v (.string ⟨#[]⟩)]⟩ (.node 146 ⟨.int .u64,1,8,[.v (.int .u64 0)]⟩ (.node 139
 ⟨.int .u64,1,8,[.v (.int .u64 0)]⟩ .leaf .leaf) (.node 158 ⟨.struct [(0,17),(1,17),(2,17),(3,9)],4,40,[.v (.pointer none),.v (.pointer none),.v (.pointer none),.v
 (.string ⟨#[]⟩)]⟩ .leaf .leaf)) (.node 161 ⟨.struct [(0,160)],0,0,[]⟩ (.node 160 ⟨.array 0 16,0,0,[]⟩ .leaf .leaf) .leaf)) (.node 169 ⟨.int .i32,1,4,[.v (.int .i32 0)]⟩
 (.node 165 ⟨.int .u8,1,1,[.v (.int .u8 0)]⟩ (.node 164 ⟨.int .u8,1,1,[.v (.int .u8 0)]⟩ .leaf .leaf) (.node 168 ⟨.int .i32,1,4,[.v (.int .i32 0)]⟩ .leaf .leaf)) (.node 171
 ⟨.struct [(0,12),(1,12),(2,124),(3,164),(4,5),(5,5),(6,165),(7,166),(8,167),(9,168),(10,169)],11,48,[.v (.int .u64 0),.v (.int .u64 0),.v (.int .u32 0),
 .v (.int .u8 0),.v (.int .u8 0),.v (.int .u8 0),.v (.int .u8 0),.v .nilFunc,.v (.pointer none),.v (.int .i32 0),.v (.int .i32 0)]⟩ (.node 170 ⟨.struct [(0,12),(1,12),(2,
 124),(3,164),(4,5),(5,5),(6,165),(7,166),(8,167),(9,168),(10,169)],11,48,[.v (.int .u64 0),.v (.int .u64 0),.v (.int .u32 0),.v (.int .u8 0),.v (.int .u8 0),
 .v (.int .u8 0),.v (.int .u8 0),.v .nilFunc,.v (.pointer none),.v (.int .i32 0),.v (.int .i32 0)]⟩ .leaf .leaf) .leaf)))))
theorem tabB:(tab.all fun i ti=>tyB Tryz.prog i ti)=true:=by kernel_rfl
theorem mixed:Tryz.prog.follows .mixedOrders=true:=by kernel_rfl
def mdt:BT (List Abs.Mode):=(.node 90 [.val] (.node 47 [.val] (.node 25 [.val] (.node 14 [.val] (.node 8 [.val,.val,.val] (.node 5 [.val,.val,.val] (.node 4 [.val,.val] (.node 3 [.val,.val] .leaf .leaf)
 .leaf) (.node 7 [.val,.val] (.node 6 [.val,.val] .leaf .leaf) .leaf)) (.node 12 [.val,.val,.val] (.node 10 [.val,.val] (.node 9 [.val,.val] .leaf .leaf) .leaf) (.node 13
 [.val,.val] .leaf .leaf))) (.node 20 [.val] (.node 17 [.val] (.node 16 [.val] (.node 15 [.val] .leaf .leaf) .leaf) (.node 19 [.val,.val] (.node 18 [.val,.val] .leaf .leaf)
 .leaf)) (.node 23 [.val] (.node 22 [.val] (.node 21 [.val] .leaf .leaf) .leaf) (.node 24 [.val] .leaf .leaf)))) (.node 36 [.val] (.node 31 [.val,.val] (.node 28 [.val] (.node 27
 [.val,.val,.val] (.node 26 [.val,.val] .leaf .leaf) .leaf) (.node 30 [.val] (.node 29 [.val,.val] .leaf .leaf) .leaf)) (.node 34 [.val] (.node 33 [.val] (.node 32 [.val] .leaf
 .leaf) .leaf) (.node 35 [.val,.val] .leaf .leaf))) (.node 42 [.val,.val] (.node 39 [.val,.val] (.node 38 [.val] (.node 37 [.val] .leaf .leaf) .leaf) (.node 41 [.val] (.node 40
 [.val,.val] .leaf .leaf) .leaf)) (.node 45 [.val,.val] (.node 44 [.val,.val] (.node 43 [.val,.val] .leaf .leaf) .leaf) (.node 46 [.val,.val] .leaf .leaf))))) (.node 69 [.val]
 (.node 58 [.sh 2] (.node 53 [.val] (.node 50 [.val] (.node 49 [.val] (.node 48 [.val] .leaf .leaf) .leaf) (.node 52 [.val] (.node 51 [.val] .leaf .leaf) .leaf)) (.node 56 [.rd]
 (.node 55 [.sh 8] (.node 54 [.sh 0] .leaf .leaf) .leaf) (.node 57 [.sh 0] .leaf .leaf))) (.node 64 [.val,.val] (.node 61 [.sh 12] (.node 60 [.val] (.node 59 [.val] .leaf .leaf)
 .leaf) (.node 63 [.val] (.node 62 [.val,.ref] .leaf .leaf) .leaf)) (.node 67 [.val,.val] (.node 66 [.val,.val] (.node 65 [.val] .leaf .leaf) .leaf) (.node 68 [.val] .leaf
 .leaf)))) (.node 80 [.sh 0] (.node 75 [.val] (.node 72 [.val,.val] (.node 71 [.val] (.node 70 [.val,.val] .leaf .leaf) .leaf) (.node 74 [.val,.val,.val] (.node 73 [.val,.val]
 .leaf .leaf) .leaf)) (.node 78 [.val] (.node 77 [.sh 2] (.node 76 [.val,.val] .leaf .leaf) .leaf) (.node 79 [.val,.val] .leaf .leaf))) (.node 85 [.val] (.node 83 [.val] (.node 82
 [.val,.val] (.node 81 [.val,.val] .leaf .leaf) .leaf) (.node 84 [.val] .leaf .leaf)) (.node 88 [.val] (.node 87 [.val] (.node 86 [.val,.val] .leaf .leaf) .leaf) (.node 89 [.bor,
 .val,.val,.val] .leaf .leaf)))))) (.node 134 [.val,.val] (.node 112 [.val,.val] (.node 101 [.val] (.node 96 [.val,.val] (.node 93 [.val,.ref] (.node 92 [.val] (.node 91
 [.val] .leaf .leaf) .leaf) (.node 95 [.val,.val] (.node 94 [.bor,.val,.rd] .leaf .leaf) .leaf)) (.node 99 [.val] (.node 98 [.val] (.node 97 [.val,.val,.val] .leaf .leaf)
 .leaf) (.node 100 [.val] .leaf .leaf))) (.node 107 [.val,.val] (.node 104 [.val,.val] (.node 103 [.val,.val] (.node 102 [.val,.val] .leaf .leaf) .leaf) (.node 106 [.val] (.node
 105 [.val,.val] .leaf .leaf) .leaf)) (.node 110 [.val] (.node 109 [.val] (.node 108 [.val,.ref] .leaf .leaf) .leaf) (.node 111 [.val,.val,.val,.val] .leaf .leaf)))) (.node 123
 [.val] (.node 118 [.val] (.node 115 [.val,.val] (.node 114 [.val,.ref] (.node 113 [.val] .leaf .leaf) .leaf) (.node 117 [.val,.val] (.node 116 [.val,.val] .leaf .leaf) .leaf))
 (.node 121 [.val,.val] (.node 120 [.val,.val] (.node 119 [.val,.val] .leaf .leaf) .leaf) (.node 122 [.val,.val] .leaf .leaf))) (.node 129 [.val] (.node 126 [.val,.val] (.node
 125 [.val] (.node 124 [.val,.val] .leaf .leaf) .leaf) (.node 128 [.val,.val] (.node 127 [.val] .leaf .leaf) .leaf)) (.node 132 [.val,.val] (.node 131 [.val,.val] (.node 130
 [.val,.val] .leaf .leaf) .leaf) (.node 133 [.val,.val] .leaf .leaf))))) (.node 156 [.val,.val] (.node 145 [.val,.val] (.node 140 [.val,.val] (.node 137 [.val] (.node 136
 [.val,.val] (.node 135 [.val,.val] .leaf .leaf) .leaf) (.node 139 [.val,.val] (.node 138 [.val] .leaf .leaf) .leaf)) (.node 143 [.val] (.node 142 [.val,.val] (.node 141 [.val,
 .val] .leaf .leaf) .leaf) (.node 144 [.val,.val] .leaf .leaf))) (.node 151 [.val,.val] (.node 148 [.val] (.node 147 [.val,.val] (.node 146 [.val,.val] .leaf .leaf) .leaf)
 (.node 150 [.bor,.val] (.node 149 [.val,.val] .leaf .leaf) .leaf)) (.node 154 [.val,.val] (.node 153 [.val] (.node 152 [.val,.val] .leaf .leaf) .leaf) (.node 155 [.val] .leaf
 .leaf)))) (.node 167 [.val] (.node 162 [.val] (.node 159 [.bor,.val] (.node 158 [.bor,.val,.val] (.node 157 [.bor,.val] .leaf .leaf) .leaf) (.node 161 [.val] (.node 160 [.val]
 .leaf .leaf) .leaf)) (.node 165 [.val] (.node 164 [.val] (.node 163 [.val] .leaf .leaf) .leaf) (.node 166 [.val] .leaf .leaf))) (.node 172 [.val] (.node 170 [.val] (.node 169
 [.val] (.node 168 [.val] .leaf .leaf) .leaf) (.node 171 [.val] .leaf .leaf)) (.node 175 [.val] (.node 174 [.val] (.node 173 [.val] .leaf .leaf) .leaf) (.node 176 [.val] .leaf
 .leaf)))))))
def CC:Cfg:=⟨tab.find,btMd mdt,fun t=>Nat.beq t 28 || Nat.beq t 29⟩
theorem ccOk:CfgOk Tryz.prog CC:=bt_ok tabB
end Go.Proofs.YtjfmkcmepdedaaaGreat
end
section
namespace Go.Abs.M
def val:List Int->Int
 | []=>0
 | x :: l=>x+4294967296*val l
def Wd (l:List Int):Prop:=∀ x ∈ l,0<=x/\x < 4294967296
def dgF:Nat->Nat->List Int
 | 0,_=>[]
 | f+1,n=>if n=0 then [] else ((n % 4294967296:Nat):Int) :: dgF f (n / 4294967296)
def dg (n:Nat):List Int:=dgF n n
theorem dgF_eq:∀ (f g n:Nat),n<=f->n<=g->dgF f n=dgF g n
 | 0,g,n,h,_=>by
  have:n=0:=by omega
  subst this
  cases g <;> simp [dgF]
 | f+1,0,n,_,h=>by
  have:n=0:=by omega
  subst this
  simp [dgF]
 | f+1,g+1,n,h1,h2=>by
  simp only [dgF]
  split
  ·rfl
  ·rw [dgF_eq f g (n / 4294967296) (by omega) (by omega)]
theorem dg_zero:dg 0=[]:=rfl
theorem dg_pos {n:Nat} (h:n ≠ 0):dg n=((n % 4294967296:Nat):Int) :: dg (n / 4294967296):=by
 unfold dg
 obtain ⟨m,rfl⟩:∃ m,n=m+1:=⟨n - 1,by omega⟩
 simp only [dgF]
 rw [if_neg h,dgF_eq m ((m+1) / 4294967296) _ (by omega) (Nat.le_refl _)]
theorem qai (n:Nat):val (dg n)=n:=by
 induction n using Nat.strongRecOn with
 | _ n ih=>
  by_cases h:n=0
  ·subst h; rfl
  ·rw [dg_pos h,val,ih (n / 4294967296) (by omega)]
   omega
theorem qar (n:Nat):Wd (dg n):=by
 induction n using Nat.strongRecOn with
 | _ n ih=>
  by_cases h:n=0
  ·subst h; intro x hx; cases hx
  ·rw [dg_pos h]
   intro x hx
   rcases List.mem_cons.1 hx with rfl | hx
   ·omega
   ·exact ih (n / 4294967296) (by omega) x hx
theorem dg_eq_nil {n:Nat}:dg n=[] ↔ n=0:=by
 by_cases h:n=0
 ·simp [h,dg_zero]
 ·simp [h,dg_pos h]
theorem val_append:∀ (a b:List Int),val (a ++ b)=val a+4294967296 ^ a.length*val b
 | [],b=>by simp [val]
 | x :: a,b=>by
  simp only [List.cons_append,val,val_append a b,List.length_cons,Int.pow_succ]
  grind
theorem Wd.tail {x:Int} {l:List Int} (h:Wd (x :: l)):Wd l:=fun y hy=>h y (List.mem_cons_of_mem _ hy)
theorem Wd.head {x:Int} {l:List Int} (h:Wd (x :: l)):0<=x/\x < 4294967296:=h x (List.mem_cons_self ..)
theorem Wd.cons {x:Int} {l:List Int} (h0:0<=x) (h1:x < 4294967296) (h:Wd l):Wd (x :: l):=by
 intro y hy
 rcases List.mem_cons.1 hy with rfl | hy
 ·exact ⟨h0,h1⟩
 ·exact h y hy
theorem Wd.append {a b:List Int} (ha:Wd a) (hb:Wd b):Wd (a ++ b):=by
 intro x hx
 rcases List.mem_append.1 hx with h | h
 ·exact ha x h
 ·exact hb x h
theorem Wd.take {l:List Int} (h:Wd l) (n:Nat):Wd (l.take n):=fun x hx=>h x (List.mem_of_mem_take hx)
theorem Wd.drop {l:List Int} (h:Wd l) (n:Nat):Wd (l.drop n):=fun x hx=>h x (List.mem_of_mem_drop hx)
theorem Wd.rep (n:Nat):Wd (List.replicate n 0):=fun x hx=>by
 rw [List.eq_of_mem_replicate hx]; omega
theorem Wd.get {l:List Int} (h:Wd l) (i:Nat):0<=l.getD i 0/\l.getD i 0 < 4294967296:=by
 rw [List.getD_eq_getElem?_getD]
 rcases Nat.lt_or_ge i l.length with h1 | h1
 ·rw [List.getElem?_eq_getElem h1]; exact h _ (List.getElem_mem h1)
 ·rw [List.getElem?_eq_none h1]; simp
theorem Wd.set {l:List Int} (h:Wd l) (i:Nat) {x:Int} (h0:0<=x) (h1:x < 4294967296):Wd (l.set i x):=by
 intro y hy
 rcases List.mem_or_eq_of_mem_set hy with h' | rfl
 ·exact h y h'
 ·exact ⟨h0,h1⟩
theorem Wd.nil:Wd []:=fun x hx=>by cases hx
theorem qaf:∀ {l:List Int},Wd l->0<=val l
 | [],_=>Int.le_refl 0
 | x :: l,h=>by
  have:=qaf h.tail
  have:=h.head
  simp only [val]; omega
theorem qam (n:Nat):(0:Int) < 4294967296 ^ n:=Int.pow_pos (by omega)
theorem qbm:∀ {l:List Int},Wd l->val l < 4294967296 ^ l.length
 | [],_=>by simp [val]
 | x :: l,h=>by
  have:=qbm h.tail
  have:=h.head
  simp only [val,List.length_cons,Int.pow_succ]; omega
theorem val_rep (n:Nat):val (List.replicate n 0)=0:=by
 induction n with
 | zero=>rfl
 | succ n ih=>simp only [List.replicate_succ,val,ih]; rfl
theorem qa1 (l:List Int) (k:Nat) (h:k<=l.length):val l=val (l.take k)+4294967296 ^ k*val (l.drop k):=by
 have:=val_append (l.take k) (l.drop k)
 rw [List.take_append_drop,List.length_take,Nat.min_eq_left h] at this
 exact this
theorem val_set:∀ (l:List Int) (i:Nat) (x:Int),i < l.length->val (l.set i x)=val l+(x - l.getD i 0)*4294967296 ^ i
 | [],i,x,h=>by simp at h
 | y :: l,0,x,_=>by simp [val,List.set]; omega
 | y :: l,i+1,x,h=>by
  have:=val_set l i x (by simpa using h)
  simp only [List.set_cons_succ,val,List.getD_cons_succ,Int.pow_succ,this]
  grind
theorem take_succ_getD {l:List Int} {k:Nat} (h:k < l.length):l.take (k+1)=l.take k ++ [l.getD k 0]:=by
 rw [List.take_succ_eq_append_getElem h,List.getD_eq_getElem?_getD,List.getElem?_eq_getElem h]; rfl
theorem val_take_succ {l:List Int} {k:Nat} (h:k < l.length):val (l.take (k+1))=val (l.take k)+4294967296 ^ k*l.getD k 0:=by
 rw [take_succ_getD h,val_append,List.length_take,Nat.min_eq_left (Nat.le_of_lt h)]
 simp [val]
theorem drop_getD {l:List Int} {k:Nat} (h:k < l.length):l.drop k=l.getD k 0 :: l.drop (k+1):=by
 rw [List.drop_eq_getElem_cons h,List.getD_eq_getElem?_getD,List.getElem?_eq_getElem h]; rfl
theorem qaj {l:List Int} {k:Nat} (h:k < l.length):val (l.drop k)=l.getD k 0+4294967296*val (l.drop (k+1)):=by
 rw [drop_getD h]; rfl
def Tr (l:List Int):Prop:=l=[] ∨ l.getD (l.length - 1) 0 ≠ 0
theorem Tr.tail {x:Int} {l:List Int} (h:Tr (x :: l)):Tr l:=by
 rcases h with h | h
 ·cases h
 ·cases l with
  | nil=>exact .inl rfl
  | cons y l=>right; simpa using h
theorem dg_unique:∀ {l:List Int},Wd l->Tr l->dg (val l).toNat=l
 | [],_,_=>rfl
 | x :: l,hw,ht=>by
  have hv:=qaf hw.tail
  have hx:=hw.head
  have ih:=dg_unique hw.tail ht.tail
  have hne:(val (x :: l)).toNat ≠ 0:=by
   simp only [val]
   cases l with
   | nil=>
    rcases ht with h | h
    ·cases h
    ·simp at h; simp only [val]; omega
   | cons y l=>
    intro h0
    have h1:val (y :: l)=0:=by omega
    rw [h1] at ih
    cases ih
  rw [dg_pos hne]
  have e1:(val (x :: l)).toNat % 4294967296=x.toNat:=by simp only [val]; omega
  have e2:(val (x :: l)).toNat / 4294967296=(val l).toNat:=by simp only [val]; omega
  rw [e1,e2,ih]
  congr 1
  omega
theorem dg_tr (n:Nat):Tr (dg n):=by
 induction n using Nat.strongRecOn with
 | _ n ih=>
  by_cases h:n=0
  ·subst h; exact .inl rfl
  ·rw [dg_pos h]
   have:=ih (n / 4294967296) (by omega)
   by_cases h2:n / 4294967296=0
   ·right; rw [h2,dg_zero]; simp; omega
   ·right
    rcases this with h3 | h3
    ·exact absurd (dg_eq_nil.1 h3) h2
    ·have hl:dg (n / 4294967296) ≠ []:=fun hh=>h2 (dg_eq_nil.1 hh)
     cases hd:dg (n / 4294967296) with
     | nil=>exact absurd hd hl
     | cons y l=>rw [hd] at h3; simpa using h3
theorem ipow_le {a b:Nat} (h:a<=b):(4294967296:Int) ^ a<=4294967296 ^ b:=by
 obtain ⟨k,rfl⟩:∃ k,b=a+k:=⟨b - a,by omega⟩
 rw [Int.pow_add]
 have h1:=qam a
 have h2:=qam k
 have:4294967296 ^ a*1<=4294967296 ^ a*(4294967296:Int) ^ k:=Int.mul_le_mul_of_nonneg_left (by omega) (by omega)
 omega
def nl (n:Nat):Nat:=(dg n).length
theorem lt_nl (n:Nat):(n:Int) < 4294967296 ^ nl n:=by
 have:=qbm (qar n)
 rwa [qai] at this
theorem qaq {n k:Nat} (h:(n:Int) < 4294967296 ^ k):nl n<=k:=by
 induction k generalizing n with
 | zero=>
  have:n=0:=by rw [Int.pow_zero] at h; omega
  subst this; exact Nat.le_refl _
 | succ k ih=>
  by_cases h0:n=0
  ·subst h0; exact Nat.zero_le _
  ·unfold nl
   rw [dg_pos h0,List.length_cons]
   have:nl (n / 4294967296)<=k:=ih (by
    rw [Int.pow_succ] at h
    omega)
   unfold nl at this
   omega
theorem qax {a b:Nat} (h:a<=b):nl a<=nl b:=qaq (by have:=lt_nl b; omega)
theorem nl_wd {l:List Int} (h:Wd l):nl (val l).toNat<=l.length:=qaq (by have:=qbm h; have:=qaf h; omega)
theorem ge_nl {n:Nat} (h:n ≠ 0):4294967296 ^ (nl n - 1)<=(n:Int):=by
 rcases Int.lt_or_le (n:Int) (4294967296 ^ (nl n - 1)) with h1 | h1
 ·have h2:=qaq h1
  have:nl n ≠ 0:=fun hh=>h (dg_eq_nil.1 (List.length_eq_zero_iff.1 hh))
  omega
 ·exact h1
theorem nl_zero {n:Nat}:nl n=0 ↔ n=0:=by unfold nl; rw [List.length_eq_zero_iff,dg_eq_nil]
theorem nl_add (a b:Nat):nl (a+b)<=max (nl a) (nl b)+1:=by
 refine qaq ?_
 have h1:=lt_nl a
 have h2:=lt_nl b
 have h3:(4294967296:Int) ^ nl a<=4294967296 ^ max (nl a) (nl b):=ipow_le (Nat.le_max_left ..)
 have h4:(4294967296:Int) ^ nl b<=4294967296 ^ max (nl a) (nl b):=ipow_le (Nat.le_max_right ..)
 rw [Int.pow_succ]
 omega
theorem qbr (a b:Nat):nl (a*b)<=nl a+nl b:=by
 refine qaq ?_
 have h1:=lt_nl a
 have h2:=lt_nl b
 rw [Int.pow_add]
 have h3:(a:Int)*b<=4294967296 ^ nl a*b:=Int.mul_le_mul_of_nonneg_right (by omega) (by omega)
 have h4:4294967296 ^ nl a*(b:Int) < 4294967296 ^ nl a*4294967296 ^ nl b:=Int.mul_lt_mul_of_pos_left h2 (qam _)
 push_cast
 omega
end Go.Abs.M
end
section
namespace Go.Proofs.YtjfmkcmepdedaaaGreat
open Go Go.Abs Go.Abs.M Go.Proofs
def rtrimSt (r:Abs.Rows) (n:Int):St:=mkSt 21 [vl r,.junk,vnil,vi .i64 n] [none]
theorem trim_dg {l:List Int} {n:Nat} (hw:Wd l) (hn:n<=l.length) (hv:val (l.take n)=val l) (h0:n=0 ∨ l.getD (n - 1) 0 ≠ 0):l.take n=dg (val l).toNat:=by
 rw [<- hv]
 refine (dg_unique (hw.take n) ?_).symm
 rcases h0 with rfl | h0
 ·exact .inl (by simp)
 ·by_cases hz:n=0
  ·subst hz; exact .inl (by simp)
  ·right
   rw [List.length_take,Nat.min_eq_left hn]
   simp only [List.getD_eq_getElem?_getD,List.getElem?_take] at h0 ⊢
   rw [if_pos (by omega)]
   exact h0
theorem qbs {r:Abs.Rows} {l:List Int} (hr:r=W .u32 l) (hl:l.length<=2199023255552) (hw:Wd l):ACall Tryz.prog 143 [.val (.c (.lst false r))] ⟨[.val (.c (.lst false (W .u32 (dg (val l).toNat))))],[none]⟩:=by
 refine callZ ccOk mixed [.val] Tryz.func143 rfl rfl (by kernel_rfl) fun zA zB zC zD zE zF zG zH zI zJ zK zL zM zN zO zP zQ zR zT zU zV zX zY zZ zb zc zd ze zg zh zi zj zk zl zm zn zo zq zr zs zt zu zx zy zz zmget zmset zW zth A L F hS hF=>?_
 have hlen:zj r=l.length:=by rw [hS.len,hr,qal]
 cbv
 refine loopZ ccOk mixed hS (fun m s=>∃ n:Nat,n=m/\n<=l.length/\val (l.take n)=val l/\s=rtrimSt r (zZ n)) (n:=l.length) (s0:=rtrimSt r (zZ l.length)) (qao ?_ ?_) rfl (Nat.le_refl 1) ?_ ?_
 ·simp [leT,rtrimSt,mkSt,vnil,vi,vl,hlen]
 ·simp [leH,rtrimSt,mkSt]
 ·exact ⟨_,rfl,Nat.le_refl _,by rw [List.take_length],rfl⟩
 ·rintro m _ ⟨n,rfl,hn,hv,rfl⟩
  have hp:0 < n->zA .i64 (zC (zZ n) 1)=zZ (n - 1):=fun h=>by rw [hS.wrap,hS.sub,hS.ofN,hS.ofN,wrap_i64 (by omega) (by omega)]; omega
  have hg:0 < n->zn r (zX (zZ (n - 1)))=l.getD (n - 1) 0:=fun h=>by rw [hS.getI,hS.nat,hS.ofN,hr,qap,Int.toNat_natCast]
  have hc:zg 0 (zZ n) (zj r)=true:=by rw [hS.cut,hlen,hS.ofN]; exact decide_eq_true (by omega)
  have hwd:zx 1 r=true:=by rw [hS.wide,hr]; exact W_wide _ _
  have hF':n=0 ∨ l.getD (n - 1) 0 ≠ 0->F ⟨[.val (.c (.lst false (zr r 0 (zX (zZ n)))))],[none]⟩:=fun h=>fin1 hF (by
   rw [hS.part,hS.nat,hS.ofN,hr,qbj,Int.toNat_natCast,List.drop_zero,trim_dg hw hn hv h])
  cbv
  refine ⟨fun h=>?_,fun h=>nd hc (nd hwd (hF' ?_))⟩
  all_goals rw [hS.lt,hS.ofN] at h
  ·have h:0 < n:=by simpa using h
   rw [hp h,hg h]
   refine nd (by rw [hS.le,hS.ofN]; exact decide_eq_true (by omega)) (nd (by rw [hS.isI,hS.nat,hS.ofN,hr,qav]; exact decide_eq_true (by omega)) ⟨fun h2=>?_,fun h2=>nd hc (nd hwd (hF' (.inr ?_)))⟩)
   all_goals rw [hS.eq] at h2
   ·refine again (s':=rtrimSt r (zZ (n - 1))) (m:=n - 1) (by simp [leT,rtrimSt,mkSt,vnil,vi,vl]) (by simp [leH,rtrimSt,mkSt]) rfl (Nat.le_refl 1) (by omega) ⟨_,rfl,by omega,?_,rfl⟩
    have:=val_take_succ (l:=l) (k:=n - 1) (by omega)
    rw [show n - 1+1=n by omega,of_decide_eq_true h2] at this
    omega
   ·exact of_decide_eq_false h2
  ·exact .inl (by simpa using h)
end Go.Proofs.YtjfmkcmepdedaaaGreat
end
section
namespace Go.Abs.M
def cmpI (a b:Int):Int:=if a < b then -1 else if b < a then 1 else 0
theorem val_ge {l:List Int} (hw:Wd l) (ht:Tr l) (hl:0 < l.length):4294967296 ^ (l.length - 1)<=val l:=by
 have h1:=dg_unique hw ht
 have hv:=qaf hw
 have hne:(val l).toNat ≠ 0:=fun h0=>by
  rw [h0,dg_zero] at h1
  rw [<- h1] at hl
  simp at hl
 have:=ge_nl hne
 unfold nl at this
 rw [h1] at this
 omega
theorem val_lt_of_len {l m:List Int} (hl:Wd l) (hm:Wd m) (ht:Tr m) (h:l.length < m.length):val l < val m:=by
 have h1:=qbm hl
 have h2:=val_ge hm ht (by omega)
 have h3:=ipow_le (show l.length<=m.length - 1 by omega)
 omega
theorem val_lt_of_word {l m:List Int} {i:Nat} (hl:Wd l) (hm:Wd m) (hlen:l.length=m.length) (hi:i < l.length) (he:l.drop (i+1)=m.drop (i+1)) (h:l.getD i 0 < m.getD i 0):val l < val m:=by
 rw [qa1 l i (by omega),qa1 m i (by omega),qaj hi,qaj (l:=m) (by omega),he]
 have a1:=qbm (hl.take i)
 have a2:=qaf (hm.take i)
 rw [List.length_take,Nat.min_eq_left (by omega)] at a1
 have hp:=qam i
 have:4294967296 ^ i*(l.getD i 0+1)<=4294967296 ^ i*m.getD i 0:=Int.mul_le_mul_of_nonneg_left (by omega) (by omega)
 generalize val (m.drop (i+1))=y at *
 generalize val (l.take i)=x at *
 generalize val (m.take i)=z at *
 generalize l.getD i 0=a at *
 generalize m.getD i 0=b at *
 generalize (4294967296:Int) ^ i=p at *
 have e1:p*(a+4294967296*y)=p*a+p*(4294967296*y):=Int.mul_add ..
 have e2:p*(b+4294967296*y)=p*b+p*(4294967296*y):=Int.mul_add ..
 have e3:p*(a+1)=p*a+p:=by rw [Int.mul_add,Int.mul_one]
 omega
theorem cmpI_lt {a b:Int} (h:a < b):cmpI a b=-1:=if_pos h
theorem cmpI_gt {a b:Int} (h:b < a):cmpI a b=1:=by unfold cmpI; rw [if_neg (by omega),if_pos h]
theorem cmpI_eq (a:Int):cmpI a a=0:=by unfold cmpI; rw [if_neg (by omega),if_neg (by omega)]
end Go.Abs.M
end
section
namespace Go.Proofs.YtjfmkcmepdedaaaGreat
open Go Go.Abs Go.Abs.M Go.Proofs
theorem rword_call {r:Abs.Rows} {l:List Int} (i:Int) (hr:r=W .u32 l) (hl:l.length<=2199023255552) (hw:Wd l) (hi:0<=i):ACall Tryz.prog 144 [.val (tl r),.val (ti .i64 i)] ⟨[.val (ti .u64 (l.getD i.toNat 0))],[none,none]⟩:=by
 refine callZ ccOk mixed [.val] Tryz.func144 rfl rfl (by kernel_rfl) fun zA zB zC zD zE zF zG zH zI zJ zK zL zM zN zO zP zQ zR zT zU zV zX zY zZ zb zc zd ze zg zh zi zj zk zl zm zn zo zq zr zs zt zu zx zy zz zmget zmset zW zth A L F hS hF=>?_
 have hg:=hw.get i.toNat
 cbv
 simp only [hS.wrap,hS.add,hS.sub,hS.mul,hS.quo,hS.rem,hS.shl,hS.shr,hS.band,hS.bor,hS.bxor,hS.bandn,hS.eq,hS.ne,hS.lt,hS.le,hS.not,hS.beq,hS.bne,hS.max,hS.min,hS.nat,hS.inb,hS.ofN,hS.idx,hS.neq,hS.nadd,hS.dif,hS.cut,hS.room,hS.mkok,hS.len,hS.nth,hS.setr,hS.isI,hS.getI,hS.setI,hS.fit,hS.part,hS.ext,hS.setg,hS.rep,hS.wide,hS.all,hr,qal,qav,qap]
 refine ⟨fun h=>nd (decide_eq_true hi) (nd ?_ (fin1 hF (qa6 (qaa hg.1 (by omega))))),fun h=>fin1 hF (qa6 ?_)⟩
 ·have:=of_decide_eq_true h; exact decide_eq_true (by omega)
 ·have:=of_decide_eq_false h
  rw [List.getD_eq_getElem?_getD,List.getElem?_eq_none (by omega)]; rfl
theorem rwords_call (n:Int) (hn:0<=n) (hn2:n < 2 ^ 64):ACall Tryz.prog 129 [.val (ti .u64 n)] ⟨[.val (tl (W .u32 (dg n.toNat)))],[none]⟩:=by
 refine callZ ccOk mixed [.val] Tryz.func129 rfl rfl (by kernel_rfl) fun zA zB zC zD zE zF zG zH zI zJ zK zL zM zN zO zP zQ zR zT zU zV zX zY zZ zb zc zd ze zg zh zi zj zk zl zm zn zo zq zr zs zt zu zx zy zz zmget zmset zW zth A L F hS hF=>?_
 have e1:zA .u32 (zF n 4294967296)=n % 4294967296:=by rw [hS.wrap,hS.rem,Int.tmod_eq_emod_of_nonneg hn]; exact qaz (by omega) (by omega)
 have e2:zA .u32 (zA .u64 (zE n 4294967296))=n / 4294967296:=by rw [hS.wrap,hS.wrap,hS.quo,Int.tdiv_eq_ediv_of_nonneg hn,qaa (by omega) (by omega)]; exact qaz (by omega) (by omega)
 have hT:=qbs (r:=W .u32 [n % 4294967296,n / 4294967296]) rfl (by simp) (Wd.cons (by omega) (by omega) (Wd.cons (by omega) (by omega) Wd.nil))
 cbv
 rw [e1,e2]
 refine nd (by rw [hS.fit]; rfl) ?_
 rw [hS.part]
 refine ⟨_,hS.call hT,?_⟩
 rw [show val [n % 4294967296,n / 4294967296]=n by simp only [val]; omega]
 generalize W .u32 (dg n.toNat)=x at *
 cbv
 exact hF _ (ResLe.refl _)
theorem rmade_call {r:Abs.Rows} {l:List Int} (s t:Bool) (hr:r=W .u32 l) (hl:l.length<=2199023255552) (hw:Wd l) (ht:t=(s && decide (0 < val l))):ACall Tryz.prog 128 [.val (tb s),.val (tl r)] ⟨[.val (.agg (iT t (W .u32 (dg (val l).toNat))))],[none,none]⟩:=by
 refine callZ ccOk mixed [.val] Tryz.func128 rfl rfl (by kernel_rfl) fun zA zB zC zD zE zF zG zH zI zJ zK zL zM zN zO zP zQ zR zT zU zV zX zY zZ zb zc zd ze zg zh zi zj zk zl zm zn zo zq zr zs zt zu zx zy zz zmget zmset zW zth A L F hS hF=>?_
 have hT:=qbs hr hl hw
 have hz:zO 0 (zZ (zj (W .u32 (dg (val l).toNat))))=decide (0 < val l):=by
  rw [hS.lt,hS.ofN,hS.len,qal]
  have:=qaf hw
  have h2:=@nl_zero (val l).toNat
  unfold nl at h2
  by_cases h:0 < val l
  ·rw [decide_eq_true h]; exact decide_eq_true (by omega)
  ·rw [decide_eq_false h]; exact decide_eq_false (by omega)
 generalize W .u32 (dg (val l).toNat)=x at *
 generalize decide (0 < val l)=y at *
 cbv
 refine ⟨_,hS.call hT,?_⟩
 cbv
 rw [hz]
 refine ⟨fun h=>fin1 hF ?_,fun h=>fin1 hF ?_⟩
 ·rw [ht,h]; rfl
 ·rw [ht,h]; rfl
def rcmpSt (r s:Abs.Rows) (i:Int):St:=mkSt 41 [vl r,vl s,.junk,.junk,vi .i64 0,vi .i64 i] [none,none]
theorem rcompared_call {r s:Abs.Rows} {l m:List Int} (c:Int) (hr:r=W .u32 l) (hs:s=W .u32 m) (hl:l.length<=2199023255552) (hm:m.length<=2199023255552) (hlw:Wd l) (hmw:Wd m) (hlt:Tr l) (hmt:Tr m) (hc:c=cmpI (val l) (val m)) :
  ACall Tryz.prog 131 [.val (tl r),.val (tl s)] ⟨[.val (ti .i64 c)],[none,none]⟩:=by
 refine callZ ccOk mixed [.val] Tryz.func131 rfl rfl (by kernel_rfl) fun zA zB zC zD zE zF zG zH zI zJ zK zL zM zN zO zP zQ zR zT zU zV zX zY zZ zb zc zd ze zg zh zi zj zk zl zm zn zo zq zr zs zt zu zx zy zz zmget zmset zW zth A L F hS hF=>?_
 have h1:zj r=l.length:=by rw [hS.len,hr,qal]
 have h2:zj s=m.length:=by rw [hS.len,hs,qal]
 cbv
 rw [h1,h2]
 refine ⟨fun h=>?_,fun h=>⟨fun h'=>?_,fun h'=>?_⟩⟩
 all_goals rw [hS.lt,hS.ofN,hS.ofN] at h
 ·have h:(l.length:Int) < m.length:=of_decide_eq_true h
  exact fin1 hF (qa6 (by rw [hc,cmpI_lt (val_lt_of_len hlw hmw hmt (by omega))]))
 all_goals rw [hS.lt,hS.ofN,hS.ofN] at h'
 ·have h':(m.length:Int) < l.length:=of_decide_eq_true h'
  exact fin1 hF (qa6 (by rw [hc,cmpI_gt (val_lt_of_len hmw hlw hlt (by omega))]))
 ·have h:=of_decide_eq_false h
  have h':=of_decide_eq_false h'
  have hlen:l.length=m.length:=by omega
  have hi0:zA .i64 (zC (zZ l.length) 1)=zC (zZ l.length) 1:=by rw [hS.wrap,hS.sub,hS.ofN]; exact wrap_i64 (by omega) (by omega)
  rw [hi0]
  refine loopZ ccOk mixed hS (fun (k:Nat) s'=>k<=l.length/\l.drop k=m.drop k/\s'=rcmpSt r s (zC (zZ k) 1)) (n:=l.length) (s0:=rcmpSt r s (zC (zZ l.length) 1)) (qao ?_ ?_) rfl (Nat.le_refl 2) ?_ ?_
  ·simp [leT,rcmpSt,mkSt,vi,vl]
  ·simp [leH,rcmpSt,mkSt]
  ·refine ⟨Nat.le_refl _,?_,rfl⟩
   rw [List.drop_length,hlen,List.drop_length]
  ·rintro k _ ⟨hk,he,rfl⟩
   have hi:zC (zZ k) 1=(k:Int) - 1:=by rw [hS.sub,hS.ofN]
   have hz:zP 0 (zC (zZ k) 1)=decide (1<=k):=by
    rw [hS.le,hi]
    by_cases h:1<=k
    ·rw [decide_eq_true h]; exact decide_eq_true (by omega)
    ·rw [decide_eq_false h]; exact decide_eq_false (by omega)
   have hnt:1<=k->zX (zC (zZ k) 1)=k - 1:=fun h=>by rw [hS.nat,hi]; omega
   have g1:1<=k->zn r (zX (zC (zZ k) 1))=l.getD (k - 1) 0:=fun h=>by rw [hnt h,hS.getI,hr,qap]
   have g2:1<=k->zn s (zX (zC (zZ k) 1))=m.getD (k - 1) 0:=fun h=>by rw [hnt h,hS.getI,hs,qap]
   have hF0:∀ x:Int,x=c->F ⟨[.val (.c (.v (.int .i64 x)))],[none,none]⟩:=fun x hx=>fin1 hF (qa6 hx)
   have hn2:1<=k->zm .u32 r (zX (zC (zZ k) 1))=true:=fun h=>by rw [hnt h,hS.isI,hr,qav]; exact decide_eq_true (by omega)
   have hn3:1<=k->zm .u32 s (zX (zC (zZ k) 1))=true:=fun h=>by rw [hnt h,hS.isI,hs,qav]; exact decide_eq_true (by omega)
   have hw1:1<=k->zA .i64 (zC (zC (zZ k) 1) 1)=zC (zZ (k - 1)) 1:=fun h=>by rw [hi,hS.wrap,hS.sub,hS.sub,hS.ofN,wrap_i64 (by omega) (by omega)]; omega
   cbv
   refine ⟨fun h=>?_,fun h=>hF0 _ ?_⟩
   ·have a1:=h
    rw [hz] at h
    have h:=of_decide_eq_true h
    have a2:=hn2 h
    have a3:=hn3 h
    rw [hw1 h,g1 h,g2 h]
    refine nd a1 (nd a2 (nd a1 (nd a3 ⟨fun h3=>hF0 _ ?_,fun h3=>nd a1 (nd a2 (nd a1 (nd a3 ⟨fun h4=>hF0 _ ?_,fun h4=>?_⟩)))⟩)))
    all_goals rw [hS.lt] at h3
    ·rw [hc,cmpI_lt (val_lt_of_word (i:=k - 1) hlw hmw hlen (by omega) (by rw [show k - 1+1=k by omega]; exact he) (of_decide_eq_true h3))]
    all_goals rw [hS.lt] at h4
    ·rw [hc,cmpI_gt (val_lt_of_word (i:=k - 1) hmw hlw hlen.symm (by omega) (by rw [show k - 1+1=k by omega]; exact he.symm) (of_decide_eq_true h4))]
    ·refine again (s':=rcmpSt r s (zC (zZ (k - 1)) 1)) (m:=k - 1) (by simp [leT,rcmpSt,mkSt,vi,vl]) (by simp [leH,rcmpSt,mkSt]) rfl (Nat.le_refl 2) (by omega) ⟨by omega,?_,rfl⟩
     have e3:=of_decide_eq_false h3
     have e4:=of_decide_eq_false h4
     rw [drop_getD (show k - 1 < l.length by omega),drop_getD (show k - 1 < m.length by omega),show k - 1+1=k by omega,he,show l.getD (k - 1) 0=m.getD (k - 1) 0 by omega]
   ·rw [hz] at h
    have h:=of_decide_eq_false h
    obtain rfl:k=0:=by omega
    simp only [List.drop_zero] at he
    rw [hc,he,cmpI_eq]
end Go.Proofs.YtjfmkcmepdedaaaGreat
end
section
namespace Go.Abs.M
theorem qad (l:List Int) (k:Nat):val (l.take (k+1))=val (l.take k)+4294967296 ^ k*l.getD k 0:=by
 rcases Nat.lt_or_ge k l.length with h | h
 ·exact val_take_succ h
 ·rw [List.take_of_length_le (by omega),List.take_of_length_le h,List.getD_eq_getElem?_getD,List.getElem?_eq_none h]; simp
theorem take_set_succ {l:List Int} {k:Nat} (x:Int) (h:k < l.length):(l.set k x).take (k+1)=l.take k ++ [x]:=by
 rw [take_succ_getD (by simpa using h)]
 congr 1
 ·rw [List.take_set_of_le (Nat.le_refl _)]
 ·simp [List.getD_eq_getElem?_getD,h]
theorem qak {l:List Int} {k:Nat} (x:Int) (h:k < l.length):val ((l.set k x).take (k+1))=val (l.take k)+4294967296 ^ k*x:=by
 rw [take_set_succ x h,val_append,List.length_take,Nat.min_eq_left (Nat.le_of_lt h)]
 simp [val]
theorem qa0 {l:List Int} {k:Nat} (x:Int):(l.set k x).drop (k+1)=l.drop (k+1):=List.drop_set_of_lt (Nat.lt_succ_self k)
theorem getD_set_self {l:List Int} {k:Nat} (x:Int) (h:k < l.length):(l.set k x).getD k 0=x:=by simp [List.getD_eq_getElem?_getD,h]
theorem add_step {p t vo vl vm a b c:Int} (h:vo+c*p=vl+vm) (ht:t=a+b+c):vo+p*(t % 4294967296)+t / 4294967296*(p*4294967296)=(vl+p*a)+(vm+p*b):=by
 have:t % 4294967296+4294967296*(t / 4294967296)=t:=Int.emod_add_mul_ediv t 4294967296
 generalize t % 4294967296=r at *
 generalize t / 4294967296=q at *
 grind
theorem sub_step {p t vo vl vm a b c:Int} (h:vo=vl - vm+c*p) (ht:t=4294967296+a - b - c):vo+p*(t % 4294967296)=(vl+p*a) - (vm+p*b)+(1 - t / 4294967296)*(p*4294967296):=by
 have:t % 4294967296+4294967296*(t / 4294967296)=t:=Int.emod_add_mul_ediv t 4294967296
 generalize t % 4294967296=r at *
 generalize t / 4294967296=q at *
 grind
theorem mul_step {p t vo v0 x m w c q pi:Int} (h:vo+c*p=v0+x*pi*q) (ht:t=x*m+w+c) {pj:Int} (hp:p=pi*pj):vo+(t % 4294967296 - w)*p+t / 4294967296*(p*4294967296)=v0+x*pi*(q+pj*m):=by
 have:t % 4294967296+4294967296*(t / 4294967296)=t:=Int.emod_add_mul_ediv t 4294967296
 generalize t % 4294967296=r at *
 generalize t / 4294967296=q' at *
 subst hp
 grind
theorem mul_bound {x m w c:Int} (hx:0<=x/\x < 4294967296) (hm:0<=m/\m < 4294967296) (hw:0<=w/\w < 4294967296) (hc:0<=c/\c < 4294967296):0<=x*m/\x*m+w+c < 18446744073709551616:=by
 have h1:x*m<=4294967295*4294967295:=Int.mul_le_mul (by omega) (by omega) hm.1 (by omega)
 exact ⟨Int.mul_nonneg hx.1 hm.1,by omega⟩
theorem top_zero {o:List Int} {k:Nat} (hw:Wd o) (hk:k < o.length) (h:val o < 4294967296 ^ k):o.getD k 0=0:=by
 have h1:=qa1 o k (by omega)
 rw [qaj hk] at h1
 have h2:=qaf (hw.take k)
 have h3:=qaf (hw.drop (k+1))
 have h4:=hw.get k
 have hp:=qam k
 rcases Int.lt_or_le 0 (o.getD k 0) with h5 | h5
 ·exfalso
  have:4294967296 ^ k*1<=4294967296 ^ k*(o.getD k 0+4294967296*val (o.drop (k+1))):=Int.mul_le_mul_of_nonneg_left (by omega) (by omega)
  omega
 ·omega
theorem mul_lt_pow {a b:Int} {i j:Nat} (ha:0<=a) (hb:0<=b) (h1:a < 4294967296 ^ i) (h2:b < 4294967296 ^ j):a*b < 4294967296 ^ (i+j):=by
 rw [Int.pow_add]
 have hp:=qam i
 have hq:=qam j
 have e1:a*b<=a*4294967296 ^ j:=Int.mul_le_mul_of_nonneg_left (by omega) ha
 have e2:a*4294967296 ^ j < 4294967296 ^ i*4294967296 ^ j:=Int.mul_lt_mul_of_pos_right h1 hq
 omega
theorem short_step {d t r a q vo:Int} (h:q=d*vo+r) (ht:t=r*4294967296+a):a+4294967296*q=d*(t / d+4294967296*vo)+t % d:=by
 have:t % d+d*(t / d)=t:=Int.emod_add_mul_ediv t d
 generalize t % d=r' at *
 generalize t / d=q' at *
 grind
theorem short_bound {d r a:Int} (hd:0 < d) (hr:0<=r/\r < d) (ha:0<=a/\a < 4294967296):0<=(r*4294967296+a) / d/\(r*4294967296+a) / d < 4294967296:=by
 refine ⟨Int.ediv_nonneg (by omega) (by omega),Int.ediv_lt_of_lt_mul hd ?_⟩
 have:(r+1)*4294967296<=d*4294967296:=Int.mul_le_mul_of_nonneg_right (by omega) (by omega)
 have e:(r+1)*4294967296=r*4294967296+4294967296:=by omega
 have e2:4294967296*d=d*4294967296:=Int.mul_comm ..
 omega
end Go.Abs.M
end
section
namespace Go.Proofs.YtjfmkcmepdedaaaGreat
open Go Go.Abs Go.Abs.M Go.Proofs
def raddSt (r s R:Abs.Rows) (n:Int) (len:Nat) (c i:Int):St:=mkSt 42 [vl r,vl s,.junk,.junk,vnil,vi .i64 n,.c (.sl 2 0 len false),vi .u64 c,vi .i64 i] [none,none,some (.rows 1 R true false)]
theorem radded_call {r s:Abs.Rows} {l m:List Int} (hr:r=W .u32 l) (hs:s=W .u32 m) (hl:l.length<=1099511627776) (hm:m.length<=1099511627776) (hlw:Wd l) (hmw:Wd m) :
  ACall Tryz.prog 130 [.val (tl r),.val (tl s)] ⟨[.val (tl (W .u32 (dg (val l+val m).toNat)))],[none,none]⟩:=by
 obtain ⟨n,hn⟩:∃ n:Nat,n=max l.length m.length+1:=⟨_,rfl⟩
 refine callZ ccOk mixed [.val] Tryz.func130 rfl rfl (by kernel_rfl) fun zA zB zC zD zE zF zG zH zI zJ zK zL zM zN zO zP zQ zR zT zU zV zX zY zZ zb zc zd ze zg zh zi zj zk zl zm zn zo zq zr zs zt zu zx zy zz zmget zmset zW zth A L F hS hF=>?_
 have h1:zj r=l.length:=by rw [hS.len,hr,qal]
 have h2:zj s=m.length:=by rw [hS.len,hs,qal]
 have hN:zA .i64 (zB (zU (zZ (zj r)) (zZ (zj s))) 1)=zZ n:=by
  rw [h1,h2,hS.wrap,hS.add,hS.max,hS.ofN,hS.ofN,hS.ofN,hn]
  split
  ·rw [wrap_i64 (by omega) (by omega)]; omega
  ·rw [wrap_i64 (by omega) (by omega)]; omega
 have hnn:zX (zZ n)=n:=by rw [hS.nat,hS.ofN]; omega
 have hrep:zu n [.v (.int .u32 0)]=zW .u32 (List.replicate n 0):=by rw [hS.rep,hS.W]; exact W_rep ..
 cbv
 rw [hN,hnn,hrep]
 refine nd (by rw [hS.mkok,hS.ofN]; exact decide_eq_true (by unfold capBytes; omega)) ?_
 refine loopZ ccOk mixed hS (fun (j:Nat) s'=>∃ (k:Nat) (o:List Int) (c:Int),k+j=n/\o.length=n/\Wd o/\(0<=c/\c<=1)/\val (o.take k)+c*4294967296 ^ k=val (l.take k)+val (m.take k)/\s'=raddSt r s (zW .u32 o) (zZ n) n c (zZ k)) (n:=n)
  (s0:=raddSt r s (zW .u32 (List.replicate n 0)) (zZ n) n 0 (zZ 0)) (qao ?_ ?_) rfl (Nat.le_succ 2) ?_ ?_
 ·simp [leT,raddSt,mkSt,vi,vl,vnil,hS.ofN]
 ·simp [leH,raddSt,mkSt]
 ·exact ⟨0,_,0,by omega,by simp,Wd.rep _,by omega,by simp [val],rfl⟩
 ·rintro j _ ⟨k,o,c,hk,ho,hw,hc,hv,rfl⟩
  have ga:=hlw.get k
  have gb:=hmw.get k
  have hwa:=rword_call (zZ k) hr (by omega) hlw (by rw [hS.ofN]; omega)
  have hwb:=rword_call (zZ k) hs (by omega) hmw (by rw [hS.ofN]; omega)
  rw [show (zZ k).toNat=k by rw [hS.ofN]; omega] at hwa hwb
  obtain ⟨t,ht⟩:∃ t,t=l.getD k 0+m.getD k 0+c:=⟨_,rfl⟩
  have hst:=add_step hv ht
  have e1:zA .u64 (zB (zA .u64 (zB (l.getD k 0) (m.getD k 0))) c)=t:=by
   rw [hS.wrap,hS.add,hS.wrap,hS.add,qaa (x:=l.getD k 0+m.getD k 0) (by omega) (by omega),qaa (by omega) (by omega),ht]
  have e2:zA .u32 (zF t 4294967296)=t % 4294967296:=by rw [hS.rem,Int.tmod_eq_emod_of_nonneg (by omega),hS.wrap]; exact qaz (by omega) (by omega)
  have e3:zA .u64 (zE t 4294967296)=t / 4294967296:=by rw [hS.quo,Int.tdiv_eq_ediv_of_nonneg (by omega),hS.wrap]; exact qaa (by omega) (by omega)
  have e4:zA .i64 (zB (zZ k) 1)=zZ (k+1):=by rw [hS.wrap,hS.add,hS.ofN,hS.ofN,wrap_i64 (by omega) (by omega)]; omega
  have e5:zb 0 (zZ k)=k:=by rw [hS.idx,hS.ofN]; omega
  have e6:zO (zZ k) (zZ n)=decide (k < n):=by
   rw [hS.lt,hS.ofN,hS.ofN]
   by_cases h:k < n
   ·rw [decide_eq_true h]; exact decide_eq_true (by omega)
   ·rw [decide_eq_false h]; exact decide_eq_false (by omega)
  have e7:∀ x,zo .u32 (zW .u32 o) k x=zW .u32 (o.set k x):=fun x=>by rw [hS.setI,hS.W,W_set]
  have e8:k < n->zY (zZ k) n=true:=fun h=>by rw [hS.inb,hS.ofN]; exact decide_eq_true (by omega)
  have e9:k < n->zm .u32 (zW .u32 o) k=true:=fun h=>by rw [hS.isI,hS.W,qav]; exact decide_eq_true (by omega)
  have e10:zq 0 n (zW .u32 o)=true:=by rw [hS.fit,hS.W,qal]; exact decide_eq_true (by omega)
  have e11:zr (zW .u32 o) 0 n=W .u32 o:=by rw [hS.part,hS.W,qbj,List.drop_zero,List.take_of_length_le (by omega)]
  have hT:=qbs (r:=W .u32 o) rfl (by omega) hw
  have hend:k=n->val o=val l+val m:=fun h=>by
   subst h
   rw [List.take_of_length_le (by omega),List.take_of_length_le (by omega),List.take_of_length_le (by omega)] at hv
   have b1:=qbm hlw
   have b2:=qbm hmw
   have b3:=ipow_le (show l.length<=max l.length m.length by omega)
   have b4:=ipow_le (show m.length<=max l.length m.length by omega)
   have b5:(4294967296:Int) ^ k=4294967296 ^ max l.length m.length*4294967296:=by rw [hn,Int.pow_succ]
   have b6:=qaf hw
   have b7:=qam (max l.length m.length)
   rcases (show c=0 ∨ c=1 by omega) with rfl | rfl
   ·omega
   ·omega
  have hset:k < n->val ((o.set k (t % 4294967296)).take (k+1))=val (o.take k)+4294967296 ^ k*(t % 4294967296):=fun h=>qak _ (by omega)
  generalize hga:l.getD k 0=a at *
  generalize hgb:m.getD k 0=b at *
  cbv
  refine ⟨fun h=>?_,fun h=>?_⟩
  all_goals rw [e6] at h
  ·have h:=of_decide_eq_true h
   refine ⟨_,hS.call hwa,?_⟩
   cbv
   refine ⟨_,hS.call hwb,?_⟩
   cbv
   rw [e1,e2,e3,e4,e5,e7]
   refine nd (e8 h) (nd (e9 h) ?_)
   refine again (s':=raddSt r s (zW .u32 (o.set k (t % 4294967296))) (zZ n) n (t / 4294967296) (zZ (k+1))) (m:=j - 1) (by simp [leT,raddSt,mkSt,vi,vl,vnil]) (by simp [leH,raddSt,mkSt]) rfl (Nat.le_succ 2) (by omega) ⟨_,_,_,by omega,by simpa using ho,hw.set _ (by omega) (by omega),by omega,?_,rfl⟩
   rw [hset h,qad l,qad m,Int.pow_succ,hga,hgb]
   exact hst
  ·have h:=of_decide_eq_false h
   rw [e11]
   refine nd e10 ⟨_,hS.call hT,?_⟩
   rw [hend (by omega)]
   generalize W .u32 (dg (val l+val m).toNat)=x at *
   cbv
   exact hF _ (ResLe.refl _)
theorem qbp {zO:Int->Int->Bool} {zZ:Nat->Int} (h1:∀ a b,zO a b=decide (a < b)) (h2:∀ n:Nat,zZ n=(n:Int)) (k n:Nat):zO (zZ k) (zZ n)=decide (k < n):=by
 rw [h1,h2,h2]
 by_cases h:k < n
 ·rw [decide_eq_true h]; exact decide_eq_true (by omega)
 ·rw [decide_eq_false h]; exact decide_eq_false (by omega)
def rtakSt (r s R:Abs.Rows) (len:Nat) (c i:Int):St:=mkSt 41 [vl r,vl s,.junk,.junk,vnil,.c (.sl 2 0 len false),vi .u64 c,vi .i64 i] [none,none,some (.rows 1 R true false)]
theorem rtaken_call {r s:Abs.Rows} {l m:List Int} (hr:r=W .u32 l) (hs:s=W .u32 m) (hl:l.length<=1099511627776) (hm:m.length<=l.length) (hlw:Wd l) (hmw:Wd m) (hge:val m<=val l) :
  ACall Tryz.prog 132 [.val (tl r),.val (tl s)] ⟨[.val (tl (W .u32 (dg (val l - val m).toNat)))],[none,none]⟩:=by
 obtain ⟨n,hn⟩:∃ n:Nat,n=l.length:=⟨_,rfl⟩
 refine callZ ccOk mixed [.val] Tryz.func132 rfl rfl (by kernel_rfl) fun zA zB zC zD zE zF zG zH zI zJ zK zL zM zN zO zP zQ zR zT zU zV zX zY zZ zb zc zd ze zg zh zi zj zk zl zm zn zo zq zr zs zt zu zx zy zz zmget zmset zW zth A L F hS hF=>?_
 have h1:zj r=n:=by rw [hS.len,hr,qal,hn]
 have hnn:zX (zZ n)=n:=by rw [hS.nat,hS.ofN]; omega
 have hrep:zu n [.v (.int .u32 0)]=zW .u32 (List.replicate n 0):=by rw [hS.rep,hS.W]; exact W_rep ..
 cbv
 rw [h1,hnn,hrep]
 refine nd (by rw [hS.mkok,hS.ofN]; exact decide_eq_true (by unfold capBytes; omega)) ?_
 refine loopZ ccOk mixed hS (fun (j:Nat) s'=>∃ (k:Nat) (o:List Int) (c:Int),k+j=n/\o.length=n/\Wd o/\(0<=c/\c<=1)/\val (o.take k)=val (l.take k) - val (m.take k)+c*4294967296 ^ k/\s'=rtakSt r s (zW .u32 o) n c (zZ k)) (n:=n)
  (s0:=rtakSt r s (zW .u32 (List.replicate n 0)) n 0 (zZ 0)) (qao ?_ ?_) rfl (Nat.le_succ 2) ?_ ?_
 ·simp [leT,rtakSt,mkSt,vi,vl,vnil,hS.ofN]
 ·simp [leH,rtakSt,mkSt]
 ·exact ⟨0,_,0,by omega,by simp,Wd.rep _,by omega,by simp [val],rfl⟩
 ·rintro j _ ⟨k,o,c,hk,ho,hw,hc,hv,rfl⟩
  have ga:=hlw.get k
  have gb:=hmw.get k
  have hwb:=rword_call (zZ k) hs (by omega) hmw (by rw [hS.ofN]; omega)
  rw [show (zZ k).toNat=k by rw [hS.ofN]; omega] at hwb
  obtain ⟨t,ht⟩:∃ t,t=4294967296+l.getD k 0 - m.getD k 0 - c:=⟨_,rfl⟩
  have hst:=sub_step hv ht
  have e0:zn r (zX (zZ k))=l.getD k 0:=by rw [hS.getI,hS.nat,hS.ofN,hr,qap,Int.toNat_natCast]
  have e1:zA .u64 (zC (zA .u64 (zC (zA .u64 (zB 4294967296 (zA .u64 (l.getD k 0)))) (m.getD k 0))) c)=t:=by
   rw [hS.wrap,hS.wrap,hS.wrap,hS.wrap,hS.add,hS.sub,hS.sub,qaa (x:=l.getD k 0) (by omega) (by omega),qaa (x:=4294967296+l.getD k 0) (by omega) (by omega),qaa (x:=4294967296+l.getD k 0 - m.getD k 0) (by omega) (by omega),qaa (by omega) (by omega),ht]
  have e2:zA .u32 (zF t 4294967296)=t % 4294967296:=by rw [hS.rem,Int.tmod_eq_emod_of_nonneg (by omega),hS.wrap]; exact qaz (by omega) (by omega)
  have e3:zA .u64 (zC 1 (zA .u64 (zE t 4294967296)))=1 - t / 4294967296:=by rw [hS.quo,Int.tdiv_eq_ediv_of_nonneg (by omega),hS.wrap,hS.wrap,qaa (x:=t / 4294967296) (by omega) (by omega),hS.sub]; exact qaa (by omega) (by omega)
  have e4:k < n->zA .i64 (zB (zZ k) 1)=zZ (k+1):=fun h=>by rw [hS.wrap,hS.add,hS.ofN,hS.ofN,wrap_i64 (by omega) (by omega)]; omega
  have e5:zb 0 (zZ k)=k:=by rw [hS.idx,hS.ofN]; omega
  have e6:=qbp hS.lt hS.ofN k n
  have e7:∀ x,zo .u32 (zW .u32 o) k x=zW .u32 (o.set k x):=fun x=>by rw [hS.setI,hS.W,W_set]
  have e8:k < n->zY (zZ k) n=true:=fun h=>by rw [hS.inb,hS.ofN]; exact decide_eq_true (by omega)
  have e9:k < n->zm .u32 (zW .u32 o) k=true:=fun h=>by rw [hS.isI,hS.W,qav]; exact decide_eq_true (by omega)
  have e9':k < n->zm .u32 r (zX (zZ k))=true:=fun h=>by rw [hS.isI,hr,hS.nat,hS.ofN,qav]; exact decide_eq_true (by omega)
  have e9'':zP 0 (zZ k)=true:=by rw [hS.le,hS.ofN]; exact decide_eq_true (by omega)
  have e10:zq 0 n (zW .u32 o)=true:=by rw [hS.fit,hS.W,qal]; exact decide_eq_true (by omega)
  have e11:zr (zW .u32 o) 0 n=W .u32 o:=by rw [hS.part,hS.W,qbj,List.drop_zero,List.take_of_length_le (by omega)]
  have hT:=qbs (r:=W .u32 o) rfl (by omega) hw
  have hend:k=n->val o=val l - val m:=fun h=>by
   subst h
   rw [List.take_of_length_le (by omega),List.take_of_length_le (by omega),List.take_of_length_le (by omega)] at hv
   have b1:=qbm hw
   rw [ho] at b1
   have b7:=qam k
   rcases (show c=0 ∨ c=1 by omega) with rfl | rfl
   ·omega
   ·omega
  have hset:k < n->val ((o.set k (t % 4294967296)).take (k+1))=val (o.take k)+4294967296 ^ k*(t % 4294967296):=fun h=>qak _ (by omega)
  generalize hga:l.getD k 0=a at *
  generalize hgb:m.getD k 0=b at *
  cbv
  refine ⟨fun h=>?_,fun h=>?_⟩
  all_goals rw [h1] at h
  all_goals rw [e6] at h
  ·have h:=of_decide_eq_true h
   refine nd e9'' (nd (e9' h) ?_)
   rw [e0]
   refine ⟨_,hS.call hwb,?_⟩
   cbv
   rw [e1,e2,e3,e4 h,e5,e7]
   refine nd (e8 h) (nd (e9 h) ?_)
   refine again (s':=rtakSt r s (zW .u32 (o.set k (t % 4294967296))) n (1 - t / 4294967296) (zZ (k+1))) (m:=j - 1) (by simp [leT,rtakSt,mkSt,vi,vl,vnil]) (by simp [leH,rtakSt,mkSt]) rfl (Nat.le_succ 2) (by omega) ⟨_,_,_,by omega,by simpa using ho,hw.set _ (by omega) (by omega),by omega,?_,rfl⟩
   rw [hset h,qad l,qad m,Int.pow_succ,hga,hgb]
   exact hst
  ·have h:=of_decide_eq_false h
   rw [e11]
   refine nd e10 ⟨_,hS.call hT,?_⟩
   rw [hend (by omega)]
   generalize W .u32 (dg (val l - val m).toNat)=x at *
   cbv
   exact hF _ (ResLe.refl _)
open Go Go.Abs Go.Abs.M Go.Proofs
def rshoSt (r R:Abs.Rows) (d:Int) (len:Nat) (c i:Int):St:=mkSt 41 [vl r,vi .u64 d,.junk,.junk,vnil,vi .u64 0,.c (.sl 2 0 len false),vi .u64 c,vi .i64 i] [none,none,some (.rows 1 R true false)]
theorem rshortly_call {r:Abs.Rows} {l:List Int} (d q e:Int) (hr:r=W .u32 l) (hl:l.length<=1099511627776) (hlw:Wd l) (hd:0 < d) (hd2:d < 4294967296) (hq:q=val l / d) (he:e=val l % d) :
  ACall Tryz.prog 156 [.val (tl r),.val (ti .u64 d)] ⟨[.val (tl (W .u32 (dg q.toNat))),.val (ti .u64 e)],[none,none]⟩:=by
 obtain ⟨n,hn⟩:∃ n:Nat,n=l.length:=⟨_,rfl⟩
 refine callZ ccOk mixed [.val,.val] Tryz.func156 rfl rfl (by kernel_rfl) fun zA zB zC zD zE zF zG zH zI zJ zK zL zM zN zO zP zQ zR zT zU zV zX zY zZ zb zc zd ze zg zh zi zj zk zl zm zn zo zq zr zs zt zu zx zy zz zmget zmset zW zth A L F hS hF=>?_
 have h1:zj r=n:=by rw [hS.len,hr,qal,hn]
 have hnn:zX (zZ n)=n:=by rw [hS.nat,hS.ofN]; omega
 have hrep:zu n [.v (.int .u32 0)]=zW .u32 (List.replicate n 0):=by rw [hS.rep,hS.W]; exact W_rep ..
 have hi0:zA .i64 (zC (zZ n) 1)=zC (zZ n) 1:=by rw [hS.wrap,hS.sub,hS.ofN]; exact wrap_i64 (by omega) (by omega)
 have hdz:zN d 0=true:=by rw [hS.ne]; exact decide_eq_true (by omega)
 cbv
 rw [h1,hnn,hrep,hi0]
 refine nd (by rw [hS.mkok,hS.ofN]; exact decide_eq_true (by unfold capBytes; omega)) ?_
 refine loopZ ccOk mixed hS (fun (k:Nat) s'=>∃ (o:List Int) (c:Int),k<=n/\o.length=n/\Wd o/\(0<=c/\c < d)/\val (l.drop k)=d*val (o.drop k)+c/\s'=rshoSt r (zW .u32 o) d n c (zC (zZ k) 1)) (n:=n)
  (s0:=rshoSt r (zW .u32 (List.replicate n 0)) d n 0 (zC (zZ n) 1)) (qao ?_ ?_) rfl (Nat.le_succ 2) ?_ ?_
 ·simp [leT,rshoSt,mkSt,vi,vl,vnil,hS.ofN]
 ·simp [leH,rshoSt,mkSt]
 ·refine ⟨_,0,Nat.le_refl _,by simp,Wd.rep _,by omega,?_,rfl⟩
  rw [List.drop_of_length_le (by omega),List.drop_of_length_le (by simp)]; simp [val]
 ·rintro k _ ⟨o,c,hk,ho,hw,hc,hv,rfl⟩
  have ga:=hlw.get (k - 1)
  obtain ⟨t,ht⟩:∃ t,t=c*4294967296+l.getD (k - 1) 0:=⟨_,rfl⟩
  have hst:=short_step hv ht
  have hb:=short_bound hd hc ga
  rw [<- ht] at hb
  have hcm:0<=c*4294967296/\c*4294967296<=4294967294*4294967296:=by omega
  have hmod:=Int.emod_nonneg t (show d ≠ 0 by omega)
  have hmod2:=Int.emod_lt_of_pos t hd
  have hi:zC (zZ k) 1=(k:Int) - 1:=by rw [hS.sub,hS.ofN]
  have hz:zP 0 (zC (zZ k) 1)=decide (1<=k):=by
   rw [hS.le,hi]
   by_cases h:1<=k
   ·rw [decide_eq_true h]; exact decide_eq_true (by omega)
   ·rw [decide_eq_false h]; exact decide_eq_false (by omega)
  have hnt:1<=k->zX (zC (zZ k) 1)=k - 1:=fun h=>by rw [hS.nat,hi]; omega
  have e0:1<=k->zn r (zX (zC (zZ k) 1))=l.getD (k - 1) 0:=fun h=>by rw [hS.getI,hnt h,hr,qap]
  have e1:zA .u64 (zB (zA .u64 (zD c 4294967296)) (zA .u64 (l.getD (k - 1) 0)))=t:=by
   rw [hS.wrap,hS.wrap,hS.wrap,hS.mul,hS.add,qaa (x:=l.getD (k - 1) 0) (by omega) (by omega),qaa (x:=c*4294967296) (by omega) (by omega),qaa (by omega) (by omega),ht]
  have e2:zA .u32 (zA .u64 (zE t d))=t / d:=by rw [hS.quo,Int.tdiv_eq_ediv_of_nonneg (by omega),hS.wrap,hS.wrap,qaa (x:=t / d) (by omega) (by omega)]; exact qaz (by omega) (by omega)
  have e3:zF t d=t % d:=by rw [hS.rem,Int.tmod_eq_emod_of_nonneg (by omega)]
  have e4:1<=k->zA .i64 (zC (zC (zZ k) 1) 1)=zC (zZ (k - 1)) 1:=fun h=>by rw [hi,hS.wrap,hS.sub,hS.sub,hS.ofN,wrap_i64 (by omega) (by omega)]; omega
  have e5:1<=k->zb 0 (zC (zZ k) 1)=k - 1:=fun h=>by rw [hS.idx,hi]; omega
  have e7:∀ x,zo .u32 (zW .u32 o) (k - 1) x=zW .u32 (o.set (k - 1) x):=fun x=>by rw [hS.setI,hS.W,W_set]
  have e8:1<=k->zY (zC (zZ k) 1) n=true:=fun h=>by rw [hS.inb,hi]; exact decide_eq_true (by omega)
  have e9:1<=k->zm .u32 (zW .u32 o) (k - 1)=true:=fun h=>by rw [hS.isI,hS.W,qav]; exact decide_eq_true (by omega)
  have e9':1<=k->zm .u32 r (zX (zC (zZ k) 1))=true:=fun h=>by rw [hS.isI,hr,hnt h,qav]; exact decide_eq_true (by omega)
  have e10:zq 0 n (zW .u32 o)=true:=by rw [hS.fit,hS.W,qal]; exact decide_eq_true (by omega)
  have e11:zr (zW .u32 o) 0 n=W .u32 o:=by rw [hS.part,hS.W,qbj,List.drop_zero,List.take_of_length_le (by omega)]
  have hT:=qbs (r:=W .u32 o) rfl (by omega) hw
  have hend:k=0->val o=q/\c=e:=fun h=>by
   subst h
   simp only [List.drop_zero] at hv
   rw [hq,he,hv]
   exact ⟨by rw [Int.add_comm,Int.add_mul_ediv_left _ _ (by omega),Int.ediv_eq_zero_of_lt hc.1 hc.2,Int.zero_add],by rw [Int.add_comm,Int.add_mul_emod_self_left,Int.emod_eq_of_lt hc.1 hc.2]⟩
  have hset:1<=k->val (l.drop (k - 1))=d*val ((o.set (k - 1) (t / d)).drop (k - 1))+t % d:=fun h=>by
   rw [qaj (l:=l) (by omega),qaj (l:=o.set (k - 1) (t / d)) (by simp; omega),getD_set_self _ (by omega),qa0,show k - 1+1=k by omega]
   exact hst
  generalize hga:l.getD (k - 1) 0=a at *
  cbv
  refine ⟨fun h=>?_,fun h=>?_⟩
  ·have a1:=h
   rw [hz] at h
   have h:=of_decide_eq_true h
   refine nd a1 (nd (e9' h) ?_)
   rw [e0 h,e1,e2,e3,e4 h,e5 h,e7]
   refine nd hdz (nd (e8 h) (nd (e9 h) (nd hdz ?_)))
   refine again (s':=rshoSt r (zW .u32 (o.set (k - 1) (t / d))) d n (t % d) (zC (zZ (k - 1)) 1)) (m:=k - 1) (by simp [leT,rshoSt,mkSt,vi,vl,vnil]) (by simp [leH,rshoSt,mkSt]) rfl (Nat.le_succ 2) (by omega) ⟨_,_,by omega,by simpa using ho,hw.set _ (by omega) (by omega),by omega,hset h,rfl⟩
  ·rw [hz] at h
   have h:=of_decide_eq_false h
   rw [e11]
   obtain ⟨z1,z2⟩:=hend (by omega)
   refine nd e10 ⟨_,hS.call hT,?_⟩
   rw [z1]
   generalize W .u32 (dg q.toNat)=x at *
   cbv
   exact fin2 hF rfl (qa6 z2)
def rtimSt (r s R:Abs.Rows) (len:Nat) (i:Int):St:=mkSt 69 [vl r,vl s,.junk,.junk,vnil,.c (.sl 2 0 len false),vi .i64 i] [none,none,some (.rows 1 R true false)]
def rtim2St (r s R:Abs.Rows) (len:Nat) (i c j:Int):St:=mkSt 69 [vl r,vl s,.junk,.junk,vnil,.c (.sl 2 0 len false),vi .i64 i,vi .u64 c,vi .i64 j] [none,none,some (.rows 1 R true false)]
theorem rtimes_call {r s:Abs.Rows} {l m:List Int} (hr:r=W .u32 l) (hs:s=W .u32 m) (hl:l.length<=1099511627776) (hm:m.length<=1099511627776) (hlw:Wd l) (hmw:Wd m) :
  ACall Tryz.prog 133 [.val (tl r),.val (tl s)] ⟨[.val (tl (W .u32 (dg (val l*val m).toNat)))],[none,none]⟩:=by
 obtain ⟨n,hn⟩:∃ n:Nat,n=l.length+m.length:=⟨_,rfl⟩
 refine callZ ccOk mixed [.val] Tryz.func133 rfl rfl (by kernel_rfl) fun zA zB zC zD zE zF zG zH zI zJ zK zL zM zN zO zP zQ zR zT zU zV zX zY zZ zb zc zd ze zg zh zi zj zk zl zm zn zo zq zr zs zt zu zx zy zz zmget zmset zW zth A L F hS hF=>?_
 have h1:zj r=l.length:=by rw [hS.len,hr,qal]
 have h2:zj s=m.length:=by rw [hS.len,hs,qal]
 have hN:zA .i64 (zB (zZ (zj r)) (zZ (zj s)))=zZ n:=by
  rw [h1,h2,hS.wrap,hS.add,hS.ofN,hS.ofN,hS.ofN,hn,wrap_i64 (by omega) (by omega)]; omega
 have hnn:zX (zZ n)=n:=by rw [hS.nat,hS.ofN]; omega
 have hrep:zu n [.v (.int .u32 0)]=zW .u32 (List.replicate n 0):=by rw [hS.rep,hS.W]; exact W_rep ..
 cbv
 rw [hN,hnn,hrep]
 refine nd (by rw [hS.mkok,hS.ofN]; exact decide_eq_true (by unfold capBytes; omega)) ?_
 refine loopZ ccOk mixed hS (fun (u:Nat) s'=>∃ (k:Nat) (o:List Int),k+u=l.length/\o.length=n/\Wd o/\val o=val (l.take k)*val m/\s'=rtimSt r s (zW .u32 o) n (zZ k)) (n:=l.length)
  (s0:=rtimSt r s (zW .u32 (List.replicate n 0)) n (zZ 0)) (qao ?_ ?_) rfl (Nat.le_succ 2) ?_ ?_
 ·simp [leT,rtimSt,mkSt,vi,vl,vnil,hS.ofN]
 ·simp [leH,rtimSt,mkSt]
 ·exact ⟨0,_,by omega,by simp,Wd.rep _,by rw [val_rep]; simp [val],rfl⟩
 ·rintro u _ ⟨k,o,hk,ho,hw,hv,rfl⟩
  have gx:=hlw.get k
  have e10:zq 0 n (zW .u32 o)=true:=by rw [hS.fit,hS.W,qal]; exact decide_eq_true (by omega)
  have e11:zr (zW .u32 o) 0 n=W .u32 o:=by rw [hS.part,hS.W,qbj,List.drop_zero,List.take_of_length_le (by omega)]
  have hT:=qbs (r:=W .u32 o) rfl (by omega) hw
  have e6:=qbp hS.lt hS.ofN k l.length
  have e9':k < l.length->zm .u32 r (zX (zZ k))=true:=fun h=>by rw [hS.isI,hr,hS.nat,hS.ofN,qav]; exact decide_eq_true (by omega)
  have e9'':zP 0 (zZ k)=true:=by rw [hS.le,hS.ofN]; exact decide_eq_true (by omega)
  have e0:zn r (zX (zZ k))=l.getD k 0:=by rw [hS.getI,hS.nat,hS.ofN,hr,qap,Int.toNat_natCast]
  have ew:zA .u64 (l.getD k 0)=l.getD k 0:=by rw [hS.wrap,qaa (by omega) (by omega)]
  have hvk:=qad l k
  have hend:k=l.length->val o=val l*val m:=fun h=>by
   subst h
   rw [List.take_of_length_le (Nat.le_refl _)] at hv
   exact hv
  have htop:val o < 4294967296 ^ (k+m.length):=by
   rw [hv]
   have b:=qbm (hlw.take k)
   rw [List.length_take,Nat.min_eq_left (by omega)] at b
   exact mul_lt_pow (qaf (hlw.take k)) (qaf hmw) b (qbm hmw)
  generalize hga:l.getD k 0=x at *
  cbv
  refine ⟨fun h=>?_,fun h=>?_⟩
  all_goals rw [h1] at h
  all_goals rw [e6] at h
  ·have h:=of_decide_eq_true h
   refine loopZ ccOk mixed hS (fun (u':Nat) s'=>∃ (j:Nat) (o':List Int) (c:Int),j+u'=m.length/\o'.length=n/\Wd o'/\(0<=c/\c < 4294967296)/\o'.drop (k+j)=o.drop (k+j)/\val o'+c*4294967296 ^ (k+j)=val o+x*4294967296 ^ k*val (m.take j)/\s'=rtim2St r s (zW .u32 o') n (zZ k) c (zZ j)) (n:=m.length)
    (s0:=rtim2St r s (zW .u32 o) n (zZ k) 0 (zZ 0)) (qao ?_ ?_) rfl (Nat.le_succ 2) ?_ ?_
   ·simp [leT,rtim2St,mkSt,vi,vl,vnil,hS.ofN]
   ·simp [leH,rtim2St,mkSt]
   ·exact ⟨0,_,0,by omega,ho,hw,by omega,rfl,by simp [val],rfl⟩
   ·rintro u' _ ⟨j,o',c,hj,ho',hw',hc,hdr,hv',rfl⟩
    have gm:=hmw.get j
    have gw:=hw'.get (k+j)
    have hb:=mul_bound gx gm gw hc
    obtain ⟨t,ht⟩:∃ t,t=x*m.getD j 0+o'.getD (k+j) 0+c:=⟨_,rfl⟩
    have hst:=mul_step hv' ht (Int.pow_add 4294967296 k j)
    have f6:=qbp hS.lt hS.ofN j m.length
    have f9:j < m.length->zm .u32 s (zX (zZ j))=true:=fun h=>by rw [hS.isI,hs,hS.nat,hS.ofN,qav]; exact decide_eq_true (by omega)
    have f9'':zP 0 (zZ j)=true:=by rw [hS.le,hS.ofN]; exact decide_eq_true (by omega)
    have f0:zn s (zX (zZ j))=m.getD j 0:=by rw [hS.getI,hS.nat,hS.ofN,hs,qap,Int.toNat_natCast]
    have f1:j<=m.length->zA .i64 (zB (zZ k) (zZ j))=zZ (k+j):=fun h=>by rw [hS.wrap,hS.add,hS.ofN,hS.ofN,hS.ofN,wrap_i64 (by omega) (by omega)]; omega
    have f1':zA .i64 (zB (zZ k) (zZ m.length))=zZ (k+m.length):=by rw [hS.wrap,hS.add,hS.ofN,hS.ofN,hS.ofN,wrap_i64 (by omega) (by omega)]; omega
    have f2:∀ q,zb 0 (zZ q)=q:=fun q=>by rw [hS.idx,hS.ofN]; omega
    have f3:∀ q,q < n->zY (zZ q) n=true:=fun q hq=>by rw [hS.inb,hS.ofN]; exact decide_eq_true (by omega)
    have f4:∀ q,q < n->zm .u32 (zW .u32 o') q=true:=fun q hq=>by rw [hS.isI,hS.W,qav]; exact decide_eq_true (by omega)
    have f5:∀ q,zn (zW .u32 o') q=o'.getD q 0:=fun q=>by rw [hS.getI,hS.W,qap]
    have f7:∀ q y,zo .u32 (zW .u32 o') q y=zW .u32 (o'.set q y):=fun q y=>by rw [hS.setI,hS.W,W_set]
    have fw1:zA .u64 (m.getD j 0)=m.getD j 0:=by rw [hS.wrap,qaa (by omega) (by omega)]
    have fw2:zA .u64 (o'.getD (k+j) 0)=o'.getD (k+j) 0:=by rw [hS.wrap,qaa (by omega) (by omega)]
    have f8:zA .u64 (zB (zA .u64 (zB (zA .u64 (zD x (m.getD j 0))) (o'.getD (k+j) 0))) c)=t:=by
     rw [hS.wrap,hS.wrap,hS.wrap,hS.mul,hS.add,hS.add,qaa (x:=x*m.getD j 0) (by omega) (by omega),qaa (x:=x*m.getD j 0+o'.getD (k+j) 0) (by omega) (by omega),qaa (by omega) (by omega),ht]
    have e2:zA .u32 (zF t 4294967296)=t % 4294967296:=by rw [hS.rem,Int.tmod_eq_emod_of_nonneg (by omega),hS.wrap]; exact qaz (by omega) (by omega)
    have e3:zA .u64 (zE t 4294967296)=t / 4294967296:=by rw [hS.quo,Int.tdiv_eq_ediv_of_nonneg (by omega),hS.wrap]; exact qaa (by omega) (by omega)
    have e3':zA .u32 c=c:=by rw [hS.wrap]; exact qaz (by omega) (by omega)
    have e4:j < m.length->zA .i64 (zB (zZ j) 1)=zZ (j+1):=fun h=>by rw [hS.wrap,hS.add,hS.ofN,hS.ofN,wrap_i64 (by omega) (by omega)]; omega
    have e4':zA .i64 (zB (zZ k) 1)=zZ (k+1):=by rw [hS.wrap,hS.add,hS.ofN,hS.ofN,wrap_i64 (by omega) (by omega)]; omega
    have hset:∀ q y,q < n->val (o'.set q y)=val o'+(y - o'.getD q 0)*4294967296 ^ q:=fun q y hq=>val_set _ _ _ (by omega)
    have htz:j=m.length->o'.getD (k+j) 0=0:=fun hj=>by
     have e:o'.getD (k+j) 0=o.getD (k+j) 0:=by
      have:=congrArg (fun y=>List.getD y 0 0) hdr
      simpa [List.getD_eq_getElem?_getD] using this
     rw [e,hj]
     exact top_zero hw (by omega) htop
    have htt:0<=t:=by omega
    have htb:t < 18446744073709551616:=by omega
    have hmj:=qad m j
    have hmm:j=m.length->m.take j=m:=fun h=>List.take_of_length_le (by omega)
    clear ht hb
    generalize hgb:m.getD j 0=y at *
    generalize hgc:o'.getD (k+j) 0=w at *
    cbv
    refine ⟨fun h'=>?_,fun h'=>?_⟩
    all_goals rw [h2] at h'
    all_goals rw [f6] at h'
    ·have h':=of_decide_eq_true h'
     rw [f1 (by omega),f2,f0,e0,ew,fw1,f5,hgc,fw2,f8,e2,e3,e4 h',f7]
     refine nd e9'' (nd (e9' h) (nd f9'' (nd (f9 h') (nd (f3 _ (by omega)) (nd (f4 _ (by omega)) (nd (f3 _ (by omega)) (nd (f4 _ (by omega)) ?_)))))))
     refine again (s':=rtim2St r s (zW .u32 (o'.set (k+j) (t % 4294967296))) n (zZ k) (t / 4294967296) (zZ (j+1))) (m:=u' - 1) (by simp [leT,rtim2St,mkSt,vi,vl,vnil]) (by simp [leH,rtim2St,mkSt]) rfl (Nat.le_succ 2) (by omega)
      ⟨_,_,_,by omega,by simpa using ho',hw'.set _ (by omega) (by omega),by omega,?_,?_,rfl⟩
     ·rw [show k+(j+1)=k+j+1 by omega,qa0]
      have:=congrArg (List.drop 1) hdr
      simpa [List.drop_drop] using this
     ·rw [hset _ _ (by omega),hgc,show k+(j+1)=k+j+1 by omega,Int.pow_succ,hmj]
      exact hst
    ·have h':=of_decide_eq_false h'
     have hjm:j=m.length:=by omega
     rw [h2,f1',f2,e3',e4',f7]
     refine nd (f3 _ (by omega)) (nd (f4 _ (by omega)) ?_)
     refine again (s':=rtimSt r s (zW .u32 (o'.set (k+m.length) c)) n (zZ (k+1))) (m:=u - 1) (by simp [leT,rtimSt,mkSt,vi,vl,vnil]) (by simp [leH,rtimSt,mkSt]) rfl (Nat.le_succ 2) (by omega)
      ⟨_,_,by omega,by simpa using ho',hw'.set _ (by omega) (by omega),?_,rfl⟩
     have e:=hset (k+j) c (by omega)
     rw [hgc,htz hjm] at e
     rw [hmm hjm,hv] at hv'
     rw [<- hjm,e,hvk]
     clear e hgc
     generalize val (List.take k l)=p1 at *
     generalize val m=p2 at *
     generalize val o'=p3 at *
     generalize (4294967296:Int) ^ k=p4 at *
     generalize (4294967296:Int) ^ (k+j)=p5 at *
     grind
  ·have h:=of_decide_eq_false h
   rw [e11]
   refine nd e10 ⟨_,hS.call hT,?_⟩
   rw [hend (by omega)]
   generalize W .u32 (dg (val l*val m).toNat)=z at *
   cbv
   exact hF _ (ResLe.refl _)
end Go.Proofs.YtjfmkcmepdedaaaGreat
end
section
namespace Go.Abs
open Go.Abs.M
def IsM (n:Nat) (r:Rows):Prop:=r=W .u32 (dg n)
structure IsI (x:Int) (s:Bool) (r:Rows):Prop where
 s:s=decide (x < 0)
 m:IsM x.natAbs r
theorem IsI.mk' (x:Int):IsI x (decide (x < 0)) (W .u32 (dg x.natAbs)):=⟨rfl,rfl⟩
theorem IsI.of {x y:Int} {s:Bool} {r:Rows} (h:IsI x s r) (e:x=y):IsI y s r:=e ▸ h
theorem IsI.inj {x:Int} {s t:Bool} {r q:Rows} (h:IsI x s r) (h':IsI x t q):s=t/\r=q:=⟨h.s.trans h'.s.symm,h.m.trans h'.m.symm⟩
theorem IsM.len {n:Nat} {r:Rows} (h:IsM n r):r.length=nl n:=by rw [h,qal]; rfl
end Go.Abs
end
section
namespace Go.Proofs.YtjfmkcmepdedaaaGreat
open Go Go.Abs Go.Abs.M Go.Proofs
theorem rmadeM {n:Nat} {r:Abs.Rows} (s t:Bool) (hr:IsM n r) (hl:nl n<=2199023255552) (ht:t=(s && decide (n ≠ 0))):ACall Tryz.prog 128 [.val (tb s),.val (tl r)] ⟨[.val (.agg (iT t r))],[none,none]⟩:=by
 have h:=rmade_call s t hr hl (qar n) (by
  rw [qai,ht]
  by_cases h:n=0
  ·subst h; rfl
  ·rw [decide_eq_true h,decide_eq_true (by omega)])
 rw [qai,Int.toNat_natCast,<- hr] at h
 exact h
theorem IsI.made {x:Int} {r:Abs.Rows} (hr:IsM x.natAbs r) (t:Bool) (ht:t=decide (x < 0)):IsI x t r:=⟨ht,hr⟩
theorem rof_call (n:Int) (h1:-9223372036854775808<=n) (h2:n < 9223372036854775808):∃ u w,IsI n u w/\ACall Tryz.prog 101 [.val (ti .i64 n)] ⟨[.val (.agg (iT u w))],[none]⟩:=by
 obtain ⟨w,hw⟩:∃ w,IsM n.natAbs w:=⟨_,rfl⟩
 have hl:nl n.natAbs<=2:=qaq (by omega)
 have hwords:=rwords_call n.natAbs (by omega) (by omega)
 rw [Int.toNat_natCast,show W .u32 (dg n.natAbs)=w from hw.symm] at hwords
 refine ⟨_,w,⟨rfl,hw⟩,?_⟩
 refine callZ ccOk mixed [.val] Tryz.func101 rfl rfl (by kernel_rfl) fun zA zB zC zD zE zF zG zH zI zJ zK zL zM zN zO zP zQ zR zT zU zV zX zY zZ zb zc zd ze zg zh zi zj zk zl zm zn zo zq zr zs zt zu zx zy zz zmget zmset zW zth A L F hS hF=>?_
 have e1:n < 0->zA .u64 (zB (zA .u64 (zA .i64 (zC 0 (zA .i64 (zB n 1))))) 1)=n.natAbs:=fun h=>by
  rw [hS.wrap,hS.wrap,hS.wrap,hS.wrap,hS.add,hS.sub,hS.add,wrap_i64 (x:=n+1) (by omega) (by omega),wrap_i64 (by omega) (by omega),qaa (x:=0 - (n+1)) (by omega) (by omega),qaa (by omega) (by omega)]; omega
 have e2:¬ n < 0->zA .u64 n=n.natAbs:=fun h=>by rw [hS.wrap,qaa (by omega) (by omega)]; omega
 have m1:=fun h=>rmadeM true (decide (n < 0)) hw (by omega) h
 have m2:=fun h=>rmadeM false (decide (n < 0)) hw (by omega) h
 cbv
 refine ⟨fun h=>?_,fun h=>?_⟩
 all_goals rw [hS.lt] at h
 ·have h':=of_decide_eq_true h
  rw [e1 h']
  refine ⟨_,hS.call hwords,?_⟩
  have m:=m1 (by rw [h,decide_eq_true (by omega)]; rfl)
  rw [h] at m hF
  cbv
  refine ⟨_,hS.call m,?_⟩
  cbv
  exact hF _ (ResLe.refl _)
 ·have h':=of_decide_eq_false h
  rw [e2 h']
  refine ⟨_,hS.call hwords,?_⟩
  have m:=m2 (by rw [h]; rfl)
  rw [h] at m hF
  cbv
  refine ⟨_,hS.call m,?_⟩
  cbv
  exact hF _ (ResLe.refl _)
theorem rsign_call {x:Int} {s:Bool} {r:Abs.Rows} (c:Int) (hx:IsI x s r) (hc:c=cmpI x 0):ACall Tryz.prog 109 [.val (.agg (iT s r))] ⟨[.val (ti .i64 c)],[none]⟩:=by
 have hl:r.length=nl x.natAbs:=hx.m.len
 have hz:=@nl_zero x.natAbs
 refine callZ ccOk mixed [.val] Tryz.func109 rfl rfl (by kernel_rfl) fun zA zB zC zD zE zF zG zH zI zJ zK zL zM zN zO zP zQ zR zT zU zV zX zY zZ zb zc zd ze zg zh zi zj zk zl zm zn zo zq zr zs zt zu zx zy zz zmget zmset zW zth A L F hS hF=>?_
 cbv
 rw [hx.s,hS.min,hS.ofN,hS.len,hl]
 refine ⟨fun h=>fin1 hF (qa6 ?_),fun h=>fin1 hF (qa6 ?_)⟩
 ·rw [hc,cmpI_lt (of_decide_eq_true h)]
 ·have:=of_decide_eq_false h
  by_cases h0:x=0
  ·subst h0; rw [hc]; rfl
  ·rw [hc,cmpI_gt (by omega)]; split <;> omega
theorem cmpI_neg {x y:Int}:cmpI (-x) (-y)=cmpI y x:=by
 unfold cmpI
 by_cases h:x < y
 ·rw [if_neg (by omega),if_pos (by omega),if_neg (by omega),if_pos h]
 ·by_cases h':y < x
  ·rw [if_pos (by omega),if_pos h']
  ·rw [if_neg (by omega),if_neg (by omega),if_neg h',if_neg h]
theorem rneg_call {x:Int} {s:Bool} {r:Abs.Rows} (hx:IsI x s r) (h1:nl x.natAbs<=2199023255552):∃ u w,IsI (-x) u w/\ACall Tryz.prog 106 [.val (.agg (iT s r))] ⟨[.val (.agg (iT u w))],[none]⟩:=by
 obtain ⟨u,hu⟩:∃ u,u=decide (-x < 0):=⟨_,rfl⟩
 refine ⟨u,r,⟨hu,by rw [Int.natAbs_neg]; exact hx.m⟩,?_⟩
 have m:=rmadeM (!s) u hx.m h1 (by
  rw [hu,hx.s]
  rcases Int.lt_trichotomy x 0 with h | h | h
  ·rw [decide_eq_true h,decide_eq_false (by omega)]; rfl
  ·subst h; rfl
  ·rw [decide_eq_true (show -x < 0 by omega),decide_eq_false (show ¬ x < 0 by omega),decide_eq_true (show x.natAbs ≠ 0 by omega)]; rfl)
 refine callZ ccOk mixed [.val] Tryz.func106 rfl rfl (by kernel_rfl) fun zA zB zC zD zE zF zG zH zI zJ zK zL zM zN zO zP zQ zR zT zU zV zX zY zZ zb zc zd ze zg zh zi zj zk zl zm zn zo zq zr zs zt zu zx zy zz zmget zmset zW zth A L F hS hF=>?_
 cbv
 rw [hS.not]
 refine ⟨_,hS.call m,?_⟩
 cbv
 exact hF _ (ResLe.refl _)
theorem radd_call {x y:Int} {s t:Bool} {r q:Abs.Rows} (hx:IsI x s r) (hy:IsI y t q) (h1:nl x.natAbs<=549755813888) (h2:nl y.natAbs<=549755813888) :
  ∃ u w,IsI (x+y) u w/\ACall Tryz.prog 102 [.val (.agg (iT s r)),.val (.agg (iT t q))] ⟨[.val (.agg (iT u w))],[none,none]⟩:=by
 obtain ⟨u,hu⟩:∃ u,u=decide (x+y < 0):=⟨_,rfl⟩
 obtain ⟨w,hw⟩:∃ w,IsM (x+y).natAbs w:=⟨_,rfl⟩
 refine ⟨u,w,⟨hu,hw⟩,?_⟩
 have hb:nl (x+y).natAbs<=1099511627776:=by
  have a:=qax (show (x+y).natAbs<=x.natAbs+y.natAbs by omega)
  have b:=nl_add x.natAbs y.natAbs
  omega
 have hs:=hx.s
 have ht:=hy.s
 have cc:=rcompared_call (cmpI x.natAbs y.natAbs) hx.m hy.m (by unfold nl at h1; omega) (by unfold nl at h2; omega) (qar _) (qar _) (dg_tr _) (dg_tr _) (by rw [qai,qai])
 have ca:=radded_call hx.m hy.m (by unfold nl at h1; omega) (by unfold nl at h2; omega) (qar _) (qar _)
 have t1:=fun h h'=>rtaken_call hx.m hy.m (by unfold nl at h1; omega) h (qar _) (qar _) h'
 have t2:=fun h h'=>rtaken_call hy.m hx.m (by unfold nl at h2; omega) h (qar _) (qar _) h'
 simp only [qai] at ca t1 t2
 have m:∀ s',u=(s' && decide ((x+y).natAbs ≠ 0))->_:=fun s' h=>rmadeM s' u hw (by omega) h
 by_cases hst:s=t
 ·have e1:W .u32 (dg ((x.natAbs:Int)+y.natAbs).toNat)=w:=by
   rw [hw]; congr 2
   rw [hs,ht] at hst
   by_cases h:x < 0
   ·rw [decide_eq_true h] at hst; have:=of_decide_eq_true hst.symm; omega
   ·rw [decide_eq_false h] at hst; have:=of_decide_eq_false hst.symm; omega
  have ms:=m s (by
   rw [hs,hu]
   rw [hs,ht] at hst
   by_cases h:x < 0
   ·rw [decide_eq_true h] at hst ⊢; have:=of_decide_eq_true hst.symm; rw [decide_eq_true (by omega),decide_eq_true (by omega)]; rfl
   ·rw [decide_eq_false h] at hst ⊢; have:=of_decide_eq_false hst.symm; rw [decide_eq_false (by omega)]; rfl)
  rw [e1] at ca
  clear t1 t2 m cc
  refine callZ ccOk mixed [.val] Tryz.func102 rfl rfl (by kernel_rfl) fun zA zB zC zD zE zF zG zH zI zJ zK zL zM zN zO zP zQ zR zT zU zV zX zY zZ zb zc zd ze zg zh zi zj zk zl zm zn zo zq zr zs zt zu zx zy zz zmget zmset zW zth A L F hS hF=>?_
  cbv
  refine bT (by rw [hS.beq]; simpa using hst) ⟨_,hS.call ca,?_⟩
  cbv
  refine ⟨_,hS.call ms,?_⟩
  cbv
  exact hF _ (ResLe.refl _)
 ·have hst':(decide (x < 0)) ≠ decide (y < 0):=by rw [<- hs,<- ht]; exact hst
  by_cases hlt:x.natAbs < y.natAbs
  ·have e1:W .u32 (dg ((y.natAbs:Int) - x.natAbs).toNat)=w:=by
    rw [hw]; congr 2
    by_cases h:x < 0 <;> by_cases h':y < 0 <;> simp [h,h'] at hst' <;> omega
   have c:=t2 (show nl x.natAbs<=nl y.natAbs from qax (by omega)) (by omega)
   rw [e1] at c
   have ms:=m t (by
    rw [ht,hu]
    rw [Bool.eq_iff_iff]
    by_cases h:x < 0 <;> by_cases h':y < 0 <;> simp [h,h'] at hst' <;> simp [h'] <;> omega)
   have hcv:cmpI (x.natAbs:Int) y.natAbs=-1:=cmpI_lt (by omega)
   rw [hcv] at cc
   clear t1 t2 m ca
   refine callZ ccOk mixed [.val] Tryz.func102 rfl rfl (by kernel_rfl) fun zA zB zC zD zE zF zG zH zI zJ zK zL zM zN zO zP zQ zR zT zU zV zX zY zZ zb zc zd ze zg zh zi zj zk zl zm zn zo zq zr zs zt zu zx zy zz zmget zmset zW zth A L F hS hF=>?_
   cbv
   refine bF (by rw [hS.beq]; simpa using hst) ⟨_,hS.call cc,?_⟩
   cbv
   refine bT (by rw [hS.lt]; rfl) ⟨_,hS.call c,?_⟩
   cbv
   refine ⟨_,hS.call ms,?_⟩
   cbv
   exact hF _ (ResLe.refl _)
  ·have e1:W .u32 (dg ((x.natAbs:Int) - y.natAbs).toNat)=w:=by
    rw [hw]; congr 2
    by_cases h:x < 0 <;> by_cases h':y < 0 <;> simp [h,h'] at hst' <;> omega
   have c:=t1 (show nl y.natAbs<=nl x.natAbs from qax (by omega)) (by omega)
   rw [e1] at c
   have ms:=m s (by
    rw [hs,hu]
    rw [Bool.eq_iff_iff]
    by_cases h:x < 0 <;> by_cases h':y < 0 <;> simp [h,h'] at hst' <;> simp [h] <;> omega)
   obtain ⟨v,hv,hv0⟩:∃ v,cmpI (x.natAbs:Int) y.natAbs=v/\¬ v < 0:=⟨_,rfl,by
    unfold cmpI
    rw [if_neg (by omega)]
    split <;> omega⟩
   rw [hv] at cc
   clear t1 t2 m ca
   refine callZ ccOk mixed [.val] Tryz.func102 rfl rfl (by kernel_rfl) fun zA zB zC zD zE zF zG zH zI zJ zK zL zM zN zO zP zQ zR zT zU zV zX zY zZ zb zc zd ze zg zh zi zj zk zl zm zn zo zq zr zs zt zu zx zy zz zmget zmset zW zth A L F hS hF=>?_
   cbv
   refine bF (by rw [hS.beq]; simpa using hst) ⟨_,hS.call cc,?_⟩
   cbv
   refine bF (by rw [hS.lt]; exact decide_eq_false hv0) ⟨_,hS.call c,?_⟩
   cbv
   refine ⟨_,hS.call ms,?_⟩
   cbv
   exact hF _ (ResLe.refl _)
theorem rmul_call {x y:Int} {s t:Bool} {r q:Abs.Rows} (hx:IsI x s r) (hy:IsI y t q) (h1:nl x.natAbs<=549755813888) (h2:nl y.natAbs<=549755813888) :
  ∃ u w,IsI (x*y) u w/\ACall Tryz.prog 103 [.val (.agg (iT s r)),.val (.agg (iT t q))] ⟨[.val (.agg (iT u w))],[none,none]⟩:=by
 obtain ⟨u,hu⟩:∃ u,u=decide (x*y < 0):=⟨_,rfl⟩
 obtain ⟨w,hw⟩:∃ w,IsM (x*y).natAbs w:=⟨_,rfl⟩
 refine ⟨u,w,⟨hu,hw⟩,?_⟩
 have hb:nl (x*y).natAbs<=1099511627776:=by
  rw [Int.natAbs_mul]
  have b:=qbr x.natAbs y.natAbs
  omega
 have hs:=hx.s
 have ht:=hy.s
 have c:=rtimes_call hx.m hy.m (by unfold nl at h1; omega) (by unfold nl at h2; omega) (qar _) (qar _)
 simp only [qai] at c
 have e1:W .u32 (dg ((x.natAbs:Int)*y.natAbs).toNat)=w:=by
  rw [hw]; congr 2
  rw [Int.natAbs_mul]
  have:((x.natAbs:Int)*y.natAbs)=((x.natAbs*y.natAbs:Nat):Int):=by push_cast; rfl
  omega
 rw [e1] at c
 have ms:=rmadeM (!(s == t)) u hw (by omega) (by
  rw [hu,hs,ht]
  rcases Int.lt_trichotomy x 0 with h | h | h
  ·rcases Int.lt_trichotomy y 0 with h' | h' | h'
   ·have:=Int.mul_pos_of_neg_of_neg h h'
    simp [h,h']; omega
   ·subst h'; simp
   ·have:=Int.mul_neg_of_neg_of_pos h h'
    have h2:¬ y < 0:=by omega
    simp [h,h2,this]; omega
  ·subst h; simp
  ·rcases Int.lt_trichotomy y 0 with h' | h' | h'
   ·have:=Int.mul_neg_of_pos_of_neg h h'
    have h2:¬ x < 0:=by omega
    simp [h',h2,this]; omega
   ·subst h'; simp
   ·have:=Int.mul_pos h h'
    have h2:¬ x < 0:=by omega
    have h3:¬ y < 0:=by omega
    have h4:¬ x*y < 0:=by omega
    simp [h2,h3,h4])
 refine callZ ccOk mixed [.val] Tryz.func103 rfl rfl (by kernel_rfl) fun zA zB zC zD zE zF zG zH zI zJ zK zL zM zN zO zP zQ zR zT zU zV zX zY zZ zb zc zd ze zg zh zi zj zk zl zm zn zo zq zr zs zt zu zx zy zz zmget zmset zW zth A L F hS hF=>?_
 cbv
 refine ⟨_,hS.call c,?_⟩
 cbv
 rw [hS.bne]
 refine ⟨_,hS.call ms,?_⟩
 cbv
 exact hF _ (ResLe.refl _)
end Go.Proofs.YtjfmkcmepdedaaaGreat
end
section
namespace Go.Abs.M
structure Kn (U V t u2 v1 v2 P lo lv:Int):Prop where
 hP:0 < P
 hU:U=(t*4294967296+u2)*P+lo
 hV:V=(v1*4294967296+v2)*P+lv
 hlo:0<=lo/\lo < P
 hlv:0<=lv/\lv < P
 hu2:0<=u2/\u2 < 4294967296
 hv2:0<=v2/\v2 < 4294967296
 hv1:2147483648<=v1/\v1 < 4294967296
 ht:0<=t
 hlt:U < V*4294967296
section
variable {U V t u2 v1 v2 P lo lv q g:Int}
theorem Kn.t_lt (h:Kn U V t u2 v1 v2 P lo lv):t < (v1+1)*4294967296:=by
 obtain ⟨hP,hU,hV,hlo,hlv,hu2,hv2,hv1,ht,hlt⟩:=h
 rcases Int.lt_or_le t ((v1+1)*4294967296) with h | h
 ·exact h
 ·exfalso
  have e1:(v1+1)*4294967296*4294967296*P<=(t*4294967296+u2)*P:=Int.mul_le_mul_of_nonneg_right (by omega) (by omega)
  have e2:(v1*4294967296+v2+1)*P<=(v1+1)*4294967296*P:=Int.mul_le_mul_of_nonneg_right (by omega) (by omega)
  have e3:(v1*4294967296+v2+1)*P=(v1*4294967296+v2)*P+P:=by grind
  have e4:(v1+1)*4294967296*4294967296*P=(v1+1)*4294967296*P*4294967296:=by grind
  omega
theorem Kn.first (h:Kn U V t u2 v1 v2 P lo lv) (hq:q*V<=U) (hq0:0<=q):q<=t / v1:=by
 obtain ⟨hP,hU,hV,hlo,hlv,hu2,hv2,hv1,ht,hlt⟩:=h
 refine Int.le_ediv_of_mul_le (by omega) ?_
 rcases Int.lt_or_le t (q*v1) with h | h
 ·exfalso
  have e1:(t+1)*(4294967296*P)<=q*v1*(4294967296*P):=Int.mul_le_mul_of_nonneg_right (by omega) (by omega)
  have e2:q*(v1*4294967296*P)<=q*V:=Int.mul_le_mul_of_nonneg_left (by
   have:0<=v2*P:=Int.mul_nonneg (by omega) (by omega)
   have e:(v1*4294967296+v2)*P=v1*4294967296*P+v2*P:=by grind
   omega) hq0
  have e3:q*v1*(4294967296*P)=q*(v1*4294967296*P):=by grind
  have e4:(t+1)*(4294967296*P)=t*4294967296*P+4294967296*P:=by grind
  have e5:(t*4294967296+u2)*P=t*4294967296*P+u2*P:=by grind
  have e6:(u2+1)*P<=4294967296*P:=Int.mul_le_mul_of_nonneg_right (by omega) (by omega)
  have e7:(u2+1)*P=u2*P+P:=by grind
  omega
 ·exact h
theorem Kn.down (h:Kn U V t u2 v1 v2 P lo lv) (hq:q*V<=U) (hg:0<=g) (hqg:q<=g) (hbad:(t - g*v1)*4294967296+u2 < g*v2):q<=g - 1:=by
 obtain ⟨hP,hU,hV,hlo,hlv,hu2,hv2,hv1,ht,hlt⟩:=h
 rcases Int.lt_or_le q g with h | h
 ·omega
 ·exfalso
  obtain rfl:q=g:=by omega
  have e1:(t*4294967296+u2+1)*P<=(q*(v1*4294967296+v2))*P:=Int.mul_le_mul_of_nonneg_right (by grind) (by omega)
  have e2:q*((v1*4294967296+v2)*P)<=q*V:=Int.mul_le_mul_of_nonneg_left (by omega) hg
  have e3:(q*(v1*4294967296+v2))*P=q*((v1*4294967296+v2)*P):=by grind
  have e4:(t*4294967296+u2+1)*P=(t*4294967296+u2)*P+P:=by grind
  omega
theorem Kn.near (h:Kn U V t u2 v1 v2 P lo lv) (hg0:0<=g) (hg:g<=4294967296) (hgood:g*v2<=(t - g*v1)*4294967296+u2):(g - 1)*V<=U:=by
 obtain ⟨hP,hU,hV,hlo,hlv,hu2,hv2,hv1,ht,hlt⟩:=h
 rcases Int.lt_or_le 0 g with h0 | h0
 ·have e1:(g*(v1*4294967296+v2))*P<=(t*4294967296+u2)*P:=Int.mul_le_mul_of_nonneg_right (by grind) (by omega)
  have e2:(g - 1)*V<=(g - 1)*((v1*4294967296+v2+1)*P):=Int.mul_le_mul_of_nonneg_left (by
   have:(v1*4294967296+v2+1)*P=(v1*4294967296+v2)*P+P:=by grind
   omega) (by omega)
  have e3:(g - 1)*((v1*4294967296+v2+1)*P)=(g*(v1*4294967296+v2))*P - (v1*4294967296+v2+1 - g)*P:=by grind
  have e4:0<=(v1*4294967296+v2+1 - g)*P:=Int.mul_nonneg (by omega) (by omega)
  omega
 ·obtain rfl:g=0:=by omega
  have hV0:0<=V:=by
   have:0<=(v1*4294967296+v2)*P:=Int.mul_nonneg (by omega) (by omega)
   omega
  have:0<=(t*4294967296+u2)*P:=Int.mul_nonneg (by omega) (by omega)
  omega
end
theorem kn_of {u v:List Int} {n:Nat} (hn:2<=n) (hu:u.length=n+1) (hv:v.length=n) (huw:Wd u) (hvw:Wd v) (htop:2147483648<=v.getD (n - 1) 0) (hlt:val u < val v*4294967296) :
  Kn (val u) (val v) (u.getD n 0*4294967296+u.getD (n - 1) 0) (u.getD (n - 2) 0) (v.getD (n - 1) 0) (v.getD (n - 2) 0) (4294967296 ^ (n - 2)) (val (u.take (n - 2))) (val (v.take (n - 2))):=by
 have a:=qa1 u (n - 2) (by omega)
 rw [qaj (by omega),qaj (by omega),qaj (by omega),show n - 2+1=n - 1 by omega,show n - 1+1=n by omega,List.drop_of_length_le (by omega)] at a
 have b:=qa1 v (n - 2) (by omega)
 rw [qaj (by omega),qaj (by omega),show n - 2+1=n - 1 by omega,show n - 1+1=n by omega,List.drop_of_length_le (by omega)] at b
 have l1:=qbm (huw.take (n - 2))
 have l2:=qbm (hvw.take (n - 2))
 rw [List.length_take,Nat.min_eq_left (by omega)] at l1 l2
 have g1:=huw.get n
 have g2:=huw.get (n - 1)
 have g3:=huw.get (n - 2)
 have g4:=hvw.get (n - 1)
 have g5:=hvw.get (n - 2)
 simp only [val] at a b
 refine ⟨qam _,?_,?_,⟨qaf (huw.take _),l1⟩,⟨qaf (hvw.take _),l2⟩,g3,g5,⟨htop,g4.2⟩,by omega,hlt⟩
 ·rw [a]; grind
 ·rw [b]; grind
theorem lessen_step {p t vo vu qv a m c br q pr:Int} (h:vo=vu - qv+(br+c)*p) (hp:pr=q*m+c) (ht:t=4294967296+a - pr % 4294967296 - br) :
  vo+p*(t % 4294967296)=(vu+p*a) - (qv+q*(p*m))+(1 - t / 4294967296+pr / 4294967296)*(p*4294967296):=by
 have e1:t % 4294967296+4294967296*(t / 4294967296)=t:=Int.emod_add_mul_ediv t 4294967296
 have e2:pr % 4294967296+4294967296*(pr / 4294967296)=pr:=Int.emod_add_mul_ediv pr 4294967296
 generalize t % 4294967296=r at *
 generalize t / 4294967296=k at *
 generalize pr % 4294967296=r' at *
 generalize pr / 4294967296=k' at *
 grind
def wds:Nat->Int->List Int
 | 0,_=>[]
 | n+1,x=>x % 4294967296 :: wds n (x / 4294967296)
theorem qay:∀ (n:Nat) (x:Int),(wds n x).length=n
 | 0,_=>rfl
 | n+1,x=>by simp [wds,qay n]
theorem wds_wd:∀ (n:Nat) (x:Int),Wd (wds n x)
 | 0,_=>Wd.nil
 | n+1,x=>Wd.cons (by omega) (by omega) (wds_wd n _)
theorem emod_split (x p:Int) (hp:0 < p):x % (p*4294967296)=x % 4294967296+4294967296*(x / 4294967296 % p):=by
 have e1:=Int.emod_add_mul_ediv x 4294967296
 have e2:=Int.emod_add_mul_ediv (x / 4294967296) p
 have b1:=Int.emod_nonneg x (show (4294967296:Int) ≠ 0 by omega)
 have b2:=Int.emod_lt_of_pos x (show (0:Int) < 4294967296 by omega)
 have b3:=Int.emod_nonneg (x / 4294967296) (show p ≠ 0 by omega)
 have b4:=Int.emod_lt_of_pos (x / 4294967296) hp
 generalize x % 4294967296=r at *
 generalize x / 4294967296 % p=s at *
 generalize x / 4294967296 / p=k at *
 generalize x / 4294967296=y at *
 have hx:x=(r+4294967296*s)+p*4294967296*k:=by grind
 rw [hx,Int.add_mul_emod_self_left,Int.emod_eq_of_lt (by omega) (by
  have:4294967296*(s+1)<=4294967296*p:=Int.mul_le_mul_of_nonneg_left (by omega) (by omega)
  have e:4294967296*(s+1)=4294967296*s+4294967296:=by omega
  have e':p*4294967296=4294967296*p:=Int.mul_comm ..
  omega)]
theorem wds_val:∀ (n:Nat) (x:Int),val (wds n x)=x % 4294967296 ^ n
 | 0,x=>by simp [wds,val,Int.emod_one]
 | n+1,x=>by
  rw [wds,val,wds_val n,Int.pow_succ,emod_split x _ (qam n)]
theorem val_inj:∀ {l m:List Int},Wd l->Wd m->l.length=m.length->val l=val m->l=m
 | [],[],_,_,_,_=>rfl
 | [],_ :: _,_,_,h,_=>by simp at h
 | _ :: _,[],_,_,h,_=>by simp at h
 | x :: l,y :: m,hl,hm,h,hv=>by
  have a:=hl.head
  have b:=hm.head
  simp only [val] at hv
  obtain ⟨rfl,hv'⟩:x=y/\val l=val m:=by omega
  rw [val_inj hl.tail hm.tail (by simpa using h) hv']
theorem wds_of {l:List Int} {n:Nat} {x b:Int} (hw:Wd l) (hl:l.length=n) (hv:val l=x+b*4294967296 ^ n):l=wds n x:=by
 refine val_inj hw (wds_wd _ _) (by rw [hl,qay]) ?_
 rw [wds_val]
 have h1:=qaf hw
 have h2:=qbm hw
 rw [hl] at h2
 have:x=val l+4294967296 ^ n*(-b):=by grind
 rw [this,Int.add_mul_emod_self_left,Int.emod_eq_of_lt h1 h2]
theorem wds_eq {n:Nat} {x:Int} (h0:0<=x) (h1:x < 4294967296 ^ n):val (wds n x)=x:=by rw [wds_val,Int.emod_eq_of_lt h0 h1]
def guessF (v1 v2 u2:Int):Nat->Int->Int->Int
 | 0,q,_=>q
 | f+1,q,e=>if 4294967296<=q ∨ e*4294967296+u2 < q*v2 then (if 4294967296<=e+v1 then q - 1 else guessF v1 v2 u2 f (q - 1) (e+v1)) else q
theorem guessF_spec {U V t u2 v1 v2 P lo lv q:Int} (h:Kn U V t u2 v1 v2 P lo lv) (hq:q*V<=U) (hq0:0<=q) (hqB:q < 4294967296) :
  ∀ (f:Nat) (g e:Int),e=t - g*v1->0<=e->e < 4294967296->4294967296<=e+f*v1->q<=g->g<=4294967297 ->
   q<=guessF v1 v2 u2 f g e/\guessF v1 v2 u2 f g e<=4294967296/\(guessF v1 v2 u2 f g e - 1)*V<=U
 | 0,g,e,he,h0,h1,h2,h3,h4=>by simp at h2; omega
 | f+1,g,e,he,h0,h1,h2,h3,h4=>by
  have hv1:=h.hv1
  have hu2:=h.hu2
  have hv2:=h.hv2
  simp only [guessF]
  by_cases hbad:4294967296<=g ∨ e*4294967296+u2 < g*v2
  ·rw [if_pos hbad]
   have hq':q<=g - 1:=by
    rcases hbad with hb | hb
    ·omega
    ·exact h.down hq (by omega) h3 (by rw [<- he]; exact hb)
   by_cases hbr:4294967296<=e+v1
   ·rw [if_pos hbr]
    refine ⟨hq',by omega,h.near (by omega) (by omega) ?_⟩
    have e1:t - (g - 1)*v1=e+v1:=by grind
    rw [e1]
    have:(g - 1)*v2<=4294967296*v2:=Int.mul_le_mul_of_nonneg_right (by omega) hv2.1
    omega
   ·rw [if_neg hbr]
    exact guessF_spec h hq hq0 hqB f (g - 1) (e+v1) (by grind) (by omega) (by omega) (by
     have:((f+1:Nat):Int)*v1=f*v1+v1:=by push_cast; grind
     omega) hq' (by omega)
  ·rw [if_neg hbad]
   have hb1:g < 4294967296:=by omega
   have hb2:g*v2<=e*4294967296+u2:=by omega
   exact ⟨h3,by omega,h.near (by omega) (by omega) (by rw [<- he]; exact hb2)⟩
def guess0 (v1 v2 u2 t:Int):Int:=guessF v1 v2 u2 3 (t / v1) (t % v1)
theorem guess0_spec {U V t u2 v1 v2 P lo lv q:Int} (h:Kn U V t u2 v1 v2 P lo lv) (hq:q*V<=U) (hq0:0<=q) (hqB:q < 4294967296) :
  q<=guess0 v1 v2 u2 t/\guess0 v1 v2 u2 t<=4294967296/\(guess0 v1 v2 u2 t - 1)*V<=U:=by
 have hv1:=h.hv1
 have e:=Int.emod_add_mul_ediv t v1
 have b1:=Int.emod_nonneg t (show v1 ≠ 0 by omega)
 have b2:=Int.emod_lt_of_pos t (show 0 < v1 by omega)
 refine guessF_spec h hq hq0 hqB 3 (t / v1) (t % v1) (by grind) b1 (by omega) (by push_cast; omega) (h.first hq hq0) ?_
 have:=h.t_lt
 have:t / v1 < 4294967298:=Int.ediv_lt_of_lt_mul (by omega) (by omega)
 omega
end Go.Abs.M
end
section
namespace Go.Proofs.YtjfmkcmepdedaaaGreat
open Go Go.Abs Go.Abs.M Go.Proofs
def rlesSt (r s:Abs.Rows) (len:Nat) (g c b i:Int):St:=mkSt 49 [.c (.sl 0 0 len false),vl s,vi .u64 g,.junk,.junk,.junk,vb false,vi .u64 c,vi .u64 b,vi .i64 i] [some (.rows 1 r false false),none,none]
theorem rlessen_call {r s r':Abs.Rows} {u v:List Int} (g:Int) (b:Bool) (hr:r=W .u32 u) (hs:s=W .u32 v) (hul:u.length<=1099511627776) (hvl:v.length < u.length) (huw:Wd u) (hvw:Wd v) (hg0:0<=g) (hg:g<=4294967296)
  (hr':r'=W .u32 (wds u.length (val u - g*val v))) (hb:b=decide (val u - g*val v < 0)) :
  ACall Tryz.prog 158 [.bor 1 r,.val (tl s),.val (ti .u64 g)] ⟨[.val (tb b)],[some (.rows 1 r' false false),none,none]⟩:=by
 obtain ⟨n,hn⟩:∃ n:Nat,n=u.length:=⟨_,rfl⟩
 refine callZ ccOk mixed [.val] Tryz.func158 rfl rfl (by kernel_rfl) fun zA zB zC zD zE zF zG zH zI zJ zK zL zM zN zO zP zQ zR zT zU zV zX zY zZ zb zc zd ze zg zh zi zj zk zl zm zn zo zq zr zs zt zu zx zy zz zmget zmset zW zth A L F hS hF=>?_
 have h1:zj r=n:=by rw [hS.len,hr,qal,hn]
 have hrW:r=zW .u32 u:=by rw [hS.W]; exact hr
 cbv
 rw [h1]
 refine loopZ ccOk mixed hS (fun (j:Nat) s'=>∃ (k:Nat) (o:List Int) (c b:Int),k+j=n/\o.length=n/\Wd o/\(0<=c/\c < 4294967296)/\(0<=b/\b<=1)/\(k=n->c=0)/\o.drop k=u.drop k/\val (o.take k)=val (u.take k) - g*val (v.take k)+(b+c)*4294967296 ^ k/\s'=rlesSt (zW .u32 o) s n g c b (zZ k)) (n:=n)
  (s0:=rlesSt (zW .u32 u) s n g 0 0 (zZ 0)) (qao ?_ ?_) rfl (Nat.le_refl 3) ?_ ?_
 ·simp [leT,rlesSt,mkSt,vi,vl,vb,hS.ofN]
 ·simp [leH,rlesSt,mkSt,hrW]
 ·exact ⟨0,u,0,0,by omega,hn.symm,huw,by omega,by omega,fun _=>rfl,rfl,by simp [val],rfl⟩
 ·rintro j _ ⟨k,o,c,b',hk,ho,hw,hc,hb',hcz,hdr,hv,rfl⟩
  have ga:=huw.get k
  have gv:=hvw.get k
  have hwb:=rword_call (zZ k) hs (by omega) hvw (by rw [hS.ofN]; omega)
  rw [show (zZ k).toNat=k by rw [hS.ofN]; omega] at hwb
  have hgv:0<=g*v.getD k 0/\g*v.getD k 0<=4294967296*4294967295:=⟨Int.mul_nonneg hg0 gv.1,Int.mul_le_mul hg (by omega) gv.1 (by omega)⟩
  obtain ⟨pr,hpr⟩:∃ pr,pr=g*v.getD k 0+c:=⟨_,rfl⟩
  obtain ⟨t,ht⟩:∃ t,t=4294967296+u.getD k 0 - pr % 4294967296 - b':=⟨_,rfl⟩
  have hst:=lessen_step hv hpr ht
  have e5:zb 0 (zZ k)=k:=by rw [hS.idx,hS.ofN]; omega
  have hok:k < n->o.getD k 0=u.getD k 0:=fun h=>by
   have:=congrArg (fun y=>List.getD y 0 0) hdr
   simpa [List.getD_eq_getElem?_getD] using this
  have e0:k < n->zn (zW .u32 o) k=u.getD k 0:=fun h=>by rw [hS.getI,hS.W,qap,hok h]
  have eu:zA .u64 (u.getD k 0)=u.getD k 0:=by rw [hS.wrap,qaa (by omega) (by omega)]
  have f1:zA .u64 (zB (zA .u64 (zD g (v.getD k 0))) c)=pr:=by
   rw [hS.wrap,hS.wrap,hS.mul,hS.add,qaa (x:=g*v.getD k 0) (by omega) (by omega),qaa (by omega) (by omega),hpr]
  have f2:zF pr 4294967296=pr % 4294967296:=by rw [hS.rem,Int.tmod_eq_emod_of_nonneg (by omega)]
  have f3:zA .u64 (zE pr 4294967296)=pr / 4294967296:=by rw [hS.quo,Int.tdiv_eq_ediv_of_nonneg (by omega),hS.wrap]; exact qaa (by omega) (by omega)
  have e1:zA .u64 (zC (zA .u64 (zC (zA .u64 (zB 4294967296 (u.getD k 0))) (zF pr 4294967296))) b')=t:=by
   rw [f2,hS.wrap,hS.wrap,hS.wrap,hS.add,hS.sub,hS.sub,qaa (x:=4294967296+u.getD k 0) (by omega) (by omega),qaa (x:=4294967296+u.getD k 0 - pr % 4294967296) (by omega) (by omega),qaa (by omega) (by omega),ht]
  have e2:zA .u32 (zF t 4294967296)=t % 4294967296:=by rw [hS.rem,Int.tmod_eq_emod_of_nonneg (by omega),hS.wrap]; exact qaz (by omega) (by omega)
  have e3:zA .u64 (zC 1 (zA .u64 (zE t 4294967296)))=1 - t / 4294967296:=by rw [hS.quo,Int.tdiv_eq_ediv_of_nonneg (by omega),hS.wrap,hS.wrap,qaa (x:=t / 4294967296) (by omega) (by omega),hS.sub]; exact qaa (by omega) (by omega)
  have e4:k < n->zA .i64 (zB (zZ k) 1)=zZ (k+1):=fun h=>by rw [hS.wrap,hS.add,hS.ofN,hS.ofN,wrap_i64 (by omega) (by omega)]; omega
  have e6:=qbp hS.lt hS.ofN k n
  have e7:∀ x,zo .u32 (zW .u32 o) k x=zW .u32 (o.set k x):=fun x=>by rw [hS.setI,hS.W,W_set]
  have e8:k < n->zY (zZ k) n=true:=fun h=>by rw [hS.inb,hS.ofN]; exact decide_eq_true (by omega)
  have e9:k < n->zm .u32 (zW .u32 o) k=true:=fun h=>by rw [hS.isI,hS.W,qav]; exact decide_eq_true (by omega)
  have e10:zc (zj (zW .u32 o)) (zj r)=true:=by rw [h1,hS.neq,hS.len,hS.W,qal]; exact decide_eq_true (by omega)
  have hend:k=n->W .u32 o=r'/\zM b' 1=b:=fun h=>by
   subst h
   rw [List.take_of_length_le (by omega),List.take_of_length_le (by omega),List.take_of_length_le (by omega),hcz rfl,Int.add_zero] at hv
   refine ⟨?_,?_⟩
   ·rw [hr',<- hn,wds_of hw ho hv]
   ·rw [hb,hS.eq]
    have b1:=qbm hw
    rw [ho] at b1
    have b2:=qaf hw
    rcases (show b'=0 ∨ b'=1 by omega) with rfl | rfl
    ·rw [decide_eq_false (by omega),decide_eq_false (by omega)]
    ·rw [decide_eq_true rfl,decide_eq_true (by omega)]
  have hset:k < n->val ((o.set k (t % 4294967296)).take (k+1))=val (o.take k)+4294967296 ^ k*(t % 4294967296):=fun h=>qak _ (by omega)
  have hlast:k+1=n->pr / 4294967296=0:=fun h=>by
   rw [hpr,List.getD_eq_getElem?_getD,List.getElem?_eq_none (by omega)]
   simp only [Option.getD_none,Int.mul_zero]
   omega
  have hprb:0<=pr / 4294967296/\pr / 4294967296 < 4294967296:=by omega
  have htb:0<=1 - t / 4294967296/\1 - t / 4294967296<=1:=by omega
  clear hgv hpr ht
  generalize hga:u.getD k 0=a at *
  generalize hgb:v.getD k 0=m at *
  cbv
  refine ⟨fun h=>?_,fun h=>nd e10 ?_⟩
  all_goals rw [e6] at h
  ·have h:=of_decide_eq_true h
   refine ⟨_,hS.call hwb,?_⟩
   cbv
   rw [e5,e0 h,eu,f1,f3,e1,e2,e3,e4 h,e7]
   refine nd (e8 h) (nd (e9 h) (nd (e8 h) (nd (e9 h) ?_)))
   refine again (s':=rlesSt (zW .u32 (o.set k (t % 4294967296))) s n g (pr / 4294967296) (1 - t / 4294967296) (zZ (k+1))) (m:=j - 1) (by simp [leT,rlesSt,mkSt,vi,vl,vb]) (by simp [leH,rlesSt,mkSt]) rfl (Nat.le_refl 3) (by omega)
    ⟨_,_,_,_,by omega,by simpa using ho,hw.set _ (by omega) (by omega),hprb,htb,hlast,?_,?_,rfl⟩
   ·rw [qa0]
    have:=congrArg (List.drop 1) hdr
    simpa [List.drop_drop] using this
   ·rw [hset h,qad u,qad v,Int.pow_succ,hga,hgb,hst,Int.mul_add]
  ·have h:=of_decide_eq_false h
   obtain ⟨z1,z2⟩:=hend (by omega)
   rw [z2,hS.W,z1]
   exact hF _ (ResLe.refl _)
def rresSt (r s:Abs.Rows) (len:Nat) (c i:Int):St:=mkSt 32 [.c (.sl 0 0 len false),vl s,.junk,.junk,vi .u64 c,vi .i64 i] [some (.rows 1 r false false),none]
theorem rrestore_call {r s r':Abs.Rows} {u v:List Int} (hr:r=W .u32 u) (hs:s=W .u32 v) (hul:u.length<=1099511627776) (hvl:v.length<=u.length) (huw:Wd u) (hvw:Wd v)
  (hr':r'=W .u32 (wds u.length (val u+val v))) :
  ACall Tryz.prog 159 [.bor 1 r,.val (tl s)] ⟨[],[some (.rows 1 r' false false),none]⟩:=by
 obtain ⟨n,hn⟩:∃ n:Nat,n=u.length:=⟨_,rfl⟩
 refine callZ ccOk mixed [] Tryz.func159 rfl rfl (by kernel_rfl) fun zA zB zC zD zE zF zG zH zI zJ zK zL zM zN zO zP zQ zR zT zU zV zX zY zZ zb zc zd ze zg zh zi zj zk zl zm zn zo zq zr zs zt zu zx zy zz zmget zmset zW zth A L F hS hF=>?_
 have h1:zj r=n:=by rw [hS.len,hr,qal,hn]
 have hrW:r=zW .u32 u:=by rw [hS.W]; exact hr
 cbv
 rw [h1]
 refine loopZ ccOk mixed hS (fun (j:Nat) s'=>∃ (k:Nat) (o:List Int) (c:Int),k+j=n/\o.length=n/\Wd o/\(0<=c/\c<=1)/\o.drop k=u.drop k/\val (o.take k)+c*4294967296 ^ k=val (u.take k)+val (v.take k)/\s'=rresSt (zW .u32 o) s n c (zZ k)) (n:=n)
  (s0:=rresSt (zW .u32 u) s n 0 (zZ 0)) (qao ?_ ?_) rfl (Nat.le_refl 2) ?_ ?_
 ·simp [leT,rresSt,mkSt,vi,vl,vb,hS.ofN]
 ·simp [leH,rresSt,mkSt,hrW]
 ·exact ⟨0,u,0,by omega,hn.symm,huw,by omega,rfl,by simp [val],rfl⟩
 ·rintro j _ ⟨k,o,c,hk,ho,hw,hc,hdr,hv,rfl⟩
  have ga:=huw.get k
  have gv:=hvw.get k
  have hwb:=rword_call (zZ k) hs (by omega) hvw (by rw [hS.ofN]; omega)
  rw [show (zZ k).toNat=k by rw [hS.ofN]; omega] at hwb
  obtain ⟨t,ht⟩:∃ t,t=u.getD k 0+v.getD k 0+c:=⟨_,rfl⟩
  have hst:=add_step hv ht
  have e5:zb 0 (zZ k)=k:=by rw [hS.idx,hS.ofN]; omega
  have hok:k < n->o.getD k 0=u.getD k 0:=fun h=>by
   have:=congrArg (fun y=>List.getD y 0 0) hdr
   simpa [List.getD_eq_getElem?_getD] using this
  have e0:k < n->zn (zW .u32 o) k=u.getD k 0:=fun h=>by rw [hS.getI,hS.W,qap,hok h]
  have eu:zA .u64 (u.getD k 0)=u.getD k 0:=by rw [hS.wrap,qaa (by omega) (by omega)]
  have e1:zA .u64 (zB (zA .u64 (zB (u.getD k 0) (v.getD k 0))) c)=t:=by
   rw [hS.wrap,hS.add,hS.wrap,hS.add,qaa (x:=u.getD k 0+v.getD k 0) (by omega) (by omega),qaa (by omega) (by omega),ht]
  have e2:zA .u32 (zF t 4294967296)=t % 4294967296:=by rw [hS.rem,Int.tmod_eq_emod_of_nonneg (by omega),hS.wrap]; exact qaz (by omega) (by omega)
  have e3:zA .u64 (zE t 4294967296)=t / 4294967296:=by rw [hS.quo,Int.tdiv_eq_ediv_of_nonneg (by omega),hS.wrap]; exact qaa (by omega) (by omega)
  have e4:k < n->zA .i64 (zB (zZ k) 1)=zZ (k+1):=fun h=>by rw [hS.wrap,hS.add,hS.ofN,hS.ofN,wrap_i64 (by omega) (by omega)]; omega
  have e6:=qbp hS.lt hS.ofN k n
  have e7:∀ x,zo .u32 (zW .u32 o) k x=zW .u32 (o.set k x):=fun x=>by rw [hS.setI,hS.W,W_set]
  have e8:k < n->zY (zZ k) n=true:=fun h=>by rw [hS.inb,hS.ofN]; exact decide_eq_true (by omega)
  have e9:k < n->zm .u32 (zW .u32 o) k=true:=fun h=>by rw [hS.isI,hS.W,qav]; exact decide_eq_true (by omega)
  have e10:zc (zj (zW .u32 o)) (zj r)=true:=by rw [h1,hS.neq,hS.len,hS.W,qal]; exact decide_eq_true (by omega)
  have hend:k=n->W .u32 o=r':=fun h=>by
   subst h
   rw [List.take_of_length_le (by omega),List.take_of_length_le (by omega),List.take_of_length_le (by omega)] at hv
   rw [hr',<- hn,wds_of (x:=val u+val v) (b:=-c) hw ho (by rw [Int.neg_mul]; omega)]
  have hset:k < n->val ((o.set k (t % 4294967296)).take (k+1))=val (o.take k)+4294967296 ^ k*(t % 4294967296):=fun h=>qak _ (by omega)
  have htb:0<=t / 4294967296/\t / 4294967296<=1:=by omega
  clear ht
  generalize hga:u.getD k 0=a at *
  generalize hgb:v.getD k 0=m at *
  cbv
  refine ⟨fun h=>?_,fun h=>nd e10 ?_⟩
  all_goals rw [e6] at h
  ·have h:=of_decide_eq_true h
   rw [e5]
   refine nd (e8 h) (nd (e9 h) ⟨_,hS.call hwb,?_⟩)
   cbv
   rw [e5,e0 h,eu,e1,e2,e3,e4 h,e7]
   refine nd (e8 h) (nd (e9 h) ?_)
   refine again (s':=rresSt (zW .u32 (o.set k (t % 4294967296))) s n (t / 4294967296) (zZ (k+1))) (m:=j - 1) (by simp [leT,rresSt,mkSt,vi,vl,vb]) (by simp [leH,rresSt,mkSt]) rfl (Nat.le_refl 2) (by omega)
    ⟨_,_,_,by omega,by simpa using ho,hw.set _ (by omega) (by omega),htb,?_,?_,rfl⟩
   ·rw [qa0]
    have:=congrArg (List.drop 1) hdr
    simpa [List.drop_drop] using this
   ·rw [hset h,qad u,qad v,Int.pow_succ,hga,hgb]
    exact hst
  ·have h:=of_decide_eq_false h
   rw [hS.W,hend (by omega)]
   exact hF _ (ResLe.refl _)
open Go Go.Abs Go.Abs.M Go.Proofs
def rgueSt (r s:Abs.Rows) (len:Nat) (n t q e:Int):St:=mkSt 75 [.c (.sl 0 0 len false),vl s,.junk,.junk,vi .u64 0,vi .i64 n,vi .u64 t,vi .u64 q,vi .u64 e] [some (.rows 1 r false false),none]
theorem rguess_call {r s:Abs.Rows} {u v:List Int} {n:Nat} (g:Int) (hr:r=W .u32 u) (hs:s=W .u32 v) (hu:u.length=n+1) (hv:v.length=n) (hn:2<=n) (hn2:n<=1099511627776) (huw:Wd u) (hvw:Wd v) (htop:2147483648<=v.getD (n - 1) 0)
  (hg:g=guess0 (v.getD (n - 1) 0) (v.getD (n - 2) 0) (u.getD (n - 2) 0) (u.getD n 0*4294967296+u.getD (n - 1) 0)) :
  ACall Tryz.prog 157 [.bor 1 r,.val (tl s)] ⟨[.val (ti .u64 g)],[some (.rows 1 r false false),none]⟩:=by
 have g1:=huw.get n
 have g2:=huw.get (n - 1)
 have g3:=huw.get (n - 2)
 have g4:=hvw.get (n - 1)
 have g5:=hvw.get (n - 2)
 obtain ⟨t,ht⟩:∃ t,t=u.getD n 0*4294967296+u.getD (n - 1) 0:=⟨_,rfl⟩
 rw [<- ht] at hg
 refine callZ ccOk mixed [.val] Tryz.func157 rfl rfl (by kernel_rfl) fun zA zB zC zD zE zF zG zH zI zJ zK zL zM zN zO zP zQ zR zT zU zV zX zY zZ zb zc zd ze zg zh zi zj zk zl zm zn zo zq zr zs zt zu zx zy zz zmget zmset zW zth A L F hS hF=>?_
 have h1:zj r=n+1:=by rw [hS.len,hr,qal,hu]
 have h2:zj s=n:=by rw [hS.len,hs,qal,hv]
 have hrW:r=zW .u32 u:=by rw [hS.W]; exact hr
 have w1:zA .i64 (zC (zZ n) 1)=zZ (n - 1):=by rw [hS.wrap,hS.sub,hS.ofN,hS.ofN,wrap_i64 (by omega) (by omega)]; omega
 have w2:zA .i64 (zC (zZ n) 2)=zZ (n - 2):=by rw [hS.wrap,hS.sub,hS.ofN,hS.ofN,wrap_i64 (by omega) (by omega)]; omega
 have f2:∀ q,zb 0 (zZ q)=q:=fun q=>by rw [hS.idx,hS.ofN]; omega
 have f3:∀ q,q < n+1->zY (zZ q) (zj r)=true:=fun q hq=>by rw [h1,hS.inb,hS.ofN]; exact decide_eq_true (by omega)
 have f4:∀ q,q < n+1->zm .u32 r q=true:=fun q hq=>by rw [hS.isI,hr,qav]; exact decide_eq_true (by omega)
 have f5:∀ q,zn r q=u.getD q 0:=fun q=>by rw [hS.getI,hr,qap]
 have f6:∀ q,zP 0 (zZ q)=true:=fun q=>by rw [hS.le,hS.ofN]; exact decide_eq_true (by omega)
 have f7:∀ q,q < n->zm .u32 s (zX (zZ q))=true:=fun q hq=>by rw [hS.isI,hs,hS.nat,hS.ofN,qav]; exact decide_eq_true (by omega)
 have f8:∀ q,zn s (zX (zZ q))=v.getD q 0:=fun q=>by rw [hS.getI,hS.nat,hS.ofN,hs,qap,Int.toNat_natCast]
 have eu:∀ q,zA .u64 (u.getD q 0)=u.getD q 0:=fun q=>by have:=huw.get q; rw [hS.wrap,qaa (by omega) (by omega)]
 have ev:∀ q,zA .u64 (v.getD q 0)=v.getD q 0:=fun q=>by have:=hvw.get q; rw [hS.wrap,qaa (by omega) (by omega)]
 have et:zA .u64 (zB (zA .u64 (zD (u.getD n 0) 4294967296)) (u.getD (n - 1) 0))=t:=by
  rw [hS.wrap,hS.wrap,hS.mul,hS.add,qaa (x:=u.getD n 0*4294967296) (by omega) (by omega),qaa (by omega) (by omega),ht]
 have htb:0<=t/\t < 18446744073709551616:=by omega
 have hnz:zN (v.getD (n - 1) 0) 0=true:=by rw [hS.ne]; exact decide_eq_true (by omega)
 have hq0:0<=t / v.getD (n - 1) 0:=Int.ediv_nonneg (by omega) (by omega)
 have hq1:t / v.getD (n - 1) 0 < 8589934592:=Int.ediv_lt_of_lt_mul (by omega) (by omega)
 have hm0:=Int.emod_nonneg t (show v.getD (n - 1) 0 ≠ 0 by omega)
 have hm1:=Int.emod_lt_of_pos t (show 0 < v.getD (n - 1) 0 by omega)
 have eq:zA .u64 (zE t (v.getD (n - 1) 0))=t / v.getD (n - 1) 0:=by rw [hS.quo,Int.tdiv_eq_ediv_of_nonneg (by omega),hS.wrap]; exact qaa (by omega) (by omega)
 have er:zF t (v.getD (n - 1) 0)=t % v.getD (n - 1) 0:=by rw [hS.rem,Int.tmod_eq_emod_of_nonneg (by omega)]
 have hstart:guessF (v.getD (n - 1) 0) (v.getD (n - 2) 0) (u.getD (n - 2) 0) 3 (t / v.getD (n - 1) 0) (t % v.getD (n - 1) 0)=g:=hg.symm
 have e10:zc (zj r) (zj r)=true:=by rw [hS.neq]; exact decide_eq_true rfl
 clear hg ht
 generalize ha1:v.getD (n - 1) 0=v1 at *
 generalize ha2:v.getD (n - 2) 0=v2 at *
 generalize ha3:u.getD (n - 2) 0=u2 at *
 generalize ha4:u.getD n 0=u0 at *
 generalize ha5:u.getD (n - 1) 0=u1 at *
 have eu0:=eu n
 have eu1:=eu (n - 1)
 have eu2:=eu (n - 2)
 have ev1:=ev (n - 1)
 have ev2:=ev (n - 2)
 rw [ha4] at eu0
 rw [ha5] at eu1
 rw [ha3] at eu2
 rw [ha1] at ev1
 rw [ha2] at ev2
 cbv
 rw [h2,w1,f2,f2,f5,f5,f8,ha1,ha4,ha5,eu0,eu1,ev1,et,eq,er]
 refine nd (f3 _ (by omega)) (nd (f4 _ (by omega)) (nd (f3 _ (by omega)) (nd (f4 _ (by omega)) (nd (f6 _) (nd (f7 _ (by omega)) (nd hnz (nd (f6 _) (nd (f7 _ (by omega)) (nd hnz ?_)))))))))
 generalize t / v1=q0 at *
 generalize t % v1=m0 at *
 refine loopZ ccOk mixed hS (fun (j:Nat) s'=>∃ (q e:Int),0<=q/\q < 8589934592/\0<=e/\e < 4294967296/\guessF v1 v2 u2 j q e=g/\4294967296<=e+j*v1/\s'=rgueSt r s (zj r) (zZ n) t q e) (n:=3)
  (s0:=rgueSt r s (zj r) (zZ n) t q0 m0) (qao ?_ ?_) rfl (Nat.le_refl 2) ?_ ?_
 ·simp [leT,rgueSt,mkSt,vi,vl,vb,hS.ofN]
 ·simp [leH,rgueSt,mkSt]
 ·exact ⟨q0,m0,hq0,hq1,hm0,by omega,hstart,by push_cast; omega,rfl⟩
 ·rintro j _ ⟨q,e,b1,b2,b3,b4,hgF,hme,rfl⟩
  have j0:j ≠ 0:=by
   rintro rfl
   simp at hme
   omega
  obtain ⟨j,rfl⟩:∃ i,j=i+1:=⟨j - 1,by omega⟩
  have hme':4294967296<=(e+v1)+j*v1:=by
   have:((j+1:Nat):Int)*v1=j*v1+v1:=by push_cast; grind
   omega
  simp only [guessF] at hgF
  have x1:zP 4294967296 q=decide (4294967296<=q):=by rw [hS.le]
  have x2:zA .u64 (zB e v1)=e+v1:=by rw [hS.wrap,hS.add]; exact qaa (by omega) (by omega)
  have x3:zP 4294967296 (e+v1)=decide (4294967296<=e+v1):=by rw [hS.le]
  have x4:0 < q->zA .u64 (zC q 1)=q - 1:=fun h=>by rw [hS.wrap,hS.sub]; exact qaa (by omega) (by omega)
  have hq2:q < 4294967296->0<=q*v2/\q*v2<=4294967295*4294967295:=fun h=>⟨Int.mul_nonneg b1 g5.1,Int.mul_le_mul (by omega) (by omega) g5.1 (by omega)⟩
  have x5:q < 4294967296->zO (zA .u64 (zB (zA .u64 (zD e 4294967296)) u2)) (zA .u64 (zD q v2))=decide (e*4294967296+u2 < q*v2):=fun h=>by
   have:=hq2 h
   rw [hS.lt,hS.wrap,hS.wrap,hS.wrap,hS.mul,hS.mul,hS.add,qaa (x:=e*4294967296) (by omega) (by omega),qaa (x:=e*4294967296+u2) (by omega) (by omega),qaa (x:=q*v2) (by omega) (by omega)]
  have hpos:e*4294967296+u2 < q*v2->0 < q:=fun h=>by
   rcases Int.lt_or_le 0 q with h' | h'
   ·exact h'
   ·obtain rfl:q=0:=by omega
    omega
  have fin:∀ x:Int,x=g->F ⟨[.val (.c (.v (.int .u64 x)))],[some (.rows 1 r false false),none]⟩:=fun x hx=>by rw [hx]; exact hF _ (ResLe.refl _)
  have step:(4294967296<=q ∨ e*4294967296+u2 < q*v2)->¬ 4294967296<=e+v1->0 < q->∀ (T:List AV) (H:Heap),leT T (rgueSt r s (zj r) (zZ n) t (q - 1) (e+v1)).tmps->leH H (rgueSt r s (zj r) (zZ n) t (q - 1) (e+v1)).heap->∃ s':St,(St.mk T H).Le s'/\s'.refsLt=true/\[Arg.bor 1 r,Arg.val (tl s)].length<=s'.heap.length/\∃ m,m < j+1/\∃ (q e:Int),0<=q/\q < 8589934592/\0<=e/\e < 4294967296/\guessF v1 v2 u2 m q e=g/\4294967296<=e+m*v1/\s'=rgueSt r s (zj r) (zZ n) t q e:=fun hb hc hp T H hT hH=>by
   rw [if_pos hb,if_neg hc] at hgF
   exact ⟨_,qao hT hH,rfl,Nat.le_refl 2,j,by omega,q - 1,e+v1,by omega,by omega,by omega,by omega,hgF,hme',rfl⟩
  cbv
  rw [w1,w2,f2,f8,f8,f5,ha1,ha2,ha3,ev1,ev2,eu2,x2]
  refine ⟨fun h=>?_,fun h=>?_⟩
  all_goals rw [x1] at h
  ·have h:=of_decide_eq_true h
   rw [x4 (by omega)]
   refine nd (f6 _) (nd (f7 _ (by omega)) ⟨fun h'=>nd e10 (fin _ ?_),fun h'=>?_⟩)
   all_goals rw [x3] at h'
   ·rw [if_pos (.inl h),if_pos (of_decide_eq_true h')] at hgF
    exact hgF
   ·exact step (.inl h) (of_decide_eq_false h') (by omega) _ _ (by simp [leT,rgueSt,mkSt,vi,vl,vb]) (by simp [leH,rgueSt,mkSt])
  ·have h:=of_decide_eq_false h
   refine nd (f6 _) (nd (f7 _ (by omega)) (nd (f3 _ (by omega)) (nd (f4 _ (by omega)) ⟨fun h''=>?_,fun h''=>nd e10 (fin _ ?_)⟩)))
   all_goals rw [x5 (by omega)] at h''
   ·have h'':=of_decide_eq_true h''
    have hp:=hpos h''
    rw [x4 hp]
    refine nd (f6 _) (nd (f7 _ (by omega)) ⟨fun h'=>nd e10 (fin _ ?_),fun h'=>?_⟩)
    all_goals rw [x3] at h'
    ·rw [if_pos (.inr h''),if_pos (of_decide_eq_true h')] at hgF
     exact hgF
    ·exact step (.inr h'') (of_decide_eq_false h') hp _ _ (by simp [leT,rgueSt,mkSt,vi,vl,vb]) (by simp [leH,rgueSt,mkSt])
   ·have h'':=of_decide_eq_false h''
    rw [if_neg (by omega)] at hgF
    exact hgF
end Go.Proofs.YtjfmkcmepdedaaaGreat
end
section
namespace Go.Abs.M
def setRg (l:List Int) (c:Nat) (xs:List Int):List Int:=l.take c ++ xs ++ l.drop (c+xs.length)
theorem val_take_eq {l:List Int} {p:Nat} (hw:Wd l) (h:val l < 4294967296 ^ p):val (l.take p)=val l/\val (l.drop p)=0:=by
 rcases Nat.lt_or_ge l.length p with hp | hp
 ·rw [List.take_of_length_le (by omega),List.drop_of_length_le (by omega)]; exact ⟨rfl,rfl⟩
 ·have e:=qa1 l p hp
  have a:=qaf (hw.take p)
  have b:=qaf (hw.drop p)
  have hq:=qam p
  rcases Int.lt_or_le 0 (val (l.drop p)) with h0 | h0
  ·exfalso
   have:4294967296 ^ p*1<=4294967296 ^ p*val (l.drop p):=Int.mul_le_mul_of_nonneg_left (by omega) (by omega)
   omega
  ·have hz:val (l.drop p)=0:=by omega
   rw [hz] at e
   exact ⟨by omega,hz⟩
structure DInv (U V:Int) (n m k:Nat) (u q:List Int):Prop where
 ul:u.length=n+m+1
 ql:q.length=m+1
 uw:Wd u
 qw:Wd q
 hk:k<=m+1
 eq:U=val u+V*4294967296 ^ k*val (q.drop k)
 lt:val (u.drop k) < V
def dpart (n j:Nat) (u:List Int):List Int:=(u.drop j).take (n+1)
section
variable {U V:Int} {n m j:Nat} {u q v:List Int}
theorem DInv.part_val (h:DInv U V n m (j+1) u q) (hV:V < 4294967296 ^ n):val (dpart n j u)=val (u.drop j)/\val (u.drop (j+(n+1)))=0/\val (dpart n j u) < V*4294967296:=by
 have hj:=h.hk
 have hul:=h.ul
 have hlt:=h.lt
 have e:=qaj (l:=u) (k:=j) (by omega)
 have hw:=h.uw.get j
 have hb:val (u.drop j) < V*4294967296:=by omega
 have hb2:val (u.drop j) < 4294967296 ^ (n+1):=by rw [Int.pow_succ]; omega
 obtain ⟨a,b⟩:=val_take_eq (h.uw.drop j) hb2
 refine ⟨a,?_,by unfold dpart; omega⟩
 rw [List.drop_drop] at b
 exact b
theorem dpart_length (hu:u.length=n+m+1) (hj:j<=m):(dpart n j u).length=n+1:=by unfold dpart; simp; omega
theorem setRg_length {c:Nat} {xs l:List Int} (h:c+xs.length<=l.length):(setRg l c xs).length=l.length:=by unfold setRg; simp; omega
theorem setRg_wd {c:Nat} {xs l:List Int} (hl:Wd l) (hx:Wd xs):Wd (setRg l c xs):=((hl.take c).append hx).append (hl.drop _)
theorem val_setRg {c:Nat} {xs l:List Int} (h:c+xs.length<=l.length):val (setRg l c xs)=val (l.take c)+4294967296 ^ c*(val xs+4294967296 ^ xs.length*val (l.drop (c+xs.length))):=by
 unfold setRg
 rw [List.append_assoc,val_append,val_append,List.length_take,Nat.min_eq_left (by omega)]
theorem drop_setRg {c:Nat} {xs l:List Int} (h:c+xs.length<=l.length):(setRg l c xs).drop c=xs ++ l.drop (c+xs.length):=by
 unfold setRg
 rw [List.append_assoc,List.drop_append_of_le_length (by simp; omega),List.drop_of_length_le (by simp; omega)]
 rfl
theorem DInv.step (h:DInv U V n m (j+1) u q) (hV:V < 4294967296 ^ n) (hV0:0 < V) {d:Int} (hd:d=val (dpart n j u) / V) :
  0<=d/\d < 4294967296/\DInv U V n m j (setRg u j (wds (n+1) (val (dpart n j u) - d*V))) (q.set j d):=by
 obtain ⟨p1,p2,p3⟩:=h.part_val hV
 have hj:=h.hk
 have hul:=h.ul
 have hpw:Wd (dpart n j u):=(h.uw.drop j).take _
 have hp0:=qaf hpw
 have hd0:0<=d:=by rw [hd]; exact Int.ediv_nonneg hp0 (by omega)
 have hd1:d < 4294967296:=by rw [hd]; exact Int.ediv_lt_of_lt_mul hV0 (by rw [Int.mul_comm]; exact p3)
 have hm0:=Int.emod_nonneg (val (dpart n j u)) (show V ≠ 0 by omega)
 have hm1:=Int.emod_lt_of_pos (val (dpart n j u)) hV0
 have hme:=Int.emod_add_mul_ediv (val (dpart n j u)) V
 rw [<- hd] at hme
 have hpow:(4294967296:Int) ^ (n+1)=4294967296 ^ n*4294967296:=Int.pow_succ ..
 have hpp:=qam n
 have hx:val (wds (n+1) (val (dpart n j u) - d*V))=val (dpart n j u) - d*V:=wds_eq (by
  have:d*V=V*d:=Int.mul_comm ..
  omega) (by
  have:d*V=V*d:=Int.mul_comm ..
  omega)
 have hwl:=qay (n+1) (val (dpart n j u) - d*V)
 have hfit:j+(wds (n+1) (val (dpart n j u) - d*V)).length<=u.length:=by rw [hwl]; omega
 refine ⟨hd0,hd1,⟨by rw [setRg_length hfit]; exact hul,by simpa using h.ql,setRg_wd h.uw (wds_wd _ _),h.qw.set _ hd0 hd1,by omega,?_,?_⟩⟩
 ·have e1:=val_setRg hfit
  rw [hwl,hx,p2,Int.mul_zero,Int.add_zero] at e1
  have e2:=qa1 u j (by omega)
  rw [<- p1] at e2
  have e3:val ((q.set j d).drop j)=d+4294967296*val (q.drop (j+1)):=by
   have hql:=h.ql
   rw [qaj (by simp; omega),getD_set_self _ (by omega),qa0]
  rw [e1,e3,h.eq,e2,Int.pow_succ]
  grind
 ·rw [drop_setRg hfit,val_append,hwl,hx,p2]
  have:d*V=V*d:=Int.mul_comm ..
  omega
end
theorem digit_of {X V g d:Int} (hV:0 < V) (hd:d=X / V) (h1:d<=g) (h2:(g - 1)*V<=X):(X - g*V < 0->g - 1=d)/\(¬ X - g*V < 0->g=d):=by
 have e:=Int.emod_add_mul_ediv X V
 have b1:=Int.emod_nonneg X (show V ≠ 0 by omega)
 have b2:=Int.emod_lt_of_pos X hV
 rw [<- hd] at e
 have hg:g<=d+1:=by
  rcases Int.lt_or_le (d+1) g with h | h
  ·exfalso
   have:(d+1)*V<=(g - 1)*V:=Int.mul_le_mul_of_nonneg_right (by omega) (by omega)
   have e2:(d+1)*V=V*d+V:=by grind
   omega
  ·exact h
 refine ⟨fun h=>?_,fun h=>?_⟩
 ·rcases (show g=d ∨ g=d+1 by omega) with rfl | rfl
  ·have:g*V=V*g:=Int.mul_comm ..
   omega
  ·omega
 ·rcases (show g=d ∨ g=d+1 by omega) with rfl | rfl
  ·rfl
  ·have e2:(d+1)*V=V*d+V:=by grind
   omega
theorem wds_back {n:Nat} {x y:Int}:wds n (val (wds n x)+y)=wds n (x+y):=by
 refine val_inj (wds_wd _ _) (wds_wd _ _) (by rw [qay,qay]) ?_
 rw [wds_val,wds_val,wds_val,Int.emod_add_emod]
theorem DInv.start {U V:Int} {n m:Nat} {u:List Int} (hu:u.length=n+m+1) (hw:Wd u) (hU:val u=U) (hlt:U < V*4294967296 ^ (m+1)):DInv U V n m (m+1) u (List.replicate (m+1) 0):=by
 refine ⟨hu,by simp,hw,Wd.rep _,Nat.le_refl _,?_,?_⟩
 ·rw [List.drop_of_length_le (by simp)]; simp [val,hU]
 ·have e:=qa1 u (m+1) (by omega)
  have a:=qaf (hw.take (m+1))
  rcases Int.lt_or_le (val (u.drop (m+1))) V with h | h
  ·exact h
  ·exfalso
   have:4294967296 ^ (m+1)*V<=4294967296 ^ (m+1)*val (u.drop (m+1)):=Int.mul_le_mul_of_nonneg_left h (by have:=qam (m+1); omega)
   have e2:V*4294967296 ^ (m+1)=4294967296 ^ (m+1)*V:=Int.mul_comm ..
   omega
theorem DInv.last {a b d:Int} {n m:Nat} {u q:List Int} (h:DInv (d*a) (d*b) n m 0 u q) (hd:0 < d) (hb:0 < b):val q=a / b/\val u / d=a % b:=by
 have e:=h.eq
 have l:=h.lt
 simp only [List.drop_zero,Int.pow_zero,Int.mul_one] at e l
 have hu:=qaf h.uw
 have e1:val u=d*(a - b*val q):=by grind
 have r0:0<=a - b*val q:=by
  rcases Int.lt_or_le (a - b*val q) 0 with h | h
  ·have:=Int.mul_neg_of_pos_of_neg hd h; omega
  ·exact h
 have r1:a - b*val q < b:=by
  rcases Int.lt_or_le (a - b*val q) b with h | h
  ·exact h
  ·have:=Int.mul_le_mul_of_nonneg_left h (show 0<=d by omega)
   omega
 have hq:a / b=val q/\a % b=a - b*val q:=by
  have e2:a=(a - b*val q)+b*val q:=by omega
  refine ⟨?_,?_⟩
  ·conv=>lhs; rw [e2]
   rw [Int.add_mul_ediv_left _ _ (by omega),Int.ediv_eq_zero_of_lt r0 r1,Int.zero_add]
  ·conv=>lhs; rw [e2]
   rw [Int.add_mul_emod_self_left,Int.emod_eq_of_lt r0 r1]
 refine ⟨hq.1.symm,?_⟩
 rw [hq.2,e1,Int.mul_ediv_cancel_left _ (by omega)]
theorem norm_ok {b w d:Int} {n:Nat} (hw0:1<=w) (hw1:w < 4294967296) (hd:d=4294967296 / (w+1)) (h1:w*4294967296 ^ n<=b) (h2:b < (w+1)*4294967296 ^ n) :
  1<=d/\d < 4294967296/\2147483648*4294967296 ^ n<=d*b/\d*b < 4294967296*4294967296 ^ n:=by
 have e:=Int.emod_add_mul_ediv 4294967296 (w+1)
 have b1:=Int.emod_nonneg 4294967296 (show w+1 ≠ 0 by omega)
 have b2:=Int.emod_lt_of_pos 4294967296 (show 0 < w+1 by omega)
 rw [<- hd] at e
 have hp:=qam n
 have d1:1<=d:=by
  rw [hd]
  exact Int.le_ediv_of_mul_le (by omega) (by omega)
 have d2:d < 4294967296:=by
  rw [hd]
  exact Int.ediv_lt_of_lt_mul (by omega) (by omega)
 have big:2147483648<=d*w:=by
  rcases (show d=1 ∨ 2<=d by omega) with h | h
  ·rw [h] at e ⊢; omega
  ·rcases (show w=1 ∨ 2<=w by omega) with h' | h'
   ·subst h'; omega
   ·have:2*(w - 1)<=d*(w - 1):=Int.mul_le_mul_of_nonneg_right h (by omega)
    have e1:d*(w - 1)=d*w - d:=by grind
    have e2:(w+1)*d=d*w+d:=by grind
    omega
 refine ⟨d1,d2,?_,?_⟩
 ·have x1:d*(w*4294967296 ^ n)<=d*b:=Int.mul_le_mul_of_nonneg_left h1 (by omega)
  have x2:2147483648*4294967296 ^ n<=d*w*4294967296 ^ n:=Int.mul_le_mul_of_nonneg_right big (by omega)
  have x3:d*w*4294967296 ^ n=d*(w*4294967296 ^ n):=by grind
  omega
 ·have x1:d*b < d*((w+1)*4294967296 ^ n):=Int.mul_lt_mul_of_pos_left h2 (by omega)
  have x2:(w+1)*d*4294967296 ^ n<=4294967296*4294967296 ^ n:=Int.mul_le_mul_of_nonneg_right (by omega) (by omega)
  have x3:(w+1)*d*4294967296 ^ n=d*((w+1)*4294967296 ^ n):=by grind
  omega
theorem top_word {l:List Int} {n:Nat} (hw:Wd l) (hl:l.length=n+1):l.getD n 0*4294967296 ^ n<=val l/\val l < (l.getD n 0+1)*4294967296 ^ n:=by
 have e:=qa1 l n (by omega)
 rw [qaj (by omega),List.drop_of_length_le (by omega)] at e
 have a:=qaf (hw.take n)
 have b:=qbm (hw.take n)
 rw [List.length_take,Nat.min_eq_left (by omega)] at b
 simp only [val] at e
 have x1:(l.getD n 0+1)*4294967296 ^ n=l.getD n 0*4294967296 ^ n+4294967296 ^ n:=by grind
 have x2:4294967296 ^ n*(l.getD n 0+4294967296*0)=l.getD n 0*4294967296 ^ n:=by grind
 omega
theorem dpart_setRg {n j:Nat} {u x:List Int} (hx:x.length=n+1) (h:j+(n+1)<=u.length):dpart n j (setRg u j x)=x:=by
 unfold dpart
 rw [drop_setRg (by omega),List.take_append_of_le_length (by omega),List.take_of_length_le (by omega)]
theorem setRg_self {n j:Nat} {u:List Int} (h:j+(n+1)<=u.length):setRg u j (dpart n j u)=u:=by
 unfold setRg dpart
 rw [List.length_take,List.length_drop,Nat.min_eq_left (by omega)]
 have e:List.drop (j+(n+1)) u=List.drop (n+1) (List.drop j u):=by rw [List.drop_drop]
 rw [e,List.append_assoc,List.take_append_drop,List.take_append_drop]
theorem setRg_setRg {j:Nat} {u x y:List Int} (hxy:x.length=y.length) (h:j+x.length<=u.length):setRg (setRg u j x) j y=setRg u j y:=by
 have e1:(setRg u j x).take j=u.take j:=by
  unfold setRg
  rw [List.append_assoc,List.take_append_of_le_length (by simp; omega),List.take_of_length_le (by simp; omega)]
 have e2:(setRg u j x).drop (j+y.length)=u.drop (j+y.length):=by
  have:=drop_setRg h
  rw [<- List.drop_drop,this,List.drop_append_of_le_length (by omega),List.drop_of_length_le (by omega),hxy]
  rfl
 show (setRg u j x).take j ++ y ++ (setRg u j x).drop (j+y.length)=setRg u j y
 rw [e1,e2]
 rfl
theorem fill_val {n:Nat} {x:List Int} (h:x.length<=n) (hw:Wd x):val (setRg (List.replicate n 0) 0 x)=val x/\(setRg (List.replicate n 0) 0 x).length=n/\Wd (setRg (List.replicate n 0) 0 x):=by
 refine ⟨?_,by rw [setRg_length (by simp; omega)]; simp,setRg_wd (Wd.rep _) hw⟩
 rw [val_setRg (by simp; omega)]
 simp [val,val_rep]
end Go.Abs.M
namespace Go.Abs.M
theorem div_round {U V:Int} {n m j:Nat} {u q lv:List Int} (hI:DInv U V n m (j+1) u q) (hn:2<=n) (llv:lv.length=n) (wlv:Wd lv) (vlv:val lv=V) (htop:2147483648<=lv.getD (n - 1) 0) :
  ∃ (g qd:Int) (b:Bool) (x1:List Int),g=guess0 (lv.getD (n - 1) 0) (lv.getD (n - 2) 0) ((dpart n j u).getD (n - 2) 0) ((dpart n j u).getD n 0*4294967296+(dpart n j u).getD (n - 1) 0)/\0<=g/\g<=4294967296/\0<=qd/\qd < 4294967296 /\
   b=decide (val (dpart n j u) - g*val lv < 0)/\x1=wds (n+1) (val (dpart n j u) - g*val lv)/\x1.length=n+1/\Wd x1/\j<=m/\u.length=n+m+1/\q.length=m+1/\(dpart n j u).length=n+1/\Wd (dpart n j u) /\
   (b=true->g - 1=qd/\∃ x2,x2=wds x1.length (val x1+val lv)/\x2.length=n+1/\DInv U V n m j (setRg u j x2) (q.set j qd)) /\
   (b=false->g=qd/\DInv U V n m j (setRg u j x1) (q.set j qd)):=by
 have hVlt:V < 4294967296 ^ n:=by rw [<- vlv,<- llv]; exact qbm wlv
 have hV0:0 < V:=by
  have h1:=(top_word wlv (n:=n - 1) (by omega)).1
  rw [vlv] at h1
  have h2:=Int.mul_pos (show 0 < lv.getD (n - 1) 0 by omega) (qam (n - 1))
  omega
 have hj:=hI.hk
 have hul:=hI.ul
 obtain ⟨p1,p2,p3⟩:=hI.part_val hVlt
 obtain ⟨X,hX⟩:∃ X,X=val (dpart n j u):=⟨_,rfl⟩
 obtain ⟨qd,hqd⟩:∃ qd,qd=X / V:=⟨_,rfl⟩
 obtain ⟨s1,s2,s3⟩:=hI.step hVlt hV0 (hX ▸ hqd)
 have pl:=dpart_length (n:=n) hul (show j<=m by omega)
 have pw:Wd (dpart n j u):=(hI.uw.drop j).take _
 have hX0:=qaf pw
 rw [<- hX] at hX0 p3 s3
 have hkn:=kn_of hn pl llv pw wlv htop (by rw [vlv,<- hX]; exact p3)
 obtain ⟨g,hg⟩:∃ g,g=guess0 (lv.getD (n - 1) 0) (lv.getD (n - 2) 0) ((dpart n j u).getD (n - 2) 0) ((dpart n j u).getD n 0*4294967296+(dpart n j u).getD (n - 1) 0):=⟨_,rfl⟩
 obtain ⟨k1,k2,k3⟩:=guess0_spec (q:=qd) hkn (by rw [vlv,<- hX,hqd]; exact Int.ediv_mul_le _ (by omega)) s1 s2
 rw [<- hg] at k1 k2 k3
 rw [vlv,<- hX] at k3
 obtain ⟨d1,d2⟩:=digit_of hV0 hqd k1 k3
 refine ⟨g,qd,_,_,hg,by omega,k2,s1,s2,rfl,rfl,qay _ _,wds_wd _ _,by omega,hul,hI.ql,pl,pw,fun h=>?_,fun h=>?_⟩
 ·rw [vlv,<- hX] at h
  have hq:=d1 (of_decide_eq_true h)
  refine ⟨hq,_,rfl,by rw [qay,qay],?_⟩
  rw [qay,wds_back,vlv,<- hX,show X - g*V+V=X - qd*V by rw [show g=qd+1 by omega]; grind]
  exact s3
 ·rw [vlv,<- hX] at h
  have hq:=d2 (of_decide_eq_false h)
  refine ⟨hq,?_⟩
  rw [vlv,<- hX,hq]
  exact s3
end Go.Abs.M
end
section
namespace Go.Proofs.YtjfmkcmepdedaaaGreat
open Go Go.Abs Go.Abs.M Go.Proofs
def rdivSt (r s v U Q:Abs.Rows) (ul ql:Nat) (n d j:Int):St:=mkSt 110 [vl r,vl s,.junk,.junk,vnil,vnil,.junk,.junk,vi .i64 n,vi .u64 d,vl v,.c (.sl 8 0 ul false),.c (.sl 13 0 ql false),vi .i64 j] [none,none,none,none,none,none,none,none,some (.rows 1 U true false),none,none,none,none,some (.rows 1 Q true false)]
theorem rdivided_walk {r s w v y A2 A3:Abs.Rows} {U V w1 d c:Int} {n la m l1 m1 n1 n':Nat} {lr ls lv lu u0:List Int}
  (hr:r=W .u32 lr) (hs:s=W .u32 ls) (hv:v=W .u32 lv) (hy:y=W .u32 lu) (lrl:lr.length=la) (lsl:ls.length=n) (hsz:la<=549755813888) (hn:2<=n) (hm:la=n+m) (hl1:l1=la+1) (hm1:m1=m+1) (hn1:n1=n+1) (hn':n=n'+1)
  (hw1:ls.getD n' 0=w1) (hw1b:1<=w1/\w1 < 4294967296) (hd:4294967296 / (w1+1)=d) (hdb:1<=d/\d < 4294967296) (hc:¬ c < 0) (llu:lu.length<=l1) (hu0:setRg (List.replicate l1 0) 0 lu=u0)
  (llv:lv.length=n) (wlv:Wd lv) (vlv:val lv=V) (htop:2147483648<=lv.getD (n - 1) 0)
  (hstart:DInv U V n m (m+1) u0 (List.replicate m1 0))
  (cc:ACall Tryz.prog 131 [.val (tl r),.val (tl s)] ⟨[.val (ti .i64 c)],[none,none]⟩)
  (c1:ACall Tryz.prog 129 [.val (ti .u64 d)] ⟨[.val (tl w)],[none]⟩)
  (c2:ACall Tryz.prog 133 [.val (tl s),.val (tl w)] ⟨[.val (tl v)],[none,none]⟩)
  (c3:ACall Tryz.prog 133 [.val (tl r),.val (tl w)] ⟨[.val (tl y)],[none,none]⟩)
  (hlast:∀ u q,DInv U V n m 0 u q->∃ (A1:Abs.Rows) (A4:Int),ACall Tryz.prog 143 [.val (tl (W .u32 u))] ⟨[.val (tl A1)],[none]⟩/\ACall Tryz.prog 143 [.val (tl (W .u32 q))] ⟨[.val (tl A2)],[none]⟩ /\
   ACall Tryz.prog 156 [.val (tl A1),.val (ti .u64 d)] ⟨[.val (tl A3),.val (ti .u64 A4)],[none,none]⟩) :
  ACall Tryz.prog 154 [.val (tl r),.val (tl s)] ⟨[.val (tl A2),.val (tl A3)],[none,none]⟩:=by
 refine callZ ccOk mixed [.val,.val] Tryz.func154 rfl rfl (by kernel_rfl) fun zA zB zC zD zE zF zG zH zI zJ zK zL zM zN zO zP zQ zR zT zU zV zX zY zZ zb zc zd ze zg zh zi zj zk zl zm zn zo zq zr zs zt zu zx zy zz zmget zmset zW zth A L F hS hF=>?_
 have z1:zj r=la:=by rw [hS.len,hr,qal,lrl]
 have z2:zj s=n:=by rw [hS.len,hs,qal,lsl]
 have z3:zA .i64 (zC (zZ n) 1)=zZ n':=by rw [hS.wrap,hS.sub,hS.ofN,hS.ofN,wrap_i64 (by omega) (by omega)]; omega
 have z4:zn s (zX (zZ n'))=w1:=by rw [hS.getI,hS.nat,hS.ofN,hs,qap,Int.toNat_natCast,hw1]
 have z5:zA .u64 (zB (zA .u64 w1) 1)=w1+1:=by rw [hS.wrap,hS.wrap,qaa (x:=w1) (by omega) (by omega),hS.add]; exact qaa (by omega) (by omega)
 have z6:zA .u64 (zE 4294967296 (w1+1))=d:=by rw [hS.quo,Int.tdiv_eq_ediv_of_nonneg (by omega),hd,hS.wrap]; exact qaa (by omega) (by omega)
 have z7:zA .i64 (zB (zZ la) 1)=zZ l1:=by rw [hS.wrap,hS.add,hS.ofN,hS.ofN,wrap_i64 (by omega) (by omega)]; omega
 have z8:zA .i64 (zC (zZ la) (zZ n))=zC (zZ (m+1)) 1:=by rw [hS.wrap,hS.sub,hS.ofN,hS.ofN,hS.sub,hS.ofN,wrap_i64 (by omega) (by omega)]; omega
 have z9:zA .i64 (zB (zC (zZ (m+1)) 1) 1)=zZ m1:=by rw [hS.wrap,hS.add,hS.sub,hS.ofN,hS.ofN,wrap_i64 (by omega) (by omega)]; omega
 have znt:∀ k,zX (zZ k)=k:=fun k=>by rw [hS.nat,hS.ofN]; omega
 have hrep:∀ k,zu k [.v (.int .u32 0)]=zW .u32 (List.replicate k 0):=fun k=>by rw [hS.rep,hS.W]; exact W_rep ..
 have hy0:zt (zW .u32 (List.replicate l1 0)) 0 y=zW .u32 u0:=by rw [hS.setg,hS.W,hy,W_setg,<- hu0]; rfl
 have zyl:zj y=lu.length:=by rw [hS.len,hy,qal]
 have o1:zO c 0=false:=by rw [hS.lt]; exact decide_eq_false hc
 have o2:zM (zZ n) 1=false:=by rw [hS.eq,hS.ofN]; exact decide_eq_false (by omega)
 have o3:zP 0 (zZ n')=true:=by rw [hS.le,hS.ofN]; exact decide_eq_true (by omega)
 have o4:zm .u32 s (zX (zZ n'))=true:=by rw [hS.isI,znt,hs,qav]; exact decide_eq_true (by omega)
 have o5:zN (w1+1) 0=true:=by rw [hS.ne]; exact decide_eq_true (by omega)
 have o6:zi (zZ l1) (zZ l1) 4=true:=by rw [hS.mkok,hS.ofN]; exact decide_eq_true (by unfold capBytes; omega)
 have o7:zq 0 l1 (zW .u32 (List.replicate l1 0))=true:=by rw [hS.fit,hS.W,qal]; exact decide_eq_true (by simp)
 have o8:zx 1 y=true:=by rw [hS.wide,hy]; exact W_wide _ _
 have o9:zP (zZ (zj y)) (zZ l1)=true:=by rw [hS.le,hS.ofN,hS.ofN,zyl]; exact decide_eq_true (by omega)
 have o10:zi (zZ m1) (zZ m1) 4=true:=by rw [hS.mkok,hS.ofN]; exact decide_eq_true (by unfold capBytes; omega)
 clear hr hs lrl lsl hw1 hw1b hd hc llu hu0 hy zyl
 cbv
 refine ⟨_,hS.call cc,?_⟩
 cbv
 rw [z2,z3,z4,z5]
 refine bF o1 (bF o2 (nd o3 (nd o4 (nd o5 ?_))))
 rw [z6]
 refine ⟨_,hS.call c1,?_⟩
 cbv
 refine ⟨_,hS.call c2,?_⟩
 cbv
 rw [z1,z7,znt,hrep]
 refine nd o6 ?_
 refine ⟨_,hS.call c1,?_⟩
 cbv
 refine ⟨_,hS.call c3,?_⟩
 cbv
 rw [hy0,z1,z8,z9,znt,hrep]
 refine nd o7 (nd o8 (nd o9 (nd o10 ?_)))
 clear z2 z3 z4 z5 z6 z7 z8 z9 o1 o2 o3 o4 o5 o6 o7 o8 o9 o10 cc c1 c2 c3 hy0
 refine loopZ ccOk mixed hS (fun (k:Nat) s'=>∃ (u q:List Int),DInv U V n m k u q/\s'=rdivSt r s v (zW .u32 u) (zW .u32 q) l1 m1 (zZ n) d (zC (zZ k) 1)) (n:=m+1)
  (s0:=rdivSt r s v (zW .u32 u0) (zW .u32 (List.replicate m1 0)) l1 m1 (zZ n) d (zC (zZ (m+1)) 1)) (qao ?_ ?_) rfl (by show 2<=14; omega) ?_ ?_
 ·simp [leT,rdivSt,mkSt,vi,vl,vnil]
 ·simp [leH,rdivSt,mkSt]
 ·exact ⟨u0,_,hstart,rfl⟩
 ·clear hstart
  rintro k _ ⟨u,q,hI,rfl⟩
  cases k with
  | zero=>
   obtain ⟨A1,A4,t1,t2,t3⟩:=hlast u q hI
   have hul:=hI.ul
   have hql:=hI.ql
   have hz:zP 0 (zC (zZ 0) 1)=false:=by rw [hS.le,hS.sub,hS.ofN]; rfl
   have e10:zq 0 l1 (zW .u32 u)=true:=by rw [hS.fit,hS.W,qal]; exact decide_eq_true (by omega)
   have e11:zr (zW .u32 u) 0 l1=W .u32 u:=by rw [hS.part,hS.W,qbj,List.drop_zero,List.take_of_length_le (by omega)]
   have e12:zq 0 m1 (zW .u32 q)=true:=by rw [hS.fit,hS.W,qal]; exact decide_eq_true (by omega)
   have e13:zr (zW .u32 q) 0 m1=W .u32 q:=by rw [hS.part,hS.W,qbj,List.drop_zero,List.take_of_length_le (by omega)]
   cbv
   refine bF hz ?_
   rw [e11]
   refine nd e10 ⟨_,hS.call t1,?_⟩
   cbv
   refine ⟨_,hS.call t3,?_⟩
   cbv
   rw [e13]
   refine nd e12 ⟨_,hS.call t2,?_⟩
   cbv
   exact hF _ (ResLe.refl _)
  | succ j=>
   obtain ⟨g,qd,b,x1,hg,g0,g1,q0,q1,hb,hx1,lx1,wx1,hjm,hul,hql,pl,pw,ht,hf⟩:=div_round hI hn llv wlv vlv htop
   have cg:=rguess_call (r:=zW .u32 (dpart n j u)) g (by rw [hS.W]) hv pl llv hn (by omega) pw wlv htop hg
   have cl:=rlessen_call (r:=zW .u32 (dpart n j u)) (r':=zW .u32 x1) g b (by rw [hS.W]) hv (by omega) (by omega) pw wlv g0 g1 (by rw [hS.W,pl,hx1]) hb
   have cr:=fun x2 h=>rrestore_call (r:=zW .u32 x1) (r':=zW .u32 x2) (s:=v) (u:=x1) (by rw [hS.W]) hv (by omega) (by omega) wx1 wlv h
   clear hg hb hx1
   have hi:zC (zZ (j+1)) 1=(j:Int):=by rw [hS.sub,hS.ofN]; omega
   have hz:zP 0 (zC (zZ (j+1)) 1)=true:=by rw [hS.le,hi]; exact decide_eq_true (by omega)
   have hw1':zA .i64 (zC (zC (zZ (j+1)) 1) 1)=zC (zZ j) 1:=by rw [hi,hS.wrap,hS.sub,hS.sub,hS.ofN,wrap_i64 (by omega) (by omega)]
   have y1:zA .i64 (zB (zA .i64 (zB (zC (zZ (j+1)) 1) (zZ n))) 1)=zZ (j+n1):=by
    rw [hi,hS.wrap,hS.wrap,hS.add,hS.add,hS.ofN,hS.ofN,wrap_i64 (x:=(j:Int)+n) (by omega) (by omega),wrap_i64 (by omega) (by omega)]; omega
   have y2:zb 0 (zC (zZ (j+1)) 1)=j:=by rw [hS.idx,hi]; omega
   have y3:ze (zZ (j+n1)) (zC (zZ (j+1)) 1)=n1:=by rw [hS.dif,hi,hS.ofN]; omega
   have y4:∀ u':List Int,zr (zW .u32 u') j n1=zW .u32 (dpart n j u'):=fun u'=>by rw [hS.part,hS.W,qbj,hn1]; rfl
   have y5:∀ u' x:List Int,zt (zW .u32 u') j (zW .u32 x)=zW .u32 (setRg u' j x):=fun u' x=>by rw [hS.setg,hS.W,W_setg]; rfl
   have y6:zg (zC (zZ (j+1)) 1) (zZ (j+n1)) l1=true:=by rw [hS.cut,hi,hS.ofN]; exact decide_eq_true (by omega)
   have y7:∀ u':List Int,u'.length=n+m+1->zq j n1 (zW .u32 u')=true:=fun u' h=>by rw [hS.fit,hS.W,qal]; exact decide_eq_true (by omega)
   have y8:∀ x:List Int,x.length=n+1->zc (zj (zW .u32 x)) n1=true:=fun x h=>by rw [hS.neq,hS.len,hS.W,qal,hn1]; exact decide_eq_true h
   have y9:setRg u j (dpart n j u)=u:=setRg_self (by omega)
   have y10:dpart n j (setRg u j x1)=x1:=dpart_setRg lx1 (by omega)
   have y11:(setRg u j x1).length=n+m+1:=by rw [setRg_length (by omega)]; exact hul
   have y12:∀ x2:List Int,x2.length=n+1->setRg (setRg u j x1) j x2=setRg u j x2:=fun x2 h=>setRg_setRg (by omega) (by omega)
   have y13:zY (zC (zZ (j+1)) 1) m1=true:=by rw [hS.inb,hi]; exact decide_eq_true (by omega)
   have y14:zm .u32 (zW .u32 q) j=true:=by rw [hS.isI,hS.W,qav]; exact decide_eq_true (by omega)
   have y15:∀ x,zo .u32 (zW .u32 q) j x=zW .u32 (q.set j x):=fun x=>by rw [hS.setI,hS.W,W_set]
   have y16:zA .u32 qd=qd:=by rw [hS.wrap]; exact qaz (by omega) (by omega)
   have y18:g - 1=qd->zA .u64 (zC g 1)=qd:=fun h=>by rw [hS.wrap,hS.sub,qaa (by omega) (by omega),h]
   clear hI hi
   cbv
   refine bT hz ?_
   rw [y1,y2,y3,y4]
   refine nd y6 (nd (y7 _ hul) ⟨_,hS.call cg,?_⟩)
   cbv
   rw [y5,y9,y4]
   refine nd (y8 _ pl) (nd (y7 _ hul) ?_)
   cases b with
   | true=>
    obtain ⟨hgq,x2,hx2,lx2,hI2⟩:=ht rfl
    refine ⟨_,hS.call cl,?_⟩
    cbv
    rw [y5,y4,y10]
    refine nd (y8 _ lx1) (bT rfl (nd (y7 _ y11) ⟨_,hS.call (cr x2 (by rw [hS.W,hx2])),?_⟩))
    cbv
    rw [y2,y5,y12 _ lx2,y18 hgq,y16,y15,hw1']
    refine nd (y8 _ lx2) (nd y13 (nd y14 ?_))
    exact again (s':=rdivSt r s v (zW .u32 (setRg u j x2)) (zW .u32 (q.set j qd)) l1 m1 (zZ n) d (zC (zZ j) 1)) (m:=j) (by simp [leT,rdivSt,mkSt,vi,vl,vnil]) (by simp [leH,rdivSt,mkSt]) rfl (by show 2<=14; omega) (by omega) ⟨_,_,hI2,rfl⟩
   | false=>
    obtain ⟨hgq,hI2⟩:=hf rfl
    refine ⟨_,hS.call cl,?_⟩
    cbv
    rw [y2,y5,hgq,y16,y15,hw1']
    refine nd (y8 _ lx1) (bF rfl (nd y13 (nd y14 ?_)))
    exact again (s':=rdivSt r s v (zW .u32 (setRg u j x1)) (zW .u32 (q.set j qd)) l1 m1 (zZ n) d (zC (zZ j) 1)) (m:=j) (by simp [leT,rdivSt,mkSt,vi,vl,vnil]) (by simp [leH,rdivSt,mkSt]) rfl (by show 2<=14; omega) (by omega) ⟨_,_,hI2,rfl⟩
open Go Go.Abs Go.Abs.M Go.Proofs
theorem rdivided_long {r s:Abs.Rows} {a b:Nat} (hr:IsM a r) (hs:IsM b s) (h2:2<=nl b) (hab:b<=a) (hsz:nl a<=549755813888) :
  ACall Tryz.prog 154 [.val (tl r),.val (tl s)] ⟨[.val (tl (W .u32 (dg (a / b)))),.val (tl (W .u32 (dg (a % b))))],[none,none]⟩:=by
 obtain ⟨n,hn⟩:∃ n,n=nl b:=⟨_,rfl⟩
 obtain ⟨la,hla⟩:∃ la,la=nl a:=⟨_,rfl⟩
 have hmono:=qax hab
 obtain ⟨m,hm⟩:∃ m,la=n+m:=⟨la - n,by omega⟩
 obtain ⟨n',hn'⟩:∃ n',n=n'+1:=⟨n - 1,by omega⟩
 have lb:(dg b).length=n:=hn.symm
 have laa:(dg a).length=la:=hla.symm
 obtain ⟨w1,hw1⟩:∃ w1,w1=(dg b).getD n' 0:=⟨_,rfl⟩
 have hw1b:=(qar b).get n'
 rw [<- hw1] at hw1b
 have htw:=top_word (qar b) (n:=n') (by omega)
 rw [<- hw1,qai] at htw
 have hw1p:1<=w1:=by
  rcases dg_tr b with h | h
  ·rw [h] at lb; simp at lb; omega
  ·rw [lb,hn',Nat.add_sub_cancel,<- hw1] at h; omega
 obtain ⟨d,hd⟩:∃ d,d=4294967296 / (w1+1):=⟨_,rfl⟩
 obtain ⟨d1,d2,d3,d4⟩:=norm_ok hw1p hw1b.2 hd htw.1 htw.2
 have hbpos:0 < (b:Int):=by
  rcases Nat.eq_zero_or_pos b with h | h
  ·subst h; simp [dg_zero] at lb; omega
  ·omega
 obtain ⟨V,hV⟩:∃ V,V=d*b:=⟨_,rfl⟩
 have hV0:0 < V:=by rw [hV]; exact Int.mul_pos (by omega) hbpos
 have hpow:(4294967296:Int) ^ n=4294967296 ^ n'*4294967296:=by rw [hn',Int.pow_succ]
 have hVlt:V < 4294967296 ^ n:=by rw [hpow,hV]; omega
 have hVge:2147483648*4294967296 ^ n'<=V:=by rw [hV]; exact d3
 obtain ⟨lv,hlv⟩:∃ lv,lv=dg V.toNat:=⟨_,rfl⟩
 have vlv:val lv=V:=by rw [hlv,qai]; omega
 have wlv:Wd lv:=by rw [hlv]; exact qar _
 have llv:lv.length=n:=by
  have a1:nl V.toNat<=n:=qaq (by omega)
  have a2:n' < nl V.toNat:=by
   rcases Nat.lt_or_ge n' (nl V.toNat) with h | h
   ·exact h
   ·have x1:=lt_nl V.toNat
    have x2:=ipow_le h
    have x3:=qam n'
    omega
  rw [hlv]
  show nl V.toNat=n
  omega
 have htop:2147483648<=lv.getD (n - 1) 0:=by
  have t:=(top_word wlv (n:=n') (by omega)).2
  rw [vlv] at t
  rw [hn',Nat.add_sub_cancel]
  rcases Int.lt_or_le (lv.getD n' 0) 2147483648 with h | h
  ·exfalso
   have:=Int.mul_le_mul_of_nonneg_right (show lv.getD n' 0+1<=2147483648 by omega) (show (0:Int)<=4294967296 ^ n' by have:=qam n'; omega)
   omega
  ·exact h
 obtain ⟨lu,hlu⟩:∃ lu,lu=dg (d*a).toNat:=⟨_,rfl⟩
 have hda:0<=d*(a:Int):=Int.mul_nonneg (by omega) (by omega)
 have vlu:val lu=d*a:=by rw [hlu,qai]; omega
 have llu:lu.length<=la+1:=by
  rw [hlu]
  refine qaq (k:=la+1) ?_
  have x1:=lt_nl a
  rw [<- hla] at x1
  have x2:d*(a:Int)<=4294967296*a:=Int.mul_le_mul_of_nonneg_right (by omega) (by omega)
  rw [Int.pow_succ]
  omega
 obtain ⟨f1,f2,f3⟩:=fill_val llu (by rw [hlu]; exact qar _)
 obtain ⟨w,hw⟩:∃ w,w=W .u32 (dg d.toNat):=⟨_,rfl⟩
 have ld:(dg d.toNat).length<=1:=qaq (k:=1) (by rw [Int.pow_succ,Int.pow_zero]; omega)
 have cc:=rcompared_call (cmpI a b) hr hs (by omega) (by omega) (qar _) (qar _) (dg_tr _) (dg_tr _) (by rw [qai,qai])
 have c1:=rwords_call d (by omega) (by omega)
 rw [<- hw] at c1
 have c2:=rtimes_call hs hw (by omega) (by omega) (qar _) (qar _)
 rw [qai,qai,show ((b:Int)*(d.toNat:Int)).toNat=V.toNat by rw [hV,Int.mul_comm]; congr 2; omega,<- hlv] at c2
 have c3:=rtimes_call hr hw (by omega) (by omega) (qar _) (qar _)
 rw [qai,qai,show ((a:Int)*(d.toNat:Int)).toNat=(d*a).toNat by rw [Int.mul_comm]; congr 2; omega,<- hlu] at c3
 have hUlt:d*(a:Int) < V*4294967296 ^ (m+1):=by
  have x1:=lt_nl a
  rw [<- hla,hm] at x1
  have x2:(4294967296:Int) ^ (n+m)=4294967296 ^ n'*4294967296 ^ (m+1):=by rw [<- Int.pow_add]; congr 1; omega
  have x3:w1*4294967296 ^ n'*4294967296 ^ (m+1)<=(b:Int)*4294967296 ^ (m+1):=Int.mul_le_mul_of_nonneg_right htw.1 (by have:=qam (m+1); omega)
  have x4:1*(4294967296 ^ n'*4294967296 ^ (m+1))<=w1*(4294967296 ^ n'*(4294967296:Int) ^ (m+1)):=Int.mul_le_mul_of_nonneg_right hw1p (by have:=Int.mul_pos (qam n') (qam (m+1)); omega)
  have x5:w1*4294967296 ^ n'*4294967296 ^ (m+1)=w1*(4294967296 ^ n'*(4294967296:Int) ^ (m+1)):=by grind
  have x6:d*(a:Int) < d*(b*4294967296 ^ (m+1)):=Int.mul_lt_mul_of_pos_left (by omega) (by omega)
  have x7:d*((b:Int)*4294967296 ^ (m+1))=d*b*4294967296 ^ (m+1):=by grind
  rw [hV]; omega
 have hstart:=DInv.start (n:=n) (m:=m) (by rw [f2,hm]) f3 (f1.trans vlu) hUlt
 refine rdivided_walk hr hs rfl rfl laa lb (by omega) (by omega) hm rfl rfl rfl hn' hw1.symm ⟨hw1p,hw1b.2⟩ hd.symm ⟨d1,d2⟩ (c:=cmpI a b) (by unfold cmpI; rw [if_neg (by omega)]; split <;> omega) llu rfl llv wlv vlv htop hstart cc c1 c2 c3 fun u q hI=>?_
 rw [hV] at hI
 obtain ⟨l1,l2⟩:=hI.last (by omega) hbpos
 have vu0:=qaf hI.uw
 have hul:=hI.ul
 have hql:=hI.ql
 have t1:=qbs (r:=W .u32 u) rfl (by omega) hI.uw
 have t2:=qbs (r:=W .u32 q) rfl (by omega) hI.qw
 have lt1:(dg (val u).toNat).length<=la+1:=by have:=nl_wd hI.uw; unfold nl at this; omega
 have t3:=rshortly_call (r:=W .u32 (dg (val u).toNat)) d ((a:Int) % b) (val u % d) rfl (by omega) (qar _) (by omega) d2 (by rw [qai,Int.toNat_of_nonneg vu0,l2]) (by rw [qai,Int.toNat_of_nonneg vu0])
 rw [l1] at t2
 exact ⟨_,_,t1,t2,t3⟩
theorem rdivided_call {r s:Abs.Rows} {a b:Nat} (hr:IsM a r) (hs:IsM b s) (hb:b ≠ 0) (hsz:nl a<=549755813888) (hszb:nl b<=549755813888) :
  ∃ x y,IsM (a / b) x/\IsM (a % b) y/\ACall Tryz.prog 154 [.val (tl r),.val (tl s)] ⟨[.val (tl x),.val (tl y)],[none,none]⟩:=by
 have cc:=rcompared_call (cmpI a b) hr hs (by unfold nl at hsz; omega) (by unfold nl at hszb; omega) (qar _) (qar _) (dg_tr _) (dg_tr _) (by rw [qai,qai])
 by_cases hab:a < b
 ·refine ⟨[],r,by rw [Nat.div_eq_of_lt hab]; rfl,by rw [Nat.mod_eq_of_lt hab]; exact hr,?_⟩
  rw [cmpI_lt (by omega)] at cc
  refine callZ ccOk mixed [.val,.val] Tryz.func154 rfl rfl (by kernel_rfl) fun zA zB zC zD zE zF zG zH zI zJ zK zL zM zN zO zP zQ zR zT zU zV zX zY zZ zb zc zd ze zg zh zi zj zk zl zm zn zo zq zr zs zt zu zx zy zz zmget zmset zW zth A L F hS hF=>?_
  cbv
  refine ⟨_,hS.call cc,?_⟩
  cbv
  exact bT (by rw [hS.lt]; rfl) (fin2w hF (TLe.drop _ _) (TVLe.refl _))
 ·by_cases h1:nl b=1
  ·obtain ⟨x,hx⟩:∃ x,IsM (a / b) x:=⟨_,rfl⟩
   obtain ⟨y,hy⟩:∃ y,IsM (a % b) y:=⟨_,rfl⟩
   refine ⟨x,y,hx,hy,?_⟩
   have hblt:(b:Int) < 4294967296:=by have:=lt_nl b; rw [h1] at this; omega
   have hdgb:dg b=[(b:Int)]:=by
    rw [dg_pos hb,show b % 4294967296=b by omega,show b / 4294967296=0 by omega,dg_zero]
   have hmod:(a:Int) % b < b:=Int.emod_lt_of_pos _ (by omega)
   have hmod0:0<=(a:Int) % b:=Int.emod_nonneg _ (by omega)
   have c1:=rshortly_call b ((a:Int) / b) ((a:Int) % b) hr (by unfold nl at hsz; omega) (qar _) (by omega) hblt (by rw [qai]) (by rw [qai])
   have c2:=rwords_call ((a:Int) % b) hmod0 (by omega)
   have q1:W .u32 (dg ((a:Int) / b).toNat)=x:=hx.symm
   have q2:W .u32 (dg ((a:Int) % b).toNat)=y:=hy.symm
   rw [q1] at c1
   rw [q2] at c2
   obtain ⟨c,hc,hc0⟩:∃ c,cmpI (a:Int) b=c/\¬ c < 0:=⟨_,rfl,by
    unfold cmpI
    rw [if_neg (by omega)]
    split <;> omega⟩
   rw [hc] at cc
   generalize (a:Int) % b=e at *
   generalize hbv:(b:Int)=d at *
   refine callZ ccOk mixed [.val,.val] Tryz.func154 rfl rfl (by kernel_rfl) fun zA zB zC zD zE zF zG zH zI zJ zK zL zM zN zO zP zQ zR zT zU zV zX zY zZ zb zc zd ze zg zh zi zj zk zl zm zn zo zq zr zs zt zu zx zy zz zmget zmset zW zth A L F hS hF=>?_
   have z2:zM (zZ (zj s)) 1=true:=by rw [hS.len,hs,qal,hdgb,hS.ofN,hS.eq]; rfl
   have z3:zm .u32 s (zX 0)=true:=by rw [hS.isI,hs,hS.nat,hdgb]; rfl
   have z4:zA .u64 (zn s (zX 0))=d:=by rw [hS.getI,hs,hS.nat,qap,hdgb,hS.wrap]; exact qaa (by show 0<=d; omega) (by show d < _; omega)
   cbv
   refine ⟨_,hS.call cc,?_⟩
   cbv
   rw [z4]
   refine bF (by rw [hS.lt]; exact decide_eq_false hc0) (bT z2 (nd (by rw [hS.le]; rfl) (nd z3 ⟨_,hS.call c1,?_⟩)))
   cbv
   refine ⟨_,hS.call c2,?_⟩
   cbv
   exact hF _ (ResLe.refl _)
  ·have h0:nl b ≠ 0:=fun h=>hb (nl_zero.1 h)
   exact ⟨_,_,rfl,rfl,rdivided_long hr hs (by omega) (by omega) hsz⟩
end Go.Proofs.YtjfmkcmepdedaaaGreat
end
section
namespace Go.Abs.M
theorem ediv_unique {x y q r:Int} (hy:y ≠ 0) (h:x=y*q+r) (h0:0<=r) (h1:r < y.natAbs):x / y=q/\x % y=r:=by
 rcases Int.lt_or_lt_of_ne hy with hneg | hpos
 ·have e:x=r+(-y)*(-q):=by rw [Int.neg_mul_neg]; omega
  have a:x / (-y)=-q:=by rw [e,Int.add_mul_ediv_left _ _ (by omega),Int.ediv_eq_zero_of_lt h0 (by omega)]; omega
  have b:x % (-y)=r:=by rw [e,Int.add_mul_emod_self_left,Int.emod_eq_of_lt h0 (by omega)]
  rw [Int.ediv_neg] at a
  rw [Int.emod_neg] at b
  exact ⟨by omega,b⟩
 ·have e:x=r+y*q:=by omega
  refine ⟨?_,?_⟩
  ·rw [e,Int.add_mul_ediv_left _ _ (by omega),Int.ediv_eq_zero_of_lt h0 (by omega)]; omega
  ·rw [e,Int.add_mul_emod_self_left,Int.emod_eq_of_lt h0 (by omega)]
theorem divmod_abs {x y:Int} (hy:y ≠ 0) :
  (¬ (x < 0/\x.natAbs % y.natAbs ≠ 0)->(x / y).natAbs=x.natAbs / y.natAbs/\(x % y)=(x.natAbs % y.natAbs:Nat)) /\
  (x < 0/\x.natAbs % y.natAbs ≠ 0->(x / y).natAbs=x.natAbs / y.natAbs+1/\(x % y)=(y.natAbs - x.natAbs % y.natAbs:Nat)) /\
  (x / y < 0 ↔ ((x < 0 ↔ ¬ y < 0)/\x / y ≠ 0)):=by
 have hya:y.natAbs ≠ 0:=by omega
 have hdm:=Nat.div_add_mod x.natAbs y.natAbs
 have hlt:=Nat.mod_lt x.natAbs (show 0 < y.natAbs by omega)
 generalize hk:x.natAbs / y.natAbs=k at *
 generalize hr:x.natAbs % y.natAbs=r at *
 have hdi:(y.natAbs:Int)*k+r=x.natAbs:=by exact_mod_cast hdm
 rcases Int.lt_or_le x 0 with hx | hx <;> rcases Int.lt_or_lt_of_ne hy with hy' | hy'
 ·have ey:(y.natAbs:Int)=-y:=by omega
  have ex:(x.natAbs:Int)=-x:=by omega
  rw [ey,ex] at hdi
  by_cases h0:r=0
  ·obtain ⟨a,b⟩:=ediv_unique (x:=x) (q:=k) (r:=0) hy (by rw [h0] at hdi; simp at hdi; rw [Int.neg_mul] at hdi; omega) (by omega) (by omega)
   refine ⟨fun _=>⟨by rw [a]; rfl,by rw [b,h0]; rfl⟩,fun h=>absurd h0 h.2,by rw [a]; omega⟩
  ·obtain ⟨a,b⟩:=ediv_unique (x:=x) (q:=k+1) (r:=y.natAbs - r) hy (by rw [ey,Int.mul_add]; rw [Int.neg_mul] at hdi; omega) (by omega) (by omega)
   refine ⟨fun h=>absurd ⟨hx,h0⟩ h,fun _=>⟨by rw [a]; omega,by rw [b]; omega⟩,by rw [a]; omega⟩
 ·have ey:(y.natAbs:Int)=y:=by omega
  have ex:(x.natAbs:Int)=-x:=by omega
  rw [ey,ex] at hdi
  by_cases h0:r=0
  ·obtain ⟨a,b⟩:=ediv_unique (x:=x) (q:=-k) (r:=0) hy (by rw [h0] at hdi; simp at hdi; rw [Int.mul_neg]; omega) (by omega) (by omega)
   refine ⟨fun _=>⟨by rw [a]; omega,by rw [b,h0]; rfl⟩,fun h=>absurd h0 h.2,by rw [a]; omega⟩
  ·obtain ⟨a,b⟩:=ediv_unique (x:=x) (q:=-k - 1) (r:=y.natAbs - r) hy (by rw [ey,Int.mul_sub,Int.mul_neg]; omega) (by omega) (by omega)
   refine ⟨fun h=>absurd ⟨hx,h0⟩ h,fun _=>⟨by rw [a]; omega,by rw [b]; omega⟩,by rw [a]; omega⟩
 ·have ey:(y.natAbs:Int)=-y:=by omega
  have ex:(x.natAbs:Int)=x:=by omega
  rw [ey,ex] at hdi
  obtain ⟨a,b⟩:=ediv_unique (x:=x) (q:=-k) (r:=r) hy (by rw [Int.mul_neg]; rw [Int.neg_mul] at hdi; omega) (by omega) (by omega)
  refine ⟨fun _=>⟨by rw [a]; omega,b⟩,fun h=>absurd h.1 (by omega),by rw [a]; omega⟩
 ·have ey:(y.natAbs:Int)=y:=by omega
  have ex:(x.natAbs:Int)=x:=by omega
  rw [ey,ex] at hdi
  obtain ⟨a,b⟩:=ediv_unique (x:=x) (q:=k) (r:=r) hy (by omega) (by omega) (by omega)
  refine ⟨fun _=>⟨by rw [a]; omega,b⟩,fun h=>absurd h.1 (by omega),by rw [a]; omega⟩
end Go.Abs.M
end
section
namespace Go.Proofs.YtjfmkcmepdedaaaGreat
open Go Go.Abs Go.Abs.M Go.Proofs
theorem rdivmod_call {x y:Int} {s t:Bool} {r q:Abs.Rows} (hx:IsI x s r) (hy:IsI y t q) (hy0:y ≠ 0) (h1:nl x.natAbs<=274877906944) (h2:nl y.natAbs<=274877906944) :
  ∃ u w p,IsI (x / y) u w/\IsI (x % y) false p/\ACall Tryz.prog 146 [.val (.agg (iT s r)),.val (.agg (iT t q))] ⟨[.val (.agg (iT u w)),.val (.agg (iT false p)),.val (ti .i64 0)],[none,none]⟩:=by
 obtain ⟨a1,a2,ha1,ha2,cd⟩:=rdivided_call hx.m hy.m (by omega) (by omega) (by omega)
 obtain ⟨m1,m2,m3⟩:=divmod_abs (x:=x) hy0
 obtain ⟨u,hu⟩:∃ u,u=decide (x / y < 0):=⟨_,rfl⟩
 obtain ⟨w,hw⟩:∃ w,IsM (x / y).natAbs w:=⟨_,rfl⟩
 obtain ⟨p,hp⟩:∃ p,IsM (x % y).natAbs p:=⟨_,rfl⟩
 have hmod0:=Int.emod_nonneg x hy0
 have hyn:y.natAbs ≠ 0:=by omega
 have hdle:x.natAbs / y.natAbs<=x.natAbs:=Nat.div_le_self ..
 have hmlt:x.natAbs % y.natAbs < y.natAbs:=Nat.mod_lt _ (by omega)
 have hs:=hx.s
 have ht:=hy.s
 have hbq:nl (x / y).natAbs<=549755813888:=by
  have a:=qax (show (x / y).natAbs<=x.natAbs+1 by
   by_cases h:x < 0/\x.natAbs % y.natAbs ≠ 0
   ·have:=(m2 h).1; omega
   ·have:=(m1 h).1; omega)
  have b:=nl_add x.natAbs 1
  have c:nl 1<=1:=qaq (by omega)
  omega
 have hbr:nl (x % y).natAbs<=549755813888:=by
  have a:=qax (show (x % y).natAbs<=y.natAbs by
   by_cases h:x < 0/\x.natAbs % y.natAbs ≠ 0
   ·have:=(m2 h).2; omega
   ·have:=(m1 h).2; omega)
  omega
 have cm1:=rmadeM (!(s == t)) u hw (by omega) (by
  rw [hu,hs,ht,Bool.eq_iff_iff]
  by_cases h:x < 0 <;> by_cases h':y < 0 <;> simp [h,h'] at m3 ⊢ <;> omega)
 have cm2:=rmadeM false false hp (by omega) rfl
 have hql:q.length=nl y.natAbs:=hy.m.len
 have hql0:nl y.natAbs ≠ 0:=fun h=>hyn (nl_zero.1 h)
 have ha2l:a2.length=nl (x.natAbs % y.natAbs):=ha2.len
 have ha2z:=@nl_zero (x.natAbs % y.natAbs)
 refine ⟨u,w,p,⟨hu,hw⟩,⟨(decide_eq_false (by omega)).symm,hp⟩,?_⟩
 by_cases hc:x < 0/\x.natAbs % y.natAbs ≠ 0
 ·obtain ⟨n1,n2⟩:=m2 hc
  have ca:=radded_call (s:=W .u32 [1]) ha1 rfl (by have:=qax hdle; unfold nl at *; omega) (by simp) (qar _) (Wd.cons (by omega) (by omega) Wd.nil)
  have ct:=rtaken_call hy.m ha2 (by unfold nl at *; omega) (by have:=qax (Nat.le_of_lt hmlt); unfold nl at *; omega) (qar _) (qar _) (by rw [qai,qai]; omega)
  rw [qai,qai] at ct
  rw [qai,show val [1]=1 from rfl] at ca
  have e1:W .u32 (dg (((x.natAbs / y.natAbs:Nat):Int)+1).toNat)=w:=by rw [hw]; congr 2; omega
  have e2:W .u32 (dg ((y.natAbs:Int) - ((x.natAbs % y.natAbs:Nat):Int)).toNat)=p:=by rw [hp]; congr 2; omega
  rw [e1] at ca
  rw [e2] at ct
  have hs':s=true:=by rw [hs]; exact decide_eq_true hc.1
  subst hs'
  clear m1 m2 m3 hbq hbr
  refine callZ ccOk mixed [.val,.val,.val] Tryz.func146 rfl rfl (by kernel_rfl) fun zA zB zC zD zE zF zG zH zI zJ zK zL zM zN zO zP zQ zR zT zU zV zX zY zZ zb zc zd ze zg zh zi zj zk zl zm zn zo zq zr zs zt zu zx zy zz zmget zmset zW zth A L F hS hF=>?_
  have z1:zM (zZ (zj q)) 0=false:=by rw [hS.len,hql,hS.ofN,hS.eq]; exact decide_eq_false (by omega)
  have z2:zO 0 (zZ (zj a2))=true:=by rw [hS.len,ha2l,hS.ofN,hS.lt]; exact decide_eq_true (by omega)
  have z3:zr [[.v (.int .u32 1)]] 0 1=W .u32 [1]:=by rw [hS.part]; rfl
  have z4:zq 0 1 [[.v (.int .u32 1)]]=true:=by rw [hS.fit]; rfl
  cbv
  refine bF z1 ⟨_,hS.call cd,?_⟩
  cbv
  refine bT rfl (bT z2 (nd z4 ?_))
  rw [z3]
  refine ⟨_,hS.call ca,?_⟩
  cbv
  refine ⟨_,hS.call ct,?_⟩
  cbv
  rw [hS.bne]
  refine ⟨_,hS.call cm1,?_⟩
  cbv
  refine ⟨_,hS.call cm2,?_⟩
  cbv
  exact hF _ (ResLe.refl _)
 ·obtain ⟨n1,n2⟩:=m1 hc
  obtain rfl:w=a1:=by rw [hw,ha1,n1]
  obtain rfl:p=a2:=by rw [hp,ha2,n2]; rfl
  clear m1 m2 m3 hbq hbr
  refine callZ ccOk mixed [.val,.val,.val] Tryz.func146 rfl rfl (by kernel_rfl) fun zA zB zC zD zE zF zG zH zI zJ zK zL zM zN zO zP zQ zR zT zU zV zX zY zZ zb zc zd ze zg zh zi zj zk zl zm zn zo zq zr zs zt zu zx zy zz zmget zmset zW zth A L F hS hF=>?_
  have z1:zM (zZ (zj q)) 0=false:=by rw [hS.len,hql,hS.ofN,hS.eq]; exact decide_eq_false (by omega)
  have z2:s=true->zO 0 (zZ (zj p))=false:=fun h=>by
   rw [hS.len,ha2l,hS.ofN,hS.lt]
   rw [h] at hs
   have:=of_decide_eq_true hs.symm
   exact decide_eq_false (by omega)
  have fin:=hS.call cm1
  cbv
  refine bF z1 ⟨_,hS.call cd,?_⟩
  cbv
  refine ⟨fun h=>bF (z2 h) ?_,fun h=>?_⟩
  all_goals
   rw [hS.bne]
   refine ⟨_,fin,?_⟩
   cbv
   refine ⟨_,hS.call cm2,?_⟩
   cbv
   exact hF _ (ResLe.refl _)
open Go Go.Abs Go.Abs.M Go.Proofs
theorem rnumber_call {l:List Int} {r:Abs.Rows} (n:Int) (hr:r=W .u32 l) (hl:l.length<=2) (hw:Wd l) (hn:n=val l):ACall Tryz.prog 153 [.val (tl r)] ⟨[.val (ti .u64 n)],[none]⟩:=by
 have a:=hw.get 0
 have b:=hw.get 1
 have c1:=rword_call 1 hr (by omega) hw (by omega)
 have c0:=rword_call 0 hr (by omega) hw (by omega)
 have hv:val l=l.getD 0 0+4294967296*l.getD 1 0:=by
  match l,hl with
  | [],_=>rfl
  | [x],_=>simp [val]
  | [x,y],_=>simp [val]
 rw [show (1:Int).toNat=1 from rfl] at c1
 rw [show (0:Int).toNat=0 from rfl] at c0
 generalize l.getD 0 0=x at *
 generalize l.getD 1 0=y at *
 refine callZ ccOk mixed [.val] Tryz.func153 rfl rfl (by kernel_rfl) fun zA zB zC zD zE zF zG zH zI zJ zK zL zM zN zO zP zQ zR zT zU zV zX zY zZ zb zc zd ze zg zh zi zj zk zl zm zn zo zq zr zs zt zu zx zy zz zmget zmset zW zth A L F hS hF=>?_
 cbv
 refine ⟨_,hS.call c1,?_⟩
 cbv
 refine ⟨_,hS.call c0,?_⟩
 cbv
 refine fin1 hF (qa6 ?_)
 rw [hn,hv,hS.wrap,hS.wrap,hS.mul,hS.add,qaa (x:=y*4294967296) (by omega) (by omega),qaa (by omega) (by omega)]
 omega
def reucSt (a b:Int):St:=mkSt 14 [vi .u64 a,vi .u64 b] [none,none]
theorem reuclid_call (a b:Nat) (g:Int) (ha:a < 18446744073709551616) (hb:b < 18446744073709551616) (hg:g=Nat.gcd a b):ACall Tryz.prog 152 [.val (ti .u64 a),.val (ti .u64 b)] ⟨[.val (ti .u64 g)],[none,none]⟩:=by
 obtain ⟨x,hx⟩:∃ x:Int,x=a:=⟨_,rfl⟩
 obtain ⟨y,hy⟩:∃ y:Int,y=b:=⟨_,rfl⟩
 rw [<- hx,<- hy]
 refine callZ ccOk mixed [.val] Tryz.func152 rfl rfl (by kernel_rfl) fun zA zB zC zD zE zF zG zH zI zJ zK zL zM zN zO zP zQ zR zT zU zV zX zY zZ zb zc zd ze zg zh zi zj zk zl zm zn zo zq zr zs zt zu zx zy zz zmget zmset zW zth A L F hS hF=>?_
 cbv
 refine loopZ ccOk mixed hS (fun (m:Nat) s=>∃ c:Nat,c < 18446744073709551616/\m < 18446744073709551616/\Nat.gcd c m=Nat.gcd a b/\s=reucSt (zZ c) (zZ m)) (n:=b) (s0:=reucSt (zZ a) (zZ b)) (qao ?_ ?_) rfl (Nat.le_refl 2) ?_ ?_
 ·simp [leT,reucSt,mkSt,vi,hS.ofN,hx,hy]
 ·simp [leH,reucSt,mkSt]
 ·exact ⟨a,ha,hb,rfl,rfl⟩
 ·rintro m _ ⟨c,hc,hm,hgc,rfl⟩
  have e1:0 < m->zF (zZ c) (zZ m)=zZ (c % m):=fun h=>by rw [hS.rem,hS.ofN,hS.ofN,hS.ofN,Int.tmod_eq_emod_of_nonneg (by omega)]; rfl
  have e2:zO 0 (zZ m)=decide (0 < m):=by
   rw [hS.lt,hS.ofN]
   by_cases h:0 < m
   ·rw [decide_eq_true h]; exact decide_eq_true (by omega)
   ·rw [decide_eq_false h]; exact decide_eq_false (by omega)
  have e3:0 < m->zN (zZ m) 0=true:=fun h=>by rw [hS.ne,hS.ofN]; exact decide_eq_true (by omega)
  have e4:m=0->zZ c=g:=fun h=>by subst h; rw [Nat.gcd_zero_right] at hgc; rw [hS.ofN,hg,hgc]
  cbv
  refine ⟨fun h=>?_,fun h=>?_⟩
  all_goals rw [e2] at h
  ·have h:=of_decide_eq_true h
   rw [e1 h]
   refine nd (e3 h) ?_
   refine again (s':=reucSt (zZ m) (zZ (c % m))) (m:=c % m) (by simp [leT,reucSt,mkSt,vi]) (by simp [leH,reucSt,mkSt]) rfl (Nat.le_refl 2) (Nat.mod_lt _ h) ⟨m,hm,?_,?_,rfl⟩
   ·have:=Nat.mod_lt c h; omega
   ·rw [<- hgc,Nat.gcd_comm c m,Nat.gcd_rec m c,Nat.gcd_comm]
  ·have h:=of_decide_eq_false h
   exact fin1 hF (qa6 (e4 (by omega)))
def rcomSt (r s:Abs.Rows):St:=mkSt 33 [vl r,vl s,.junk,.junk,vnil] [none,none]
theorem rcommon_call {r s w:Abs.Rows} {a b:Nat} (hr:IsM a r) (hs:IsM b s) (h1:nl a<=274877906944) (h2:nl b<=274877906944) (hg:IsM (Nat.gcd a b) w):ACall Tryz.prog 145 [.val (tl r),.val (tl s)] ⟨[.val (tl w)],[none,none]⟩:=by
 refine callZ ccOk mixed [.val] Tryz.func145 rfl rfl (by kernel_rfl) fun zA zB zC zD zE zF zG zH zI zJ zK zL zM zN zO zP zQ zR zT zU zV zX zY zZ zb zc zd ze zg zh zi zj zk zl zm zn zo zq zr zs zt zu zx zy zz zmget zmset zW zth A L F hS hF=>?_
 cbv
 refine loopZ ccOk mixed hS (fun (m:Nat) s=>∃ (c:Nat) (x y:Abs.Rows),IsM c x/\IsM m y/\nl c<=274877906944/\nl m<=274877906944/\Nat.gcd c m=Nat.gcd a b/\s=rcomSt x y) (n:=b) (s0:=rcomSt r s) (qao ?_ ?_) rfl (Nat.le_refl 2) ?_ ?_
 ·simp [leT,rcomSt,mkSt,vl,vnil]
 ·simp [leH,rcomSt,mkSt]
 ·exact ⟨a,r,s,hr,hs,h1,h2,rfl,rfl⟩
 ·rintro m _ ⟨c,x,y,hx,hy,l1,l2,hgc,rfl⟩
  have hmz:=@nl_zero m
  have hxl:zj x=nl c:=by rw [hS.len,hx.len]
  have hyl:zj y=nl m:=by rw [hS.len,hy.len]
  have e1:zO 0 (zZ (zj y))=decide (m ≠ 0):=by
   rw [hyl,hS.lt,hS.ofN]
   by_cases h:m=0
   ·rw [decide_eq_false (show ¬ m ≠ 0 by omega)]; exact decide_eq_false (by omega)
   ·rw [decide_eq_true h]; exact decide_eq_true (by omega)
  have e2:zP (zZ (zj x)) 2=decide (nl c<=2):=by
   rw [hxl,hS.le,hS.ofN]
   by_cases h:nl c<=2
   ·rw [decide_eq_true h]; exact decide_eq_true (by omega)
   ·rw [decide_eq_false h]; exact decide_eq_false (by omega)
  have e3:zP (zZ (zj y)) 2=decide (nl m<=2):=by
   rw [hyl,hS.le,hS.ofN]
   by_cases h:nl m<=2
   ·rw [decide_eq_true h]; exact decide_eq_true (by omega)
   ·rw [decide_eq_false h]; exact decide_eq_false (by omega)
  have hdiv:m ≠ 0->∃ p q,IsM (c / m) p/\IsM (c % m) q/\ACall Tryz.prog 154 [.val (tl x),.val (tl y)] ⟨[.val (tl p),.val (tl q)],[none,none]⟩:=fun h=>rdivided_call hx hy h (by omega) (by omega)
  have hshort:nl c<=2->nl m<=2->∃ (c' m' g:Int),ACall Tryz.prog 153 [.val (tl x)] ⟨[.val (ti .u64 c')],[none]⟩/\ACall Tryz.prog 153 [.val (tl y)] ⟨[.val (ti .u64 m')],[none]⟩ /\
    ACall Tryz.prog 152 [.val (ti .u64 c'),.val (ti .u64 m')] ⟨[.val (ti .u64 g)],[none,none]⟩/\ACall Tryz.prog 129 [.val (ti .u64 g)] ⟨[.val (tl w)],[none]⟩:=fun k1 k2=>by
   have b1:=lt_nl c
   have b2:=lt_nl m
   have b3:=ipow_le k1
   have b4:=ipow_le k2
   have n1:=rnumber_call (c:Int) hx k1 (qar _) (by rw [qai])
   have n2:=rnumber_call (m:Int) hy k2 (qar _) (by rw [qai])
   have hgb:Nat.gcd c m < 18446744073709551616:=by
    by_cases h:m=0
    ·subst h; rw [Nat.gcd_zero_right]; omega
    ·have:=Nat.gcd_le_right c (Nat.pos_of_ne_zero h); omega
   have n4:=rwords_call (Nat.gcd c m:Int) (by omega) (by omega)
   rw [Int.toNat_natCast,hgc,<- show w=W .u32 (dg (Nat.gcd a b)) from hg,<- hgc] at n4
   exact ⟨_,_,_,n1,n2,reuclid_call c m _ (by omega) (by omega) rfl,n4⟩
  have hend:m=0->x=w:=fun h=>by
   subst h
   rw [Nat.gcd_zero_right] at hgc
   rw [hx,hg,hgc]
  cbv
  refine ⟨fun h=>?_,fun h=>?_⟩
  all_goals rw [e1] at h
  ·have h:=of_decide_eq_true h
   have go:∀ (H:Prop),(∀ p q,IsM (c % m) q->ACall Tryz.prog 154 [.val (tl x),.val (tl y)] ⟨[.val (tl p),.val (tl q)],[none,none]⟩->H)->H:=fun H k=>by
    obtain ⟨p,q,_,hq,cd⟩:=hdiv h
    exact k p q hq cd
   have nx:∀ q,IsM (c % m) q->∃ (c':Nat) (x' y':Abs.Rows),IsM c' x'/\IsM (c % m) y'/\nl c'<=274877906944/\nl (c % m)<=274877906944/\Nat.gcd c' (c % m)=Nat.gcd a b/\rcomSt y q=rcomSt x' y':=fun q hq=>
    ⟨m,y,q,hy,hq,l2,Nat.le_trans (qax (Nat.le_of_lt (Nat.mod_lt _ (Nat.pos_of_ne_zero h)))) l2,by rw [<- hgc,Nat.gcd_comm c m,Nat.gcd_rec m c,Nat.gcd_comm],rfl⟩
   refine ⟨fun h2=>⟨fun h3=>?_,fun h3=>?_⟩,fun h2=>?_⟩
   ·rw [e2] at h2
    rw [e3] at h3
    obtain ⟨c',m',g,n1,n2,n3,n4⟩:=hshort (of_decide_eq_true h2) (of_decide_eq_true h3)
    refine ⟨_,hS.call n1,?_⟩
    cbv
    refine ⟨_,hS.call n2,?_⟩
    cbv
    refine ⟨_,hS.call n3,?_⟩
    cbv
    refine ⟨_,hS.call n4,?_⟩
    cbv
    exact hF _ (ResLe.refl _)
   all_goals
    refine go _ fun p q hq cd=>?_
    refine ⟨_,hS.call cd,?_⟩
    cbv
    exact again (s':=rcomSt y q) (m:=c % m) (by simp [leT,rcomSt,mkSt,vl,vnil]) (by simp [leH,rcomSt,mkSt]) rfl (Nat.le_refl 2) (Nat.mod_lt _ (Nat.pos_of_ne_zero h)) (nx q hq)
  ·have h:=of_decide_eq_false h
   rw [hend (by omega)]
   exact hF _ (ResLe.refl _)
theorem rgcd_call {x y:Int} {s t:Bool} {r q:Abs.Rows} (hx:IsI x s r) (hy:IsI y t q) (h1:nl x.natAbs<=274877906944) (h2:nl y.natAbs<=274877906944) :
  ∃ w,IsI (Int.gcd x y) false w/\ACall Tryz.prog 134 [.val (.agg (iT s r)),.val (.agg (iT t q))] ⟨[.val (.agg (iT false w))],[none,none]⟩:=by
 obtain ⟨w,hw⟩:∃ w,IsM (Int.gcd x y) w:=⟨_,rfl⟩
 have c1:=rcommon_call (w:=w) hx.m hy.m h1 h2 hw
 have hb:nl (Int.gcd x y)<=2199023255552:=by
  by_cases h:x=0
  ·subst h
   have:Int.gcd 0 y=y.natAbs:=by simp [Int.gcd]
   rw [this]; omega
  ·have:Int.gcd x y<=x.natAbs:=Nat.gcd_le_left _ (by omega)
   have:=qax this
   omega
 have c2:=rmadeM false false hw hb rfl
 refine ⟨w,⟨(decide_eq_false (by omega)).symm,hw⟩,?_⟩
 refine callZ ccOk mixed [.val] Tryz.func134 rfl rfl (by kernel_rfl) fun zA zB zC zD zE zF zG zH zI zJ zK zL zM zN zO zP zQ zR zT zU zV zX zY zZ zb zc zd ze zg zh zi zj zk zl zm zn zo zq zr zs zt zu zx zy zz zmget zmset zW zth A L F hS hF=>?_
 cbv
 refine ⟨_,hS.call c1,?_⟩
 cbv
 refine ⟨_,hS.call c2,?_⟩
 cbv
 exact hF _ (ResLe.refl _)
end Go.Proofs.YtjfmkcmepdedaaaGreat
end
section
namespace Go.Abs
open Go.Abs.M
structure IsR (x:Rat) (s:Bool) (r:Rows) (t:Bool) (q:Rows):Prop where
 n:IsI x.num s r
 d:IsI (x.den:Int) t q
theorem lowest_num {n d:Int} (hd:d ≠ 0):n / (if d < 0 then -(Int.gcd n d:Int) else (Int.gcd n d:Int))=(Rat.divInt n d).num:=by
 rw [Rat.num_divInt,Int.gcd_comm d n]
 have hdvd:((Int.gcd n d:Nat):Int) ∣ n:=Int.gcd_dvd_left ..
 by_cases h:d < 0
 ·rw [if_pos h,Int.ediv_neg,Int.sign_eq_neg_one_of_neg h,Int.neg_one_mul,Int.neg_ediv_of_dvd hdvd]
 ·rw [if_neg h,Int.sign_eq_one_of_pos (by omega),Int.one_mul]
theorem lowest_den {n d:Int} (hd:d ≠ 0):d / (if d < 0 then -(Int.gcd n d:Int) else (Int.gcd n d:Int))=((Rat.divInt n d).den:Int):=by
 rw [Rat.den_divInt,if_neg hd,Int.gcd_comm d n]
 have hdvd:((Int.gcd n d:Nat):Int) ∣ d:=Int.gcd_dvd_right ..
 by_cases h:d < 0
 ·rw [if_pos h,Int.ediv_neg,<- Int.neg_ediv_of_dvd hdvd,show -d=(d.natAbs:Int) by omega]; rfl
 ·rw [if_neg h]
  conv=>lhs; rw [show d=(d.natAbs:Int) by omega]
  rfl
end Go.Abs
end
section
namespace Go.Proofs.YtjfmkcmepdedaaaGreat
open Go Go.Abs Go.Abs.M Go.Proofs
theorem rexact_call {x y:Int} {s t:Bool} {r q:Abs.Rows} (hx:IsI x s r) (hy:IsI y t q) (hy0:y ≠ 0) (h1:nl x.natAbs<=274877906944) (h2:nl y.natAbs<=274877906944) :
  ∃ u w,IsI (x / y) u w/\ACall Tryz.prog 135 [.val (.agg (iT s r)),.val (.agg (iT t q))] ⟨[.val (.agg (iT u w))],[none,none]⟩:=by
 obtain ⟨u,w,p,hu,hp,cd⟩:=rdivmod_call hx hy hy0 h1 h2
 refine ⟨u,w,hu,?_⟩
 refine callZ ccOk mixed [.val] Tryz.func135 rfl rfl (by kernel_rfl) fun zA zB zC zD zE zF zG zH zI zJ zK zL zM zN zO zP zQ zR zT zU zV zX zY zZ zb zc zd ze zg zh zi zj zk zl zm zn zo zq zr zs zt zu zx zy zz zmget zmset zW zth A L F hS hF=>?_
 cbv
 refine ⟨_,hS.call cd,?_⟩
 cbv
 exact hF _ (ResLe.refl _)
theorem rlowest_call {x y:Int} {s t:Bool} {r q:Abs.Rows} (hx:IsI x s r) (hy:IsI y t q) (hy0:y ≠ 0) (h1:nl x.natAbs<=274877906944) (h2:nl y.natAbs<=274877906944) :
  ∃ u w v p,IsR (Rat.divInt x y) u w v p/\ACall Tryz.prog 104 [.val (.agg (iT s r)),.val (.agg (iT t q))] ⟨[.val (.agg (iT u w ++ iT v p))],[none,none]⟩:=by
 obtain ⟨g,hg,cg⟩:=rgcd_call hx hy h1 h2
 have hgp:Int.gcd x y ≠ 0:=by
  intro h
  rw [Int.gcd_eq_zero_iff] at h
  exact hy0 h.2
 have hgle:nl (Int.gcd x y)<=274877906944:=by
  have:Int.gcd x y<=y.natAbs:=Nat.gcd_le_right _ (by omega)
  have:=qax this
  omega
 have cs:=rsign_call (cmpI y 0) hy rfl
 obtain ⟨a,b,hn,cn⟩:=rneg_call hg (by rw [Int.natAbs_natCast]; omega)
 by_cases hneg:y < 0
 ·obtain ⟨u,w,hu,c1⟩:=rexact_call hx hn (by omega) h1 (by rw [Int.natAbs_neg,Int.natAbs_natCast]; exact hgle)
  obtain ⟨v,p,hv,c2⟩:=rexact_call hy hn (by omega) h2 (by rw [Int.natAbs_neg,Int.natAbs_natCast]; exact hgle)
  have e1:=lowest_num (n:=x) hy0
  have e2:=lowest_den (n:=x) hy0
  rw [if_pos hneg] at e1 e2
  refine ⟨u,w,v,p,⟨hu.of e1,hv.of e2⟩,?_⟩
  rw [cmpI_lt hneg] at cs
  refine callZ ccOk mixed [.val] Tryz.func104 rfl rfl (by kernel_rfl) fun zA zB zC zD zE zF zG zH zI zJ zK zL zM zN zO zP zQ zR zT zU zV zX zY zZ zb zc zd ze zg zh zi zj zk zl zm zn zo zq zr zs zt zu zx zy zz zmget zmset zW zth A L F hS hF=>?_
  cbv
  refine ⟨_,hS.call cg,?_⟩
  cbv
  refine ⟨_,hS.call cs,?_⟩
  cbv
  refine bT (by rw [hS.lt]; rfl) ⟨_,hS.call cn,?_⟩
  cbv
  refine ⟨_,hS.call c1,?_⟩
  cbv
  refine ⟨_,hS.call c2,?_⟩
  cbv
  exact hF _ (ResLe.refl _)
 ·obtain ⟨u,w,hu,c1⟩:=rexact_call hx hg (by omega) h1 (by rw [Int.natAbs_natCast]; exact hgle)
  obtain ⟨v,p,hv,c2⟩:=rexact_call hy hg (by omega) h2 (by rw [Int.natAbs_natCast]; exact hgle)
  have e1:=lowest_num (n:=x) hy0
  have e2:=lowest_den (n:=x) hy0
  rw [if_neg hneg] at e1 e2
  refine ⟨u,w,v,p,⟨hu.of e1,hv.of e2⟩,?_⟩
  rw [cmpI_gt (by omega)] at cs
  refine callZ ccOk mixed [.val] Tryz.func104 rfl rfl (by kernel_rfl) fun zA zB zC zD zE zF zG zH zI zJ zK zL zM zN zO zP zQ zR zT zU zV zX zY zZ zb zc zd ze zg zh zi zj zk zl zm zn zo zq zr zs zt zu zx zy zz zmget zmset zW zth A L F hS hF=>?_
  cbv
  refine ⟨_,hS.call cg,?_⟩
  cbv
  refine ⟨_,hS.call cs,?_⟩
  cbv
  refine bF (by rw [hS.lt]; rfl) ⟨_,hS.call c1,?_⟩
  cbv
  refine ⟨_,hS.call c2,?_⟩
  cbv
  exact hF _ (ResLe.refl _)
end Go.Proofs.YtjfmkcmepdedaaaGreat
end
section
namespace Go.Abs
theorem shl_std {k:IntKind} {a b:Int} (n:Nat) (hb:b=n) (hn:n<=k.bits):ZI.std.shl k a b=k.wrap (a*2 ^ n):=by
 rw [hb]
 show k.wrap (a*2 ^ (Min.min ((n:Int).toNat) k.bits))=_
 rw [Int.toNat_natCast,Nat.min_eq_left hn]
theorem shr_std {k:IntKind} {a b:Int} (n:Nat) (hb:b=n) (hn:n<=k.bits) (ha:0<=a):ZI.std.shr k a b=a / 2 ^ n:=by
 rw [hb]
 show a.fdiv (2 ^ (Min.min ((n:Int).toNat) k.bits))=_
 rw [Int.toNat_natCast,Nat.min_eq_left hn,Int.fdiv_eq_ediv_of_nonneg _ (Int.le_of_lt (Int.pow_pos (by omega)))]
theorem or_add (n a b:Nat) (h:b < 2 ^ n):a*2 ^ n ||| b=a*2 ^ n+b:=by
 have:=Nat.shiftLeft_add_eq_or_of_lt h a
 rw [Nat.shiftLeft_eq] at this
 exact this.symm
theorem ofInt_nat {w:Nat} {x:Nat} (h:x < 2 ^ w):(BitVec.ofInt w (x:Int)).toNat=x:=by
 simp
 exact Nat.mod_eq_of_lt h
theorem bor_u64 {x y:Nat} (hx:x < 2 ^ 64) (hy:y < 2 ^ 64):ZI.std.bor .u64 (x:Int) (y:Int)=((x ||| y:Nat):Int):=by
 show IntKind.wrap .u64 (((BitVec.ofInt 64 (x:Int) ||| BitVec.ofInt 64 (y:Int)).toNat:Nat):Int)=_
 rw [BitVec.toNat_or,ofInt_nat hx,ofInt_nat hy]
 have:=Nat.or_lt_two_pow hx hy
 exact qaa (by omega) (by omega)
theorem band_u64 {x y:Nat} (hx:x < 2 ^ 64) (hy:y < 2 ^ 64):ZI.std.band .u64 (x:Int) (y:Int)=((x &&& y:Nat):Int):=by
 show IntKind.wrap .u64 (((BitVec.ofInt 64 (x:Int) &&& BitVec.ofInt 64 (y:Int)).toNat:Nat):Int)=_
 rw [BitVec.toNat_and,ofInt_nat hx,ofInt_nat hy]
 have:=Nat.and_lt_two_pow (x:=x) hy
 exact qaa (by omega) (by omega)
theorem bor_hi {a b:Int} (n:Nat) (ha:0<=a) (hb:0<=b) (h:b < 2 ^ n) (hs:a*2 ^ n+b < 18446744073709551616):ZI.std.bor .u64 (a*2 ^ n) b=a*2 ^ n+b:=by
 obtain ⟨x,rfl⟩:=Int.eq_ofNat_of_zero_le ha
 obtain ⟨y,rfl⟩:=Int.eq_ofNat_of_zero_le hb
 have e:((x:Int)*2 ^ n)=((x*2 ^ n:Nat):Int):=by simp
 have h':y < 2 ^ n:=by
  have:((y:Int)) < ((2 ^ n:Nat):Int):=by simpa using h
  omega
 rw [e] at hs ⊢
 have hs':x*2 ^ n+y < 18446744073709551616:=by omega
 rw [bor_u64 (by omega) (by omega),or_add n x y h']
 simp
theorem bor_lo {a b:Int} (n:Nat) (ha:0<=a) (hb:0<=b) (h:b < 2 ^ n) (hs:a*2 ^ n+b < 18446744073709551616):ZI.std.bor .u64 b (a*2 ^ n)=a*2 ^ n+b:=by
 obtain ⟨x,rfl⟩:=Int.eq_ofNat_of_zero_le ha
 obtain ⟨y,rfl⟩:=Int.eq_ofNat_of_zero_le hb
 have e:((x:Int)*2 ^ n)=((x*2 ^ n:Nat):Int):=by simp
 have h':y < 2 ^ n:=by
  have:((y:Int)) < ((2 ^ n:Nat):Int):=by simpa using h
  omega
 rw [e] at hs ⊢
 have hs':x*2 ^ n+y < 18446744073709551616:=by omega
 rw [bor_u64 (by omega) (by omega),Nat.or_comm,or_add n x y h']
 simp
theorem shl32 {a:Int} (h0:0<=a) (h1:a < 4294967296):ZI.std.shl .u64 a 32=a*2 ^ 32:=by
 rw [shl_std (b:=32) 32 rfl (by decide)]
 exact qaa (by omega) (by omega)
theorem shr32 {a:Int} (h0:0<=a):ZI.std.shr .u64 a 32=a / 4294967296:=by
 rw [shr_std (b:=32) 32 rfl (by decide) h0]; rfl
theorem shr63 {a:Int} (h0:0<=a):ZI.std.shr .u64 a 63=a / 9223372036854775808:=by
 rw [shr_std (b:=63) 63 rfl (by decide) h0]; rfl
theorem two_words {a b:Int} (h0:0<=a) (h1:a < 4294967296) (h2:0<=b) (h3:b < 4294967296):ZI.std.bor .u64 (ZI.std.shl .u64 a 32) b=a*4294967296+b:=by
 rw [shl32 h0 h1,bor_hi 32 h0 h2 h3 (by omega)]; rfl
end Go.Abs
end
section
namespace Go.Proofs.YtjfmkcmepdedaaaGreat
open Go Go.Abs Go.Abs.M Go.Proofs
def itrimSt (r:Abs.Rows) (n:Int):St:=mkSt 21 [vl r,.junk,vnil,vi .i64 n] [none]
theorem qbc {r:Abs.Rows} {l:List Int} (hr:r=W .u32 l) (hl:l.length<=2199023255552) (hw:Wd l):ACall Tryz.prog 137 [.val (.c (.lst false r))] ⟨[.val (.c (.lst false (W .u32 (dg (val l).toNat))))],[none]⟩:=by
 refine callZ ccOk mixed [.val] Tryz.func137 rfl rfl (by kernel_rfl) fun zA zB zC zD zE zF zG zH zI zJ zK zL zM zN zO zP zQ zR zT zU zV zX zY zZ zb zc zd ze zg zh zi zj zk zl zm zn zo zq zr zs zt zu zx zy zz zmget zmset zW zth A L F hS hF=>?_
 have hlen:zj r=l.length:=by rw [hS.len,hr,qal]
 cbv
 refine loopZ ccOk mixed hS (fun m s=>∃ n:Nat,n=m/\n<=l.length/\val (l.take n)=val l/\s=itrimSt r (zZ n)) (n:=l.length) (s0:=itrimSt r (zZ l.length)) (qao ?_ ?_) rfl (Nat.le_refl 1) ?_ ?_
 ·simp [leT,itrimSt,mkSt,vnil,vi,vl,hlen]
 ·simp [leH,itrimSt,mkSt]
 ·exact ⟨_,rfl,Nat.le_refl _,by rw [List.take_length],rfl⟩
 ·rintro m _ ⟨n,rfl,hn,hv,rfl⟩
  have hp:0 < n->zA .i64 (zC (zZ n) 1)=zZ (n - 1):=fun h=>by rw [hS.wrap,hS.sub,hS.ofN,hS.ofN,wrap_i64 (by omega) (by omega)]; omega
  have hg:0 < n->zn r (zX (zZ (n - 1)))=l.getD (n - 1) 0:=fun h=>by rw [hS.getI,hS.nat,hS.ofN,hr,qap,Int.toNat_natCast]
  have hc:zg 0 (zZ n) (zj r)=true:=by rw [hS.cut,hlen,hS.ofN]; exact decide_eq_true (by omega)
  have hwd:zx 1 r=true:=by rw [hS.wide,hr]; exact W_wide _ _
  have hF':n=0 ∨ l.getD (n - 1) 0 ≠ 0->F ⟨[.val (.c (.lst false (zr r 0 (zX (zZ n)))))],[none]⟩:=fun h=>fin1 hF (by
   rw [hS.part,hS.nat,hS.ofN,hr,qbj,Int.toNat_natCast,List.drop_zero,trim_dg hw hn hv h])
  cbv
  refine ⟨fun h=>?_,fun h=>nd hc (nd hwd (hF' ?_))⟩
  all_goals rw [hS.lt,hS.ofN] at h
  ·have h:0 < n:=by simpa using h
   rw [hp h,hg h]
   refine nd (by rw [hS.le,hS.ofN]; exact decide_eq_true (by omega)) (nd (by rw [hS.isI,hS.nat,hS.ofN,hr,qav]; exact decide_eq_true (by omega)) ⟨fun h2=>?_,fun h2=>nd hc (nd hwd (hF' (.inr ?_)))⟩)
   all_goals rw [hS.eq] at h2
   ·refine again (s':=itrimSt r (zZ (n - 1))) (m:=n - 1) (by simp [leT,itrimSt,mkSt,vnil,vi,vl]) (by simp [leH,itrimSt,mkSt]) rfl (Nat.le_refl 1) (by omega) ⟨_,rfl,by omega,?_,rfl⟩
    have:=val_take_succ (l:=l) (k:=n - 1) (by omega)
    rw [show n - 1+1=n by omega,of_decide_eq_true h2] at this
    omega
   ·exact of_decide_eq_false h2
  ·exact .inl (by simpa using h)
theorem iwords_call (n:Int) (hn:0<=n) (hn2:n < 18446744073709551616):ACall Tryz.prog 125 [.val (ti .u64 n)] ⟨[.val (tl (W .u32 (dg n.toNat)))],[none]⟩:=by
 refine callZ ccOk mixed [.val] Tryz.func125 rfl rfl (by kernel_rfl) fun zA zB zC zD zE zF zG zH zI zJ zK zL zM zN zO zP zQ zR zT zU zV zX zY zZ zb zc zd ze zg zh zi zj zk zl zm zn zo zq zr zs zt zu zx zy zz zmget zmset zW zth A L F hS hF=>?_
 have e1:zA .u32 n=n % 4294967296:=by rw [hS.wrap]; exact qbb _
 have e2:zA .u32 (zH .u64 n 32)=n / 4294967296:=by
  rw [show zH .u64 n 32=ZI.std.shr .u64 n 32 from hS.shr ..,shr32 hn,hS.wrap]; exact qaz (by omega) (by omega)
 have hT:=qbc (r:=W .u32 [n % 4294967296,n / 4294967296]) rfl (by simp) (Wd.cons (by omega) (by omega) (Wd.cons (by omega) (by omega) Wd.nil))
 cbv
 rw [e1,e2]
 refine nd (by rw [hS.fit]; rfl) ?_
 rw [hS.part]
 refine ⟨_,hS.call hT,?_⟩
 rw [show val [n % 4294967296,n / 4294967296]=n by simp only [val]; omega]
 generalize W .u32 (dg n.toNat)=x at *
 cbv
 exact hF _ (ResLe.refl _)
theorem isigned_call {r:Abs.Rows} {l:List Int} (s t:Bool) (hr:r=W .u32 l) (hl:l.length<=2199023255552) (hw:Wd l) (ht:t=(s && decide (0 < val l))):ACall Tryz.prog 122 [.val (tb s),.val (tl r)] ⟨[.val (.agg (iT t (W .u32 (dg (val l).toNat))))],[none,none]⟩:=by
 refine callZ ccOk mixed [.val] Tryz.func122 rfl rfl (by kernel_rfl) fun zA zB zC zD zE zF zG zH zI zJ zK zL zM zN zO zP zQ zR zT zU zV zX zY zZ zb zc zd ze zg zh zi zj zk zl zm zn zo zq zr zs zt zu zx zy zz zmget zmset zW zth A L F hS hF=>?_
 have hT:=qbc hr hl hw
 have hz:zM (zZ (zj (W .u32 (dg (val l).toNat)))) 0=decide (¬ 0 < val l):=by
  rw [hS.eq,hS.ofN,hS.len,qal]
  have:=qaf hw
  have h2:=@nl_zero (val l).toNat
  unfold nl at h2
  by_cases h:0 < val l
  ·rw [decide_eq_false (show ¬ ¬ 0 < val l by omega)]; exact decide_eq_false (by omega)
  ·rw [decide_eq_true h]; exact decide_eq_true (by omega)
 have h0:¬ 0 < val l->W .u32 (dg (val l).toNat)=[]:=fun h=>by rw [show (val l).toNat=0 by omega]; rfl
 generalize W .u32 (dg (val l).toNat)=x at *
 cbv
 refine ⟨_,hS.call hT,?_⟩
 cbv
 rw [hz]
 refine ⟨fun h=>fin1w hF ?_,fun h=>fin1w hF ?_⟩
 ·have h':=of_decide_eq_true h
  rw [ht,decide_eq_false h',Bool.and_false,h0 h']
  exact ⟨.v _,TLe.drop _ _,trivial⟩
 ·have h':=of_decide_eq_false h
  rw [ht,decide_eq_true (by omega),Bool.and_true]
  exact TVLe.refl _
theorem isignedM {n:Nat} {r:Abs.Rows} (s t:Bool) (hr:IsM n r) (hl:nl n<=2199023255552) (ht:t=(s && decide (n ≠ 0))):ACall Tryz.prog 122 [.val (tb s),.val (tl r)] ⟨[.val (.agg (iT t r))],[none,none]⟩:=by
 have h:=isigned_call s t hr hl (qar n) (by
  rw [qai,ht]
  by_cases h:n=0
  ·subst h; rfl
  ·rw [decide_eq_true h,decide_eq_true (by omega)])
 rw [qai,Int.toNat_natCast,<- hr] at h
 exact h
theorem iclone_call {r:Abs.Rows} {l:List Int} (hr:r=W .u32 l) (hl:l.length<=2199023255552):ACall Tryz.prog 123 [.val (tl r)] ⟨[.val (tl r)],[none]⟩:=by
 refine callZ ccOk mixed [.val] Tryz.func123 rfl rfl (by kernel_rfl) fun zA zB zC zD zE zF zG zH zI zJ zK zL zM zN zO zP zQ zR zT zU zV zX zY zZ zb zc zd ze zg zh zi zj zk zl zm zn zo zq zr zs zt zu zx zy zz zmget zmset zW zth A L F hS hF=>?_
 have h1:zj r=l.length:=by rw [hS.len,hr,qal]
 have h2:zc (zj r) 0=decide (l.length=0):=by rw [hS.neq,h1]
 have h3:zs [] 0 r=r:=by rw [hS.ext]; rfl
 have h4:zd (zj []) (zj r)=l.length:=by rw [hS.nadd,h1,hS.len]; exact Nat.zero_add _
 have h5:zr r 0 l.length=r:=by rw [hS.part,hr,qbj,List.drop_zero,List.take_length]
 have hwd:zx 1 r=true:=by rw [hS.wide,hr]; exact W_wide _ _
 cbv
 refine ⟨fun h=>fin1w hF ?_,fun h=>nd ?_ (nd hwd (nd (by rw [hS.wide]; rfl) (nd ?_ ?_)))⟩
 ·rw [h2] at h
  have h0:=of_decide_eq_true h
  have:l=[]:=List.length_eq_zero_iff.1 h0
  rw [hr,this]
  exact TLe.drop _ _
 ·rw [h,hS.not]; rfl
 ·rw [hS.room,h1,hS.len]; exact decide_eq_true (by unfold capBytes; simp; omega)
 ·rw [h3,h4]
  refine nd (by rw [hS.fit,hr,qal]; exact decide_eq_true (by omega)) ?_
  rw [h5]
  exact hF _ (ResLe.refl _)
def icmpSt (r s:Abs.Rows) (i:Int):St:=mkSt 41 [vl r,vl s,.junk,.junk,vi .i64 0,vi .i64 i] [none,none]
theorem qbu {r s:Abs.Rows} {l m:List Int} (c:Int) (hr:r=W .u32 l) (hs:s=W .u32 m) (hl:l.length<=2199023255552) (hm:m.length<=2199023255552) (hlw:Wd l) (hmw:Wd m) (hlt:Tr l) (hmt:Tr m) (hc:c=cmpI (val l) (val m)) :
  ACall Tryz.prog 136 [.val (tl r),.val (tl s)] ⟨[.val (ti .i64 c)],[none,none]⟩:=by
 refine callZ ccOk mixed [.val] Tryz.func136 rfl rfl (by kernel_rfl) fun zA zB zC zD zE zF zG zH zI zJ zK zL zM zN zO zP zQ zR zT zU zV zX zY zZ zb zc zd ze zg zh zi zj zk zl zm zn zo zq zr zs zt zu zx zy zz zmget zmset zW zth A L F hS hF=>?_
 have h1:zj r=l.length:=by rw [hS.len,hr,qal]
 have h2:zj s=m.length:=by rw [hS.len,hs,qal]
 cbv
 rw [h1,h2]
 refine ⟨fun h=>⟨fun h'=>?_,fun h'=>?_⟩,fun h=>?_⟩
 all_goals rw [hS.ne,hS.ofN,hS.ofN] at h
 ·rw [hS.lt,hS.ofN,hS.ofN] at h'
  have h':(l.length:Int) < m.length:=of_decide_eq_true h'
  exact fin1 hF (qa6 (by rw [hc,cmpI_lt (val_lt_of_len hlw hmw hmt (by omega))]))
 ·rw [hS.lt,hS.ofN,hS.ofN] at h'
  have h':=of_decide_eq_false h'
  have h:=of_decide_eq_true h
  exact fin1 hF (qa6 (by rw [hc,cmpI_gt (val_lt_of_len hmw hlw hlt (by omega))]))
 ·have h:=of_decide_eq_false h
  have hlen:l.length=m.length:=by omega
  have hi0:zA .i64 (zC (zZ l.length) 1)=zC (zZ l.length) 1:=by rw [hS.wrap,hS.sub,hS.ofN]; exact wrap_i64 (by omega) (by omega)
  rw [hi0]
  refine loopZ ccOk mixed hS (fun (k:Nat) s'=>k<=l.length/\l.drop k=m.drop k/\s'=icmpSt r s (zC (zZ k) 1)) (n:=l.length) (s0:=icmpSt r s (zC (zZ l.length) 1)) (qao ?_ ?_) rfl (Nat.le_refl 2) ?_ ?_
  ·simp [leT,icmpSt,mkSt,vi,vl]
  ·simp [leH,icmpSt,mkSt]
  ·refine ⟨Nat.le_refl _,?_,rfl⟩
   rw [List.drop_length,hlen,List.drop_length]
  ·rintro k _ ⟨hk,he,rfl⟩
   have hi:zC (zZ k) 1=(k:Int) - 1:=by rw [hS.sub,hS.ofN]
   have hz:zP 0 (zC (zZ k) 1)=decide (1<=k):=by
    rw [hS.le,hi]
    by_cases h:1<=k
    ·rw [decide_eq_true h]; exact decide_eq_true (by omega)
    ·rw [decide_eq_false h]; exact decide_eq_false (by omega)
   have hnt:1<=k->zX (zC (zZ k) 1)=k - 1:=fun h=>by rw [hS.nat,hi]; omega
   have g1:1<=k->zn r (zX (zC (zZ k) 1))=l.getD (k - 1) 0:=fun h=>by rw [hnt h,hS.getI,hr,qap]
   have g2:1<=k->zn s (zX (zC (zZ k) 1))=m.getD (k - 1) 0:=fun h=>by rw [hnt h,hS.getI,hs,qap]
   have hF0:∀ x:Int,x=c->F ⟨[.val (.c (.v (.int .i64 x)))],[none,none]⟩:=fun x hx=>fin1 hF (qa6 hx)
   have hn2:1<=k->zm .u32 r (zX (zC (zZ k) 1))=true:=fun h=>by rw [hnt h,hS.isI,hr,qav]; exact decide_eq_true (by omega)
   have hn3:1<=k->zm .u32 s (zX (zC (zZ k) 1))=true:=fun h=>by rw [hnt h,hS.isI,hs,qav]; exact decide_eq_true (by omega)
   have hw1:1<=k->zA .i64 (zC (zC (zZ k) 1) 1)=zC (zZ (k - 1)) 1:=fun h=>by rw [hi,hS.wrap,hS.sub,hS.sub,hS.ofN,wrap_i64 (by omega) (by omega)]; omega
   cbv
   refine ⟨fun h=>?_,fun h=>hF0 _ ?_⟩
   ·have a1:=h
    rw [hz] at h
    have h:=of_decide_eq_true h
    have a2:=hn2 h
    have a3:=hn3 h
    rw [hw1 h,g1 h,g2 h]
    refine nd a1 (nd a2 (nd a1 (nd a3 ⟨fun h3=>nd a1 (nd a2 (nd a1 (nd a3 ⟨fun h4=>hF0 _ ?_,fun h4=>hF0 _ ?_⟩))),fun h3=>?_⟩)))
    all_goals rw [hS.ne] at h3
    ·rw [hS.lt] at h4
     rw [hc,cmpI_lt (val_lt_of_word (i:=k - 1) hlw hmw hlen (by omega) (by rw [show k - 1+1=k by omega]; exact he) (of_decide_eq_true h4))]
    ·rw [hS.lt] at h4
     have e3:=of_decide_eq_true h3
     have e4:=of_decide_eq_false h4
     rw [hc,cmpI_gt (val_lt_of_word (i:=k - 1) hmw hlw hlen.symm (by omega) (by rw [show k - 1+1=k by omega]; exact he.symm) (by omega))]
    ·refine again (s':=icmpSt r s (zC (zZ (k - 1)) 1)) (m:=k - 1) (by simp [leT,icmpSt,mkSt,vi,vl]) (by simp [leH,icmpSt,mkSt]) rfl (Nat.le_refl 2) (by omega) ⟨by omega,?_,rfl⟩
     have e3:=of_decide_eq_false h3
     rw [drop_getD (show k - 1 < l.length by omega),drop_getD (show k - 1 < m.length by omega),show k - 1+1=k by omega,he,show l.getD (k - 1) 0=m.getD (k - 1) 0 by omega]
   ·rw [hz] at h
    have h:=of_decide_eq_false h
    obtain rfl:k=0:=by omega
    simp only [List.drop_zero] at he
    rw [hc,he,cmpI_eq]
open Go Go.Abs Go.Abs.M Go.Proofs
theorem getD_out {l:List Int} {k:Nat} (h:¬ k < l.length):l.getD k 0=0:=by
 rw [List.getD_eq_getElem?_getD,List.getElem?_eq_none (by omega)]; rfl
def isumSt (r s R:Abs.Rows) (n:Nat) (c len i:Int):St:=mkSt 59 [vl r,vl s,.junk,.junk,vnil,.c (.sl 2 0 n false),vi .u64 c,.junk,.junk,.junk,.junk,.junk,.junk,.junk,.junk,.junk,.junk,.junk,.junk,.junk,.junk,vi .i64 len,vi .i64 i] [none,none,some (.rows 1 R true false)]
theorem isum_call {r s:Abs.Rows} {l m:List Int} (hr:r=W .u32 l) (hs:s=W .u32 m) (hl:l.length<=1099511627776) (hm:m.length<=1099511627776) (hlw:Wd l) (hmw:Wd m) :
  ACall Tryz.prog 140 [.val (tl r),.val (tl s)] ⟨[.val (tl (W .u32 (dg (val l+val m).toNat)))],[none,none]⟩:=by
 rcases Nat.lt_or_ge l.length m.length with hlm | hlm
 ·obtain ⟨N,hN⟩:∃ N:Nat,N=m.length:=⟨_,rfl⟩
  refine callZ ccOk mixed [.val] Tryz.func140 rfl rfl (by kernel_rfl) fun zA zB zC zD zE zF zG zH zI zJ zK zL zM zN zO zP zQ zR zT zU zV zX zY zZ zb zc zd ze zg zh zi zj zk zl zm zn zo zq zr zs zt zu zx zy zz zmget zmset zW zth A L F hS hF=>?_
  have h1:zj s=N:=by rw [hS.len,hs,qal,hN]
  have h2:zj r=l.length:=by rw [hS.len,hr,qal]
  have hn1:zA .i64 (zB (zZ (zj s)) 1)=((N+1:Nat):Int):=by rw [h1,hS.ofN,hS.add,hS.wrap,wrap_i64 (by omega) (by omega)]; omega
  have hnn:zX ((N+1:Nat):Int)=N+1:=by rw [hS.nat]; omega
  obtain ⟨n,hn⟩:∃ n:Nat,n=N+1:=⟨_,rfl⟩
  rw [<- hn] at hn1 hnn
  have hrep:zu n [.v (.int .u32 0)]=zW .u32 (List.replicate n 0):=by rw [hS.rep,hS.W]; exact W_rep ..
  have hbr:=qbp hS.lt hS.ofN
  cbv
  refine bT (by simp only [hS.len,hr,hs,qal,hbr]; first | exact decide_eq_true (by omega) | exact decide_eq_false (by omega)) ?_
  rw [hn1,hnn,hrep]
  have hcap:(n:Int)*4<=140737488355328:=by omega
  refine nd (by rw [hS.mkok]; exact decide_eq_true ⟨Int.natCast_nonneg n,Int.le_refl _,by unfold capBytes; omega⟩) ?_
  refine loopZ ccOk mixed hS (fun (j:Nat) s'=>∃ (k:Nat) (o:List Int) (c:Int),k+j=N/\o.length=n/\Wd o/\(0<=c/\c<=1)/\val (o.take k)+c*4294967296 ^ k=val (m.take k)+val (l.take k)/\s'=isumSt s r (zW .u32 o) n c (zZ N) (zZ k)) (n:=N)
   (s0:=isumSt s r (zW .u32 (List.replicate n 0)) n 0 (zZ N) (zZ 0)) (qao ?_ ?_) rfl (Nat.le_succ 2) ?_ ?_
  ·simp [leT,isumSt,mkSt,vi,vl,vnil,hS.ofN,h1]
  ·simp [leH,isumSt,mkSt]
  ·exact ⟨0,_,0,by omega,by simp,Wd.rep _,by omega,by simp [val],rfl⟩
  ·rintro j _ ⟨k,o,c,hk,ho,hw,hc,hv,rfl⟩
   have ga:=hmw.get k
   have gb:=hlw.get k
   obtain ⟨t,ht⟩:∃ t,t=m.getD k 0+l.getD k 0+c:=⟨_,rfl⟩
   have hst:=add_step hv ht
   have e1:zn s (zX (zZ k))=m.getD k 0:=by rw [hS.getI,hS.nat,hS.ofN,hs,qap,Int.toNat_natCast]
   have e2:zn r (zX (zZ k))=l.getD k 0:=by rw [hS.getI,hS.nat,hS.ofN,hr,qap,Int.toNat_natCast]
   have hout:=fun h=>getD_out (l:=l) (k:=k) h
   have t1:zA .u64 (zB (zA .u64 (zB (zA .u64 (m.getD k 0)) c)) (zA .u64 (l.getD k 0)))=t:=by
    rw [hS.wrap,hS.wrap,hS.wrap,hS.wrap,hS.add,hS.add,qaa (x:=m.getD k 0) (by omega) (by omega),qaa (x:=l.getD k 0) (by omega) (by omega),qaa (x:=m.getD k 0+c) (by omega) (by omega),qaa (by omega) (by omega),ht]; omega
   have t2:¬ k < l.length->zA .u64 (zB (zA .u64 (m.getD k 0)) c)=t:=fun h=>by
    rw [hS.wrap,hS.wrap,hS.add,qaa (x:=m.getD k 0) (by omega) (by omega),qaa (by omega) (by omega),ht,hout h]; omega
   have t3:zA .u32 t=t % 4294967296:=by rw [hS.wrap]; exact qbb _
   have t4:zH .u64 t 32=t / 4294967296:=by rw [show zH .u64 t 32=ZI.std.shr .u64 t 32 from hS.shr ..]; exact shr32 (by omega)
   have e4:k < N->zA .i64 (zB (zZ k) 1)=zZ (k+1):=fun h=>by rw [hS.wrap,hS.add,hS.ofN,hS.ofN,wrap_i64 (by omega) (by omega)]; omega
   have e5:zb 0 (zZ k)=k:=by rw [hS.idx,hS.ofN]; omega
   have e5':zb 0 (zZ (zj s))=N:=by rw [hS.idx,hS.ofN,h1]; omega
   have e6:=hbr k N
   have e6':=hbr k l.length
   have e7:∀ i x,zo .u32 (zW .u32 o) i x=zW .u32 (o.set i x):=fun i x=>by rw [hS.setI,hS.W,W_set]
   have e8:k < N->zY (zZ k) n=true:=fun h=>by rw [hS.inb,hS.ofN]; exact decide_eq_true (by omega)
   have e8':zY (zZ (zj s)) n=true:=by rw [hS.inb,hS.ofN,h1]; exact decide_eq_true (by omega)
   have e9:∀ i,i < n->zm .u32 (zW .u32 o) i=true:=fun i h=>by rw [hS.isI,hS.W,qav]; exact decide_eq_true (by omega)
   have e12:k < N->zm .u32 s (zX (zZ k))=true:=fun h=>by rw [hS.isI,hs,hS.nat,hS.ofN,qav]; exact decide_eq_true (by omega)
   have e13:k < l.length->zm .u32 r (zX (zZ k))=true:=fun h=>by rw [hS.isI,hr,hS.nat,hS.ofN,qav]; exact decide_eq_true (by omega)
   have e14:zP 0 (zZ k)=true:=by rw [hS.le,hS.ofN]; exact decide_eq_true (by omega)
   have e15:zA .u32 c=c:=by rw [hS.wrap]; exact qaz (by omega) (by omega)
   have e10:zq 0 n (zW .u32 (o.set N c))=true:=by rw [hS.fit,hS.W,qal]; exact decide_eq_true (by simp; omega)
   have e11:zr (zW .u32 (o.set N c)) 0 n=W .u32 (o.set N c):=by rw [hS.part,hS.W,qbj,List.drop_zero,List.take_of_length_le (by simp; omega)]
   have hT:=qbc (r:=W .u32 (o.set N c)) rfl (by simp; omega) (hw.set N (x:=c) (by omega) (by omega))
   have hend:k=N->val (o.set N c)=val m+val l:=fun h=>by
    have a1:=qak (l:=o) (k:=N) c (by omega)
    rw [List.take_of_length_le (by simp; omega)] at a1
    subst h
    rw [List.take_of_length_le (l:=m) (by omega),List.take_of_length_le (l:=l) (by omega)] at hv
    rw [a1,Int.mul_comm _ c]; exact hv
   have hset:k < N->val ((o.set k (t % 4294967296)).take (k+1))=val (o.take k)+4294967296 ^ k*(t % 4294967296):=fun h=>qak _ (by omega)
   have hnext:k < N->∃ k' o' c',k'+(j - 1)=N/\o'.length=n/\Wd o'/\(0<=c'/\c'<=1)/\val (o'.take k')+c'*4294967296 ^ k'=val (m.take k')+val (l.take k')/\isumSt s r (zW .u32 (o.set k (t % 4294967296))) n (t / 4294967296) (zZ N) (zZ (k+1))=isumSt s r (zW .u32 o') n c' (zZ N) (zZ k'):=fun h=>by
    refine ⟨k+1,_,_,by omega,by simpa using ho,hw.set _ (by omega) (by omega),by omega,?_,rfl⟩
    rw [hset h,qad m,qad l,Int.pow_succ]
    exact hst
   have hjk:k < N->j - 1 < j:=fun h=>by omega
   generalize m.getD k 0=a at *
   generalize l.getD k 0=b at *
   clear hset hst hv ga gb
   cbv
   refine ⟨fun h=>?_,fun h=>?_⟩
   all_goals rw [e6] at h
   ·have h:=of_decide_eq_true h
    refine nd e14 (nd (e12 h) ⟨fun h'=>nd e14 (nd (e13 (by rw [h2,e6'] at h'; exact of_decide_eq_true h')) (nd (e8 h) ?_)),fun h'=>nd (e8 h) ?_⟩)
    ·rw [e1,e2,t1,t3,t4,e4 h,e5,e7]
     exact nd (e9 k (by omega)) (again (s':=isumSt s r (zW .u32 (o.set k (t % 4294967296))) n (t / 4294967296) (zZ N) (zZ (k+1))) (m:=j - 1) (by simp [leT,isumSt,mkSt,vi,vl,vnil]) (by simp [leH,isumSt,mkSt]) rfl (Nat.le_succ 2) (hjk h) (hnext h))
    ·rw [h2,e6'] at h'
     rw [e1,t2 (of_decide_eq_false h'),t3,t4,e4 h,e5,e7]
     exact nd (e9 k (by omega)) (again (s':=isumSt s r (zW .u32 (o.set k (t % 4294967296))) n (t / 4294967296) (zZ N) (zZ (k+1))) (m:=j - 1) (by simp [leT,isumSt,mkSt,vi,vl,vnil]) (by simp [leH,isumSt,mkSt]) rfl (Nat.le_succ 2) (hjk h) (hnext h))
   ·have h:=of_decide_eq_false h
    refine nd e8' ?_
    rw [e5',e15,e7]
    refine nd (e9 N (by omega)) ?_
    rw [e11]
    refine nd e10 ⟨_,hS.call hT,?_⟩
    rw [hend (by omega)]
    generalize hx:W .u32 (dg (val m+val l).toNat)=x at *
    cbv
    first | exact hF _ (ResLe.refl _) | (subst hx; exact fin1 hF (by rw [Int.add_comm]; rfl))
 ·obtain ⟨N,hN⟩:∃ N:Nat,N=l.length:=⟨_,rfl⟩
  refine callZ ccOk mixed [.val] Tryz.func140 rfl rfl (by kernel_rfl) fun zA zB zC zD zE zF zG zH zI zJ zK zL zM zN zO zP zQ zR zT zU zV zX zY zZ zb zc zd ze zg zh zi zj zk zl zm zn zo zq zr zs zt zu zx zy zz zmget zmset zW zth A L F hS hF=>?_
  have h1:zj r=N:=by rw [hS.len,hr,qal,hN]
  have h2:zj s=m.length:=by rw [hS.len,hs,qal]
  have hn1:zA .i64 (zB (zZ (zj r)) 1)=((N+1:Nat):Int):=by rw [h1,hS.ofN,hS.add,hS.wrap,wrap_i64 (by omega) (by omega)]; omega
  have hnn:zX ((N+1:Nat):Int)=N+1:=by rw [hS.nat]; omega
  obtain ⟨n,hn⟩:∃ n:Nat,n=N+1:=⟨_,rfl⟩
  rw [<- hn] at hn1 hnn
  have hrep:zu n [.v (.int .u32 0)]=zW .u32 (List.replicate n 0):=by rw [hS.rep,hS.W]; exact W_rep ..
  have hbr:=qbp hS.lt hS.ofN
  cbv
  refine bF (by simp only [hS.len,hr,hs,qal,hbr]; first | exact decide_eq_true (by omega) | exact decide_eq_false (by omega)) ?_
  rw [hn1,hnn,hrep]
  have hcap:(n:Int)*4<=140737488355328:=by omega
  refine nd (by rw [hS.mkok]; exact decide_eq_true ⟨Int.natCast_nonneg n,Int.le_refl _,by unfold capBytes; omega⟩) ?_
  refine loopZ ccOk mixed hS (fun (j:Nat) s'=>∃ (k:Nat) (o:List Int) (c:Int),k+j=N/\o.length=n/\Wd o/\(0<=c/\c<=1)/\val (o.take k)+c*4294967296 ^ k=val (l.take k)+val (m.take k)/\s'=isumSt r s (zW .u32 o) n c (zZ N) (zZ k)) (n:=N)
   (s0:=isumSt r s (zW .u32 (List.replicate n 0)) n 0 (zZ N) (zZ 0)) (qao ?_ ?_) rfl (Nat.le_succ 2) ?_ ?_
  ·simp [leT,isumSt,mkSt,vi,vl,vnil,hS.ofN,h1]
  ·simp [leH,isumSt,mkSt]
  ·exact ⟨0,_,0,by omega,by simp,Wd.rep _,by omega,by simp [val],rfl⟩
  ·rintro j _ ⟨k,o,c,hk,ho,hw,hc,hv,rfl⟩
   have ga:=hlw.get k
   have gb:=hmw.get k
   obtain ⟨t,ht⟩:∃ t,t=l.getD k 0+m.getD k 0+c:=⟨_,rfl⟩
   have hst:=add_step hv ht
   have e1:zn r (zX (zZ k))=l.getD k 0:=by rw [hS.getI,hS.nat,hS.ofN,hr,qap,Int.toNat_natCast]
   have e2:zn s (zX (zZ k))=m.getD k 0:=by rw [hS.getI,hS.nat,hS.ofN,hs,qap,Int.toNat_natCast]
   have hout:=fun h=>getD_out (l:=m) (k:=k) h
   have t1:zA .u64 (zB (zA .u64 (zB (zA .u64 (l.getD k 0)) c)) (zA .u64 (m.getD k 0)))=t:=by
    rw [hS.wrap,hS.wrap,hS.wrap,hS.wrap,hS.add,hS.add,qaa (x:=l.getD k 0) (by omega) (by omega),qaa (x:=m.getD k 0) (by omega) (by omega),qaa (x:=l.getD k 0+c) (by omega) (by omega),qaa (by omega) (by omega),ht]; omega
   have t2:¬ k < m.length->zA .u64 (zB (zA .u64 (l.getD k 0)) c)=t:=fun h=>by
    rw [hS.wrap,hS.wrap,hS.add,qaa (x:=l.getD k 0) (by omega) (by omega),qaa (by omega) (by omega),ht,hout h]; omega
   have t3:zA .u32 t=t % 4294967296:=by rw [hS.wrap]; exact qbb _
   have t4:zH .u64 t 32=t / 4294967296:=by rw [show zH .u64 t 32=ZI.std.shr .u64 t 32 from hS.shr ..]; exact shr32 (by omega)
   have e4:k < N->zA .i64 (zB (zZ k) 1)=zZ (k+1):=fun h=>by rw [hS.wrap,hS.add,hS.ofN,hS.ofN,wrap_i64 (by omega) (by omega)]; omega
   have e5:zb 0 (zZ k)=k:=by rw [hS.idx,hS.ofN]; omega
   have e5':zb 0 (zZ (zj r))=N:=by rw [hS.idx,hS.ofN,h1]; omega
   have e6:=hbr k N
   have e6':=hbr k m.length
   have e7:∀ i x,zo .u32 (zW .u32 o) i x=zW .u32 (o.set i x):=fun i x=>by rw [hS.setI,hS.W,W_set]
   have e8:k < N->zY (zZ k) n=true:=fun h=>by rw [hS.inb,hS.ofN]; exact decide_eq_true (by omega)
   have e8':zY (zZ (zj r)) n=true:=by rw [hS.inb,hS.ofN,h1]; exact decide_eq_true (by omega)
   have e9:∀ i,i < n->zm .u32 (zW .u32 o) i=true:=fun i h=>by rw [hS.isI,hS.W,qav]; exact decide_eq_true (by omega)
   have e12:k < N->zm .u32 r (zX (zZ k))=true:=fun h=>by rw [hS.isI,hr,hS.nat,hS.ofN,qav]; exact decide_eq_true (by omega)
   have e13:k < m.length->zm .u32 s (zX (zZ k))=true:=fun h=>by rw [hS.isI,hs,hS.nat,hS.ofN,qav]; exact decide_eq_true (by omega)
   have e14:zP 0 (zZ k)=true:=by rw [hS.le,hS.ofN]; exact decide_eq_true (by omega)
   have e15:zA .u32 c=c:=by rw [hS.wrap]; exact qaz (by omega) (by omega)
   have e10:zq 0 n (zW .u32 (o.set N c))=true:=by rw [hS.fit,hS.W,qal]; exact decide_eq_true (by simp; omega)
   have e11:zr (zW .u32 (o.set N c)) 0 n=W .u32 (o.set N c):=by rw [hS.part,hS.W,qbj,List.drop_zero,List.take_of_length_le (by simp; omega)]
   have hT:=qbc (r:=W .u32 (o.set N c)) rfl (by simp; omega) (hw.set N (x:=c) (by omega) (by omega))
   have hend:k=N->val (o.set N c)=val l+val m:=fun h=>by
    have a1:=qak (l:=o) (k:=N) c (by omega)
    rw [List.take_of_length_le (by simp; omega)] at a1
    subst h
    rw [List.take_of_length_le (l:=l) (by omega),List.take_of_length_le (l:=m) (by omega)] at hv
    rw [a1,Int.mul_comm _ c]; exact hv
   have hset:k < N->val ((o.set k (t % 4294967296)).take (k+1))=val (o.take k)+4294967296 ^ k*(t % 4294967296):=fun h=>qak _ (by omega)
   have hnext:k < N->∃ k' o' c',k'+(j - 1)=N/\o'.length=n/\Wd o'/\(0<=c'/\c'<=1)/\val (o'.take k')+c'*4294967296 ^ k'=val (l.take k')+val (m.take k')/\isumSt r s (zW .u32 (o.set k (t % 4294967296))) n (t / 4294967296) (zZ N) (zZ (k+1))=isumSt r s (zW .u32 o') n c' (zZ N) (zZ k'):=fun h=>by
    refine ⟨k+1,_,_,by omega,by simpa using ho,hw.set _ (by omega) (by omega),by omega,?_,rfl⟩
    rw [hset h,qad l,qad m,Int.pow_succ]
    exact hst
   have hjk:k < N->j - 1 < j:=fun h=>by omega
   generalize l.getD k 0=a at *
   generalize m.getD k 0=b at *
   clear hset hst hv ga gb
   cbv
   refine ⟨fun h=>?_,fun h=>?_⟩
   all_goals rw [e6] at h
   ·have h:=of_decide_eq_true h
    refine nd e14 (nd (e12 h) ⟨fun h'=>nd e14 (nd (e13 (by rw [h2,e6'] at h'; exact of_decide_eq_true h')) (nd (e8 h) ?_)),fun h'=>nd (e8 h) ?_⟩)
    ·rw [e1,e2,t1,t3,t4,e4 h,e5,e7]
     exact nd (e9 k (by omega)) (again (s':=isumSt r s (zW .u32 (o.set k (t % 4294967296))) n (t / 4294967296) (zZ N) (zZ (k+1))) (m:=j - 1) (by simp [leT,isumSt,mkSt,vi,vl,vnil]) (by simp [leH,isumSt,mkSt]) rfl (Nat.le_succ 2) (hjk h) (hnext h))
    ·rw [h2,e6'] at h'
     rw [e1,t2 (of_decide_eq_false h'),t3,t4,e4 h,e5,e7]
     exact nd (e9 k (by omega)) (again (s':=isumSt r s (zW .u32 (o.set k (t % 4294967296))) n (t / 4294967296) (zZ N) (zZ (k+1))) (m:=j - 1) (by simp [leT,isumSt,mkSt,vi,vl,vnil]) (by simp [leH,isumSt,mkSt]) rfl (Nat.le_succ 2) (hjk h) (hnext h))
   ·have h:=of_decide_eq_false h
    refine nd e8' ?_
    rw [e5',e15,e7]
    refine nd (e9 N (by omega)) ?_
    rw [e11]
    refine nd e10 ⟨_,hS.call hT,?_⟩
    rw [hend (by omega)]
    generalize hx:W .u32 (dg (val l+val m).toNat)=x at *
    cbv
    first | exact hF _ (ResLe.refl _) | (subst hx; exact fin1 hF (by rw [Int.add_comm]; rfl))
open Go Go.Abs Go.Abs.M Go.Proofs
theorem dif_word {a b c d:Int} (ha:0<=a/\a < 4294967296) (hb:0<=b/\b < 4294967296) (hc:0<=c/\c<=1) (hd:d=((a - c) % 18446744073709551616 - b) % 18446744073709551616) :
  d % 4294967296=(4294967296+a - b - c) % 4294967296/\d / 9223372036854775808=1 - (4294967296+a - b - c) / 4294967296/\0<=d:=by omega
def idifSt (r s R:Abs.Rows) (n:Nat) (c len i:Int):St:=mkSt 45 [vl r,vl s,.junk,.junk,vnil,.c (.sl 2 0 n false),vi .u64 c,.junk,.junk,.junk,.junk,.junk,.junk,vi .i64 len,vi .i64 i] [none,none,some (.rows 1 R true false)]
theorem idifference_call {r s:Abs.Rows} {l m:List Int} (hr:r=W .u32 l) (hs:s=W .u32 m) (hl:l.length<=1099511627776) (hm:m.length<=l.length) (hlw:Wd l) (hmw:Wd m) (hge:val m<=val l) :
  ACall Tryz.prog 141 [.val (tl r),.val (tl s)] ⟨[.val (tl (W .u32 (dg (val l - val m).toNat)))],[none,none]⟩:=by
 obtain ⟨n,hn⟩:∃ n:Nat,n=l.length:=⟨_,rfl⟩
 refine callZ ccOk mixed [.val] Tryz.func141 rfl rfl (by kernel_rfl) fun zA zB zC zD zE zF zG zH zI zJ zK zL zM zN zO zP zQ zR zT zU zV zX zY zZ zb zc zd ze zg zh zi zj zk zl zm zn zo zq zr zs zt zu zx zy zz zmget zmset zW zth A L F hS hF=>?_
 have h1:zj r=n:=by rw [hS.len,hr,qal,hn]
 have h2:zj s=m.length:=by rw [hS.len,hs,qal]
 have hnn:zX (zZ n)=n:=by rw [hS.nat,hS.ofN]; omega
 have hrep:zu n [.v (.int .u32 0)]=zW .u32 (List.replicate n 0):=by rw [hS.rep,hS.W]; exact W_rep ..
 have hcap:(n:Int)*4<=140737488355328:=by omega
 cbv
 rw [h1,hnn,hrep]
 refine nd (by rw [hS.mkok,hS.ofN]; exact decide_eq_true ⟨Int.natCast_nonneg n,Int.le_refl _,by unfold capBytes; omega⟩) ?_
 refine loopZ ccOk mixed hS (fun (j:Nat) s'=>∃ (k:Nat) (o:List Int) (c:Int),k+j=n/\o.length=n/\Wd o/\(0<=c/\c<=1)/\val (o.take k)=val (l.take k) - val (m.take k)+c*4294967296 ^ k/\s'=idifSt r s (zW .u32 o) n c (zZ n) (zZ k)) (n:=n)
  (s0:=idifSt r s (zW .u32 (List.replicate n 0)) n 0 (zZ n) (zZ 0)) (qao ?_ ?_) rfl (Nat.le_succ 2) ?_ ?_
 ·simp [leT,idifSt,mkSt,vi,vl,vnil,hS.ofN]
 ·simp [leH,idifSt,mkSt]
 ·exact ⟨0,_,0,by omega,by simp,Wd.rep _,by omega,by simp [val],rfl⟩
 ·rintro j _ ⟨k,o,c,hk,ho,hw,hc,hv,rfl⟩
  have ga:=hlw.get k
  have gb:=hmw.get k
  obtain ⟨t,ht⟩:∃ t,t=4294967296+l.getD k 0 - m.getD k 0 - c:=⟨_,rfl⟩
  have hst:=sub_step hv ht
  have hout:=fun h=>getD_out (l:=m) (k:=k) h
  obtain ⟨d,hd⟩:∃ d,d=((l.getD k 0 - c) % 18446744073709551616 - m.getD k 0) % 18446744073709551616:=⟨_,rfl⟩
  obtain ⟨d1,d2,d3⟩:=dif_word ga gb hc hd
  rw [<- ht] at d1 d2
  have e1:zn r (zX (zZ k))=l.getD k 0:=by rw [hS.getI,hS.nat,hS.ofN,hr,qap,Int.toNat_natCast]
  have e2:zn s (zX (zZ k))=m.getD k 0:=by rw [hS.getI,hS.nat,hS.ofN,hs,qap,Int.toNat_natCast]
  have t1:zA .u64 (zC (zA .u64 (zC (zA .u64 (l.getD k 0)) c)) (zA .u64 (m.getD k 0)))=d:=by
   rw [hS.wrap,hS.wrap,hS.wrap,hS.wrap,hS.sub,hS.sub,qaa (x:=l.getD k 0) (by omega) (by omega),qaa (x:=m.getD k 0) (by omega) (by omega),qbz,qbz,hd]
  have t2:¬ k < m.length->zA .u64 (zC (zA .u64 (l.getD k 0)) c)=d:=fun h=>by
   rw [hS.wrap,hS.wrap,hS.sub,qaa (x:=l.getD k 0) (by omega) (by omega),qbz,hd,hout h]; omega
  have t3:zA .u32 d=t % 4294967296:=by rw [hS.wrap,qbb]; exact d1
  have t4:zH .u64 d 63=1 - t / 4294967296:=by rw [show zH .u64 d 63=ZI.std.shr .u64 d 63 from hS.shr ..,shr63 d3]; exact d2
  have e4:k < n->zA .i64 (zB (zZ k) 1)=zZ (k+1):=fun h=>by rw [hS.wrap,hS.add,hS.ofN,hS.ofN,wrap_i64 (by omega) (by omega)]; omega
  have e5:zb 0 (zZ k)=k:=by rw [hS.idx,hS.ofN]; omega
  have e6:=qbp hS.lt hS.ofN k n
  have e6':=qbp hS.lt hS.ofN k m.length
  have e7:∀ x,zo .u32 (zW .u32 o) k x=zW .u32 (o.set k x):=fun x=>by rw [hS.setI,hS.W,W_set]
  have e8:k < n->zY (zZ k) n=true:=fun h=>by rw [hS.inb,hS.ofN]; exact decide_eq_true (by omega)
  have e9:k < n->zm .u32 (zW .u32 o) k=true:=fun h=>by rw [hS.isI,hS.W,qav]; exact decide_eq_true (by omega)
  have e12:k < n->zm .u32 r (zX (zZ k))=true:=fun h=>by rw [hS.isI,hr,hS.nat,hS.ofN,qav]; exact decide_eq_true (by omega)
  have e13:k < m.length->zm .u32 s (zX (zZ k))=true:=fun h=>by rw [hS.isI,hs,hS.nat,hS.ofN,qav]; exact decide_eq_true (by omega)
  have e14:zP 0 (zZ k)=true:=by rw [hS.le,hS.ofN]; exact decide_eq_true (by omega)
  have e10:zq 0 n (zW .u32 o)=true:=by rw [hS.fit,hS.W,qal]; exact decide_eq_true (by omega)
  have e11:zr (zW .u32 o) 0 n=W .u32 o:=by rw [hS.part,hS.W,qbj,List.drop_zero,List.take_of_length_le (by omega)]
  have hT:=qbc (r:=W .u32 o) rfl (by omega) hw
  have hend:k=n->val o=val l - val m:=fun h=>by
   subst h
   rw [List.take_of_length_le (by omega),List.take_of_length_le (by omega),List.take_of_length_le (by omega)] at hv
   have b1:=qbm hw
   rw [ho] at b1
   have b7:=qam k
   rcases (show c=0 ∨ c=1 by omega) with rfl | rfl
   ·omega
   ·omega
  have hset:k < n->val ((o.set k (t % 4294967296)).take (k+1))=val (o.take k)+4294967296 ^ k*(t % 4294967296):=fun h=>qak _ (by omega)
  have hnext:k < n->∃ k' o' c',k'+(j - 1)=n/\o'.length=n/\Wd o'/\(0<=c'/\c'<=1)/\val (o'.take k')=val (l.take k') - val (m.take k')+c'*4294967296 ^ k'/\idifSt r s (zW .u32 (o.set k (t % 4294967296))) n (1 - t / 4294967296) (zZ n) (zZ (k+1))=idifSt r s (zW .u32 o') n c' (zZ n) (zZ k'):=fun h=>by
   refine ⟨k+1,_,_,by omega,by simpa using ho,hw.set _ (by omega) (by omega),by omega,?_,rfl⟩
   rw [hset h,qad l,qad m,Int.pow_succ]
   exact hst
  have hjk:k < n->j - 1 < j:=fun h=>by omega
  generalize l.getD k 0=a at *
  generalize m.getD k 0=b at *
  have hkn:¬ k < n->k=n:=fun h=>by omega
  clear hset hst hv ga gb d1 d2 d3 hd hk
  cbv
  refine ⟨fun h=>?_,fun h=>?_⟩
  all_goals rw [e6] at h
  ·have h:=of_decide_eq_true h
   refine nd e14 (nd (e12 h) ⟨fun h'=>nd e14 (nd (e13 (by rw [h2,e6'] at h'; exact of_decide_eq_true h')) (nd (e8 h) ?_)),fun h'=>nd (e8 h) ?_⟩)
   ·rw [e1,e2,t1,t3,t4,e4 h,e5,e7]
    exact nd (e9 h) (again (s':=idifSt r s (zW .u32 (o.set k (t % 4294967296))) n (1 - t / 4294967296) (zZ n) (zZ (k+1))) (m:=j - 1) (by simp [leT,idifSt,mkSt,vi,vl,vnil]) (by simp [leH,idifSt,mkSt]) rfl (Nat.le_succ 2) (hjk h) (hnext h))
   ·rw [h2,e6'] at h'
    rw [e1,t2 (of_decide_eq_false h'),t3,t4,e4 h,e5,e7]
    exact nd (e9 h) (again (s':=idifSt r s (zW .u32 (o.set k (t % 4294967296))) n (1 - t / 4294967296) (zZ n) (zZ (k+1))) (m:=j - 1) (by simp [leT,idifSt,mkSt,vi,vl,vnil]) (by simp [leH,idifSt,mkSt]) rfl (Nat.le_succ 2) (hjk h) (hnext h))
  ·have h:=of_decide_eq_false h
   rw [e11]
   refine nd e10 ⟨_,hS.call hT,?_⟩
   rw [hend (hkn h)]
   generalize W .u32 (dg (val l - val m).toNat)=x at *
   cbv
   exact hF _ (ResLe.refl _)
open Go Go.Abs Go.Abs.M Go.Proofs
def iproSt (r s R:Abs.Rows) (n:Nat) (len i:Int):St:=mkSt 70 [vl r,vl s,.junk,.junk,vnil,.c (.sl 2 0 n false),.junk,.junk,.junk,.junk,.junk,.junk,.junk,.junk,.junk,.junk,.junk,.junk,vi .i64 len,vi .i64 i] [none,none,some (.rows 1 R true false)]
def ipro2St (r s R:Abs.Rows) (n:Nat) (len i x c len2 j:Int):St:=mkSt 70 [vl r,vl s,.junk,.junk,vnil,.c (.sl 2 0 n false),vi .i64 i,vi .u64 c,vi .u64 x,.junk,.junk,.junk,.junk,.junk,.junk,.junk,.junk,.junk,vi .i64 len,vi .i64 i,.junk,.junk,.junk,.junk,.junk,.junk,.junk,.junk,vi .i64 len2,vi .i64 j] [none,none,some (.rows 1 R true false)]
theorem iproduct_call {r s:Abs.Rows} {l m:List Int} (hr:r=W .u32 l) (hs:s=W .u32 m) (hl:l.length<=1099511627776) (hm:m.length<=1099511627776) (hlw:Wd l) (hmw:Wd m) :
  ACall Tryz.prog 142 [.val (tl r),.val (tl s)] ⟨[.val (tl (W .u32 (dg (val l*val m).toNat)))],[none,none]⟩:=by
 obtain ⟨n,hn⟩:∃ n:Nat,n=l.length+m.length:=⟨_,rfl⟩
 refine callZ ccOk mixed [.val] Tryz.func142 rfl rfl (by kernel_rfl) fun zA zB zC zD zE zF zG zH zI zJ zK zL zM zN zO zP zQ zR zT zU zV zX zY zZ zb zc zd ze zg zh zi zj zk zl zm zn zo zq zr zs zt zu zx zy zz zmget zmset zW zth A L F hS hF=>?_
 have h1:zj r=l.length:=by rw [hS.len,hr,qal]
 have h2:zj s=m.length:=by rw [hS.len,hs,qal]
 have hN:zA .i64 (zB (zZ (zj r)) (zZ (zj s)))=zZ n:=by
  rw [h1,h2,hS.wrap,hS.add,hS.ofN,hS.ofN,hS.ofN,hn,wrap_i64 (by omega) (by omega)]; omega
 have hnn:zX (zZ n)=n:=by rw [hS.nat,hS.ofN]; omega
 have hrep:zu n [.v (.int .u32 0)]=zW .u32 (List.replicate n 0):=by rw [hS.rep,hS.W]; exact W_rep ..
 cbv
 rw [hN,hnn,hrep]
 refine nd (by rw [hS.mkok,hS.ofN]; exact decide_eq_true (by unfold capBytes; omega)) ?_
 refine loopZ ccOk mixed hS (fun (u:Nat) s'=>∃ (k:Nat) (o:List Int),k+u=l.length/\o.length=n/\Wd o/\val o=val (l.take k)*val m/\s'=iproSt r s (zW .u32 o) n (zZ l.length) (zZ k)) (n:=l.length)
  (s0:=iproSt r s (zW .u32 (List.replicate n 0)) n (zZ l.length) (zZ 0)) (qao ?_ ?_) rfl (Nat.le_succ 2) ?_ ?_
 ·simp [leT,iproSt,mkSt,vi,vl,vnil,hS.ofN,h1]
 ·simp [leH,iproSt,mkSt]
 ·exact ⟨0,_,by omega,by simp,Wd.rep _,by rw [val_rep]; simp [val],rfl⟩
 ·rintro u _ ⟨k,o,hk,ho,hw,hv,rfl⟩
  have gx:=hlw.get k
  have e10:zq 0 n (zW .u32 o)=true:=by rw [hS.fit,hS.W,qal]; exact decide_eq_true (by omega)
  have e11:zr (zW .u32 o) 0 n=W .u32 o:=by rw [hS.part,hS.W,qbj,List.drop_zero,List.take_of_length_le (by omega)]
  have hT:=qbc (r:=W .u32 o) rfl (by omega) hw
  have e6:=qbp hS.lt hS.ofN k l.length
  have e9':k < l.length->zm .u32 r (zX (zZ k))=true:=fun h=>by rw [hS.isI,hr,hS.nat,hS.ofN,qav]; exact decide_eq_true (by omega)
  have e9'':zP 0 (zZ k)=true:=by rw [hS.le,hS.ofN]; exact decide_eq_true (by omega)
  have e0:zn r (zX (zZ k))=l.getD k 0:=by rw [hS.getI,hS.nat,hS.ofN,hr,qap,Int.toNat_natCast]
  have ew:zA .u64 (l.getD k 0)=l.getD k 0:=by rw [hS.wrap,qaa (by omega) (by omega)]
  have hvk:=qad l k
  have hend:k=l.length->val o=val l*val m:=fun h=>by
   subst h
   rw [List.take_of_length_le (Nat.le_refl _)] at hv
   exact hv
  have htop:val o < 4294967296 ^ (k+m.length):=by
   rw [hv]
   have b:=qbm (hlw.take k)
   rw [List.length_take,Nat.min_eq_left (by omega)] at b
   exact mul_lt_pow (qaf (hlw.take k)) (qaf hmw) b (qbm hmw)
  generalize hga:l.getD k 0=x at *
  cbv
  refine ⟨fun h=>?_,fun h=>?_⟩
  all_goals rw [e6] at h
  ·have h:=of_decide_eq_true h
   refine nd e9'' (nd (e9' h) ?_)
   refine loopZ ccOk mixed hS (fun (u':Nat) s'=>∃ (j:Nat) (o':List Int) (c:Int),j+u'=m.length/\o'.length=n/\Wd o'/\(0<=c/\c < 4294967296)/\o'.drop (k+j)=o.drop (k+j)/\val o'+c*4294967296 ^ (k+j)=val o+x*4294967296 ^ k*val (m.take j)/\s'=ipro2St r s (zW .u32 o') n (zZ l.length) (zZ k) x c (zZ m.length) (zZ j)) (n:=m.length)
    (s0:=ipro2St r s (zW .u32 o) n (zZ l.length) (zZ k) x 0 (zZ m.length) (zZ 0)) (qao ?_ ?_) rfl (Nat.le_succ 2) ?_ ?_
   ·have e0':=e0
    rw [hS.ofN] at e0'
    simp [leT,ipro2St,mkSt,vi,vl,vnil,hS.ofN,h2,e0',ew]
   ·simp [leH,ipro2St,mkSt]
   ·exact ⟨0,_,0,by omega,ho,hw,by omega,rfl,by simp [val],rfl⟩
   ·rintro u' _ ⟨j,o',c,hj,ho',hw',hc,hdr,hv',rfl⟩
    have gm:=hmw.get j
    have gw:=hw'.get (k+j)
    have hb:=mul_bound gx gm gw hc
    obtain ⟨t,ht⟩:∃ t,t=x*m.getD j 0+o'.getD (k+j) 0+c:=⟨_,rfl⟩
    have hst:=mul_step hv' ht (Int.pow_add 4294967296 k j)
    have f6:=qbp hS.lt hS.ofN j m.length
    have f9:j < m.length->zm .u32 s (zX (zZ j))=true:=fun h=>by rw [hS.isI,hs,hS.nat,hS.ofN,qav]; exact decide_eq_true (by omega)
    have f9'':zP 0 (zZ j)=true:=by rw [hS.le,hS.ofN]; exact decide_eq_true (by omega)
    have f0:zn s (zX (zZ j))=m.getD j 0:=by rw [hS.getI,hS.nat,hS.ofN,hs,qap,Int.toNat_natCast]
    have f1:j<=m.length->zA .i64 (zB (zZ k) (zZ j))=zZ (k+j):=fun h=>by rw [hS.wrap,hS.add,hS.ofN,hS.ofN,hS.ofN,wrap_i64 (by omega) (by omega)]; omega
    have f1':zA .i64 (zB (zZ k) (zZ m.length))=zZ (k+m.length):=by rw [hS.wrap,hS.add,hS.ofN,hS.ofN,hS.ofN,wrap_i64 (by omega) (by omega)]; omega
    have f2:∀ q,zb 0 (zZ q)=q:=fun q=>by rw [hS.idx,hS.ofN]; omega
    have f3:∀ q,q < n->zY (zZ q) n=true:=fun q hq=>by rw [hS.inb,hS.ofN]; exact decide_eq_true (by omega)
    have f4:∀ q,q < n->zm .u32 (zW .u32 o') q=true:=fun q hq=>by rw [hS.isI,hS.W,qav]; exact decide_eq_true (by omega)
    have f5:∀ q,zn (zW .u32 o') q=o'.getD q 0:=fun q=>by rw [hS.getI,hS.W,qap]
    have f7:∀ q y,zo .u32 (zW .u32 o') q y=zW .u32 (o'.set q y):=fun q y=>by rw [hS.setI,hS.W,W_set]
    have fw1:zA .u64 (m.getD j 0)=m.getD j 0:=by rw [hS.wrap,qaa (by omega) (by omega)]
    have fw2:zA .u64 (o'.getD (k+j) 0)=o'.getD (k+j) 0:=by rw [hS.wrap,qaa (by omega) (by omega)]
    have f8:zA .u64 (zB (zA .u64 (zB (zA .u64 (zD x (m.getD j 0))) (o'.getD (k+j) 0))) c)=t:=by
     rw [hS.wrap,hS.wrap,hS.wrap,hS.mul,hS.add,hS.add,qaa (x:=x*m.getD j 0) (by omega) (by omega),qaa (x:=x*m.getD j 0+o'.getD (k+j) 0) (by omega) (by omega),qaa (by omega) (by omega),ht]
    have e2:zA .u32 t=t % 4294967296:=by rw [hS.wrap]; exact qbb _
    have e3:zH .u64 t 32=t / 4294967296:=by rw [show zH .u64 t 32=ZI.std.shr .u64 t 32 from hS.shr ..]; exact shr32 (by omega)
    have e3':zA .u32 c=c:=by rw [hS.wrap]; exact qaz (by omega) (by omega)
    have e4:j < m.length->zA .i64 (zB (zZ j) 1)=zZ (j+1):=fun h=>by rw [hS.wrap,hS.add,hS.ofN,hS.ofN,wrap_i64 (by omega) (by omega)]; omega
    have e4':zA .i64 (zB (zZ k) 1)=zZ (k+1):=by rw [hS.wrap,hS.add,hS.ofN,hS.ofN,wrap_i64 (by omega) (by omega)]; omega
    have hset:∀ q y,q < n->val (o'.set q y)=val o'+(y - o'.getD q 0)*4294967296 ^ q:=fun q y hq=>val_set _ _ _ (by omega)
    have htz:j=m.length->o'.getD (k+j) 0=0:=fun hj=>by
     have e:o'.getD (k+j) 0=o.getD (k+j) 0:=by
      have:=congrArg (fun y=>List.getD y 0 0) hdr
      simpa [List.getD_eq_getElem?_getD] using this
     rw [e,hj]
     exact top_zero hw (by omega) htop
    have htt:0<=t:=by omega
    have htb:t < 18446744073709551616:=by omega
    have hmj:=qad m j
    have hmm:j=m.length->m.take j=m:=fun h=>List.take_of_length_le (by omega)
    clear ht hb
    generalize hgb:m.getD j 0=y at *
    generalize hgc:o'.getD (k+j) 0=w at *
    cbv
    refine ⟨fun h'=>?_,fun h'=>?_⟩
    all_goals rw [f6] at h'
    ·have h':=of_decide_eq_true h'
     rw [f1 (by omega),f2,f0,fw1,f5,hgc,fw2,f8,e2,e3,e4 h',f7]
     refine nd f9'' (nd (f9 h') (nd (f3 _ (by omega)) (nd (f4 _ (by omega)) (nd (f3 _ (by omega)) (nd (f4 _ (by omega)) ?_)))))
     refine again (s':=ipro2St r s (zW .u32 (o'.set (k+j) (t % 4294967296))) n (zZ l.length) (zZ k) x (t / 4294967296) (zZ m.length) (zZ (j+1))) (m:=u' - 1) (by simp [leT,ipro2St,mkSt,vi,vl,vnil]) (by simp [leH,ipro2St,mkSt]) rfl (Nat.le_succ 2) (by omega)
      ⟨_,_,_,by omega,by simpa using ho',hw'.set _ (by omega) (by omega),by omega,?_,?_,rfl⟩
     ·rw [show k+(j+1)=k+j+1 by omega,qa0]
      have:=congrArg (List.drop 1) hdr
      simpa [List.drop_drop] using this
     ·rw [hset _ _ (by omega),hgc,show k+(j+1)=k+j+1 by omega,Int.pow_succ,hmj]
      exact hst
    ·have h':=of_decide_eq_false h'
     have hjm:j=m.length:=by omega
     rw [h2,f1',f2,e3',e4',f7]
     refine nd (f3 _ (by omega)) (nd (f4 _ (by omega)) ?_)
     refine again (s':=iproSt r s (zW .u32 (o'.set (k+m.length) c)) n (zZ l.length) (zZ (k+1))) (m:=u - 1) (by simp [leT,iproSt,mkSt,vi,vl,vnil]) (by simp [leH,iproSt,mkSt]) rfl (Nat.le_succ 2) (by omega)
      ⟨_,_,by omega,by simpa using ho',hw'.set _ (by omega) (by omega),?_,rfl⟩
     have e:=hset (k+j) c (by omega)
     rw [hgc,htz hjm] at e
     rw [hmm hjm,hv] at hv'
     rw [<- hjm,e,hvk]
     clear e hgc
     generalize val (List.take k l)=p1 at *
     generalize val m=p2 at *
     generalize val o'=p3 at *
     generalize (4294967296:Int) ^ k=p4 at *
     generalize (4294967296:Int) ^ (k+j)=p5 at *
     grind
  ·have h:=of_decide_eq_false h
   rw [e11]
   refine nd e10 ⟨_,hS.call hT,?_⟩
   rw [hend (by omega)]
   generalize W .u32 (dg (val l*val m).toNat)=z at *
   cbv
   exact hF _ (ResLe.refl _)
def idvsSt (r R:Abs.Rows) (d:Int) (len:Nat) (c i:Int):St:=mkSt 41 [vl r,vi .u64 d,.junk,.junk,vnil,vi .u64 0,.c (.sl 2 0 len false),vi .u64 c,vi .i64 i] [none,none,some (.rows 1 R true false)]
theorem idivideSmall_call {r:Abs.Rows} {l:List Int} (d q e:Int) (hr:r=W .u32 l) (hl:l.length<=1099511627776) (hlw:Wd l) (hd:0 < d) (hd2:d < 4294967296) (hq:q=val l / d) (he:e=val l % d) :
  ACall Tryz.prog 147 [.val (tl r),.val (ti .u64 d)] ⟨[.val (tl (W .u32 (dg q.toNat))),.val (ti .u64 e)],[none,none]⟩:=by
 obtain ⟨n,hn⟩:∃ n:Nat,n=l.length:=⟨_,rfl⟩
 refine callZ ccOk mixed [.val,.val] Tryz.func147 rfl rfl (by kernel_rfl) fun zA zB zC zD zE zF zG zH zI zJ zK zL zM zN zO zP zQ zR zT zU zV zX zY zZ zb zc zd ze zg zh zi zj zk zl zm zn zo zq zr zs zt zu zx zy zz zmget zmset zW zth A L F hS hF=>?_
 have h1:zj r=n:=by rw [hS.len,hr,qal,hn]
 have hnn:zX (zZ n)=n:=by rw [hS.nat,hS.ofN]; omega
 have hrep:zu n [.v (.int .u32 0)]=zW .u32 (List.replicate n 0):=by rw [hS.rep,hS.W]; exact W_rep ..
 have hi0:zA .i64 (zC (zZ n) 1)=zC (zZ n) 1:=by rw [hS.wrap,hS.sub,hS.ofN]; exact wrap_i64 (by omega) (by omega)
 have hdz:zN d 0=true:=by rw [hS.ne]; exact decide_eq_true (by omega)
 cbv
 rw [h1,hnn,hrep,hi0]
 refine nd (by rw [hS.mkok,hS.ofN]; exact decide_eq_true (by unfold capBytes; omega)) ?_
 refine loopZ ccOk mixed hS (fun (k:Nat) s'=>∃ (o:List Int) (c:Int),k<=n/\o.length=n/\Wd o/\(0<=c/\c < d)/\val (l.drop k)=d*val (o.drop k)+c/\s'=idvsSt r (zW .u32 o) d n c (zC (zZ k) 1)) (n:=n)
  (s0:=idvsSt r (zW .u32 (List.replicate n 0)) d n 0 (zC (zZ n) 1)) (qao ?_ ?_) rfl (Nat.le_succ 2) ?_ ?_
 ·simp [leT,idvsSt,mkSt,vi,vl,vnil,hS.ofN]
 ·simp [leH,idvsSt,mkSt]
 ·refine ⟨_,0,Nat.le_refl _,by simp,Wd.rep _,by omega,?_,rfl⟩
  rw [List.drop_of_length_le (by omega),List.drop_of_length_le (by simp)]; simp [val]
 ·rintro k _ ⟨o,c,hk,ho,hw,hc,hv,rfl⟩
  have ga:=hlw.get (k - 1)
  obtain ⟨t,ht⟩:∃ t,t=c*4294967296+l.getD (k - 1) 0:=⟨_,rfl⟩
  have hst:=short_step hv ht
  have hb:=short_bound hd hc ga
  rw [<- ht] at hb
  have hcm:0<=c*4294967296/\c*4294967296<=4294967294*4294967296:=by omega
  have hmod:=Int.emod_nonneg t (show d ≠ 0 by omega)
  have hmod2:=Int.emod_lt_of_pos t hd
  have hi:zC (zZ k) 1=(k:Int) - 1:=by rw [hS.sub,hS.ofN]
  have hz:zP 0 (zC (zZ k) 1)=decide (1<=k):=by
   rw [hS.le,hi]
   by_cases h:1<=k
   ·rw [decide_eq_true h]; exact decide_eq_true (by omega)
   ·rw [decide_eq_false h]; exact decide_eq_false (by omega)
  have hnt:1<=k->zX (zC (zZ k) 1)=k - 1:=fun h=>by rw [hS.nat,hi]; omega
  have e0:1<=k->zn r (zX (zC (zZ k) 1))=l.getD (k - 1) 0:=fun h=>by rw [hS.getI,hnt h,hr,qap]
  have e1:zJ .u64 (zG .u64 c 32) (zA .u64 (l.getD (k - 1) 0))=t:=by
   rw [hS.wrap,qaa (x:=l.getD (k - 1) 0) (by omega) (by omega),show zG .u64 c 32=ZI.std.shl .u64 c 32 from hS.shl ..,show ∀ x y,zJ .u64 x y=ZI.std.bor .u64 x y from fun _ _=>hS.bor ..,two_words hc.1 (by omega) ga.1 ga.2,ht]
  have e2:zA .u32 (zA .u64 (zE t d))=t / d:=by rw [hS.quo,Int.tdiv_eq_ediv_of_nonneg (by omega),hS.wrap,hS.wrap,qaa (x:=t / d) (by omega) (by omega)]; exact qaz (by omega) (by omega)
  have e3:zF t d=t % d:=by rw [hS.rem,Int.tmod_eq_emod_of_nonneg (by omega)]
  have e4:1<=k->zA .i64 (zC (zC (zZ k) 1) 1)=zC (zZ (k - 1)) 1:=fun h=>by rw [hi,hS.wrap,hS.sub,hS.sub,hS.ofN,wrap_i64 (by omega) (by omega)]; omega
  have e5:1<=k->zb 0 (zC (zZ k) 1)=k - 1:=fun h=>by rw [hS.idx,hi]; omega
  have e7:∀ x,zo .u32 (zW .u32 o) (k - 1) x=zW .u32 (o.set (k - 1) x):=fun x=>by rw [hS.setI,hS.W,W_set]
  have e8:1<=k->zY (zC (zZ k) 1) n=true:=fun h=>by rw [hS.inb,hi]; exact decide_eq_true (by omega)
  have e9:1<=k->zm .u32 (zW .u32 o) (k - 1)=true:=fun h=>by rw [hS.isI,hS.W,qav]; exact decide_eq_true (by omega)
  have e9':1<=k->zm .u32 r (zX (zC (zZ k) 1))=true:=fun h=>by rw [hS.isI,hr,hnt h,qav]; exact decide_eq_true (by omega)
  have e10:zq 0 n (zW .u32 o)=true:=by rw [hS.fit,hS.W,qal]; exact decide_eq_true (by omega)
  have e11:zr (zW .u32 o) 0 n=W .u32 o:=by rw [hS.part,hS.W,qbj,List.drop_zero,List.take_of_length_le (by omega)]
  have hT:=qbc (r:=W .u32 o) rfl (by omega) hw
  have hend:k=0->val o=q/\c=e:=fun h=>by
   subst h
   simp only [List.drop_zero] at hv
   rw [hq,he,hv]
   exact ⟨by rw [Int.add_comm,Int.add_mul_ediv_left _ _ (by omega),Int.ediv_eq_zero_of_lt hc.1 hc.2,Int.zero_add],by rw [Int.add_comm,Int.add_mul_emod_self_left,Int.emod_eq_of_lt hc.1 hc.2]⟩
  have hset:1<=k->val (l.drop (k - 1))=d*val ((o.set (k - 1) (t / d)).drop (k - 1))+t % d:=fun h=>by
   rw [qaj (l:=l) (by omega),qaj (l:=o.set (k - 1) (t / d)) (by simp; omega),getD_set_self _ (by omega),qa0,show k - 1+1=k by omega]
   exact hst
  generalize hga:l.getD (k - 1) 0=a at *
  cbv
  refine ⟨fun h=>?_,fun h=>?_⟩
  ·have a1:=h
   rw [hz] at h
   have h:=of_decide_eq_true h
   refine nd a1 (nd (e9' h) ?_)
   rw [e0 h,e1,e2,e3,e4 h,e5 h,e7]
   refine nd hdz (nd (e8 h) (nd (e9 h) (nd hdz ?_)))
   refine again (s':=idvsSt r (zW .u32 (o.set (k - 1) (t / d))) d n (t % d) (zC (zZ (k - 1)) 1)) (m:=k - 1) (by simp [leT,idvsSt,mkSt,vi,vl,vnil]) (by simp [leH,idvsSt,mkSt]) rfl (Nat.le_succ 2) (by omega) ⟨_,_,by omega,by simpa using ho,hw.set _ (by omega) (by omega),by omega,hset h,rfl⟩
  ·rw [hz] at h
   have h:=of_decide_eq_false h
   rw [e11]
   obtain ⟨z1,z2⟩:=hend (by omega)
   refine nd e10 ⟨_,hS.call hT,?_⟩
   rw [z1]
   generalize W .u32 (dg q.toNat)=x at *
   cbv
   exact fin2 hF rfl (qa6 z2)
open Go Go.Abs Go.Abs.M Go.Proofs
theorem cast_pow2 (s:Nat):((2 ^ s:Nat):Int)=2 ^ s:=by simp
theorem pow2_pos (s:Nat):(0:Int) < 2 ^ s:=Int.pow_pos (by omega)
theorem pow2_le {s:Nat} (h:s < 32):(2:Int) ^ s<=2147483648:=by
 have:2 ^ s<=2 ^ 31:=Nat.pow_le_pow_right (by omega) (by omega)
 rw [<- cast_pow2]; omega
theorem shl_up {a c t:Int} {s:Nat} (hs:s < 32) (ha:0<=a/\a < 4294967296) (hc:0<=c/\c < 2 ^ s) (ht:t=a*2 ^ s+c):(0<=a*2 ^ s/\a*2 ^ s < 18446744073709551616)/\(0<=t/\t < 18446744073709551616)/\0<=t / 4294967296/\t / 4294967296 < 2 ^ s:=by
 have hp:=pow2_pos s
 have hq:=pow2_le hs
 have h1:0<=a*2 ^ s:=Int.mul_nonneg ha.1 (by omega)
 have h2:a*2 ^ s<=4294967295*2 ^ s:=Int.mul_le_mul_of_nonneg_right (by omega) (by omega)
 refine ⟨by omega,by omega,Int.ediv_nonneg (by omega) (by omega),Int.ediv_lt_of_lt_mul (by omega) (by omega)⟩
theorem shl_step {t vo vl a c p:Int} {e:Int} (h:vo+c*p=e*vl) (ht:t=a*e+c):vo+p*(t % 4294967296)+t / 4294967296*(p*4294967296)=e*(vl+p*a):=by
 have:=Int.emod_add_mul_ediv t 4294967296
 have e1:t % 4294967296=t - 4294967296*(t / 4294967296):=by omega
 rw [e1,ht]
 generalize (a*e+c) / 4294967296=z at *
 clear this e1 ht
 grind
def ishlSt (r R:Abs.Rows) (s:Int) (n:Nat) (c len i:Int):St:=mkSt 42 [vl r,vi .i64 s,.junk,.junk,vnil,.c (.sl 2 0 n false),vi .u64 c,.junk,.junk,.junk,.junk,.junk,.junk,.junk,vi .i64 len,vi .i64 i] [none,none,some (.rows 1 R true false)]
theorem ishiftLeft_call {r:Abs.Rows} {l:List Int} (s:Nat) (hr:r=W .u32 l) (hl:l.length<=1099511627776) (hlw:Wd l) (hs:s < 32) :
  ACall Tryz.prog 149 [.val (tl r),.val (ti .i64 (s:Int))] ⟨[.val (tl (W .u32 (wds (l.length+1) (2 ^ s*val l))))],[none,none]⟩:=by
 obtain ⟨N,hN⟩:∃ N:Nat,N=l.length:=⟨_,rfl⟩
 obtain ⟨n,hn⟩:∃ n:Nat,n=N+1:=⟨_,rfl⟩
 have hcap:(n:Int)*4<=140737488355328:=by omega
 rw [<- hN,<- hn]
 obtain ⟨S,hS0⟩:∃ S:Int,S=(s:Int):=⟨_,rfl⟩
 rw [<- hS0]
 refine callZ ccOk mixed [.val] Tryz.func149 rfl rfl (by kernel_rfl) fun zA zB zC zD zE zF zG zH zI zJ zK zL zM zN zO zP zQ zR zT zU zV zX zY zZ zb zc zd ze zg zh zi zj zk zl zm zn zo zq zr zs zt zu zx zy zz zmget zmset zW zth A L F hS hF=>?_
 have h1:zj r=N:=by rw [hS.len,hr,qal,hN]
 have hn1:zA .i64 (zB (zZ (zj r)) 1)=zZ n:=by rw [h1,hS.ofN,hS.ofN,hS.add,hS.wrap,wrap_i64 (by omega) (by omega)]; omega
 have hnn:zX (zZ n)=n:=by rw [hS.nat,hS.ofN]; omega
 have hrep:zu n [.v (.int .u32 0)]=zW .u32 (List.replicate n 0):=by rw [hS.rep,hS.W]; exact W_rep ..
 have L2:=qbp hS.lt hS.ofN
 have hs0:zP 0 S=true:=by rw [hS.le]; exact decide_eq_true (by omega)
 have A1:∀ (k:Nat) (o:List Int) (c:Int),o.length=n->Wd o->(0<=c/\c < 2 ^ s)->val (o.take k)+c*4294967296 ^ k=2 ^ s*val (l.take k)->k < N->∃ (t:Int) (k1:Nat),zn r (zX (zZ k))=l.getD k 0/\zJ .u64 (zG .u64 (zA .u64 (l.getD k 0)) S) c=t/\zA .u32 t=t % 4294967296/\zH .u64 t 32=t / 4294967296 /\
   zA .i64 (zB (zZ k) 1)=zZ k1/\zb 0 (zZ k)=k/\(∀ x,zo .u32 (zW .u32 o) k x=zW .u32 (o.set k x))/\zY (zZ k) n=true/\zm .u32 (zW .u32 o) k=true/\zm .u32 r (zX (zZ k))=true/\zP 0 (zZ k)=true/\k1=k+1 /\
   (o.set k (t % 4294967296)).length=n/\Wd (o.set k (t % 4294967296))/\(0<=t / 4294967296/\t / 4294967296 < 2 ^ s)/\val ((o.set k (t % 4294967296)).take k1)+t / 4294967296*4294967296 ^ k1=2 ^ s*val (l.take k1):=fun k o c ho hw hc hv hk=>by
  have ga:=hlw.get k
  obtain ⟨t,ht⟩:∃ t,t=l.getD k 0*2 ^ s+c:=⟨_,rfl⟩
  obtain ⟨b1,b2,b3⟩:=shl_up hs ga hc ht
  have hst:=shl_step hv ht
  refine ⟨t,k+1,by rw [hS.getI,hS.nat,hS.ofN,hr,qap,Int.toNat_natCast],?_,by rw [hS.wrap,qbb],?_,?_,by rw [hS.idx,hS.ofN]; omega,fun x=>by rw [hS.setI,hS.W,W_set],?_,?_,?_,?_,rfl,by simpa using ho,hw.set _ (by omega) (by omega),b3,?_⟩
  ·rw [hS.wrap,qaa (by omega) (by omega),show ∀ x,zG .u64 x S=ZI.std.shl .u64 x S from fun _=>hS.shl ..,shl_std s hS0 (by show s<=64; omega),qaa b1.1 b1.2,show ∀ x y,zJ .u64 x y=ZI.std.bor .u64 x y from fun _ _=>hS.bor ..,bor_hi s ga.1 hc.1 hc.2 (by omega),ht]
  ·rw [show ∀ x,zH .u64 x 32=ZI.std.shr .u64 x 32 from fun _=>hS.shr ..]; exact shr32 b2.1
  ·rw [hS.wrap,hS.add,hS.ofN,hS.ofN,wrap_i64 (by omega) (by omega)]; omega
  ·rw [hS.inb,hS.ofN]; exact decide_eq_true (by omega)
  ·rw [hS.isI,hS.W,qav]; exact decide_eq_true (by omega)
  ·rw [hS.isI,hr,hS.nat,hS.ofN,qav]; exact decide_eq_true (by omega)
  ·rw [hS.le,hS.ofN]; exact decide_eq_true (by omega)
  ·rw [qak _ (by omega),qad l,Int.pow_succ]; exact hst
 have A2:∀ (o:List Int) (c:Int),o.length=n->Wd o->(0<=c/\c < 2 ^ s)->val (o.take N)+c*4294967296 ^ N=2 ^ s*val (l.take N)->zb 0 (zZ (zj r))=N/\zA .u32 c=c/\zo .u32 (zW .u32 o) N c=zW .u32 (o.set N c)/\zY (zZ (zj r)) n=true/\zm .u32 (zW .u32 o) N=true/\zq 0 n (zW .u32 (o.set N c))=true /\
   zr (zW .u32 (o.set N c)) 0 n=W .u32 (wds n (2 ^ s*val l))/\zW .u32 (o.set N c)=W .u32 (wds n (2 ^ s*val l))/\zc n (zj (W .u32 (wds n (2 ^ s*val l))))=true:=fun o c ho hw hc hv=>by
  have hq:=pow2_le hs
  refine ⟨by rw [hS.idx,hS.ofN,h1]; omega,by rw [hS.wrap]; exact qaz hc.1 (by omega),by rw [hS.setI,hS.W,W_set],by rw [hS.inb,hS.ofN,h1]; exact decide_eq_true (by omega),by rw [hS.isI,hS.W,qav]; exact decide_eq_true (by omega),by rw [hS.fit,hS.W,qal]; exact decide_eq_true (by simp; omega),?_,?_,by rw [hS.neq,hS.len,qal,qay]; exact decide_eq_true rfl⟩
  all_goals have a1:=qak (l:=o) (k:=N) c (by omega)
  all_goals rw [List.take_of_length_le (by simp; omega)] at a1
  all_goals rw [List.take_of_length_le (l:=l) (by omega)] at hv
  ·rw [hS.part,hS.W,qbj,List.drop_zero,List.take_of_length_le (by simp; omega)]
   congr 1
   exact wds_of (b:=0) (hw.set N hc.1 (by omega)) (by simpa using ho) (by rw [a1,<- hv]; grind)
  ·rw [hS.W]
   congr 1
   exact wds_of (b:=0) (hw.set N hc.1 (by omega)) (by simpa using ho) (by rw [a1,<- hv]; grind)
 cbv
 rw [hn1,hnn,hrep]
 refine nd (by rw [hS.mkok,hS.ofN]; exact decide_eq_true ⟨Int.natCast_nonneg n,Int.le_refl _,by unfold capBytes; omega⟩) ?_
 refine loopZ ccOk mixed hS (fun (j:Nat) s'=>∃ (k:Nat) (o:List Int) (c:Int),k+j=N/\(o.length=n/\Wd o/\(0<=c/\c < 2 ^ s)/\val (o.take k)+c*4294967296 ^ k=2 ^ s*val (l.take k))/\s'=ishlSt r (zW .u32 o) S n c (zZ N) (zZ k)) (n:=N)
  (s0:=ishlSt r (zW .u32 (List.replicate n 0)) S n 0 (zZ N) (zZ 0)) (qao ?_ ?_) rfl (Nat.le_succ 2) ?_ ?_
 ·simp [leT,ishlSt,mkSt,vi,vl,vnil,hS.ofN,h1]
 ·simp [leH,ishlSt,mkSt]
 ·exact ⟨0,_,0,by omega,⟨by simp,Wd.rep _,⟨by omega,pow2_pos s⟩,by simp [val]⟩,rfl⟩
 ·rintro j _ ⟨k,o,c,hk,⟨ho,hw,hc,hv⟩,rfl⟩
  rcases Nat.lt_or_ge k N with hkn | hkn
  ·obtain ⟨t,k1,E1,E2,E3,E4,E5,E6,E7,E8,E9,E10,E11,hk1,I1,I2,I3,I4⟩:=A1 k o c ho hw hc hv hkn
   have e6:zO (zZ k) (zZ N)=true:=(L2 k N).trans (decide_eq_true hkn)
   have hj:k1+(j - 1)=N/\j - 1 < j:=by clear A1 A2; omega
   generalize l.getD k 0=a at E1 E2
   clear A1 A2 hc hv
   cbv
   refine bT e6 ?_
   rw [E1,E2,E3,E4,E5,E6,E7]
   refine nd E11 (nd E10 (nd hs0 (nd E8 (nd E9 ?_))))
   exact again (s':=ishlSt r (zW .u32 (o.set k (t % 4294967296))) S n (t / 4294967296) (zZ N) (zZ k1)) (m:=j - 1) (by simp [leT,ishlSt,mkSt,vi,vl,vnil]) (by simp [leH,ishlSt,mkSt]) rfl (Nat.le_succ 2) hj.2 ⟨k1,_,_,hj.1,⟨I1,I2,I3,I4⟩,rfl⟩
  ·obtain rfl:k=N:=by clear A1 A2; omega
   obtain ⟨E1,E2,E3,E4,E5,E6,E7,E8,E9⟩:=A2 o c ho hw hc hv
   have e6:zO (zZ k) (zZ k)=false:=(L2 k k).trans (decide_eq_false (Nat.lt_irrefl k))
   clear A1 A2 hc hv
   generalize wds n (2 ^ s*val l)=fin at *
   cbv
   refine bF e6 ?_
   rw [E1,E2,E3,E7]; exact nd E4 (nd E5 (nd E6 (hF _ (ResLe.refl _))))
theorem ishiftLeft_own {r:Abs.Rows} {l:List Int} (s:Nat) (hr:r=W .u32 l) (hl:l.length<=1099511627776) (hlw:Wd l) (hs:s < 32) :
  ACall Tryz.prog 149 [.val (tl r),.val (ti .i64 (s:Int))] ⟨[.own 1 (W .u32 (wds (l.length+1) (2 ^ s*val l)))],[none,none]⟩:=by
 obtain ⟨N,hN⟩:∃ N:Nat,N=l.length:=⟨_,rfl⟩
 obtain ⟨n,hn⟩:∃ n:Nat,n=N+1:=⟨_,rfl⟩
 have hcap:(n:Int)*4<=140737488355328:=by omega
 rw [<- hN,<- hn]
 obtain ⟨S,hS0⟩:∃ S:Int,S=(s:Int):=⟨_,rfl⟩
 rw [<- hS0]
 refine callZ ccOk mixed [.own 1] Tryz.func149 rfl rfl (by kernel_rfl) fun zA zB zC zD zE zF zG zH zI zJ zK zL zM zN zO zP zQ zR zT zU zV zX zY zZ zb zc zd ze zg zh zi zj zk zl zm zn zo zq zr zs zt zu zx zy zz zmget zmset zW zth A L F hS hF=>?_
 have h1:zj r=N:=by rw [hS.len,hr,qal,hN]
 have hn1:zA .i64 (zB (zZ (zj r)) 1)=zZ n:=by rw [h1,hS.ofN,hS.ofN,hS.add,hS.wrap,wrap_i64 (by omega) (by omega)]; omega
 have hnn:zX (zZ n)=n:=by rw [hS.nat,hS.ofN]; omega
 have hrep:zu n [.v (.int .u32 0)]=zW .u32 (List.replicate n 0):=by rw [hS.rep,hS.W]; exact W_rep ..
 have L2:=qbp hS.lt hS.ofN
 have hs0:zP 0 S=true:=by rw [hS.le]; exact decide_eq_true (by omega)
 have A1:∀ (k:Nat) (o:List Int) (c:Int),o.length=n->Wd o->(0<=c/\c < 2 ^ s)->val (o.take k)+c*4294967296 ^ k=2 ^ s*val (l.take k)->k < N->∃ (t:Int) (k1:Nat),zn r (zX (zZ k))=l.getD k 0/\zJ .u64 (zG .u64 (zA .u64 (l.getD k 0)) S) c=t/\zA .u32 t=t % 4294967296/\zH .u64 t 32=t / 4294967296 /\
   zA .i64 (zB (zZ k) 1)=zZ k1/\zb 0 (zZ k)=k/\(∀ x,zo .u32 (zW .u32 o) k x=zW .u32 (o.set k x))/\zY (zZ k) n=true/\zm .u32 (zW .u32 o) k=true/\zm .u32 r (zX (zZ k))=true/\zP 0 (zZ k)=true/\k1=k+1 /\
   (o.set k (t % 4294967296)).length=n/\Wd (o.set k (t % 4294967296))/\(0<=t / 4294967296/\t / 4294967296 < 2 ^ s)/\val ((o.set k (t % 4294967296)).take k1)+t / 4294967296*4294967296 ^ k1=2 ^ s*val (l.take k1):=fun k o c ho hw hc hv hk=>by
  have ga:=hlw.get k
  obtain ⟨t,ht⟩:∃ t,t=l.getD k 0*2 ^ s+c:=⟨_,rfl⟩
  obtain ⟨b1,b2,b3⟩:=shl_up hs ga hc ht
  have hst:=shl_step hv ht
  refine ⟨t,k+1,by rw [hS.getI,hS.nat,hS.ofN,hr,qap,Int.toNat_natCast],?_,by rw [hS.wrap,qbb],?_,?_,by rw [hS.idx,hS.ofN]; omega,fun x=>by rw [hS.setI,hS.W,W_set],?_,?_,?_,?_,rfl,by simpa using ho,hw.set _ (by omega) (by omega),b3,?_⟩
  ·rw [hS.wrap,qaa (by omega) (by omega),show ∀ x,zG .u64 x S=ZI.std.shl .u64 x S from fun _=>hS.shl ..,shl_std s hS0 (by show s<=64; omega),qaa b1.1 b1.2,show ∀ x y,zJ .u64 x y=ZI.std.bor .u64 x y from fun _ _=>hS.bor ..,bor_hi s ga.1 hc.1 hc.2 (by omega),ht]
  ·rw [show ∀ x,zH .u64 x 32=ZI.std.shr .u64 x 32 from fun _=>hS.shr ..]; exact shr32 b2.1
  ·rw [hS.wrap,hS.add,hS.ofN,hS.ofN,wrap_i64 (by omega) (by omega)]; omega
  ·rw [hS.inb,hS.ofN]; exact decide_eq_true (by omega)
  ·rw [hS.isI,hS.W,qav]; exact decide_eq_true (by omega)
  ·rw [hS.isI,hr,hS.nat,hS.ofN,qav]; exact decide_eq_true (by omega)
  ·rw [hS.le,hS.ofN]; exact decide_eq_true (by omega)
  ·rw [qak _ (by omega),qad l,Int.pow_succ]; exact hst
 have A2:∀ (o:List Int) (c:Int),o.length=n->Wd o->(0<=c/\c < 2 ^ s)->val (o.take N)+c*4294967296 ^ N=2 ^ s*val (l.take N)->zb 0 (zZ (zj r))=N/\zA .u32 c=c/\zo .u32 (zW .u32 o) N c=zW .u32 (o.set N c)/\zY (zZ (zj r)) n=true/\zm .u32 (zW .u32 o) N=true/\zq 0 n (zW .u32 (o.set N c))=true /\
   zr (zW .u32 (o.set N c)) 0 n=W .u32 (wds n (2 ^ s*val l))/\zW .u32 (o.set N c)=W .u32 (wds n (2 ^ s*val l))/\zc n (zj (W .u32 (wds n (2 ^ s*val l))))=true:=fun o c ho hw hc hv=>by
  have hq:=pow2_le hs
  refine ⟨by rw [hS.idx,hS.ofN,h1]; omega,by rw [hS.wrap]; exact qaz hc.1 (by omega),by rw [hS.setI,hS.W,W_set],by rw [hS.inb,hS.ofN,h1]; exact decide_eq_true (by omega),by rw [hS.isI,hS.W,qav]; exact decide_eq_true (by omega),by rw [hS.fit,hS.W,qal]; exact decide_eq_true (by simp; omega),?_,?_,by rw [hS.neq,hS.len,qal,qay]; exact decide_eq_true rfl⟩
  all_goals have a1:=qak (l:=o) (k:=N) c (by omega)
  all_goals rw [List.take_of_length_le (by simp; omega)] at a1
  all_goals rw [List.take_of_length_le (l:=l) (by omega)] at hv
  ·rw [hS.part,hS.W,qbj,List.drop_zero,List.take_of_length_le (by simp; omega)]
   congr 1
   exact wds_of (b:=0) (hw.set N hc.1 (by omega)) (by simpa using ho) (by rw [a1,<- hv]; grind)
  ·rw [hS.W]
   congr 1
   exact wds_of (b:=0) (hw.set N hc.1 (by omega)) (by simpa using ho) (by rw [a1,<- hv]; grind)
 cbv
 rw [hn1,hnn,hrep]
 refine nd (by rw [hS.mkok,hS.ofN]; exact decide_eq_true ⟨Int.natCast_nonneg n,Int.le_refl _,by unfold capBytes; omega⟩) ?_
 refine loopZ ccOk mixed hS (fun (j:Nat) s'=>∃ (k:Nat) (o:List Int) (c:Int),k+j=N/\(o.length=n/\Wd o/\(0<=c/\c < 2 ^ s)/\val (o.take k)+c*4294967296 ^ k=2 ^ s*val (l.take k))/\s'=ishlSt r (zW .u32 o) S n c (zZ N) (zZ k)) (n:=N)
  (s0:=ishlSt r (zW .u32 (List.replicate n 0)) S n 0 (zZ N) (zZ 0)) (qao ?_ ?_) rfl (Nat.le_succ 2) ?_ ?_
 ·simp [leT,ishlSt,mkSt,vi,vl,vnil,hS.ofN,h1]
 ·simp [leH,ishlSt,mkSt]
 ·exact ⟨0,_,0,by omega,⟨by simp,Wd.rep _,⟨by omega,pow2_pos s⟩,by simp [val]⟩,rfl⟩
 ·rintro j _ ⟨k,o,c,hk,⟨ho,hw,hc,hv⟩,rfl⟩
  rcases Nat.lt_or_ge k N with hkn | hkn
  ·obtain ⟨t,k1,E1,E2,E3,E4,E5,E6,E7,E8,E9,E10,E11,hk1,I1,I2,I3,I4⟩:=A1 k o c ho hw hc hv hkn
   have e6:zO (zZ k) (zZ N)=true:=(L2 k N).trans (decide_eq_true hkn)
   have hj:k1+(j - 1)=N/\j - 1 < j:=by clear A1 A2; omega
   generalize l.getD k 0=a at E1 E2
   clear A1 A2 hc hv
   cbv
   refine bT e6 ?_
   rw [E1,E2,E3,E4,E5,E6,E7]
   refine nd E11 (nd E10 (nd hs0 (nd E8 (nd E9 ?_))))
   exact again (s':=ishlSt r (zW .u32 (o.set k (t % 4294967296))) S n (t / 4294967296) (zZ N) (zZ k1)) (m:=j - 1) (by simp [leT,ishlSt,mkSt,vi,vl,vnil]) (by simp [leH,ishlSt,mkSt]) rfl (Nat.le_succ 2) hj.2 ⟨k1,_,_,hj.1,⟨I1,I2,I3,I4⟩,rfl⟩
  ·obtain rfl:k=N:=by clear A1 A2; omega
   obtain ⟨E1,E2,E3,E4,E5,E6,E7,E8,E9⟩:=A2 o c ho hw hc hv
   have e6:zO (zZ k) (zZ k)=false:=(L2 k k).trans (decide_eq_false (Nat.lt_irrefl k))
   clear A1 A2 hc hv
   generalize wds n (2 ^ s*val l)=fin at *
   cbv
   refine bF e6 ?_
   rw [E1,E2,E3,E8]; exact nd E4 (nd E5 (nd E9 (hF _ (ResLe.refl _))))
theorem mask_std {t:Int} (s:Nat) (hs:s < 32) (h0:0<=t) (h1:t < 18446744073709551616):ZI.std.band .u64 t (2 ^ s - 1)=t % 2 ^ s:=by
 obtain ⟨x,rfl⟩:=Int.eq_ofNat_of_zero_le h0
 have hp:0 < 2 ^ s:=Nat.two_pow_pos s
 have hq:2 ^ s<=2 ^ 31:=Nat.pow_le_pow_right (by omega) (by omega)
 have e:(2:Int) ^ s - 1=((2 ^ s - 1:Nat):Int):=by rw [<- cast_pow2]; omega
 rw [e,band_u64 (by omega) (by omega),Nat.and_two_pow_sub_one_eq_mod,Int.natCast_emod,cast_pow2]
def ishrSt (r R:Abs.Rows) (s:Int) (n:Nat) (c i:Int):St:=mkSt 41 [vl r,vi .i64 s,.junk,.junk,vnil,.c (.sl 2 0 n false),vi .u64 c,vi .i64 i] [none,none,some (.rows 1 R true false)]
theorem ishiftRight_call {r:Abs.Rows} {l:List Int} (s:Nat) (hr:r=W .u32 l) (hl:l.length<=1099511627776) (hlw:Wd l) (hs:s < 32) :
  ACall Tryz.prog 151 [.val (tl r),.val (ti .i64 (s:Int))] ⟨[.val (tl (W .u32 (dg (val l / 2 ^ s).toNat)))],[none,none]⟩:=by
 obtain ⟨n,hn⟩:∃ n:Nat,n=l.length:=⟨_,rfl⟩
 have hcap:(n:Int)*4<=140737488355328:=by omega
 obtain ⟨S,hS0⟩:∃ S:Int,S=(s:Int):=⟨_,rfl⟩
 obtain ⟨q,hq⟩:∃ q,q=val l / 2 ^ s:=⟨_,rfl⟩
 rw [<- hS0,<- hq]
 have hp:=pow2_pos s
 have hp2:=pow2_le hs
 refine callZ ccOk mixed [.val] Tryz.func151 rfl rfl (by kernel_rfl) fun zA zB zC zD zE zF zG zH zI zJ zK zL zM zN zO zP zQ zR zT zU zV zX zY zZ zb zc zd ze zg zh zi zj zk zl zm zn zo zq zr zs zt zu zx zy zz zmget zmset zW zth A L F hS hF=>?_
 have h1:zj r=n:=by rw [hS.len,hr,qal,hn]
 have hnn:zX (zZ n)=n:=by rw [hS.nat,hS.ofN]; omega
 have hrep:zu n [.v (.int .u32 0)]=zW .u32 (List.replicate n 0):=by rw [hS.rep,hS.W]; exact W_rep ..
 have hi0:zA .i64 (zC (zZ n) 1)=zC (zZ n) 1:=by rw [hS.wrap,hS.sub,hS.ofN]; exact wrap_i64 (by omega) (by omega)
 have hs0:zP 0 S=true:=by rw [hS.le]; exact decide_eq_true (by omega)
 have hmask:zA .u64 (zC (zG .u64 1 S) 1)=2 ^ s - 1:=by
  rw [show ∀ x,zG .u64 x S=ZI.std.shl .u64 x S from fun _=>hS.shl ..,shl_std s hS0 (by show s<=64; omega),Int.one_mul,qaa (by omega) (by omega),hS.sub,hS.wrap,qaa (by omega) (by omega)]
 obtain ⟨M,hM⟩:∃ M:Int,M=2 ^ s - 1:=⟨_,rfl⟩
 rw [<- hM] at hmask
 have A1:∀ (k:Nat) (o:List Int) (c:Int),k<=n->o.length=n->Wd o->(0<=c/\c < 2 ^ s)->val (l.drop k)=2 ^ s*val (o.drop k)+c->1<=k->∃ (t q e:Int),zn r (zX (zC (zZ k) 1))=l.getD (k - 1) 0/\zJ .u64 (zG .u64 c 32) (zA .u64 (l.getD (k - 1) 0))=t/\zH .u64 t S=q/\zA .u32 q=q/\zI .u64 t M=e /\
   zA .i64 (zC (zC (zZ k) 1) 1)=zC (zZ (k - 1)) 1/\zb 0 (zC (zZ k) 1)=k - 1/\(∀ x,zo .u32 (zW .u32 o) (k - 1) x=zW .u32 (o.set (k - 1) x))/\zY (zC (zZ k) 1) n=true/\zm .u32 (zW .u32 o) (k - 1)=true/\zm .u32 r (zX (zC (zZ k) 1))=true/\zP 0 (zC (zZ k) 1)=true /\
   k - 1<=n/\(o.set (k - 1) q).length=n/\Wd (o.set (k - 1) q)/\(0<=e/\e < 2 ^ s)/\val (l.drop (k - 1))=2 ^ s*val ((o.set (k - 1) q).drop (k - 1))+e:=fun k o c hk ho hw hc hv h=>by
  have ga:=hlw.get (k - 1)
  obtain ⟨t,ht⟩:∃ t,t=c*4294967296+l.getD (k - 1) 0:=⟨_,rfl⟩
  have hst:=short_step hv ht
  have hb:=short_bound hp hc ga
  rw [<- ht] at hb
  have hmod:=Int.emod_nonneg t (show (2:Int) ^ s ≠ 0 by omega)
  have hmod2:=Int.emod_lt_of_pos t hp
  have hi:zC (zZ k) 1=(k:Int) - 1:=by rw [hS.sub,hS.ofN]
  have hnt:zX (zC (zZ k) 1)=k - 1:=by rw [hS.nat,hi]; omega
  have htb:0<=t/\t < 18446744073709551616:=by omega
  refine ⟨t,t / 2 ^ s,t % 2 ^ s,by rw [hS.getI,hnt,hr,qap],?_,?_,?_,?_,?_,?_,fun x=>by rw [hS.setI,hS.W,W_set],?_,?_,?_,?_,by omega,by simpa using ho,hw.set _ hb.1 hb.2,⟨hmod,hmod2⟩,?_⟩
  ·rw [hS.wrap,qaa (x:=l.getD (k - 1) 0) (by omega) (by omega),show zG .u64 c 32=ZI.std.shl .u64 c 32 from hS.shl ..,show ∀ x y,zJ .u64 x y=ZI.std.bor .u64 x y from fun _ _=>hS.bor ..,two_words hc.1 (by omega) ga.1 ga.2,ht]
  ·rw [show ∀ x,zH .u64 x S=ZI.std.shr .u64 x S from fun _=>hS.shr ..,shr_std s hS0 (by show s<=64; omega) htb.1]
  ·rw [hS.wrap]; exact qaz hb.1 (by omega)
  ·rw [show ∀ x y,zI .u64 x y=ZI.std.band .u64 x y from fun _ _=>hS.band ..,hM,mask_std s hs htb.1 htb.2]
  ·rw [hi,hS.wrap,hS.sub,hS.sub,hS.ofN,wrap_i64 (by omega) (by omega)]; omega
  ·rw [hS.idx,hi]; omega
  ·rw [hS.inb,hi]; exact decide_eq_true (by omega)
  ·rw [hS.isI,hS.W,qav]; exact decide_eq_true (by omega)
  ·rw [hS.isI,hr,hnt,qav]; exact decide_eq_true (by omega)
  ·rw [hS.le,hi]; exact decide_eq_true (by omega)
  ·rw [qaj (l:=l) (by omega),qaj (l:=o.set (k - 1) (t / 2 ^ s)) (by simp; omega),getD_set_self _ (by omega),qa0,show k - 1+1=k by omega]
   exact hst
 cbv
 rw [h1,hnn,hrep,hi0]
 refine nd (by rw [hS.mkok,hS.ofN]; exact decide_eq_true ⟨Int.natCast_nonneg n,Int.le_refl _,by unfold capBytes; omega⟩) ?_
 refine loopZ ccOk mixed hS (fun (k:Nat) s'=>∃ (o:List Int) (c:Int),(k<=n/\o.length=n/\Wd o/\(0<=c/\c < 2 ^ s)/\val (l.drop k)=2 ^ s*val (o.drop k)+c)/\s'=ishrSt r (zW .u32 o) S n c (zC (zZ k) 1)) (n:=n)
  (s0:=ishrSt r (zW .u32 (List.replicate n 0)) S n 0 (zC (zZ n) 1)) (qao ?_ ?_) rfl (Nat.le_succ 2) ?_ ?_
 ·simp [leT,ishrSt,mkSt,vi,vl,vnil,hS.ofN]
 ·simp [leH,ishrSt,mkSt]
 ·refine ⟨_,0,⟨Nat.le_refl _,by simp,Wd.rep _,⟨by omega,hp⟩,?_⟩,rfl⟩
  rw [List.drop_of_length_le (by omega),List.drop_of_length_le (by simp)]; simp [val]
 ·rintro k _ ⟨o,c,⟨hk,ho,hw,hc,hv⟩,rfl⟩
  rcases Nat.eq_zero_or_pos k with hk0 | hk0
  ·subst hk0
   have e6:zP 0 (zC (zZ 0) 1)=false:=by rw [hS.le,hS.sub,hS.ofN]; rfl
   have e10:zq 0 n (zW .u32 o)=true:=by rw [hS.fit,hS.W,qal]; exact decide_eq_true (by omega)
   have e11:zr (zW .u32 o) 0 n=W .u32 o:=by rw [hS.part,hS.W,qbj,List.drop_zero,List.take_of_length_le (by omega)]
   have hT:=qbc (r:=W .u32 o) rfl (by omega) hw
   have hend:val o=q:=by
    simp only [List.drop_zero] at hv
    rw [hq,hv,Int.add_comm,Int.add_mul_ediv_left _ _ (by omega),Int.ediv_eq_zero_of_lt hc.1 hc.2,Int.zero_add]
   rw [hend] at hT
   clear A1 hv hc hmask hM hq hp hp2
   generalize W .u32 (dg q.toNat)=x at *
   cbv
   refine bF e6 (nd e10 ?_)
   rw [e11]
   refine ⟨_,hS.call hT,?_⟩
   cbv
   exact hF _ (ResLe.refl _)
  ·obtain ⟨t,d,e,E1,E2,E3,E4,E5,E6,E7,E8,E9,E10,E11,E12,I⟩:=A1 k o c hk ho hw hc hv hk0
   have hj:k - 1 < k:=by clear A1; omega
   obtain ⟨k1,hk1⟩:∃ k1,k1=k - 1:=⟨_,rfl⟩
   rw [<- hk1] at E1 E2 E6 E7 E8 E10 I hj
   generalize l.getD k1 0=a at E1 E2
   clear A1 hc hv hk1
   cbv
   refine bT E12 ?_
   rw [E1,E2,E3,E4,hmask,E5,E6,E7,E8]
   refine nd E12 (nd E11 (nd hs0 (nd E9 (nd E10 (nd hs0 ?_)))))
   exact again (s':=ishrSt r (zW .u32 (o.set k1 d)) S n e (zC (zZ k1) 1)) (m:=k1) (by simp [leT,ishrSt,mkSt,vi,vl,vnil]) (by simp [leH,ishrSt,mkSt]) rfl (Nat.le_succ 2) hj ⟨_,_,I,rfl⟩
end Go.Proofs.YtjfmkcmepdedaaaGreat
end
section
namespace Go.Abs.M
theorem dif_word2 {a b c d:Int} (ha:0<=a/\a < 4294967296) (hb:0<=b/\b < 4294967296) (hc:0<=c/\c<=1) (hd:d=((a - b) % 18446744073709551616 - c) % 18446744073709551616) :
  d % 4294967296=(4294967296+a - b - c) % 4294967296/\d / 9223372036854775808=1 - (4294967296+a - b - c) / 4294967296/\0<=d:=by omega
structure QwI (u v:List Int) (n:Nat) (g:Int) (k:Nat) (o:List Int) (c b:Int):Prop where
 lo:o.length=n+1
 wo:Wd o
 hc:0<=c/\c < 4294967296
 hb:0<=b/\b<=1
 dr:o.drop k=u.drop k
 eq:val (o.take k)=val (u.take k) - g*val (v.take k)+(b+c)*4294967296 ^ k
theorem drop_getD_eq {o u:List Int} {k:Nat} (h:o.drop k=u.drop k):o.getD k 0=u.getD k 0:=by
 have:=congrArg (fun y=>List.getD y 0 0) h
 simpa [List.getD_eq_getElem?_getD] using this
theorem drop_set_eq {o u:List Int} {k:Nat} (x:Int) (h:o.drop k=u.drop k):(o.set k x).drop (k+1)=u.drop (k+1):=by
 rw [qa0]
 have:=congrArg (List.drop 1) h
 simpa [List.drop_drop] using this
section
variable {u v o:List Int} {n k:Nat} {g c b pr d:Int}
theorem QwI.start (hu:u.length=n+1) (hw:Wd u):QwI u v n g 0 u 0 0:=⟨hu,hw,by omega,by omega,rfl,by simp [val]⟩
theorem QwI.step (h:QwI u v n g k o c b) (huw:Wd u) (hvw:Wd v) (hg0:0<=g) (hg1:g<=4294967296) (hk:k < n) (hpr:pr=g*v.getD k 0+c) (hd:d=((u.getD k 0 - pr % 4294967296) % 18446744073709551616 - b) % 18446744073709551616) :
  (0<=g*v.getD k 0/\g*v.getD k 0 < 18446744073709551616)/\(0<=pr/\pr < 18446744073709551616)/\0<=d/\o.getD k 0=u.getD k 0/\QwI u v n g (k+1) (o.set k (d % 4294967296)) (pr / 4294967296) (d / 9223372036854775808):=by
 obtain ⟨lo,wo,hc,hb,dr,eq⟩:=h
 have ga:=huw.get k
 have gv:=hvw.get k
 have hgv:0<=g*v.getD k 0/\g*v.getD k 0<=4294967296*4294967295:=⟨Int.mul_nonneg hg0 gv.1,Int.mul_le_mul hg1 (by omega) gv.1 (by omega)⟩
 obtain ⟨t,ht⟩:∃ t,t=4294967296+u.getD k 0 - pr % 4294967296 - b:=⟨_,rfl⟩
 have hst:=lessen_step eq hpr ht
 obtain ⟨d1,d2,d3⟩:=dif_word2 ga (show 0<=pr % 4294967296/\pr % 4294967296 < 4294967296 by omega) hb hd
 rw [<- ht] at d1 d2
 refine ⟨by omega,by omega,d3,drop_getD_eq dr,?_⟩
 rw [d1,d2]
 refine ⟨by simpa using lo,wo.set _ (by omega) (by omega),by omega,by omega,drop_set_eq _ dr,?_⟩
 rw [qak _ (by omega),qad u,qad v,Int.pow_succ,hst,Int.mul_add]
theorem QwI.last (h:QwI u v n g n o c b) (hu:u.length=n+1) (hv:v.length=n) (huw:Wd u) (hd:d=((u.getD n 0 - c) % 18446744073709551616 - b) % 18446744073709551616) :
  0<=d/\o.getD n 0=u.getD n 0/\(d / 9223372036854775808=0 ↔ ¬ val u - g*val v < 0)/\o.set n (d % 4294967296)=wds (n+1) (val u - g*val v)/\(o.set n (d % 4294967296)).length=n+1:=by
 obtain ⟨lo,wo,hc,hb,dr,eq⟩:=h
 have gun:=huw.get n
 obtain ⟨n1,n2,n3⟩:=dif_word2 gun hc hb hd
 obtain ⟨y,hy⟩:∃ y,y=4294967296+u.getD n 0 - c - b:=⟨_,rfl⟩
 rw [<- hy] at n1 n2
 rw [n1,n2]
 have wo2:Wd (o.set n (y % 4294967296)):=wo.set _ (by omega) (by omega)
 have lo2:(o.set n (y % 4294967296)).length=n+1:=by simpa using lo
 have hsum:val (o.set n (y % 4294967296))=(val u - g*val v)+(1 - y / 4294967296)*4294967296 ^ (n+1):=by
  have a1:=qak (l:=o) (k:=n) (y % 4294967296) (by omega)
  rw [List.take_of_length_le (by omega)] at a1
  have a2:=qad u n
  rw [List.take_of_length_le (by omega)] at a2
  rw [List.take_of_length_le (l:=v) (by omega)] at eq
  have a3:=Int.emod_add_mul_ediv y 4294967296
  have a4:y % 4294967296=4294967296+u.getD n 0 - c - b - 4294967296*(y / 4294967296):=by omega
  rw [a1,a2,eq,Int.pow_succ,a4]
  generalize y / 4294967296=z at *
  generalize (4294967296:Int) ^ n=p at *
  generalize val v=vv at *
  generalize val (u.take n)=uu at *
  generalize u.getD n 0=w at *
  clear a1 a2 a3 a4 eq n1 n2 hd hy wo2 lo2 dr
  grind
 refine ⟨n3,drop_getD_eq dr,?_,wds_of wo2 lo2 hsum,lo2⟩
 have a2:=qbm wo2
 have a3:=qaf wo2
 rw [lo2] at a2
 have a4:=qam (n+1)
 rcases (show 1 - y / 4294967296=0 ∨ 1 - y / 4294967296=1 by omega) with h1 | h1
 ·rw [h1] at hsum ⊢; constructor <;> intro <;> omega
 ·rw [h1] at hsum ⊢; constructor <;> intro <;> omega
structure QrI (u v:List Int) (n:Nat) (k:Nat) (o:List Int) (c:Int):Prop where
 lo:o.length=n+1
 wo:Wd o
 hc:0<=c/\c<=1
 dr:o.drop k=u.drop k
 eq:val (o.take k)+c*4294967296 ^ k=val (u.take k)+val (v.take k)
theorem QrI.start (hu:u.length=n+1) (hw:Wd u):QrI u v n 0 u 0:=⟨hu,hw,by omega,rfl,by simp [val]⟩
theorem QrI.step {t:Int} (h:QrI u v n k o c) (huw:Wd u) (hvw:Wd v) (hk:k < n) (ht:t=u.getD k 0+v.getD k 0+c) :
  (0<=t/\t < 18446744073709551616)/\o.getD k 0=u.getD k 0/\QrI u v n (k+1) (o.set k (t % 4294967296)) (t / 4294967296):=by
 obtain ⟨lo,wo,hc,dr,eq⟩:=h
 have ga:=huw.get k
 have gv:=hvw.get k
 have hst:=add_step eq ht
 refine ⟨by omega,drop_getD_eq dr,by simpa using lo,wo.set _ (by omega) (by omega),by omega,drop_set_eq _ dr,?_⟩
 rw [qak _ (by omega),qad u,qad v,Int.pow_succ]
 exact hst
theorem QrI.last (h:QrI u v n n o c) (hu:u.length=n+1) (hv:v.length=n) (huw:Wd u):o.getD n 0=u.getD n 0/\o.set n ((u.getD n 0+c) % 4294967296)=wds (n+1) (val u+val v)/\(o.set n ((u.getD n 0+c) % 4294967296)).length=n+1:=by
 obtain ⟨lo,wo,hc,dr,eq⟩:=h
 have gun:=huw.get n
 obtain ⟨y,hy⟩:∃ y,y=u.getD n 0+c:=⟨_,rfl⟩
 rw [<- hy]
 have wo2:Wd (o.set n (y % 4294967296)):=wo.set _ (by omega) (by omega)
 have lo2:(o.set n (y % 4294967296)).length=n+1:=by simpa using lo
 refine ⟨drop_getD_eq dr,wds_of (b:=-(y / 4294967296)) wo2 lo2 ?_,lo2⟩
 have a1:=qak (l:=o) (k:=n) (y % 4294967296) (by omega)
 rw [List.take_of_length_le (by omega)] at a1
 have a2:=qad u n
 rw [List.take_of_length_le (by omega)] at a2
 rw [List.take_of_length_le (l:=v) (by omega)] at eq
 have a3:=Int.emod_add_mul_ediv y 4294967296
 have a4:y % 4294967296=u.getD n 0+c - 4294967296*(y / 4294967296):=by omega
 have a5:val (o.take n)=val (u.take n)+val v - c*4294967296 ^ n:=by omega
 rw [a1,a2,a5,Int.pow_succ,a4]
 generalize y / 4294967296=z at *
 generalize (4294967296:Int) ^ n=p at *
 generalize val v=vv at *
 generalize val (u.take n)=uu at *
 generalize u.getD n 0=w at *
 clear a1 a2 a3 a4 a5 eq hy wo2 lo2 dr
 grind
end
end Go.Abs.M
end
section
namespace Go.Proofs.YtjfmkcmepdedaaaGreat
open Go Go.Abs Go.Abs.M Go.Proofs
def iqw3St (r s:Abs.Rows) (l:Nat) (n q c i:Int):St:=mkSt 171 [.c (.sl 0 0 l false),vl s,.junk,.junk,vi .u32 0,vi .i64 n,.junk,vi .u64 q,.junk,vi .u64 c,.junk,.junk,.junk,.junk,.junk,.junk,.junk,.junk,.junk,.junk,.junk,.junk,.junk,.junk,.junk,.junk,.junk,.junk,.junk,.junk,.junk,.junk,.junk,.junk,.junk,.junk,.junk,.junk,.junk,.junk,.junk,.junk,.junk,.junk,.junk,.junk,.junk,.junk,.junk,.junk,.junk,.junk,.junk,.junk,.junk,.junk,.junk,.junk,.junk,.junk,.junk,.junk,.junk,.junk,.junk,.junk,.junk,.junk,.junk,.junk,.junk,.junk,.junk,.junk,.junk,.junk,.junk,.junk,.junk,.junk,.junk,.junk,.junk,.junk,.junk,.junk,.junk,.junk,.junk,.junk,.junk,.junk,.junk,.junk,.junk,.junk,.junk,.junk,.junk,.junk,.junk,.junk,.junk,.junk,.junk,.junk,.junk,.junk,.junk,.junk,.junk,.junk,.junk,.junk,.junk,.junk,.junk,.junk,.junk,.junk,.junk,.junk,.junk,.junk,.junk,.junk,.junk,.junk,.junk,.junk,.junk,.junk,.junk,.junk,.junk,vi .i64 n,vi .i64 i] [some (.rows 1 r false false),none]
theorem shared {L:Code->St->(AExit->ST->Prop)->Prop} {G:Prop} {c:Code} {Q:AExit->ST->Prop} {S:List AV->Heap->Prop} (main:(∀ T H,S T H->L c (St.mk T H) Q)->G) (rest:∀ T H,S T H->L c (St.mk T H) Q):G:=main rest
def iqw2St (r s:Abs.Rows) (l:Nat) (n q c b i:Int):St:=mkSt 171 [.c (.sl 0 0 l false),vl s,.junk,.junk,vi .u32 0,vi .i64 n,.junk,vi .u64 q,.junk,vi .u64 c,vi .u64 b,.junk,.junk,.junk,.junk,.junk,.junk,.junk,.junk,.junk,.junk,.junk,.junk,.junk,.junk,.junk,.junk,.junk,.junk,.junk,.junk,.junk,.junk,.junk,.junk,.junk,.junk,.junk,.junk,.junk,.junk,.junk,.junk,.junk,.junk,.junk,.junk,.junk,.junk,.junk,.junk,.junk,.junk,.junk,.junk,.junk,.junk,.junk,.junk,.junk,.junk,.junk,.junk,.junk,.junk,.junk,.junk,.junk,.junk,.junk,.junk,.junk,.junk,.junk,.junk,.junk,.junk,.junk,.junk,.junk,.junk,.junk,vi .i64 n,vi .i64 i] [some (.rows 1 r false false),none]
def iqw1St (r s:Abs.Rows) (len:Nat) (n t q e:Int):St:=mkSt 171 [.c (.sl 0 0 len false),vl s,.junk,.junk,vi .u32 0,vi .i64 n,vi .u64 t,vi .u64 q,vi .u64 e] [some (.rows 1 r false false),none]
theorem iquotientWord_call {r s:Abs.Rows} {u v x:List Int} {n:Nat} (g qd:Int) (hr:r=W .u32 u) (hs:s=W .u32 v) (hu:u.length=n+1) (hv:v.length=n) (hn:2<=n) (hn2:n<=1099511627776) (huw:Wd u) (hvw:Wd v) (htop:2147483648<=v.getD (n - 1) 0)
  (hg:g=guess0 (v.getD (n - 1) 0) (v.getD (n - 2) 0) (u.getD (n - 2) 0) (u.getD n 0*4294967296+u.getD (n - 1) 0)) (hg0:0<=g) (hg1:g<=4294967296) (hqd:0<=qd/\qd < 4294967296)
  (hneg:val u - g*val v < 0->g - 1=qd/\x=wds (n+1) (val u - g*val v+val v)) (hpos':¬ val u - g*val v < 0->g=qd/\x=wds (n+1) (val u - g*val v)) :
  ACall Tryz.prog 150 [.bor 1 r,.val (tl s)] ⟨[.val (ti .u32 qd)],[some (.rows 1 (W .u32 x) false false),none]⟩:=by
 have g1':=huw.get n
 have g2:=huw.get (n - 1)
 have g3:=huw.get (n - 2)
 have g4:=hvw.get (n - 1)
 have g5:=hvw.get (n - 2)
 obtain ⟨t,ht⟩:∃ t,t=u.getD n 0*4294967296+u.getD (n - 1) 0:=⟨_,rfl⟩
 rw [<- ht] at hg
 refine callZ ccOk mixed [.val] Tryz.func150 rfl rfl (by kernel_rfl) fun zA zB zC zD zE zF zG zH zI zJ zK zL zM zN zO zP zQ zR zT zU zV zX zY zZ zb zc zd ze zg zh zi zj zk zl zm zn zo zq zr zs zt zu zx zy zz zmget zmset zW zth A L F hS hF=>?_
 have h1:zj r=n+1:=by rw [hS.len,hr,qal,hu]
 have h2:zj s=n:=by rw [hS.len,hs,qal,hv]
 have hrW:r=zW .u32 u:=by rw [hS.W]; exact hr
 have w1:zA .i64 (zC (zZ n) 1)=zZ (n - 1):=by rw [hS.wrap,hS.sub,hS.ofN,hS.ofN,wrap_i64 (by omega) (by omega)]; omega
 have w2:zA .i64 (zC (zZ n) 2)=zZ (n - 2):=by rw [hS.wrap,hS.sub,hS.ofN,hS.ofN,wrap_i64 (by omega) (by omega)]; omega
 have f2:∀ q,zb 0 (zZ q)=q:=fun q=>by rw [hS.idx,hS.ofN]; omega
 have f3:∀ q,q < n+1->zY (zZ q) (zj r)=true:=fun q hq=>by rw [h1,hS.inb,hS.ofN]; exact decide_eq_true (by omega)
 have f4:∀ q,q < n+1->zm .u32 r q=true:=fun q hq=>by rw [hS.isI,hr,qav]; exact decide_eq_true (by omega)
 have f5:∀ q,zn r q=u.getD q 0:=fun q=>by rw [hS.getI,hr,qap]
 have f6:∀ q,zP 0 (zZ q)=true:=fun q=>by rw [hS.le,hS.ofN]; exact decide_eq_true (by omega)
 have f7:∀ q,q < n->zm .u32 s (zX (zZ q))=true:=fun q hq=>by rw [hS.isI,hs,hS.nat,hS.ofN,qav]; exact decide_eq_true (by omega)
 have f8:∀ q,zn s (zX (zZ q))=v.getD q 0:=fun q=>by rw [hS.getI,hS.nat,hS.ofN,hs,qap,Int.toNat_natCast]
 have eu:∀ q,zA .u64 (u.getD q 0)=u.getD q 0:=fun q=>by have:=huw.get q; rw [hS.wrap,qaa (by omega) (by omega)]
 have ev:∀ q,zA .u64 (v.getD q 0)=v.getD q 0:=fun q=>by have:=hvw.get q; rw [hS.wrap,qaa (by omega) (by omega)]
 have et:zJ .u64 (zG .u64 (u.getD n 0) 32) (u.getD (n - 1) 0)=t:=by
  rw [show zG .u64 (u.getD n 0) 32=ZI.std.shl .u64 (u.getD n 0) 32 from hS.shl ..,show ∀ x y,zJ .u64 x y=ZI.std.bor .u64 x y from fun _ _=>hS.bor ..,two_words g1'.1 g1'.2 g2.1 g2.2,ht]
 have htb:0<=t/\t < 18446744073709551616:=by omega
 have hnz:zN (v.getD (n - 1) 0) 0=true:=by rw [hS.ne]; exact decide_eq_true (by omega)
 have hq0:0<=t / v.getD (n - 1) 0:=Int.ediv_nonneg (by omega) (by omega)
 have hq1:t / v.getD (n - 1) 0 < 8589934592:=Int.ediv_lt_of_lt_mul (by omega) (by omega)
 have hm0:=Int.emod_nonneg t (show v.getD (n - 1) 0 ≠ 0 by omega)
 have hm1:=Int.emod_lt_of_pos t (show 0 < v.getD (n - 1) 0 by omega)
 have eq:zA .u64 (zE t (v.getD (n - 1) 0))=t / v.getD (n - 1) 0:=by rw [hS.quo,Int.tdiv_eq_ediv_of_nonneg (by omega),hS.wrap]; exact qaa (by omega) (by omega)
 have er:zF t (v.getD (n - 1) 0)=t % v.getD (n - 1) 0:=by rw [hS.rem,Int.tmod_eq_emod_of_nonneg (by omega)]
 have hstart:guessF (v.getD (n - 1) 0) (v.getD (n - 2) 0) (u.getD (n - 2) 0) 3 (t / v.getD (n - 1) 0) (t % v.getD (n - 1) 0)=g:=hg.symm
 have e10:zc (zj r) (zj r)=true:=by rw [hS.neq]; exact decide_eq_true rfl
 have L2:=qbp hS.lt hS.ofN
 have W1:∀ z,z=qd->zA .u32 z=qd:=fun z hz=>by rw [hS.wrap,hz]; exact qaz hqd.1 (by omega)
 have A2:∀ (k:Nat) (o:List Int) (c b:Int),QwI u v n g k o c b->k < n->∃ (pr d:Int) (k1:Nat),zn (zW .u32 o) k=u.getD k 0/\zA .u64 (zB (zA .u64 (zD g (v.getD k 0))) c)=pr/\zA .u64 (zA .u32 pr)=pr % 4294967296/\zH .u64 pr 32=pr / 4294967296 /\
   zA .u64 (zC (zA .u64 (zC (u.getD k 0) (pr % 4294967296))) b)=d/\zA .u32 d=d % 4294967296/\zH .u64 d 63=d / 9223372036854775808/\zA .i64 (zB (zZ k) 1)=zZ k1/\zA .u64 (u.getD k 0)=u.getD k 0/\zA .u64 (v.getD k 0)=v.getD k 0 /\
   (∀ x,zo .u32 (zW .u32 o) k x=zW .u32 (o.set k x))/\zm .u32 (zW .u32 o) k=true/\zn s (zX (zZ k))=v.getD k 0/\k1=k+1/\QwI u v n g k1 (o.set k (d % 4294967296)) (pr / 4294967296) (d / 9223372036854775808):=fun k o c b hI hk=>by
  obtain ⟨i1,i2,i3,i4,i5⟩:=hI.step huw hvw hg0 hg1 hk rfl rfl
  have hlo:=hI.lo
  have hc:=hI.hc
  refine ⟨_,_,k+1,by rw [hS.getI,hS.W,qap,i4],?_,?_,?_,?_,?_,?_,?_,eu k,ev k,fun x=>by rw [hS.setI,hS.W,W_set],by rw [hS.isI,hS.W,qav]; exact decide_eq_true (by omega),f8 k,rfl,i5⟩
  ·rw [hS.wrap,hS.wrap,hS.mul,hS.add,qaa i1.1 i1.2,qaa i2.1 i2.2]
  ·rw [hS.wrap,hS.wrap,qbb,qaa (by omega) (by omega)]
  ·rw [show ∀ x,zH .u64 x 32=ZI.std.shr .u64 x 32 from fun _=>hS.shr ..]; exact shr32 i2.1
  ·rw [hS.wrap,hS.wrap,hS.sub,hS.sub,qbz,qbz]
  ·rw [hS.wrap,qbb]
  ·rw [show ∀ x,zH .u64 x 63=ZI.std.shr .u64 x 63 from fun _=>hS.shr ..]; exact shr63 i3
  ·rw [hS.wrap,hS.add,hS.ofN,hS.ofN,wrap_i64 (by omega) (by omega)]; omega
 have A3:∀ (o:List Int) (c b:Int),QwI u v n g n o c b->∃ (un d:Int) (y:List Int),zn (zW .u32 o) n=un/\zA .u64 un=un/\zA .u64 (zC (zA .u64 (zC un c)) b)=d/\zA .u32 d=d % 4294967296/\zo .u32 (zW .u32 o) n (d % 4294967296)=zW .u32 y /\
   zm .u32 (zW .u32 o) n=true/\zc (zj (zW .u32 y)) (zj r)=true/\(zM (zH .u64 d 63) 0=true->g=qd/\y=x)/\(zM (zH .u64 d 63) 0=false->g - 1=qd/\x=wds (n+1) (val y+val v))/\Wd y/\y.length=n+1:=fun o c b hI=>by
  obtain ⟨i1,i2,i3,i4,i5⟩:=hI.last hu hv huw rfl
  have hlo:=hI.lo
  refine ⟨u.getD n 0,_,_,by rw [hS.getI,hS.W,qap,i2],eu n,by rw [hS.wrap,hS.wrap,hS.sub,hS.sub,qbz,qbz],by rw [hS.wrap,qbb],by rw [hS.setI,hS.W,W_set],by rw [hS.isI,hS.W,qav]; exact decide_eq_true (by omega),?_,fun h=>?_,fun h=>?_,by rw [i4]; exact wds_wd _ _,i5⟩
  ·rw [h1,hS.neq,hS.len,hS.W,qal,i5]; exact decide_eq_true rfl
  ·rw [show ∀ x,zH .u64 x 63=ZI.std.shr .u64 x 63 from fun _=>hS.shr ..,shr63 i1,hS.eq] at h
   obtain ⟨j1,j2⟩:=hpos' (i3.1 (of_decide_eq_true h))
   exact ⟨j1,by rw [i4,j2]⟩
  ·rw [show ∀ x,zH .u64 x 63=ZI.std.shr .u64 x 63 from fun _=>hS.shr ..,shr63 i1,hS.eq] at h
   have h':val u - g*val v < 0:=Decidable.byContradiction fun h6=>of_decide_eq_false h (i3.2 h6)
   obtain ⟨j1,j2⟩:=hneg h'
   exact ⟨j1,by rw [i4,j2,wds_back]⟩
 have A4:∀ (y:List Int),Wd y->y.length=n+1->x=wds (n+1) (val y+val v)->(∀ (k:Nat) (o:List Int) (c:Int),QrI y v n k o c->k < n->∃ (t:Int) (k1:Nat),zn (zW .u32 o) k=y.getD k 0/\zA .u64 (zB (zA .u64 (zB (y.getD k 0) (v.getD k 0))) c)=t/\zA .u32 t=t % 4294967296/\zH .u64 t 32=t / 4294967296 /\
   zA .i64 (zB (zZ k) 1)=zZ k1/\zA .u64 (y.getD k 0)=y.getD k 0/\zA .u64 (v.getD k 0)=v.getD k 0/\(∀ z,zo .u32 (zW .u32 o) k z=zW .u32 (o.set k z))/\zm .u32 (zW .u32 o) k=true/\zn s (zX (zZ k))=v.getD k 0/\k1=k+1/\QrI y v n k1 (o.set k (t % 4294967296)) (t / 4294967296)) /\
   (∀ (o:List Int) (c:Int),QrI y v n n o c->∃ (yn d:Int),zn (zW .u32 o) n=yn/\zA .u32 c=c/\zA .u32 (zB yn c)=d/\zo .u32 (zW .u32 o) n d=zW .u32 x/\zm .u32 (zW .u32 o) n=true/\zc (zj (zW .u32 x)) (zj r)=true):=fun y wy ly hx=>by
  refine ⟨fun k o c hI hk=>?_,fun o c hI=>?_⟩
  ·obtain ⟨i1,i2,i3⟩:=hI.step wy hvw hk rfl
   have hlo:=hI.lo
   have hc:=hI.hc
   have b1:=wy.get k
   have b2:=hvw.get k
   refine ⟨_,k+1,by rw [hS.getI,hS.W,qap,i2],?_,?_,?_,?_,?_,ev k,fun x=>by rw [hS.setI,hS.W,W_set],by rw [hS.isI,hS.W,qav]; exact decide_eq_true (by omega),f8 k,rfl,i3⟩
   ·rw [hS.wrap,hS.wrap,hS.add,hS.add,qaa (x:=y.getD k 0+v.getD k 0) (by omega) (by omega),qaa i1.1 i1.2]
   ·rw [hS.wrap,qbb]
   ·rw [show ∀ x,zH .u64 x 32=ZI.std.shr .u64 x 32 from fun _=>hS.shr ..]; exact shr32 i1.1
   ·rw [hS.wrap,hS.add,hS.ofN,hS.ofN,wrap_i64 (by omega) (by omega)]; omega
   ·rw [hS.wrap,qaa (by omega) (by omega)]
  ·obtain ⟨i1,i2,i3⟩:=hI.last ly hv wy
   have hlo:=hI.lo
   have hc:=hI.hc
   refine ⟨y.getD n 0,(y.getD n 0+c) % 4294967296,by rw [hS.getI,hS.W,qap,i1],by rw [hS.wrap]; exact qaz (by omega) (by omega),by rw [hS.wrap,hS.add,qbb],?_,by rw [hS.isI,hS.W,qav]; exact decide_eq_true (by omega),?_⟩
   ·rw [hS.setI,hS.W,W_set,i2,hx]
   ·rw [h1,hS.neq,hS.len,hS.W,qal,hx,qay]; exact decide_eq_true rfl
 have g1q:g - 1=qd->zA .u64 (zC g 1)=qd:=fun h=>by rw [hS.wrap,hS.sub,qaa (by omega) (by omega),h]
 clear hg ht
 generalize ha1:v.getD (n - 1) 0=v1 at *
 generalize ha2:v.getD (n - 2) 0=v2 at *
 generalize ha3:u.getD (n - 2) 0=u2 at *
 generalize ha4:u.getD n 0=u0 at *
 generalize ha5:u.getD (n - 1) 0=u1 at *
 have eu0:=eu n
 have eu1:=eu (n - 1)
 have eu2:=eu (n - 2)
 have ev1:=ev (n - 1)
 have ev2:=ev (n - 2)
 rw [ha4] at eu0
 rw [ha5] at eu1
 rw [ha3] at eu2
 rw [ha1] at ev1
 rw [ha2] at ev2
 cbv
 rw [h2,w1,f2,f2,f5,f5,f8,ha1,ha4,ha5,eu0,eu1,ev1,et,eq,er]
 refine nd (f3 _ (by omega)) (nd (f4 _ (by omega)) (nd (f3 _ (by omega)) (nd (f4 _ (by omega)) (nd (f6 _) (nd (f7 _ (by omega)) (nd hnz (nd (f6 _) (nd (f7 _ (by omega)) (nd hnz ?_)))))))))
 generalize t / v1=q0 at *
 generalize t % v1=m0 at *
 apply shared (L:=L) (S:=fun T H=>leT T (iqw2St (zW .u32 u) s (zj r) (zZ n) g 0 0 (zZ 0)).tmps/\leH H (iqw2St (zW .u32 u) s (zj r) (zZ n) g 0 0 (zZ 0)).heap)
 ·intro rest
  refine loopZ ccOk mixed hS (fun (j:Nat) s'=>∃ (q e:Int),0<=q/\q < 8589934592/\0<=e/\e < 4294967296/\guessF v1 v2 u2 j q e=g/\4294967296<=e+j*v1/\s'=iqw1St r s (zj r) (zZ n) t q e) (n:=3)
   (s0:=iqw1St r s (zj r) (zZ n) t q0 m0) (qao ?_ ?_) rfl (Nat.le_refl 2) ?_ ?_
  ·simp [leT,iqw1St,mkSt,vi,vl,vb,hS.ofN]
  ·simp [leH,iqw1St,mkSt]
  ·exact ⟨q0,m0,hq0,hq1,hm0,by omega,hstart,by push_cast; omega,rfl⟩
  ·rintro j _ ⟨q,e,b1,b2,b3,b4,hgF,hme,rfl⟩
   have j0:j ≠ 0:=by
    rintro rfl
    simp at hme
    omega
   obtain ⟨j,rfl⟩:∃ i,j=i+1:=⟨j - 1,by omega⟩
   have hme':4294967296<=(e+v1)+j*v1:=by
    have:((j+1:Nat):Int)*v1=j*v1+v1:=by push_cast; grind
    omega
   simp only [guessF] at hgF
   have x1:zP 4294967296 q=decide (4294967296<=q):=by rw [hS.le]
   have x2:zA .u64 (zB e v1)=e+v1:=by rw [hS.wrap,hS.add]; exact qaa (by omega) (by omega)
   have x3:zP 4294967296 (e+v1)=decide (4294967296<=e+v1):=by rw [hS.le]
   have x4:0 < q->zA .u64 (zC q 1)=q - 1:=fun h=>by rw [hS.wrap,hS.sub]; exact qaa (by omega) (by omega)
   have hq2:q < 4294967296->0<=q*v2/\q*v2<=4294967295*4294967295:=fun h=>⟨Int.mul_nonneg b1 g5.1,Int.mul_le_mul (by omega) (by omega) g5.1 (by omega)⟩
   have x5:q < 4294967296->zO (zJ .u64 (zG .u64 e 32) u2) (zA .u64 (zD q v2))=decide (e*4294967296+u2 < q*v2):=fun h=>by
    have:=hq2 h
    rw [hS.lt,hS.wrap,hS.mul,show zG .u64 e 32=ZI.std.shl .u64 e 32 from hS.shl ..,show ∀ x y,zJ .u64 x y=ZI.std.bor .u64 x y from fun _ _=>hS.bor ..,two_words b3 b4 g3.1 g3.2,qaa (x:=q*v2) (by omega) (by omega)]
   have hpos:e*4294967296+u2 < q*v2->0 < q:=fun h=>by
    rcases Int.lt_or_le 0 q with h' | h'
    ·exact h'
    ·obtain rfl:q=0:=by omega
     omega
   have step:(4294967296<=q ∨ e*4294967296+u2 < q*v2)->¬ 4294967296<=e+v1->0 < q->∀ (T:List AV) (H:Heap),leT T (iqw1St r s (zj r) (zZ n) t (q - 1) (e+v1)).tmps->leH H (iqw1St r s (zj r) (zZ n) t (q - 1) (e+v1)).heap->∃ s':St,(St.mk T H).Le s'/\s'.refsLt=true/\[Arg.bor 1 r,Arg.val (tl s)].length<=s'.heap.length/\∃ m,m < j+1/\∃ (q e:Int),0<=q/\q < 8589934592/\0<=e/\e < 4294967296/\guessF v1 v2 u2 m q e=g/\4294967296<=e+m*v1/\s'=iqw1St r s (zj r) (zZ n) t q e:=fun hb hc hp T H hT hH=>by
    rw [if_pos hb,if_neg hc] at hgF
    exact ⟨_,qao hT hH,rfl,Nat.le_refl 2,j,by omega,q - 1,e+v1,by omega,by omega,by omega,by omega,hgF,hme',rfl⟩
   cbv
   rw [w1,w2,f2,f8,f8,f5,ha1,ha2,ha3,ev1,ev2,eu2,x2]
   refine ⟨fun h=>?_,fun h=>?_⟩
   all_goals rw [x1] at h
   ·have h:=of_decide_eq_true h
    rw [x4 (by omega)]
    refine nd (f6 _) (nd (f7 _ (by omega)) ⟨fun h'=>?_,fun h'=>?_⟩)
    all_goals rw [x3] at h'
    ·rw [if_pos (.inl h),if_pos (of_decide_eq_true h')] at hgF
     rw [hgF]
     exact rest _ _ ⟨by simp [leT,iqw2St,mkSt,vi,vl,vb,hS.ofN],by simp [leH,iqw2St,mkSt,hrW]⟩
    ·exact step (.inl h) (of_decide_eq_false h') (by omega) _ _ (by simp [leT,iqw1St,mkSt,vi,vl,vb]) (by simp [leH,iqw1St,mkSt])
   ·have h:=of_decide_eq_false h
    refine nd (f6 _) (nd (f7 _ (by omega)) (nd (f3 _ (by omega)) (nd (f4 _ (by omega)) ⟨fun h''=>?_,fun h''=>?_⟩)))
    all_goals rw [x5 (by omega)] at h''
    ·have h'':=of_decide_eq_true h''
     have hp:=hpos h''
     rw [x4 hp]
     refine nd (f6 _) (nd (f7 _ (by omega)) ⟨fun h'=>?_,fun h'=>?_⟩)
     all_goals rw [x3] at h'
     ·rw [if_pos (.inr h''),if_pos (of_decide_eq_true h')] at hgF
      rw [hgF]
      exact rest _ _ ⟨by simp [leT,iqw2St,mkSt,vi,vl,vb,hS.ofN],by simp [leH,iqw2St,mkSt,hrW]⟩
     ·exact step (.inr h'') (of_decide_eq_false h') hp _ _ (by simp [leT,iqw1St,mkSt,vi,vl,vb]) (by simp [leH,iqw1St,mkSt])
    ·have h'':=of_decide_eq_false h''
     rw [if_neg (by omega)] at hgF
     rw [hgF]
     exact rest _ _ ⟨by simp [leT,iqw2St,mkSt,vi,vl,vb,hS.ofN],by simp [leH,iqw2St,mkSt,hrW]⟩
 ·intro T H hT
  refine loopZ ccOk mixed hS (fun (j:Nat) s'=>∃ (k:Nat) (o:List Int) (c b:Int),k+j=n/\QwI u v n g k o c b/\s'=iqw2St (zW .u32 o) s (zj r) (zZ n) g c b (zZ k)) (n:=n)
   (s0:=iqw2St (zW .u32 u) s (zj r) (zZ n) g 0 0 (zZ 0)) (qao hT.1 hT.2) rfl (Nat.le_refl 2) ?_ ?_
  ·exact ⟨0,u,0,0,Nat.zero_add n,QwI.start hu huw,rfl⟩
  ·rintro j _ ⟨k,o,c,b',hk,hI,rfl⟩
   rcases Nat.lt_or_ge k n with hkn | hkn
   ·obtain ⟨pr,d,k1,E1,E2,E3,E4,E5,E6,E7,E8,E9,E10,E11,E12,E13,hk1,hI'⟩:=A2 k o c b' hI hkn
    have e6:zO (zZ k) (zZ n)=true:=(L2 k n).trans (decide_eq_true hkn)
    have hj:k1+(j - 1)=n/\j - 1 < j:=by clear A2 A3 A4; omega
    generalize u.getD k 0=a at E1 E5 E9
    generalize v.getD k 0=m at E2 E10 E13
    cbv
    refine bT e6 ?_
    rw [f2,E13,E10,E1,E9,E2,E3,E4,E5,E6,E7,E8,E11]
    refine nd (f6 _) (nd (f7 k hkn) (nd (f3 k (Nat.lt_succ_of_lt hkn)) (nd E12 (nd (f3 k (Nat.lt_succ_of_lt hkn)) (nd E12 ?_)))))
    exact again (s':=iqw2St (zW .u32 (o.set k (d % 4294967296))) s (zj r) (zZ n) g (pr / 4294967296) (d / 9223372036854775808) (zZ k1)) (m:=j - 1) (by simp [leT,iqw2St,mkSt,vi,vl,vb]) (by simp [leH,iqw2St,mkSt]) rfl (Nat.le_refl 2) hj.2 ⟨k1,_,_,_,hj.1,hI',rfl⟩
   ·obtain rfl:k=n:=by clear A2 A3 A4; omega
    obtain ⟨un,d,y,E1,E2,E3,E4,E5,E6,E7,E8,E9,wy,ly⟩:=A3 o c b' hI
    have e6:zO (zZ k) (zZ k)=false:=(L2 k k).trans (decide_eq_false (Nat.lt_irrefl k))
    cbv
    refine bF e6 ?_
    rw [f2,E1,E2,E3,E4,E5]
    refine nd (f3 k (Nat.lt_succ_self k)) (nd E6 (nd (f3 k (Nat.lt_succ_self k)) (nd E6 ⟨fun h5=>?_,fun h5=>?_⟩)))
    ·obtain ⟨x1,x2⟩:=(E8 h5:g=qd/\y=x)
     rw [W1 g x1]
     refine nd E7 ?_
     rw [x2,hS.W]
     exact hF _ (ResLe.refl _)
    ·obtain ⟨x1,x2⟩:=E9 h5
     obtain ⟨B1,B2⟩:=A4 y wy ly x2
     have G1:=g1q x1
     have G2:=W1 qd rfl
     clear E1 E2 E3 E4 E5 E6 E7 E8 E9 A2 A3 A4 hI h5 h1 h2 w1 w2 hstart e10 eq er et
     refine loopZ ccOk mixed hS (fun (j:Nat) s'=>∃ (i:Nat) (o:List Int) (c:Int),i+j=k/\QrI y v k i o c/\s'=iqw3St (zW .u32 o) s (zj r) (zZ k) g c (zZ i)) (n:=k)
      (s0:=iqw3St (zW .u32 y) s (zj r) (zZ k) g 0 (zZ 0)) (qao ?_ ?_) rfl (Nat.le_refl 2) ?_ ?_
     ·simp [leT,iqw3St,mkSt,vi,vl,vb,hS.ofN]
     ·simp [leH,iqw3St,mkSt]
     ·exact ⟨0,y,0,Nat.zero_add k,QrI.start ly wy,rfl⟩
     ·rintro j _ ⟨i,o,c,hk,hI,rfl⟩
      rcases Nat.lt_or_ge i k with hik | hik
      ·obtain ⟨t,i1,E1,E2,E3,E4,E5,E6,E7,E8,E9,E10,hi1,hI'⟩:=B1 i o c hI hik
       have e6:zO (zZ i) (zZ k)=true:=(L2 i k).trans (decide_eq_true hik)
       have hj:i1+(j - 1)=k/\j - 1 < j:=by clear B1 B2; omega
       generalize y.getD i 0=a at E1 E2 E6
       generalize v.getD i 0=m at E2 E7 E10
       cbv
       refine bT e6 ?_
       rw [f2,E10,E7,E1,E6,E2,E3,E4,E5,E8]
       refine nd (f3 i (Nat.lt_succ_of_lt hik)) (nd E9 (nd (f6 _) (nd (f7 i hik) (nd (f3 i (Nat.lt_succ_of_lt hik)) (nd E9 ?_)))))
       exact again (s':=iqw3St (zW .u32 (o.set i (t % 4294967296))) s (zj r) (zZ k) g (t / 4294967296) (zZ i1)) (m:=j - 1) (by simp [leT,iqw3St,mkSt,vi,vl,vb]) (by simp [leH,iqw3St,mkSt]) rfl (Nat.le_refl 2) hj.2 ⟨i1,_,_,hj.1,hI',rfl⟩
      ·obtain rfl:i=k:=by clear B1 B2; omega
       obtain ⟨yn,d,E1,E2,E3,E4,E5,E6⟩:=B2 o c hI
       have e6:zO (zZ i) (zZ i)=false:=(L2 i i).trans (decide_eq_false (Nat.lt_irrefl i))
       cbv
       refine bF e6 ?_
       rw [f2,E1,E2,E3,E4,G1,G2]
       refine nd (f3 i (Nat.lt_succ_self i)) (nd E5 (nd (f3 i (Nat.lt_succ_self i)) (nd E5 (nd E6 ?_))))
       rw [hS.W]
       exact hF _ (ResLe.refl _)
open Go Go.Abs Go.Abs.M Go.Proofs
def len8rows:Abs.Rows:=W .u8 ((List.range 256).map fun i=>if i=0 then (0:Int) else (i.log2+1:Nat))
theorem len8_key {T:Abs.Rows} (hT:T=len8rows) {i:Nat} {q:Int} (hq:ZI.std.getI T i=q) (h1:1<=i) (h2:i < 256):∃ m:Nat,q=m/\1<=m/\m<=8/\2 ^ (m - 1)<=i/\i < 2 ^ m:=by
 subst hT
 unfold len8rows at hq
 rw [qap,List.getD_eq_getElem?_getD,List.getElem?_map,List.getElem?_range h2] at hq
 simp only [Option.map_some,Option.getD_some] at hq
 rw [if_neg (by omega)] at hq
 have a1:=Nat.log2_self_le (n:=i) (by omega)
 have a2:=Nat.lt_log2_self (n:=i)
 have a3:i.log2 < 8:=(Nat.log2_lt (by omega)).2 (by omega)
 exact ⟨i.log2+1,hq.symm,by omega,by omega,by simpa using a1,a2⟩
theorem len8_is {T:Abs.Rows} (hT:T=len8rows) {i:Nat} (h2:i < 256):ZI.std.isI .u8 T i=true:=by
 subst hT
 unfold len8rows
 rw [qav]
 exact decide_eq_true (by simpa using h2)
theorem ilen32_call (x:Int) (h0:1<=x) (h1:x < 4294967296):∃ m:Nat,(1<=m/\m<=32)/\2 ^ (m - 1)<=x/\x < 2 ^ m/\ACall Tryz.prog 155 [.val (ti .u32 x)] ⟨[.val (ti .i64 (m:Int))],[none]⟩:=by
 have hl:=(Nat.log2_lt (n:=x.toNat) (k:=32) (by omega)).2 (by omega)
 have a1:=Nat.log2_self_le (n:=x.toNat) (by omega)
 have a2:=Nat.lt_log2_self (n:=x.toNat)
 refine ⟨x.toNat.log2+1,⟨by omega,by omega⟩,?_,?_,?_⟩
 ·rw [Nat.add_sub_cancel,<- cast_pow2]; omega
 ·rw [<- cast_pow2]; omega
 obtain ⟨M,hM⟩:∃ M:Int,M=((x.toNat.log2+1:Nat):Int):=⟨_,rfl⟩
 rw [<- hM]
 have key:∀ (y:Int) (e m:Nat),y=x / 2 ^ e->1<=m->2 ^ (m - 1)<=y.toNat->y.toNat < 2 ^ m->1<=y->M=(m:Int)+e:=fun y e m hy hm b1 b2 b3=>by
  have hp:(0:Int) < 2 ^ e:=pow2_pos e
  have c1:2 ^ (m - 1)*2 ^ e<=x.toNat:=by
   have:y*2 ^ e<=x:=by rw [hy]; exact Int.ediv_mul_le _ (by omega)
   have c2:((2 ^ (m - 1):Nat):Int)*2 ^ e<=y*2 ^ e:=Int.mul_le_mul_of_nonneg_right (by omega) (by omega)
   rw [<- cast_pow2] at c2 this
   have c3:((2 ^ (m - 1)*2 ^ e:Nat):Int)<=x:=by rw [Int.natCast_mul]; omega
   omega
  have c2:x.toNat < 2 ^ m*2 ^ e:=by
   have h3:x < (y+1)*2 ^ e:=by rw [hy]; exact Int.lt_ediv_add_one_mul_self _ hp
   have h4:(y+1)*2 ^ e<=((2 ^ m:Nat):Int)*2 ^ e:=Int.mul_le_mul_of_nonneg_right (by omega) (by omega)
   rw [<- cast_pow2] at h3 h4
   have c3:x < ((2 ^ m*2 ^ e:Nat):Int):=by rw [Int.natCast_mul]; omega
   omega
  rw [<- Nat.pow_add] at c1 c2
  have d1:m - 1+e<=x.toNat.log2:=(Nat.le_log2 (by omega)).2 c1
  have d2:x.toNat.log2 < m+e:=(Nat.log2_lt (by omega)).2 c2
  omega
 clear hM hl a1 a2
 have hb:65536<=x->x / 65536 < 65536/\1<=x / 65536:=fun h=>by omega
 refine callZ ccOk mixed [.val] Tryz.func155 rfl rfl (by kernel_rfl) fun zA zB zC zD zE zF zG zH zI zJ zK zL zM zN zO zP zQ zR zT zU zV zX zY zZ zb zc zd ze zg zh zi zj zk zl zm zn zo zq zr zs zt zu zx zy zz zmget zmset zW zth A L F hS hF=>?_
 have s16:∀ y,0<=y->zH .u32 y 16=y / 65536:=fun y hy=>by rw [show ∀ x,zH .u32 x 16=ZI.std.shr .u32 x 16 from fun _=>hS.shr ..,shr_std (b:=16) 16 rfl (by decide) hy]; rfl
 have s8:∀ y,0<=y->zH .u32 y 8=y / 256:=fun y hy=>by rw [show ∀ x,zH .u32 x 8=ZI.std.shr .u32 x 8 from fun _=>hS.shr ..,shr_std (b:=8) 8 rfl (by decide) hy]; rfl
 have fin:∀ (T:Abs.Rows) (y:Int) (e:Nat),T=len8rows->y=x / 2 ^ e->1<=y->y < 256->e<=24->∀ (z:Int),z=e->zP 0 (zA .u8 y)=true/\zm .u8 T (zX (zA .u8 y))=true/\zA .i64 (zB z (zA .i64 (zn T (zX (zA .u8 y)))))=M:=fun T y e hT hy h1 h2 h3 z hz=>by
  have hw:zA .u8 y=y:=by rw [hS.wrap]; exact wrap_u8 (by omega) h2
  have hn:zX y=y.toNat:=hS.nat y
  rw [hw,hn]
  refine ⟨by rw [hS.le]; exact decide_eq_true (by omega),by rw [hS.isI]; exact len8_is hT (by omega),?_⟩
  obtain ⟨m,m1,m2,m3,m4,m5⟩:=len8_key hT (q:=zn T y.toNat) (hS.getI ..).symm (by omega) (by omega)
  have:=key y e m hy m2 m4 m5 h1
  rw [m1,hS.wrap,hS.wrap,hS.add,wrap_i64 (x:=(m:Int)) (by omega) (by omega),wrap_i64 (by omega) (by omega)]; omega
 have w8:zA .i64 (zB 16 8)=24:=by rw [hS.wrap,hS.add]; rfl
 have w8':zA .i64 (zB 0 8)=8:=by rw [hS.wrap,hS.add]; rfl
 cbv
 refine ⟨fun h=>⟨fun h'=>?_,fun h'=>?_⟩,fun h=>⟨fun h'=>?_,fun h'=>?_⟩⟩
 all_goals rw [hS.le] at h
 ·have h:=of_decide_eq_true h
  rw [s16 x (by omega),hS.le] at h'
  have h':=of_decide_eq_true h'
  rw [s16 x (by omega),s8 _ (by omega),w8]
  generalize hy:x / 65536 / 256=y
  obtain ⟨f1,f2,f3⟩:=fin _ y 24 (by rfl) (by rw [<- hy,Int.ediv_ediv_of_nonneg (by omega)]; rfl) (by omega) (by omega) (by omega) 24 rfl
  refine nd f1 (nd f2 ?_)
  exact fin1 hF (qa6 f3)
 ·have h:=of_decide_eq_true h
  rw [s16 x (by omega),hS.le] at h'
  have h':=of_decide_eq_false h'
  rw [s16 x (by omega)]
  generalize hy:x / 65536=y
  obtain ⟨f1,f2,f3⟩:=fin _ y 16 (by rfl) (by rw [<- hy]; rfl) (by omega) (by omega) (by omega) 16 rfl
  refine nd f1 (nd f2 ?_)
  exact fin1 hF (qa6 f3)
 ·have h:=of_decide_eq_false h
  rw [hS.le] at h'
  have h':=of_decide_eq_true h'
  rw [s8 _ (by omega),w8']
  generalize hy:x / 256=y
  obtain ⟨f1,f2,f3⟩:=fin _ y 8 (by rfl) (by rw [<- hy]; rfl) (by omega) (by omega) (by omega) 8 rfl
  refine nd f1 (nd f2 ?_)
  exact fin1 hF (qa6 f3)
 ·have h:=of_decide_eq_false h
  rw [hS.le] at h'
  have h':=of_decide_eq_false h'
  obtain ⟨f1,f2,f3⟩:=fin _ x 0 (by rfl) (by rw [Int.pow_zero,Int.ediv_one]) (by omega) (by omega) (by omega) 0 rfl
  refine nd f1 (nd f2 ?_)
  exact fin1 hF (qa6 f3)
theorem ilz32_call (x:Int) (h0:1<=x) (h1:x < 4294967296):∃ s:Nat,s < 32/\2147483648<=x*2 ^ s/\x*2 ^ s < 4294967296/\ACall Tryz.prog 148 [.val (ti .u32 x)] ⟨[.val (ti .i64 (s:Int))],[none]⟩:=by
 obtain ⟨m,⟨m1,m2⟩,m3,m4,c⟩:=ilen32_call x h0 h1
 have hp:=pow2_pos (32 - m)
 have e1:(2:Int) ^ (m - 1)*2 ^ (32 - m)=2147483648:=by rw [<- Int.pow_add,show m - 1+(32 - m)=31 by omega]; rfl
 have e2:(2:Int) ^ m*2 ^ (32 - m)=4294967296:=by rw [<- Int.pow_add,show m+(32 - m)=32 by omega]; rfl
 refine ⟨32 - m,by omega,?_,?_,?_⟩
 ·have:=Int.mul_le_mul_of_nonneg_right m3 (show (0:Int)<=2 ^ (32 - m) by omega); omega
 ·have:=Int.mul_lt_mul_of_pos_right m4 hp; omega
 have hm:((32 - m:Nat):Int)=32 - (m:Int):=by omega
 rw [hm]
 generalize hM:(m:Int)=M at *
 refine callZ ccOk mixed [.val] Tryz.func148 rfl rfl (by kernel_rfl) fun zA zB zC zD zE zF zG zH zI zJ zK zL zM zN zO zP zQ zR zT zU zV zX zY zZ zb zc zd ze zg zh zi zj zk zl zm zn zo zq zr zs zt zu zx zy zz zmget zmset zW zth A L F hS hF=>?_
 have w:zA .i64 (zC 32 M)=32 - M:=by rw [hS.wrap,hS.sub,wrap_i64 (by omega) (by omega)]
 cbv
 refine ⟨_,hS.call (c),?_⟩
 cbv
 exact fin1 hF (qa6 w)
open Go Go.Abs Go.Abs.M Go.Proofs
def idivSt (r s v U Q:Abs.Rows) (ul ql:Nat) (n d j:Int):St:=mkSt 88 [vl r,vl s,.junk,.junk,vnil,vnil,.junk,.junk,vi .i64 n,vi .i64 d,.c (.sl 10 0 ul false),vl v,.c (.sl 14 0 ql false),vi .i64 j] [none,none,none,none,none,none,none,none,none,none,some (.rows 1 U true false),none,none,none,some (.rows 1 Q true false)]
theorem idivide_walk {r s v0 v A2 A3:Abs.Rows} {U V w1 c:Int} {n la m l1 m1 n1 n' sh:Nat} {lr ls lv lv0 u0:List Int}
  (hr:r=W .u32 lr) (hs:s=W .u32 ls) (hv0:v0=W .u32 lv0) (hv0l:lv0.length=n1) (hv0v:lv0.take n=lv) (hv:v=W .u32 lv) (lrl:lr.length=la) (lsl:ls.length=n) (hsz:la<=549755813888) (hn:2<=n) (hm:la=n+m) (hl1:l1=la+1) (hm1:m1=m+1) (hn1:n1=n+1) (hn':n=n'+1)
  (hw1:ls.getD n' 0=w1) (hc:¬ c < 0) (hu0l:u0.length=l1)
  (llv:lv.length=n) (wlv:Wd lv) (vlv:val lv=V) (htop:2147483648<=lv.getD (n - 1) 0)
  (hstart:DInv U V n m (m+1) u0 (List.replicate m1 0))
  (t1:ACall Tryz.prog 137 [.val (tl r)] ⟨[.val (tl r)],[none]⟩)
  (t2:ACall Tryz.prog 137 [.val (tl s)] ⟨[.val (tl s)],[none]⟩)
  (cc:ACall Tryz.prog 136 [.val (tl r),.val (tl s)] ⟨[.val (ti .i64 c)],[none,none]⟩)
  (cz:ACall Tryz.prog 148 [.val (ti .u32 w1)] ⟨[.val (ti .i64 (sh:Int))],[none]⟩)
  (c1:ACall Tryz.prog 149 [.val (tl r),.val (ti .i64 (sh:Int))] ⟨[.own 1 (W .u32 u0)],[none,none]⟩)
  (c2:ACall Tryz.prog 149 [.val (tl s),.val (ti .i64 (sh:Int))] ⟨[.val (tl v0)],[none,none]⟩)
  (hlast:∀ u q,DInv U V n m 0 u q->ACall Tryz.prog 137 [.val (tl (W .u32 q))] ⟨[.val (tl A2)],[none]⟩ /\
   ACall Tryz.prog 151 [.val (tl (W .u32 (u.take n))),.val (ti .i64 (sh:Int))] ⟨[.val (tl A3)],[none,none]⟩) :
  ACall Tryz.prog 139 [.val (tl r),.val (tl s)] ⟨[.val (tl A2),.val (tl A3)],[none,none]⟩:=by
 obtain ⟨SH,hSH⟩:∃ SH:Int,SH=sh:=⟨_,rfl⟩
 rw [<- hSH] at cz c1 c2
 simp only [<- hSH] at hlast
 refine callZ ccOk mixed [.val,.val] Tryz.func139 rfl rfl (by kernel_rfl) fun zA zB zC zD zE zF zG zH zI zJ zK zL zM zN zO zP zQ zR zT zU zV zX zY zZ zb zc zd ze zg zh zi zj zk zl zm zn zo zq zr zs zt zu zx zy zz zmget zmset zW zth A L F hS hF=>?_
 have z1:zj r=la:=by rw [hS.len,hr,qal,lrl]
 have z2:zj s=n:=by rw [hS.len,hs,qal,lsl]
 have z3:zA .i64 (zC (zZ n) 1)=zZ n':=by rw [hS.wrap,hS.sub,hS.ofN,hS.ofN,wrap_i64 (by omega) (by omega)]; omega
 have z4:zn s (zX (zZ n'))=w1:=by rw [hS.getI,hS.nat,hS.ofN,hs,qap,Int.toNat_natCast,hw1]
 have z8:zA .i64 (zC (zZ la) (zZ n))=zC (zZ (m+1)) 1:=by rw [hS.wrap,hS.sub,hS.ofN,hS.ofN,hS.sub,hS.ofN,wrap_i64 (by omega) (by omega)]; omega
 have z9:zA .i64 (zB (zC (zZ (m+1)) 1) 1)=zZ m1:=by rw [hS.wrap,hS.add,hS.sub,hS.ofN,hS.ofN,wrap_i64 (by omega) (by omega)]; omega
 have znt:∀ k,zX (zZ k)=k:=fun k=>by rw [hS.nat,hS.ofN]; omega
 have hrep:∀ k,zu k [.v (.int .u32 0)]=zW .u32 (List.replicate k 0):=fun k=>by rw [hS.rep,hS.W]; exact W_rep ..
 have o1:zO c 0=false:=by rw [hS.lt]; exact decide_eq_false hc
 have o2:zM (zZ n) 1=false:=by rw [hS.eq,hS.ofN]; exact decide_eq_false (by omega)
 have o3:zP 0 (zZ n')=true:=by rw [hS.le,hS.ofN]; exact decide_eq_true (by omega)
 have o4:zm .u32 s (zX (zZ n'))=true:=by rw [hS.isI,znt,hs,qav]; exact decide_eq_true (by omega)
 have o6:zg 0 (zZ n) (zj v0)=true:=by rw [hS.cut,hS.ofN,hS.len,hv0,qal]; exact decide_eq_true (by omega)
 have o8:zx 1 v0=true:=by rw [hS.wide,hv0]; exact W_wide _ _
 have o9:zr v0 0 n=v:=by rw [hS.part,hv0,qbj,List.drop_zero,hv0v,hv]
 have hcap:(m1:Int)*4<=140737488355328:=by omega
 have o10:zi (zZ m1) (zZ m1) 4=true:=by rw [hS.mkok,hS.ofN]; exact decide_eq_true ⟨Int.natCast_nonneg m1,Int.le_refl _,by unfold capBytes; omega⟩
 have z10:zj (zW .u32 u0)=l1:=by rw [hS.len,hS.W,qal,hu0l]
 rw [<- hS.W] at c1
 clear hr hs lrl lsl hw1 hc hv0 hv0l hv0v
 cbv
 refine ⟨_,hS.call (t1),?_⟩
 cbv
 refine ⟨_,hS.call (t2),?_⟩
 cbv
 refine ⟨_,hS.call (cc),?_⟩
 cbv
 rw [z2,z3,z4]
 refine bF (o1) ?_
 refine bF (o2) ?_
 refine nd (o3) ?_
 refine nd (o4) ?_
 refine ⟨_,hS.call (cz),?_⟩
 cbv
 refine ⟨_,hS.call (c1),?_⟩
 cbv
 refine ⟨_,hS.call (c2),?_⟩
 cbv
 rw [z1,z8,z9,znt,znt,hrep,o9,z10]
 refine nd o6 (nd o8 (nd o10 ?_))
 clear z2 z3 z4 z8 z9 o1 o2 o3 o4 o6 o8 o9 o10 cc c1 c2 z1 z10 t1 t2 cz
 refine loopZ ccOk mixed hS (fun (k:Nat) s'=>∃ (u q:List Int),DInv U V n m k u q/\s'=idivSt r s v (zW .u32 u) (zW .u32 q) l1 m1 (zZ n) SH (zC (zZ k) 1)) (n:=m+1)
  (s0:=idivSt r s v (zW .u32 u0) (zW .u32 (List.replicate m1 0)) l1 m1 (zZ n) SH (zC (zZ (m+1)) 1)) (qao ?_ ?_) rfl (by show 2<=15; omega) ?_ ?_
 ·simp [leT,idivSt,mkSt,vi,vl,vnil]
 ·simp [leH,idivSt,mkSt]
 ·exact ⟨_,_,by rw [<- hm1] at hstart ⊢; exact hstart,rfl⟩
 ·rintro k _ ⟨u,q,hI,rfl⟩
  cases k with
  | zero=>
   have hul:=hI.ul
   have hql:=hI.ql
   obtain ⟨x1,x2⟩:=hlast u q hI
   have hz:zP 0 (zC (zZ 0) 1)=false:=by rw [hS.le,hS.sub,hS.ofN]; rfl
   have e10:zq 0 m1 (zW .u32 q)=true:=by rw [hS.fit,hS.W,qal]; exact decide_eq_true (by omega)
   have e11:zr (zW .u32 q) 0 m1=W .u32 q:=by rw [hS.part,hS.W,qbj,List.drop_zero,List.take_of_length_le (by omega)]
   have e12:zg 0 (zZ n) l1=true:=by rw [hS.cut,hS.ofN]; exact decide_eq_true (by omega)
   have e13:zq 0 n (zW .u32 u)=true:=by rw [hS.fit,hS.W,qal]; exact decide_eq_true (by omega)
   have e14:zr (zW .u32 u) 0 n=W .u32 (u.take n):=by rw [hS.part,hS.W,qbj,List.drop_zero]
   clear hlast hI
   generalize W .u32 (u.take n)=ut at *
   generalize W .u32 q=qt at *
   cbv
   refine bF hz ?_
   rw [e11]
   refine nd e10 ⟨_,hS.call x1,?_⟩
   cbv
   rw [znt,e14]
   refine nd e12 (nd e13 ⟨_,hS.call x2,?_⟩)
   cbv
   exact hF _ (ResLe.refl _)
  | succ j=>
   obtain ⟨g,qd,b,x1,hg,g0,g1,q0,q1,hb,hx1,lx1,wx1,hjm,hul,hql,pl,pw,ht,hf⟩:=div_round hI hn llv wlv vlv htop
   obtain ⟨x,lx,hneg,hpos,hI2⟩:∃ x:List Int,x.length=n+1/\(val (dpart n j u) - g*val lv < 0->g - 1=qd/\x=wds (n+1) (val (dpart n j u) - g*val lv+val lv))/\(¬ val (dpart n j u) - g*val lv < 0->g=qd/\x=wds (n+1) (val (dpart n j u) - g*val lv))/\DInv U V n m j (setRg u j x) (q.set j qd):=by
    cases b with
    | true=>
     obtain ⟨a1,x2,a2,a3,a4⟩:=ht rfl
     refine ⟨x2,a3,fun _=>⟨a1,?_⟩,fun h=>absurd (of_decide_eq_true hb.symm) h,a4⟩
     rw [a2,lx1,hx1,wds_back]
    | false=>
     obtain ⟨a1,a2⟩:=hf rfl
     exact ⟨x1,lx1,fun h=>absurd h (of_decide_eq_false hb.symm),fun _=>⟨a1,hx1⟩,a2⟩
   have cq:=iquotientWord_call (r:=zW .u32 (dpart n j u)) (s:=v) (u:=dpart n j u) (v:=lv) (x:=x) (n:=n) g qd (by rw [hS.W]) hv pl llv hn (by omega) pw wlv htop hg g0 g1 ⟨q0,q1⟩ hneg hpos
   rw [<- hS.W] at cq
   clear hg hb hx1 ht hf hneg hpos
   have hi:zC (zZ (j+1)) 1=(j:Int):=by rw [hS.sub,hS.ofN]; omega
   have hz:zP 0 (zC (zZ (j+1)) 1)=true:=by rw [hS.le,hi]; exact decide_eq_true (by omega)
   have hw1':zA .i64 (zC (zC (zZ (j+1)) 1) 1)=zC (zZ j) 1:=by rw [hi,hS.wrap,hS.sub,hS.sub,hS.ofN,wrap_i64 (by omega) (by omega)]
   have y1:zA .i64 (zB (zA .i64 (zB (zC (zZ (j+1)) 1) (zZ n))) 1)=zZ (j+n1):=by
    rw [hi,hS.wrap,hS.wrap,hS.add,hS.add,hS.ofN,hS.ofN,wrap_i64 (x:=(j:Int)+n) (by omega) (by omega),wrap_i64 (by omega) (by omega)]; omega
   have y2:zb 0 (zC (zZ (j+1)) 1)=j:=by rw [hS.idx,hi]; omega
   have y3:ze (zZ (j+n1)) (zC (zZ (j+1)) 1)=n1:=by rw [hS.dif,hi,hS.ofN]; omega
   have y4:∀ u':List Int,zr (zW .u32 u') j n1=zW .u32 (dpart n j u'):=fun u'=>by rw [hS.part,hS.W,qbj,hn1]; rfl
   have y5:∀ u' x:List Int,zt (zW .u32 u') j (zW .u32 x)=zW .u32 (setRg u' j x):=fun u' x=>by rw [hS.setg,hS.W,W_setg]; rfl
   have y6:zg (zC (zZ (j+1)) 1) (zZ (j+n1)) l1=true:=by rw [hS.cut,hi,hS.ofN]; exact decide_eq_true (by omega)
   have y7:zq j n1 (zW .u32 u)=true:=by rw [hS.fit,hS.W,qal]; exact decide_eq_true (by omega)
   have y8:zc (zj (zW .u32 x)) n1=true:=by rw [hS.neq,hS.len,hS.W,qal,hn1]; exact decide_eq_true lx
   have y13:zY (zC (zZ (j+1)) 1) m1=true:=by rw [hS.inb,hi]; exact decide_eq_true (by omega)
   have y14:zm .u32 (zW .u32 q) j=true:=by rw [hS.isI,hS.W,qav]; exact decide_eq_true (by omega)
   have y15:∀ x,zo .u32 (zW .u32 q) j x=zW .u32 (q.set j x):=fun x=>by rw [hS.setI,hS.W,W_set]
   clear hI hi hlast
   cbv
   refine bT hz ?_
   rw [y1,y2,y3,y4]
   refine nd y6 (nd y7 ⟨_,hS.call cq,?_⟩)
   cbv
   rw [y2,y5,y15,hw1']
   refine nd y8 (nd y13 (nd y14 ?_))
   exact again (s':=idivSt r s v (zW .u32 (setRg u j x)) (zW .u32 (q.set j qd)) l1 m1 (zZ n) SH (zC (zZ j) 1)) (m:=j) (by simp [leT,idivSt,mkSt,vi,vl,vnil]) (by simp [leH,idivSt,mkSt]) rfl (by show 2<=15; omega) (by omega) ⟨_,_,hI2,rfl⟩
open Go Go.Abs Go.Abs.M Go.Proofs
theorem itrimM {n:Nat} {r:Abs.Rows} (hr:IsM n r) (hl:nl n<=2199023255552):ACall Tryz.prog 137 [.val (tl r)] ⟨[.val (tl r)],[none]⟩:=by
 have h:=qbc hr hl (qar n)
 rw [qai,Int.toNat_natCast,<- hr] at h
 exact h
theorem idivide_long {r s:Abs.Rows} {a b:Nat} (hr:IsM a r) (hs:IsM b s) (h2:2<=nl b) (hab:b<=a) (hsz:nl a<=549755813888) :
  ACall Tryz.prog 139 [.val (tl r),.val (tl s)] ⟨[.val (tl (W .u32 (dg (a / b)))),.val (tl (W .u32 (dg (a % b))))],[none,none]⟩:=by
 obtain ⟨n,hn⟩:∃ n,n=nl b:=⟨_,rfl⟩
 obtain ⟨la,hla⟩:∃ la,la=nl a:=⟨_,rfl⟩
 have hmono:=qax hab
 obtain ⟨m,hm⟩:∃ m,la=n+m:=⟨la - n,by omega⟩
 obtain ⟨n',hn'⟩:∃ n',n=n'+1:=⟨n - 1,by omega⟩
 have lb:(dg b).length=n:=hn.symm
 have laa:(dg a).length=la:=hla.symm
 obtain ⟨w1,hw1⟩:∃ w1,w1=(dg b).getD n' 0:=⟨_,rfl⟩
 have hw1b:=(qar b).get n'
 rw [<- hw1] at hw1b
 have htw:=top_word (qar b) (n:=n') (by omega)
 rw [<- hw1,qai] at htw
 have hw1p:1<=w1:=by
  rcases dg_tr b with h | h
  ·rw [h] at lb; simp at lb; omega
  ·rw [lb,hn',Nat.add_sub_cancel,<- hw1] at h; omega
 obtain ⟨sh,s1,s2,s3,cz⟩:=ilz32_call w1 hw1p hw1b.2
 have hbpos:0 < (b:Int):=by
  rcases Nat.eq_zero_or_pos b with h | h
  ·subst h; simp [dg_zero] at lb; omega
  ·omega
 obtain ⟨d,hd⟩:∃ d:Int,d=2 ^ sh:=⟨_,rfl⟩
 have d1:1<=d:=by have:=pow2_pos sh; omega
 have d2:d<=2147483648:=by have:=pow2_le s1; omega
 rw [<- hd] at s2 s3
 obtain ⟨V,hV⟩:∃ V,V=d*b:=⟨_,rfl⟩
 have hV0:0 < V:=by rw [hV]; exact Int.mul_pos (by omega) hbpos
 have hpow:(4294967296:Int) ^ n=4294967296 ^ n'*4294967296:=by rw [hn',Int.pow_succ]
 have hp':=qam n'
 have hVlt:V < 4294967296 ^ n:=by
  have x1:d*(b:Int) < d*((w1+1)*4294967296 ^ n'):=Int.mul_lt_mul_of_pos_left htw.2 (by omega)
  have x2:d*((w1+1)*(4294967296:Int) ^ n')=(w1*d+d)*4294967296 ^ n':=by grind
  have x3:(w1*d+d)*(4294967296:Int) ^ n'<=4294967296*4294967296 ^ n':=by
   refine Int.mul_le_mul_of_nonneg_right ?_ (by omega)
   have:(w1+1)*d<=4294967296:=by
    obtain ⟨e,he⟩:∃ e:Int,4294967296=e*d:=⟨2 ^ (32 - sh),by rw [hd,<- Int.pow_add,show 32 - sh+sh=32 by omega]; rfl⟩
    have y1:w1 < e:=by
     rcases Int.lt_or_le w1 e with h | h
     ·exact h
     ·exfalso
      have:=Int.mul_le_mul_of_nonneg_right h (show 0<=d by omega)
      omega
    have:=Int.mul_le_mul_of_nonneg_right (show w1+1<=e by omega) (show 0<=d by omega)
    omega
   have y2:(w1+1)*d=w1*d+d:=by grind
   omega
  rw [hpow,hV]; omega
 have hVge:2147483648*4294967296 ^ n'<=V:=by
  have x1:w1*4294967296 ^ n'*d<=(b:Int)*d:=Int.mul_le_mul_of_nonneg_right htw.1 (by omega)
  have x2:2147483648*4294967296 ^ n'<=w1*d*4294967296 ^ n':=Int.mul_le_mul_of_nonneg_right s2 (by omega)
  have x3:w1*d*(4294967296:Int) ^ n'=w1*4294967296 ^ n'*d:=by grind
  rw [hV,Int.mul_comm d]; omega
 have hpow1:(4294967296:Int) ^ n < 4294967296 ^ (n+1):=by rw [Int.pow_succ]; have:=qam n; omega
 obtain ⟨lv0,hlv0⟩:∃ lv0,lv0=wds (n+1) V:=⟨_,rfl⟩
 have llv0:lv0.length=n+1:=by rw [hlv0,qay]
 have wlv0:Wd lv0:=by rw [hlv0]; exact wds_wd _ _
 have vlv0:val lv0=V:=by rw [hlv0]; exact wds_eq (by omega) (by omega)
 obtain ⟨lv,hlv⟩:∃ lv,lv0.take n=lv:=⟨_,rfl⟩
 have vlv:val lv=V:=by rw [<- hlv,(val_take_eq wlv0 (p:=n) (by rw [vlv0]; exact hVlt)).1,vlv0]
 have wlv:Wd lv:=by rw [<- hlv]; exact wlv0.take n
 have llv:lv.length=n:=by rw [<- hlv]; simp; omega
 have htop:2147483648<=lv.getD (n - 1) 0:=by
  have t:=(top_word wlv (n:=n') (by omega)).2
  rw [vlv] at t
  rw [hn',Nat.add_sub_cancel]
  rcases Int.lt_or_le (lv.getD n' 0) 2147483648 with h | h
  ·exfalso
   have:=Int.mul_le_mul_of_nonneg_right (show lv.getD n' 0+1<=2147483648 by omega) (show (0:Int)<=4294967296 ^ n' by omega)
   omega
  ·exact h
 obtain ⟨u0,hu0⟩:∃ u0,u0=wds (la+1) (d*a):=⟨_,rfl⟩
 have hda:0<=d*(a:Int):=Int.mul_nonneg (by omega) (by omega)
 have hdalt:d*(a:Int) < 4294967296 ^ (la+1):=by
  have x1:=lt_nl a
  rw [<- hla] at x1
  have x2:d*(a:Int)<=4294967296*a:=Int.mul_le_mul_of_nonneg_right (by omega) (by omega)
  rw [Int.pow_succ]
  omega
 have vu0:val u0=d*a:=by rw [hu0]; exact wds_eq hda hdalt
 have lu0:u0.length=la+1:=by rw [hu0,qay]
 have wu0:Wd u0:=by rw [hu0]; exact wds_wd _ _
 have t1:=itrimM hr (by omega)
 have t2:=itrimM hs (by omega)
 have cc:=qbu (cmpI a b) hr hs (by omega) (by omega) (qar _) (qar _) (dg_tr _) (dg_tr _) (by rw [qai,qai])
 have c1:=ishiftLeft_own sh hr (by omega) (qar _) s1
 rw [laa,qai,<- hd,<- hu0] at c1
 have c2:=ishiftLeft_call sh hs (by omega) (qar _) s1
 rw [lb,qai,<- hd,<- hV,<- hlv0] at c2
 have hUlt:d*(a:Int) < V*4294967296 ^ (m+1):=by
  have x1:=lt_nl a
  rw [<- hla,hm] at x1
  have x2:(4294967296:Int) ^ (n+m)=4294967296 ^ n'*4294967296 ^ (m+1):=by rw [<- Int.pow_add]; congr 1; omega
  have x3:w1*4294967296 ^ n'*4294967296 ^ (m+1)<=(b:Int)*4294967296 ^ (m+1):=Int.mul_le_mul_of_nonneg_right htw.1 (by have:=qam (m+1); omega)
  have x4:1*(4294967296 ^ n'*4294967296 ^ (m+1))<=w1*(4294967296 ^ n'*(4294967296:Int) ^ (m+1)):=Int.mul_le_mul_of_nonneg_right hw1p (by have:=Int.mul_pos (qam n') (qam (m+1)); omega)
  have x5:w1*4294967296 ^ n'*4294967296 ^ (m+1)=w1*(4294967296 ^ n'*(4294967296:Int) ^ (m+1)):=by grind
  have x6:d*(a:Int) < d*(b*4294967296 ^ (m+1)):=Int.mul_lt_mul_of_pos_left (by omega) (by omega)
  have x7:d*((b:Int)*4294967296 ^ (m+1))=d*b*4294967296 ^ (m+1):=by grind
  rw [hV]; omega
 have hstart:=DInv.start (n:=n) (m:=m) (by rw [lu0,hm]) wu0 vu0 hUlt
 refine idivide_walk hr hs rfl llv0 hlv rfl laa lb (by omega) (by omega) hm rfl rfl rfl hn' hw1.symm (c:=cmpI a b) (by unfold cmpI; rw [if_neg (by omega)]; split <;> omega) lu0 llv wlv vlv htop hstart t1 t2 cc cz c1 c2 fun u q hI=>?_
 rw [hV] at hI
 obtain ⟨l1,l2⟩:=hI.last (by omega) hbpos
 have vu0:=qaf hI.uw
 have hul:=hI.ul
 have hql:=hI.ql
 have hlt:=hI.lt
 rw [List.drop_zero] at hlt
 have hut:=(val_take_eq hI.uw (p:=n) (by omega)).1
 have t2:=qbc (r:=W .u32 q) rfl (by omega) hI.qw
 have t3:=ishiftRight_call (r:=W .u32 (u.take n)) sh rfl (by simp; omega) (hI.uw.take n) s1
 rw [hut,<- hd,l2] at t3
 rw [l1] at t2
 exact ⟨t2,t3⟩
theorem idivide_call {r s:Abs.Rows} {a b:Nat} (hr:IsM a r) (hs:IsM b s) (hb:b ≠ 0) (hsz:nl a<=549755813888) (hszb:nl b<=549755813888) :
  ∃ x y,IsM (a / b) x/\IsM (a % b) y/\ACall Tryz.prog 139 [.val (tl r),.val (tl s)] ⟨[.val (tl x),.val (tl y)],[none,none]⟩:=by
 have cc:=qbu (cmpI a b) hr hs (by unfold nl at hsz; omega) (by unfold nl at hszb; omega) (qar _) (qar _) (dg_tr _) (dg_tr _) (by rw [qai,qai])
 have t1:=itrimM hr (by omega)
 have t2:=itrimM hs (by omega)
 have tc:=iclone_call hr (by unfold nl at hsz; omega)
 by_cases hab:a < b
 ·refine ⟨[],r,by rw [Nat.div_eq_of_lt hab]; rfl,by rw [Nat.mod_eq_of_lt hab]; exact hr,?_⟩
  rw [cmpI_lt (by omega)] at cc
  refine callZ ccOk mixed [.val,.val] Tryz.func139 rfl rfl (by kernel_rfl) fun zA zB zC zD zE zF zG zH zI zJ zK zL zM zN zO zP zQ zR zT zU zV zX zY zZ zb zc zd ze zg zh zi zj zk zl zm zn zo zq zr zs zt zu zx zy zz zmget zmset zW zth A L F hS hF=>?_
  have z0:zO (-1) 0=true:=by rw [hS.lt]; rfl
  cbv
  refine ⟨_,hS.call (t1),?_⟩
  cbv
  refine ⟨_,hS.call (t2),?_⟩
  cbv
  refine ⟨_,hS.call (cc),?_⟩
  cbv
  refine bT (z0) ?_
  refine ⟨_,hS.call (tc),?_⟩
  cbv
  exact fin2w hF (TLe.drop _ _) (TVLe.refl _)
 ·by_cases h1:nl b=1
  ·obtain ⟨x,hx⟩:∃ x,IsM (a / b) x:=⟨_,rfl⟩
   obtain ⟨y,hy⟩:∃ y,IsM (a % b) y:=⟨_,rfl⟩
   refine ⟨x,y,hx,hy,?_⟩
   have hblt:(b:Int) < 4294967296:=by have:=lt_nl b; rw [h1] at this; omega
   have hdgb:dg b=[(b:Int)]:=by
    rw [dg_pos hb,show b % 4294967296=b by omega,show b / 4294967296=0 by omega,dg_zero]
   have hmod:(a:Int) % b < b:=Int.emod_lt_of_pos _ (by omega)
   have hmod0:0<=(a:Int) % b:=Int.emod_nonneg _ (by omega)
   have c1:=idivideSmall_call b ((a:Int) / b) ((a:Int) % b) hr (by unfold nl at hsz; omega) (qar _) (by omega) hblt (by rw [qai]) (by rw [qai])
   have c2:=iwords_call ((a:Int) % b) hmod0 (by omega)
   have q1:W .u32 (dg ((a:Int) / b).toNat)=x:=hx.symm
   have q2:W .u32 (dg ((a:Int) % b).toNat)=y:=hy.symm
   rw [q1] at c1
   rw [q2] at c2
   obtain ⟨c,hc,hc0⟩:∃ c,cmpI (a:Int) b=c/\¬ c < 0:=⟨_,rfl,by
    unfold cmpI
    rw [if_neg (by omega)]
    split <;> omega⟩
   rw [hc] at cc
   generalize (a:Int) % b=e at *
   generalize hbv:(b:Int)=d at *
   refine callZ ccOk mixed [.val,.val] Tryz.func139 rfl rfl (by kernel_rfl) fun zA zB zC zD zE zF zG zH zI zJ zK zL zM zN zO zP zQ zR zT zU zV zX zY zZ zb zc zd ze zg zh zi zj zk zl zm zn zo zq zr zs zt zu zx zy zz zmget zmset zW zth A L F hS hF=>?_
   have z1:zO c 0=false:=by rw [hS.lt]; exact decide_eq_false hc0
   have z2:zM (zZ (zj s)) 1=true:=by rw [hS.len,hs,qal,hdgb,hS.ofN,hS.eq]; rfl
   have z3:zm .u32 s (zX 0)=true:=by rw [hS.isI,hs,hS.nat,hdgb]; rfl
   have z4:zA .u64 (zn s (zX 0))=d:=by rw [hS.getI,hs,hS.nat,qap,hdgb,hS.wrap]; exact qaa (by show 0<=d; omega) (by show d < _; omega)
   have z5:zP 0 0=true:=by rw [hS.le]; rfl
   cbv
   refine ⟨_,hS.call (t1),?_⟩
   cbv
   refine ⟨_,hS.call (t2),?_⟩
   cbv
   refine ⟨_,hS.call (cc),?_⟩
   cbv
   rw [z4]
   refine bF (z1) ?_
   refine bT (z2) ?_
   refine nd (z5) ?_
   refine nd (z3) ?_
   refine ⟨_,hS.call (c1),?_⟩
   cbv
   refine ⟨_,hS.call (c2),?_⟩
   cbv
   exact hF _ (ResLe.refl _)
  ·have h0:nl b ≠ 0:=fun h=>hb (nl_zero.1 h)
   exact ⟨_,_,rfl,rfl,idivide_long hr hs (by omega) (by omega) hsz⟩
end Go.Proofs.YtjfmkcmepdedaaaGreat
end
