/-
  A part of the proof: Cfg07, MDig, RefA07, MCmp, RefB07, MArith, RefC07, RefD07, IntU, RefE07, MKnuth, MWds, RefF07, RefG07, MDiv, RefH07, RefI07, MEdiv, RefJ07, RefK07, RatU, RefL07, GabsB, IntA07, IntB07, IntC07, IntD07, IntF07, MQw, IntE07, IntG07, IntH07, IntI07, IntJ07, IntK07, CanU, ValI07, RefM07, ValQ07, UniU, QraA07, RefQ07, QsM07, UniV07, GabsRen, UniW07, UniX07, UniA07, QraB07, QrbA07, UnpA07, UnpB07, UnpC07, UnpD07, UnpE07, UnpF07, UnpG07, UnpH07, UniR, RusA07, EvU, UplA07, EvlA07, QrbC07, EvD, EvlB07, CfU, DvM07, EvlC07, PolT07.
-/
import Derived.Test.YtdhidmcjglokcaaGreatM8
import Derived.Test.YtdhidmcjglokcaaGreatProg
set_option maxHeartbeats 0
set_option maxRecDepth 100000
set_option linter.unusedVariables false
set_option linter.unusedSimpArgs false
set_option linter.unusedSectionVars false
section
namespace Go.Proofs.YtdhidmcjglokcaaGreat
open Go Go.Abs Go.Proofs
def tab : BT TI := (.node 43 ⟨.int .i64, 1, 8, [.v (.int .i64 0)]⟩ (.node 18 ⟨.struct [(0, 17)], 1, 8, [.v (.pointer none)]⟩ (.node 8 ⟨.struct [(0, 2), (1, 3), (2, 4), (3, 6)], 4, 24, [.v (.int .i64
 0), .v (.int .i64 0), .v (.bool false), .v (.int .u8 0)]⟩ (.node 5 ⟨.int .u8, 1, 1, [.v (.int .u8 0)]⟩ (.node 3 ⟨.int .i64, 1, 8, [.v (.int .i64 0)]⟩ (.node 2 ⟨.int .i64, 1, 8, [.v
 (.int .i64 0)]⟩ .leaf .leaf) (.node 4 ⟨.bool, 1, 1, [.v (.bool false)]⟩ .leaf .leaf)) (.node 7 ⟨.struct [(0, 2), (1, 3), (2, 4), (3, 6)], 4, 24, [.v (.int .i64 0), .v (.int .i64
 0), .v (.bool false), .v (.int .u8 0)]⟩ (.node 6 ⟨.int .u8, 1, 1, [.v (.int .u8 0)]⟩ .leaf .leaf) .leaf)) (.node 12 ⟨.int .u64, 1, 8, [.v (.int .u64 0)]⟩ (.node 10 ⟨.string, 1, 16,
 [.v (.string ⟨#[]⟩)]⟩ (.node 9 ⟨.string, 1, 16, [.v (.string ⟨#[]⟩)]⟩ .leaf .leaf) (.node 11 ⟨.string, 1, 16, [.v (.string ⟨#[]⟩)]⟩ .leaf .leaf)) (.node 14 ⟨.struct [(0, 9), (1,
 12)], 2, 24, [.v (.string ⟨#[]⟩), .v (.int .u64 0)]⟩ (.node 13 ⟨.struct [(0, 9), (1, 12)], 2, 24, [.v (.string ⟨#[]⟩), .v (.int .u64 0)]⟩ .leaf .leaf) .leaf))) (.node 27 ⟨.slice
 106, 1, 24, [.lst true []]⟩ (.node 23 ⟨.slice 31, 1, 24, [.lst true []]⟩ (.node 21 ⟨.int .i32, 1, 4, [.v (.int .i32 0)]⟩ (.node 19 ⟨.struct [(0, 17)], 1, 8, [.v (.pointer none)]⟩
 .leaf .leaf) (.node 22 ⟨.slice 31, 1, 24, [.lst true []]⟩ .leaf .leaf)) (.node 25 ⟨.slice 54, 1, 24, [.lst true []]⟩ (.node 24 ⟨.slice 54, 1, 24, [.lst true []]⟩ .leaf .leaf)
 .leaf)) (.node 31 ⟨.struct [(0, 29), (2, 29)], 4, 64, [.v (.bool false), .lst true [], .v (.bool false), .lst true []]⟩ (.node 29 ⟨.struct [(0, 4), (1, 27)], 2, 32, [.v (.bool
 false), .lst true []]⟩ (.node 28 ⟨.struct [(0, 4), (1, 27)], 2, 32, [.v (.bool false), .lst true []]⟩ .leaf .leaf) (.node 30 ⟨.struct [(0, 29), (2, 29)], 4, 64, [.v (.bool false),
 .lst true [], .v (.bool false), .lst true []]⟩ .leaf .leaf)) (.node 39 ⟨.slice 38, 1, 24, [.lst true []]⟩ (.node 38 ⟨.int .i8, 1, 1, [.v (.int .i8 0)]⟩ .leaf .leaf) .leaf))))
 (.node 113 ⟨.slice 29, 1, 24, [.lst true []]⟩ (.node 66 ⟨.slice 74, 1, 24, [.lst true []]⟩ (.node 53 ⟨.struct [(0, 38), (1, 38), (2, 5)], 3, 3, [.v (.int .i8 0), .v (.int .i8 0),
 .v (.int .u8 0)]⟩ (.node 50 ⟨.struct [(0, 23), (1, 3)], 2, 32, [.lst true [], .v (.int .i64 0)]⟩ (.node 48 ⟨.slice 51, 1, 24, [.lst true []]⟩ .leaf .leaf) (.node 51 ⟨.struct [(0,
 23), (1, 3)], 2, 32, [.lst true [], .v (.int .i64 0)]⟩ .leaf .leaf)) (.node 65 ⟨.slice 74, 1, 24, [.lst true []]⟩ (.node 54 ⟨.struct [(0, 38), (1, 38), (2, 5)], 3, 3, [.v (.int .i8
 0), .v (.int .i8 0), .v (.int .u8 0)]⟩ .leaf .leaf) .leaf)) (.node 74 ⟨.struct [(0, 31), (4, 72)], 12, 128, [.v (.bool false), .lst true [], .v (.bool false), .lst true [], .v
 (.int .i64 0), .v (.int .i64 0), .v (.int .i64 0), .v (.int .i64 0), .v (.int .i64 0), .v (.int .i64 0), .v (.int .i64 0), .v (.int .i64 0)]⟩ (.node 72 ⟨.array 8 3, 8, 64, [.v
 (.int .i64 0), .v (.int .i64 0), .v (.int .i64 0), .v (.int .i64 0), .v (.int .i64 0), .v (.int .i64 0), .v (.int .i64 0), .v (.int .i64 0)]⟩ (.node 71 ⟨.array 8 3, 8, 64, [.v
 (.int .i64 0), .v (.int .i64 0), .v (.int .i64 0), .v (.int .i64 0), .v (.int .i64 0), .v (.int .i64 0), .v (.int .i64 0), .v (.int .i64 0)]⟩ .leaf .leaf) (.node 73 ⟨.struct [(0,
 31), (4, 72)], 12, 128, [.v (.bool false), .lst true [], .v (.bool false), .lst true [], .v (.int .i64 0), .v (.int .i64 0), .v (.int .i64 0), .v (.int .i64 0), .v (.int .i64 0),
 .v (.int .i64 0), .v (.int .i64 0), .v (.int .i64 0)]⟩ .leaf .leaf)) (.node 106 ⟨.int .u32, 1, 4, [.v (.int .u32 0)]⟩ (.node 101 ⟨.int .u64, 1, 8, [.v (.int .u64 0)]⟩ .leaf .leaf)
 .leaf))) (.node 132 ⟨.int .u8, 1, 1, [.v (.int .u8 0)]⟩ (.node 128 ⟨.array 0 16, 0, 0, []⟩ (.node 126 ⟨.struct [(0, 17), (1, 17), (2, 17), (3, 9)], 4, 40, [.v (.pointer none), .v
 (.pointer none), .v (.pointer none), .v (.string ⟨#[]⟩)]⟩ (.node 116 ⟨.int .u64, 1, 8, [.v (.int .u64 0)]⟩ .leaf .leaf) (.node 127 ⟨.struct [(0, 17), (1, 17), (2, 17), (3, 9)], 4,
 40, [.v (.pointer none), .v (.pointer none), .v (.pointer none), .v (.string ⟨#[]⟩)]⟩ .leaf .leaf)) (.node 130 ⟨.struct [(0, 128)], 0, 0, []⟩ (.node 129 ⟨.struct [(0, 128)], 0, 0,
 []⟩ .leaf .leaf) .leaf)) (.node 137 ⟨.int .i32, 1, 4, [.v (.int .i32 0)]⟩ (.node 136 ⟨.int .i32, 1, 4, [.v (.int .i32 0)]⟩ (.node 133 ⟨.int .u8, 1, 1, [.v (.int .u8 0)]⟩ .leaf
 .leaf) .leaf) (.node 139 ⟨.struct [(0, 12), (1, 12), (2, 106), (3, 132), (4, 5), (5, 5), (6, 133), (7, 134), (8, 135), (9, 136), (10, 137)], 11, 48, [.v (.int .u64 0), .v (.int
 .u64 0), .v (.int .u32 0), .v (.int .u8 0), .v (.int .u8 0), .v (.int .u8 0), .v (.int .u8 0), .v .nilFunc, .v (.pointer none), .v (.int .i32 0), .v (.int .i32 0)]⟩ (.node 138
 ⟨.struct [(0, 12), (1, 12), (2, 106), (3, 132), (4, 5), (5, 5), (6, 133), (7, 134), (8, 135), (9, 136), (10, 137)], 11, 48, [.v (.int .u64 0), .v (.int .u64 0), .v (.int .u32 0),
 .v (.int .u8 0), .v (.int .u8 0), .v (.int .u8 0), .v (.int .u8 0), .v .nilFunc, .v (.pointer none), .v (.int .i32 0), .v (.int .i32 0)]⟩ .leaf .leaf) .leaf)))))
theorem tabB : (tab.all fun i ti => tyB Tryz.prog i ti) = true := by kernel_rfl
theorem mixed : Tryz.prog.follows .mixedOrders = true := by kernel_rfl
def mdt : BT (List Abs.Mode) := (.node 82 [.val] (.node 42 [.val, .val] (.node 23 [.val, .val] (.node 13 [.val] (.node 7 [.val, .val, .val] (.node 5 [.val, .val, .val] (.node 4 [.val, .val, .val] (.node 3 [.val,
 .val] .leaf .leaf) .leaf) (.node 6 [.val, .val, .val] .leaf .leaf)) (.node 10 [.val, .val, .val] (.node 9 [.val, .val, .val] (.node 8 [.val, .val, .val] .leaf .leaf) .leaf) (.node
 11 [.val, .val, .val] .leaf .leaf))) (.node 18 [.val, .val] (.node 16 [.val, .val] (.node 15 [.val, .val] (.node 14 [.val] .leaf .leaf) .leaf) (.node 17 [.val, .val] .leaf .leaf))
 (.node 21 [.val, .val] (.node 20 [.val] (.node 19 [.val, .val] .leaf .leaf) .leaf) (.node 22 [.val] .leaf .leaf)))) (.node 33 [.val] (.node 28 [.val] (.node 26 [.val, .val] (.node
 25 [.val, .val] (.node 24 [.val, .val] .leaf .leaf) .leaf) (.node 27 [.val, .val] .leaf .leaf)) (.node 31 [.val] (.node 30 [.val] (.node 29 [.val, .val] .leaf .leaf) .leaf) (.node
 32 [.val] .leaf .leaf))) (.node 38 [.val, .val] (.node 36 [.val, .val] (.node 35 [.val, .val] (.node 34 [.val, .val] .leaf .leaf) .leaf) (.node 37 [.val, .val] .leaf .leaf)) (.node
 40 [.val] (.node 39 [.val] .leaf .leaf) (.node 41 [.val, .val] .leaf .leaf))))) (.node 63 [.bor, .val, .val, .val] (.node 52 [.val] (.node 47 [.val, .val] (.node 45 [.val, .val]
 (.node 44 [.val, .val] (.node 43 [.val, .val] .leaf .leaf) .leaf) (.node 46 [.val, .val] .leaf .leaf)) (.node 50 [.val, .val] (.node 49 [.val, .val] (.node 48 [.val] .leaf .leaf)
 .leaf) (.node 51 [.val] .leaf .leaf))) (.node 58 [.val] (.node 55 [.val, .val] (.node 54 [.val, .val] (.node 53 [.val] .leaf .leaf) .leaf) (.node 57 [.val] .leaf .leaf)) (.node 61
 [.val] (.node 60 [.val, .val, .val, .val] (.node 59 [.val] .leaf .leaf) .leaf) (.node 62 [.val] .leaf .leaf)))) (.node 73 [.val, .val, .ref, .ref] (.node 68 [.val, .val] (.node 66
 [.val] (.node 65 [.val, .val] (.node 64 [.val] .leaf .leaf) .leaf) (.node 67 [.val] .leaf .leaf)) (.node 71 [.val, .val] (.node 70 [.val, .val, .val] (.node 69 [.val] .leaf .leaf)
 .leaf) (.node 72 [.val] .leaf .leaf))) (.node 78 [.val, .val] (.node 76 [.val] (.node 75 [.val, .val] (.node 74 [.val] .leaf .leaf) .leaf) (.node 77 [.val, .val] .leaf .leaf))
 (.node 80 [.val, .val] (.node 79 [.val, .val] .leaf .leaf) (.node 81 [.val] .leaf .leaf)))))) (.node 121 [.val, .val] (.node 102 [.val] (.node 92 [.val, .val] (.node 87 [.val,
 .val] (.node 85 [.val, .val] (.node 84 [.val, .val] (.node 83 [.val, .val] .leaf .leaf) .leaf) (.node 86 [.val, .val] .leaf .leaf)) (.node 90 [.val] (.node 89 [.val, .val] (.node
 88 [.val, .val] .leaf .leaf) .leaf) (.node 91 [.val] .leaf .leaf))) (.node 97 [.val] (.node 95 [.val] (.node 94 [.val] (.node 93 [.val, .val] .leaf .leaf) .leaf) (.node 96 [.val]
 .leaf .leaf)) (.node 100 [.val] (.node 99 [.val] (.node 98 [.val, .val] .leaf .leaf) .leaf) (.node 101 [.val, .val] .leaf .leaf)))) (.node 112 [.val, .val] (.node 107 [.val, .val]
 (.node 105 [.val] (.node 104 [.val, .val] (.node 103 [.val] .leaf .leaf) .leaf) (.node 106 [.val, .val] .leaf .leaf)) (.node 110 [.val, .val] (.node 109 [.val, .val] (.node 108
 [.val, .val] .leaf .leaf) .leaf) (.node 111 [.val, .val] .leaf .leaf))) (.node 117 [.val, .val] (.node 115 [.val] (.node 114 [.val] (.node 113 [.val, .val] .leaf .leaf) .leaf)
 (.node 116 [.val] .leaf .leaf)) (.node 119 [.val, .val] (.node 118 [.val] .leaf .leaf) (.node 120 [.val] .leaf .leaf))))) (.node 140 [.bor, .val] (.node 131 [.val, .val] (.node 126
 [.val, .val] (.node 124 [.val, .val] (.node 123 [.val, .val] (.node 122 [.val, .val] .leaf .leaf) .leaf) (.node 125 [.val, .val] .leaf .leaf)) (.node 129 [.val] (.node 128 [.val,
 .val] (.node 127 [.val, .val] .leaf .leaf) .leaf) (.node 130 [.val, .val] .leaf .leaf))) (.node 136 [.val, .val] (.node 134 [.bor, .val] (.node 133 [.val, .val] (.node 132 [.val]
 .leaf .leaf) .leaf) (.node 135 [.val, .val] .leaf .leaf)) (.node 138 [.bor, .val] (.node 137 [.val, .val] .leaf .leaf) (.node 139 [.bor, .val, .val] .leaf .leaf)))) (.node 150
 [.val] (.node 145 [.val] (.node 143 [.val] (.node 142 [.val] (.node 141 [.val] .leaf .leaf) .leaf) (.node 144 [.val] .leaf .leaf)) (.node 148 [.val] (.node 147 [.val] (.node 146
 [.val] .leaf .leaf) .leaf) (.node 149 [.val] .leaf .leaf))) (.node 155 [.val] (.node 153 [.val] (.node 152 [.val] (.node 151 [.val] .leaf .leaf) .leaf) (.node 154 [.val] .leaf
 .leaf)) (.node 157 [.val] (.node 156 [.val] .leaf .leaf) (.node 158 [.val] .leaf .leaf)))))))
def CC : Cfg := ⟨tab.find, btMd mdt⟩
theorem ccOk : CfgOk Tryz.prog CC := bt_ok tabB
end Go.Proofs.YtdhidmcjglokcaaGreat
end
section
namespace Go.Abs.M
def val : List Int -> Int
 | [] => 0
 | x :: l => x + 4294967296 * val l
def Wd (l : List Int) : Prop := ∀ x ∈ l, 0 <= x /\ x < 4294967296
def dgF : Nat -> Nat -> List Int
 | 0, _ => []
 | f + 1, n => if n = 0 then [] else ((n % 4294967296 : Nat) : Int) :: dgF f (n / 4294967296)
def dg (n : Nat) : List Int := dgF n n
theorem dgF_eq : ∀ (f g n : Nat), n <= f -> n <= g -> dgF f n = dgF g n
 | 0, g, n, h, _ => by
  have : n = 0 := by omega
  subst this
  cases g <;> simp [dgF]
 | f + 1, 0, n, _, h => by
  have : n = 0 := by omega
  subst this
  simp [dgF]
 | f + 1, g + 1, n, h1, h2 => by
  simp only [dgF]
  split
  ·rfl
  ·rw [dgF_eq f g (n / 4294967296) (by omega) (by omega)]
theorem dg_zero : dg 0 = [] := rfl
theorem dg_pos {n : Nat} (h : n ≠ 0) : dg n = ((n % 4294967296 : Nat) : Int) :: dg (n / 4294967296) := by
 unfold dg
 obtain ⟨m, rfl⟩ : ∃ m, n = m + 1 := ⟨n - 1, by omega⟩
 simp only [dgF]
 rw [if_neg h, dgF_eq m ((m + 1) / 4294967296) _ (by omega) (Nat.le_refl _)]
theorem qao (n : Nat) : val (dg n) = n := by
 induction n using Nat.strongRecOn with
 | _ n ih =>
  by_cases h : n = 0
  ·subst h; rfl
  ·rw [dg_pos h, val, ih (n / 4294967296) (by omega)]
   omega
theorem qay (n : Nat) : Wd (dg n) := by
 induction n using Nat.strongRecOn with
 | _ n ih =>
  by_cases h : n = 0
  ·subst h; intro x hx; cases hx
  ·rw [dg_pos h]
   intro x hx
   rcases List.mem_cons.1 hx with rfl | hx
   ·omega
   ·exact ih (n / 4294967296) (by omega) x hx
theorem dg_eq_nil {n : Nat} : dg n = [] ↔ n = 0 := by
 by_cases h : n = 0
 ·simp [h, dg_zero]
 ·simp [h, dg_pos h]
theorem val_append : ∀ (a b : List Int), val (a ++ b) = val a + 4294967296 ^ a.length * val b
 | [], b => by simp [val]
 | x :: a, b => by
  simp only [List.cons_append, val, val_append a b, List.length_cons, Int.pow_succ]
  grind
theorem Wd.tail {x : Int} {l : List Int} (h : Wd (x :: l)) : Wd l := fun y hy => h y (List.mem_cons_of_mem _ hy)
theorem Wd.head {x : Int} {l : List Int} (h : Wd (x :: l)) : 0 <= x /\ x < 4294967296 := h x (List.mem_cons_self ..)
theorem Wd.cons {x : Int} {l : List Int} (h0 : 0 <= x) (h1 : x < 4294967296) (h : Wd l) : Wd (x :: l) := by
 intro y hy
 rcases List.mem_cons.1 hy with rfl | hy
 ·exact ⟨h0, h1⟩
 ·exact h y hy
theorem Wd.append {a b : List Int} (ha : Wd a) (hb : Wd b) : Wd (a ++ b) := by
 intro x hx
 rcases List.mem_append.1 hx with h | h
 ·exact ha x h
 ·exact hb x h
theorem Wd.take {l : List Int} (h : Wd l) (n : Nat) : Wd (l.take n) := fun x hx => h x (List.mem_of_mem_take hx)
theorem Wd.drop {l : List Int} (h : Wd l) (n : Nat) : Wd (l.drop n) := fun x hx => h x (List.mem_of_mem_drop hx)
theorem Wd.rep (n : Nat) : Wd (List.replicate n 0) := fun x hx => by
 rw [List.eq_of_mem_replicate hx]; omega
theorem Wd.get {l : List Int} (h : Wd l) (i : Nat) : 0 <= l.getD i 0 /\ l.getD i 0 < 4294967296 := by
 rw [List.getD_eq_getElem?_getD]
 rcases Nat.lt_or_ge i l.length with h1 | h1
 ·rw [List.getElem?_eq_getElem h1]; exact h _ (List.getElem_mem h1)
 ·rw [List.getElem?_eq_none h1]; simp
theorem Wd.set {l : List Int} (h : Wd l) (i : Nat) {x : Int} (h0 : 0 <= x) (h1 : x < 4294967296) : Wd (l.set i x) := by
 intro y hy
 rcases List.mem_or_eq_of_mem_set hy with h' | rfl
 ·exact h y h'
 ·exact ⟨h0, h1⟩
theorem Wd.nil : Wd [] := fun x hx => by cases hx
theorem qad : ∀ {l : List Int}, Wd l -> 0 <= val l
 | [], _ => Int.le_refl 0
 | x :: l, h => by
  have := qad h.tail
  have := h.head
  simp only [val]; omega
theorem qam (n : Nat) : (0 : Int) < 4294967296 ^ n := Int.pow_pos (by omega)
theorem val_lt : ∀ {l : List Int}, Wd l -> val l < 4294967296 ^ l.length
 | [], _ => by simp [val]
 | x :: l, h => by
  have := val_lt h.tail
  have := h.head
  simp only [val, List.length_cons, Int.pow_succ]; omega
theorem val_rep (n : Nat) : val (List.replicate n 0) = 0 := by
 induction n with
 | zero => rfl
 | succ n ih => simp only [List.replicate_succ, val, ih]; rfl
theorem qap (l : List Int) (k : Nat) (h : k <= l.length) : val l = val (l.take k) + 4294967296 ^ k * val (l.drop k) := by
 have := val_append (l.take k) (l.drop k)
 rw [List.take_append_drop, List.length_take, Nat.min_eq_left h] at this
 exact this
theorem val_set : ∀ (l : List Int) (i : Nat) (x : Int), i < l.length -> val (l.set i x) = val l + (x - l.getD i 0) * 4294967296 ^ i
 | [], i, x, h => by simp at h
 | y :: l, 0, x, _ => by simp [val, List.set]; omega
 | y :: l, i + 1, x, h => by
  have := val_set l i x (by simpa using h)
  simp only [List.set_cons_succ, val, List.getD_cons_succ, Int.pow_succ, this]
  grind
theorem take_succ_getD {l : List Int} {k : Nat} (h : k < l.length) : l.take (k + 1) = l.take k ++ [l.getD k 0] := by
 rw [List.take_succ_eq_append_getElem h, List.getD_eq_getElem?_getD, List.getElem?_eq_getElem h]; rfl
theorem val_take_succ {l : List Int} {k : Nat} (h : k < l.length) : val (l.take (k + 1)) = val (l.take k) + 4294967296 ^ k * l.getD k 0 := by
 rw [take_succ_getD h, val_append, List.length_take, Nat.min_eq_left (Nat.le_of_lt h)]
 simp [val]
theorem drop_getD {l : List Int} {k : Nat} (h : k < l.length) : l.drop k = l.getD k 0 :: l.drop (k + 1) := by
 rw [List.drop_eq_getElem_cons h, List.getD_eq_getElem?_getD, List.getElem?_eq_getElem h]; rfl
theorem qag {l : List Int} {k : Nat} (h : k < l.length) : val (l.drop k) = l.getD k 0 + 4294967296 * val (l.drop (k + 1)) := by
 rw [drop_getD h]; rfl
def Tr (l : List Int) : Prop := l = [] ∨ l.getD (l.length - 1) 0 ≠ 0
theorem Tr.tail {x : Int} {l : List Int} (h : Tr (x :: l)) : Tr l := by
 rcases h with h | h
 ·cases h
 ·cases l with
  | nil => exact .inl rfl
  | cons y l => right; simpa using h
theorem dg_unique : ∀ {l : List Int}, Wd l -> Tr l -> dg (val l).toNat = l
 | [], _, _ => rfl
 | x :: l, hw, ht => by
  have hv := qad hw.tail
  have hx := hw.head
  have ih := dg_unique hw.tail ht.tail
  have hne : (val (x :: l)).toNat ≠ 0 := by
   simp only [val]
   cases l with
   | nil =>
    rcases ht with h | h
    ·cases h
    ·simp at h; simp only [val]; omega
   | cons y l =>
    intro h0
    have h1 : val (y :: l) = 0 := by omega
    rw [h1] at ih
    cases ih
  rw [dg_pos hne]
  have e1 : (val (x :: l)).toNat % 4294967296 = x.toNat := by simp only [val]; omega
  have e2 : (val (x :: l)).toNat / 4294967296 = (val l).toNat := by simp only [val]; omega
  rw [e1, e2, ih]
  congr 1
  omega
theorem dg_tr (n : Nat) : Tr (dg n) := by
 induction n using Nat.strongRecOn with
 | _ n ih =>
  by_cases h : n = 0
  ·subst h; exact .inl rfl
  ·rw [dg_pos h]
   have := ih (n / 4294967296) (by omega)
   by_cases h2 : n / 4294967296 = 0
   ·right; rw [h2, dg_zero]; simp; omega
   ·right
    rcases this with h3 | h3
    ·exact absurd (dg_eq_nil.1 h3) h2
    ·have hl : dg (n / 4294967296) ≠ [] := fun hh => h2 (dg_eq_nil.1 hh)
     cases hd : dg (n / 4294967296) with
     | nil => exact absurd hd hl
     | cons y l => rw [hd] at h3; simpa using h3
theorem ipow_le {a b : Nat} (h : a <= b) : (4294967296 : Int) ^ a <= 4294967296 ^ b := by
 obtain ⟨k, rfl⟩ : ∃ k, b = a + k := ⟨b - a, by omega⟩
 rw [Int.pow_add]
 have h1 := qam a
 have h2 := qam k
 have : 4294967296 ^ a * 1 <= 4294967296 ^ a * (4294967296 : Int) ^ k := Int.mul_le_mul_of_nonneg_left (by omega) (by omega)
 omega
def nl (n : Nat) : Nat := (dg n).length
theorem lt_nl (n : Nat) : (n : Int) < 4294967296 ^ nl n := by
 have := val_lt (qay n)
 rwa [qao] at this
theorem qai {n k : Nat} (h : (n : Int) < 4294967296 ^ k) : nl n <= k := by
 induction k generalizing n with
 | zero =>
  have : n = 0 := by rw [Int.pow_zero] at h; omega
  subst this; exact Nat.le_refl _
 | succ k ih =>
  by_cases h0 : n = 0
  ·subst h0; exact Nat.zero_le _
  ·unfold nl
   rw [dg_pos h0, List.length_cons]
   have : nl (n / 4294967296) <= k := ih (by
    rw [Int.pow_succ] at h
    omega)
   unfold nl at this
   omega
theorem qbb {a b : Nat} (h : a <= b) : nl a <= nl b := qai (by have := lt_nl b; omega)
theorem nl_wd {l : List Int} (h : Wd l) : nl (val l).toNat <= l.length := qai (by have := val_lt h; have := qad h; omega)
theorem ge_nl {n : Nat} (h : n ≠ 0) : 4294967296 ^ (nl n - 1) <= (n : Int) := by
 rcases Int.lt_or_le (n : Int) (4294967296 ^ (nl n - 1)) with h1 | h1
 ·have h2 := qai h1
  have : nl n ≠ 0 := fun hh => h (dg_eq_nil.1 (List.length_eq_zero_iff.1 hh))
  omega
 ·exact h1
theorem nl_zero {n : Nat} : nl n = 0 ↔ n = 0 := by unfold nl; rw [List.length_eq_zero_iff, dg_eq_nil]
theorem nl_add (a b : Nat) : nl (a + b) <= max (nl a) (nl b) + 1 := by
 refine qai ?_
 have h1 := lt_nl a
 have h2 := lt_nl b
 have h3 : (4294967296 : Int) ^ nl a <= 4294967296 ^ max (nl a) (nl b) := ipow_le (Nat.le_max_left ..)
 have h4 : (4294967296 : Int) ^ nl b <= 4294967296 ^ max (nl a) (nl b) := ipow_le (Nat.le_max_right ..)
 rw [Int.pow_succ]
 omega
theorem nl_mul (a b : Nat) : nl (a * b) <= nl a + nl b := by
 refine qai ?_
 have h1 := lt_nl a
 have h2 := lt_nl b
 rw [Int.pow_add]
 have h3 : (a : Int) * b <= 4294967296 ^ nl a * b := Int.mul_le_mul_of_nonneg_right (by omega) (by omega)
 have h4 : 4294967296 ^ nl a * (b : Int) < 4294967296 ^ nl a * 4294967296 ^ nl b := Int.mul_lt_mul_of_pos_left h2 (qam _)
 push_cast
 omega
end Go.Abs.M
end
section
namespace Go.Proofs.YtdhidmcjglokcaaGreat
open Go Go.Abs Go.Abs.M Go.Proofs
def rtrimSt (r : Abs.Rows) (n : Int) : St := mkSt 21 [vl r, .junk, vnil, vi .i64 n] [none]
theorem trim_dg {l : List Int} {n : Nat} (hw : Wd l) (hn : n <= l.length) (hv : val (l.take n) = val l) (h0 : n = 0 ∨ l.getD (n - 1) 0 ≠ 0) : l.take n = dg (val l).toNat := by
 rw [<- hv]
 refine (dg_unique (hw.take n) ?_).symm
 rcases h0 with rfl | h0
 ·exact .inl (by simp)
 ·by_cases hz : n = 0
  ·subst hz; exact .inl (by simp)
  ·right
   rw [List.length_take, Nat.min_eq_left hn]
   simp only [List.getD_eq_getElem?_getD, List.getElem?_take] at h0 ⊢
   rw [if_pos (by omega)]
   exact h0
theorem qa8 {r : Abs.Rows} {l : List Int} (hr : r = W .u32 l) (hl : l.length <= 2199023255552) (hw : Wd l) : ACall Tryz.prog 120 [.val (.c (.lst false r))] ⟨[.val (.c (.lst false (W .u32 (dg (val l).toNat))))], [none]⟩ := by
 refine callZ ccOk mixed [.val] Tryz.func120 rfl rfl (by kernel_rfl) fun zA zB zC zD zE zF zG zH zI zJ zK zL zM zN zO zP zQ zR zS zT zU zV zX zY zZ za zb zc zd ze zf zg zh zi zj zk zl zm zn zo zp zq zr zs zt zu zw zx zy A L F hS hF => ?_
 have hlen : zg r = l.length := by rw [hS.len, hr, qa3]
 cbv
 refine loopZ ccOk mixed hS (fun m s => ∃ n : Nat, n = m /\ n <= l.length /\ val (l.take n) = val l /\ s = rtrimSt r (zY n)) (n := l.length) (s0 := rtrimSt r (zY l.length)) (qaj ?_ ?_) rfl (Nat.le_refl 1) ?_ ?_
 ·simp [leT, rtrimSt, mkSt, vnil, vi, vl, hlen]
 ·simp [leH, rtrimSt, mkSt]
 ·exact ⟨_, rfl, Nat.le_refl _, by rw [List.take_length], rfl⟩
 ·rintro m _ ⟨n, rfl, hn, hv, rfl⟩
  have hp : 0 < n -> zA .i64 (zC (zY n) 1) = zY (n - 1) := fun h => by rw [hS.wrap, hS.sub, hS.ofN, hS.ofN, wrap_i64 (by omega) (by omega)]; omega
  have hg : 0 < n -> zk r (zV (zY (n - 1))) = l.getD (n - 1) 0 := fun h => by rw [hS.getI, hS.nat, hS.ofN, hr, W_getI, Int.toNat_natCast]
  have hc : zd 0 (zY n) (zg r) = true := by rw [hS.cut, hlen, hS.ofN]; exact decide_eq_true (by omega)
  have hwd : zr 1 r = true := by rw [hS.wide, hr]; exact W_wide _ _
  have hF' : n = 0 ∨ l.getD (n - 1) 0 ≠ 0 -> F ⟨[.val (.c (.lst false (zn r 0 (zV (zY n)))))], [none]⟩ := fun h => fin1 hF (by
   rw [hS.part, hS.nat, hS.ofN, hr, W_part, Int.toNat_natCast, List.drop_zero, trim_dg hw hn hv h])
  cbv
  refine ⟨fun h => ?_, fun h => nd hc (nd hwd (hF' ?_))⟩
  all_goals rw [hS.lt, hS.ofN] at h
  ·have h : 0 < n := by simpa using h
   rw [hp h, hg h]
   refine nd (by rw [hS.le, hS.ofN]; exact decide_eq_true (by omega)) (nd (by rw [hS.isI, hS.nat, hS.ofN, hr, W_isI]; exact decide_eq_true (by omega)) ⟨fun h2 => ?_, fun h2 => nd hc (nd hwd (hF' (.inr ?_)))⟩)
   all_goals rw [hS.eq] at h2
   ·refine again (s' := rtrimSt r (zY (n - 1))) (m := n - 1) (by simp [leT, rtrimSt, mkSt, vnil, vi, vl]) (by simp [leH, rtrimSt, mkSt]) rfl (Nat.le_refl 1) (by omega) ⟨_, rfl, by omega, ?_, rfl⟩
    have := val_take_succ (l := l) (k := n - 1) (by omega)
    rw [show n - 1 + 1 = n by omega, of_decide_eq_true h2] at this
    omega
   ·exact of_decide_eq_false h2
  ·exact .inl (by simpa using h)
end Go.Proofs.YtdhidmcjglokcaaGreat
end
section
namespace Go.Abs.M
def cmpI (a b : Int) : Int := if a < b then -1 else if b < a then 1 else 0
theorem val_ge {l : List Int} (hw : Wd l) (ht : Tr l) (hl : 0 < l.length) : 4294967296 ^ (l.length - 1) <= val l := by
 have h1 := dg_unique hw ht
 have hv := qad hw
 have hne : (val l).toNat ≠ 0 := fun h0 => by
  rw [h0, dg_zero] at h1
  rw [<- h1] at hl
  simp at hl
 have := ge_nl hne
 unfold nl at this
 rw [h1] at this
 omega
theorem val_lt_of_len {l m : List Int} (hl : Wd l) (hm : Wd m) (ht : Tr m) (h : l.length < m.length) : val l < val m := by
 have h1 := val_lt hl
 have h2 := val_ge hm ht (by omega)
 have h3 := ipow_le (show l.length <= m.length - 1 by omega)
 omega
theorem val_lt_of_word {l m : List Int} {i : Nat} (hl : Wd l) (hm : Wd m) (hlen : l.length = m.length) (hi : i < l.length) (he : l.drop (i + 1) = m.drop (i + 1)) (h : l.getD i 0 < m.getD i 0) : val l < val m := by
 rw [qap l i (by omega), qap m i (by omega), qag hi, qag (l := m) (by omega), he]
 have a1 := val_lt (hl.take i)
 have a2 := qad (hm.take i)
 rw [List.length_take, Nat.min_eq_left (by omega)] at a1
 have hp := qam i
 have : 4294967296 ^ i * (l.getD i 0 + 1) <= 4294967296 ^ i * m.getD i 0 := Int.mul_le_mul_of_nonneg_left (by omega) (by omega)
 generalize val (m.drop (i + 1)) = y at *
 generalize val (l.take i) = x at *
 generalize val (m.take i) = z at *
 generalize l.getD i 0 = a at *
 generalize m.getD i 0 = b at *
 generalize (4294967296 : Int) ^ i = p at *
 have e1 : p * (a + 4294967296 * y) = p * a + p * (4294967296 * y) := Int.mul_add ..
 have e2 : p * (b + 4294967296 * y) = p * b + p * (4294967296 * y) := Int.mul_add ..
 have e3 : p * (a + 1) = p * a + p := by rw [Int.mul_add, Int.mul_one]
 omega
theorem cmpI_lt {a b : Int} (h : a < b) : cmpI a b = -1 := if_pos h
theorem cmpI_gt {a b : Int} (h : b < a) : cmpI a b = 1 := by unfold cmpI; rw [if_neg (by omega), if_pos h]
theorem cmpI_eq (a : Int) : cmpI a a = 0 := by unfold cmpI; rw [if_neg (by omega), if_neg (by omega)]
end Go.Abs.M
end
section
namespace Go.Proofs.YtdhidmcjglokcaaGreat
open Go Go.Abs Go.Abs.M Go.Proofs
theorem rword_call {r : Abs.Rows} {l : List Int} (i : Int) (hr : r = W .u32 l) (hl : l.length <= 2199023255552) (hw : Wd l) (hi : 0 <= i) : ACall Tryz.prog 123 [.val (tl r), .val (ti .i64 i)] ⟨[.val (ti .u64 (l.getD i.toNat 0))], [none, none]⟩ := by
 refine callZ ccOk mixed [.val] Tryz.func123 rfl rfl (by kernel_rfl) fun zA zB zC zD zE zF zG zH zI zJ zK zL zM zN zO zP zQ zR zS zT zU zV zX zY zZ za zb zc zd ze zf zg zh zi zj zk zl zm zn zo zp zq zr zs zt zu zw zx zy A L F hS hF => ?_
 have hg := hw.get i.toNat
 cbv
 simp only [hS.wrap, hS.add, hS.sub, hS.mul, hS.quo, hS.rem, hS.shl, hS.shr, hS.band, hS.bor, hS.bxor, hS.bandn, hS.eq, hS.ne, hS.lt, hS.le, hS.not, hS.beq, hS.bne, hS.max, hS.min, hS.nat, hS.inb, hS.ofN, hS.idx, hS.neq, hS.nadd, hS.dif, hS.cut, hS.room, hS.mkok, hS.len, hS.nth, hS.setr, hS.isI, hS.getI, hS.setI, hS.fit, hS.part, hS.ext, hS.setg, hS.rep, hS.wide, hS.all, hr, qa3, W_isI, W_getI]
 refine ⟨fun h => nd (decide_eq_true hi) (nd ?_ (fin1 hF (tv_int (qaa hg.1 (by omega))))), fun h => fin1 hF (tv_int ?_)⟩
 ·have := of_decide_eq_true h; exact decide_eq_true (by omega)
 ·have := of_decide_eq_false h
  rw [List.getD_eq_getElem?_getD, List.getElem?_eq_none (by omega)]; rfl
theorem rwords_call (n : Int) (hn : 0 <= n) (hn2 : n < 2 ^ 64) : ACall Tryz.prog 102 [.val (ti .u64 n)] ⟨[.val (tl (W .u32 (dg n.toNat)))], [none]⟩ := by
 refine callZ ccOk mixed [.val] Tryz.func102 rfl rfl (by kernel_rfl) fun zA zB zC zD zE zF zG zH zI zJ zK zL zM zN zO zP zQ zR zS zT zU zV zX zY zZ za zb zc zd ze zf zg zh zi zj zk zl zm zn zo zp zq zr zs zt zu zw zx zy A L F hS hF => ?_
 have e1 : zA .u32 (zF n 4294967296) = n % 4294967296 := by rw [hS.wrap, hS.rem, Int.tmod_eq_emod_of_nonneg hn]; exact qbd (by omega) (by omega)
 have e2 : zA .u32 (zA .u64 (zE n 4294967296)) = n / 4294967296 := by rw [hS.wrap, hS.wrap, hS.quo, Int.tdiv_eq_ediv_of_nonneg hn, qaa (by omega) (by omega)]; exact qbd (by omega) (by omega)
 have hT := qa8 (r := W .u32 [n % 4294967296, n / 4294967296]) rfl (by simp) (Wd.cons (by omega) (by omega) (Wd.cons (by omega) (by omega) Wd.nil))
 cbv
 rw [e1, e2]
 refine nd (by rw [hS.fit]; rfl) ?_
 rw [hS.part]
 refine ⟨_, hS.call hT, ?_⟩
 rw [show val [n % 4294967296, n / 4294967296] = n by simp only [val]; omega]
 generalize W .u32 (dg n.toNat) = x at *
 cbv
 exact hF _ (ResLe.refl _)
theorem rmade_call {r : Abs.Rows} {l : List Int} (s t : Bool) (hr : r = W .u32 l) (hl : l.length <= 2199023255552) (hw : Wd l) (ht : t = (s && decide (0 < val l))) : ACall Tryz.prog 101 [.val (tb s), .val (tl r)] ⟨[.val (.agg (iT t (W .u32 (dg (val l).toNat))))], [none, none]⟩ := by
 refine callZ ccOk mixed [.val] Tryz.func101 rfl rfl (by kernel_rfl) fun zA zB zC zD zE zF zG zH zI zJ zK zL zM zN zO zP zQ zR zS zT zU zV zX zY zZ za zb zc zd ze zf zg zh zi zj zk zl zm zn zo zp zq zr zs zt zu zw zx zy A L F hS hF => ?_
 have hT := qa8 hr hl hw
 have hz : zO 0 (zY (zg (W .u32 (dg (val l).toNat)))) = decide (0 < val l) := by
  rw [hS.lt, hS.ofN, hS.len, qa3]
  have := qad hw
  have h2 := @nl_zero (val l).toNat
  unfold nl at h2
  by_cases h : 0 < val l
  ·rw [decide_eq_true h]; exact decide_eq_true (by omega)
  ·rw [decide_eq_false h]; exact decide_eq_false (by omega)
 generalize W .u32 (dg (val l).toNat) = x at *
 generalize decide (0 < val l) = y at *
 cbv
 refine ⟨_, hS.call hT, ?_⟩
 cbv
 rw [hz]
 refine ⟨fun h => fin1 hF ?_, fun h => fin1 hF ?_⟩
 ·rw [ht, h]; rfl
 ·rw [ht, h]; rfl
def rcmpSt (r s : Abs.Rows) (i : Int) : St := mkSt 41 [vl r, vl s, .junk, .junk, vi .i64 0, vi .i64 i] [none, none]
theorem rcompared_call {r s : Abs.Rows} {l m : List Int} (c : Int) (hr : r = W .u32 l) (hs : s = W .u32 m) (hl : l.length <= 2199023255552) (hm : m.length <= 2199023255552) (hlw : Wd l) (hmw : Wd m) (hlt : Tr l) (hmt : Tr m) (hc : c = cmpI (val l) (val m)) :
  ACall Tryz.prog 107 [.val (tl r), .val (tl s)] ⟨[.val (ti .i64 c)], [none, none]⟩ := by
 refine callZ ccOk mixed [.val] Tryz.func107 rfl rfl (by kernel_rfl) fun zA zB zC zD zE zF zG zH zI zJ zK zL zM zN zO zP zQ zR zS zT zU zV zX zY zZ za zb zc zd ze zf zg zh zi zj zk zl zm zn zo zp zq zr zs zt zu zw zx zy A L F hS hF => ?_
 have h1 : zg r = l.length := by rw [hS.len, hr, qa3]
 have h2 : zg s = m.length := by rw [hS.len, hs, qa3]
 cbv
 rw [h1, h2]
 refine ⟨fun h => ?_, fun h => ⟨fun h' => ?_, fun h' => ?_⟩⟩
 all_goals rw [hS.lt, hS.ofN, hS.ofN] at h
 ·have h : (l.length : Int) < m.length := of_decide_eq_true h
  exact fin1 hF (tv_int (by rw [hc, cmpI_lt (val_lt_of_len hlw hmw hmt (by omega))]))
 all_goals rw [hS.lt, hS.ofN, hS.ofN] at h'
 ·have h' : (m.length : Int) < l.length := of_decide_eq_true h'
  exact fin1 hF (tv_int (by rw [hc, cmpI_gt (val_lt_of_len hmw hlw hlt (by omega))]))
 ·have h := of_decide_eq_false h
  have h' := of_decide_eq_false h'
  have hlen : l.length = m.length := by omega
  have hi0 : zA .i64 (zC (zY l.length) 1) = zC (zY l.length) 1 := by rw [hS.wrap, hS.sub, hS.ofN]; exact wrap_i64 (by omega) (by omega)
  rw [hi0]
  refine loopZ ccOk mixed hS (fun (k : Nat) s' => k <= l.length /\ l.drop k = m.drop k /\ s' = rcmpSt r s (zC (zY k) 1)) (n := l.length) (s0 := rcmpSt r s (zC (zY l.length) 1)) (qaj ?_ ?_) rfl (Nat.le_refl 2) ?_ ?_
  ·simp [leT, rcmpSt, mkSt, vi, vl]
  ·simp [leH, rcmpSt, mkSt]
  ·refine ⟨Nat.le_refl _, ?_, rfl⟩
   rw [List.drop_length, hlen, List.drop_length]
  ·rintro k _ ⟨hk, he, rfl⟩
   have hi : zC (zY k) 1 = (k : Int) - 1 := by rw [hS.sub, hS.ofN]
   have hz : zP 0 (zC (zY k) 1) = decide (1 <= k) := by
    rw [hS.le, hi]
    by_cases h : 1 <= k
    ·rw [decide_eq_true h]; exact decide_eq_true (by omega)
    ·rw [decide_eq_false h]; exact decide_eq_false (by omega)
   have hnt : 1 <= k -> zV (zC (zY k) 1) = k - 1 := fun h => by rw [hS.nat, hi]; omega
   have g1 : 1 <= k -> zk r (zV (zC (zY k) 1)) = l.getD (k - 1) 0 := fun h => by rw [hnt h, hS.getI, hr, W_getI]
   have g2 : 1 <= k -> zk s (zV (zC (zY k) 1)) = m.getD (k - 1) 0 := fun h => by rw [hnt h, hS.getI, hs, W_getI]
   have hF0 : ∀ x : Int, x = c -> F ⟨[.val (.c (.v (.int .i64 x)))], [none, none]⟩ := fun x hx => fin1 hF (tv_int hx)
   have hn2 : 1 <= k -> zj .u32 r (zV (zC (zY k) 1)) = true := fun h => by rw [hnt h, hS.isI, hr, W_isI]; exact decide_eq_true (by omega)
   have hn3 : 1 <= k -> zj .u32 s (zV (zC (zY k) 1)) = true := fun h => by rw [hnt h, hS.isI, hs, W_isI]; exact decide_eq_true (by omega)
   have hw1 : 1 <= k -> zA .i64 (zC (zC (zY k) 1) 1) = zC (zY (k - 1)) 1 := fun h => by rw [hi, hS.wrap, hS.sub, hS.sub, hS.ofN, wrap_i64 (by omega) (by omega)]; omega
   cbv
   refine ⟨fun h => ?_, fun h => hF0 _ ?_⟩
   ·have a1 := h
    rw [hz] at h
    have h := of_decide_eq_true h
    have a2 := hn2 h
    have a3 := hn3 h
    rw [hw1 h, g1 h, g2 h]
    refine nd a1 (nd a2 (nd a1 (nd a3 ⟨fun h3 => hF0 _ ?_, fun h3 => nd a1 (nd a2 (nd a1 (nd a3 ⟨fun h4 => hF0 _ ?_, fun h4 => ?_⟩)))⟩)))
    all_goals rw [hS.lt] at h3
    ·rw [hc, cmpI_lt (val_lt_of_word (i := k - 1) hlw hmw hlen (by omega) (by rw [show k - 1 + 1 = k by omega]; exact he) (of_decide_eq_true h3))]
    all_goals rw [hS.lt] at h4
    ·rw [hc, cmpI_gt (val_lt_of_word (i := k - 1) hmw hlw hlen.symm (by omega) (by rw [show k - 1 + 1 = k by omega]; exact he.symm) (of_decide_eq_true h4))]
    ·refine again (s' := rcmpSt r s (zC (zY (k - 1)) 1)) (m := k - 1) (by simp [leT, rcmpSt, mkSt, vi, vl]) (by simp [leH, rcmpSt, mkSt]) rfl (Nat.le_refl 2) (by omega) ⟨by omega, ?_, rfl⟩
     have e3 := of_decide_eq_false h3
     have e4 := of_decide_eq_false h4
     rw [drop_getD (show k - 1 < l.length by omega), drop_getD (show k - 1 < m.length by omega), show k - 1 + 1 = k by omega, he, show l.getD (k - 1) 0 = m.getD (k - 1) 0 by omega]
   ·rw [hz] at h
    have h := of_decide_eq_false h
    obtain rfl : k = 0 := by omega
    simp only [List.drop_zero] at he
    rw [hc, he, cmpI_eq]
end Go.Proofs.YtdhidmcjglokcaaGreat
end
section
namespace Go.Abs.M
theorem qac (l : List Int) (k : Nat) : val (l.take (k + 1)) = val (l.take k) + 4294967296 ^ k * l.getD k 0 := by
 rcases Nat.lt_or_ge k l.length with h | h
 ·exact val_take_succ h
 ·rw [List.take_of_length_le (by omega), List.take_of_length_le h, List.getD_eq_getElem?_getD, List.getElem?_eq_none h]; simp
theorem take_set_succ {l : List Int} {k : Nat} (x : Int) (h : k < l.length) : (l.set k x).take (k + 1) = l.take k ++ [x] := by
 rw [take_succ_getD (by simpa using h)]
 congr 1
 ·rw [List.take_set_of_le (Nat.le_refl _)]
 ·simp [List.getD_eq_getElem?_getD, h]
theorem qaw {l : List Int} {k : Nat} (x : Int) (h : k < l.length) : val ((l.set k x).take (k + 1)) = val (l.take k) + 4294967296 ^ k * x := by
 rw [take_set_succ x h, val_append, List.length_take, Nat.min_eq_left (Nat.le_of_lt h)]
 simp [val]
theorem qaz {l : List Int} {k : Nat} (x : Int) : (l.set k x).drop (k + 1) = l.drop (k + 1) := List.drop_set_of_lt (Nat.lt_succ_self k)
theorem getD_set_self {l : List Int} {k : Nat} (x : Int) (h : k < l.length) : (l.set k x).getD k 0 = x := by simp [List.getD_eq_getElem?_getD, h]
theorem add_step {p t vo vl vm a b c : Int} (h : vo + c * p = vl + vm) (ht : t = a + b + c) : vo + p * (t % 4294967296) + t / 4294967296 * (p * 4294967296) = (vl + p * a) + (vm + p * b) := by
 have : t % 4294967296 + 4294967296 * (t / 4294967296) = t := Int.emod_add_mul_ediv t 4294967296
 generalize t % 4294967296 = r at *
 generalize t / 4294967296 = q at *
 grind
theorem sub_step {p t vo vl vm a b c : Int} (h : vo = vl - vm + c * p) (ht : t = 4294967296 + a - b - c) : vo + p * (t % 4294967296) = (vl + p * a) - (vm + p * b) + (1 - t / 4294967296) * (p * 4294967296) := by
 have : t % 4294967296 + 4294967296 * (t / 4294967296) = t := Int.emod_add_mul_ediv t 4294967296
 generalize t % 4294967296 = r at *
 generalize t / 4294967296 = q at *
 grind
theorem mul_step {p t vo v0 x m w c q pi : Int} (h : vo + c * p = v0 + x * pi * q) (ht : t = x * m + w + c) {pj : Int} (hp : p = pi * pj) : vo + (t % 4294967296 - w) * p + t / 4294967296 * (p * 4294967296) = v0 + x * pi * (q + pj * m) := by
 have : t % 4294967296 + 4294967296 * (t / 4294967296) = t := Int.emod_add_mul_ediv t 4294967296
 generalize t % 4294967296 = r at *
 generalize t / 4294967296 = q' at *
 subst hp
 grind
theorem mul_bound {x m w c : Int} (hx : 0 <= x /\ x < 4294967296) (hm : 0 <= m /\ m < 4294967296) (hw : 0 <= w /\ w < 4294967296) (hc : 0 <= c /\ c < 4294967296) : 0 <= x * m /\ x * m + w + c < 18446744073709551616 := by
 have h1 : x * m <= 4294967295 * 4294967295 := Int.mul_le_mul (by omega) (by omega) hm.1 (by omega)
 exact ⟨Int.mul_nonneg hx.1 hm.1, by omega⟩
theorem top_zero {o : List Int} {k : Nat} (hw : Wd o) (hk : k < o.length) (h : val o < 4294967296 ^ k) : o.getD k 0 = 0 := by
 have h1 := qap o k (by omega)
 rw [qag hk] at h1
 have h2 := qad (hw.take k)
 have h3 := qad (hw.drop (k + 1))
 have h4 := hw.get k
 have hp := qam k
 rcases Int.lt_or_le 0 (o.getD k 0) with h5 | h5
 ·exfalso
  have : 4294967296 ^ k * 1 <= 4294967296 ^ k * (o.getD k 0 + 4294967296 * val (o.drop (k + 1))) := Int.mul_le_mul_of_nonneg_left (by omega) (by omega)
  omega
 ·omega
theorem mul_lt_pow {a b : Int} {i j : Nat} (ha : 0 <= a) (hb : 0 <= b) (h1 : a < 4294967296 ^ i) (h2 : b < 4294967296 ^ j) : a * b < 4294967296 ^ (i + j) := by
 rw [Int.pow_add]
 have hp := qam i
 have hq := qam j
 have e1 : a * b <= a * 4294967296 ^ j := Int.mul_le_mul_of_nonneg_left (by omega) ha
 have e2 : a * 4294967296 ^ j < 4294967296 ^ i * 4294967296 ^ j := Int.mul_lt_mul_of_pos_right h1 hq
 omega
theorem short_step {d t r a q vo : Int} (h : q = d * vo + r) (ht : t = r * 4294967296 + a) : a + 4294967296 * q = d * (t / d + 4294967296 * vo) + t % d := by
 have : t % d + d * (t / d) = t := Int.emod_add_mul_ediv t d
 generalize t % d = r' at *
 generalize t / d = q' at *
 grind
theorem short_bound {d r a : Int} (hd : 0 < d) (hr : 0 <= r /\ r < d) (ha : 0 <= a /\ a < 4294967296) : 0 <= (r * 4294967296 + a) / d /\ (r * 4294967296 + a) / d < 4294967296 := by
 refine ⟨Int.ediv_nonneg (by omega) (by omega), Int.ediv_lt_of_lt_mul hd ?_⟩
 have : (r + 1) * 4294967296 <= d * 4294967296 := Int.mul_le_mul_of_nonneg_right (by omega) (by omega)
 have e : (r + 1) * 4294967296 = r * 4294967296 + 4294967296 := by omega
 have e2 : 4294967296 * d = d * 4294967296 := Int.mul_comm ..
 omega
end Go.Abs.M
end
section
namespace Go.Proofs.YtdhidmcjglokcaaGreat
open Go Go.Abs Go.Abs.M Go.Proofs
def raddSt (r s R : Abs.Rows) (n : Int) (len : Nat) (c i : Int) : St := mkSt 42 [vl r, vl s, .junk, .junk, vnil, vi .i64 n, .c (.sl 2 0 len false), vi .u64 c, vi .i64 i] [none, none, some (.rows 1 R true false)]
theorem radded_call {r s : Abs.Rows} {l m : List Int} (hr : r = W .u32 l) (hs : s = W .u32 m) (hl : l.length <= 1099511627776) (hm : m.length <= 1099511627776) (hlw : Wd l) (hmw : Wd m) :
  ACall Tryz.prog 106 [.val (tl r), .val (tl s)] ⟨[.val (tl (W .u32 (dg (val l + val m).toNat)))], [none, none]⟩ := by
 obtain ⟨n, hn⟩ : ∃ n : Nat, n = max l.length m.length + 1 := ⟨_, rfl⟩
 refine callZ ccOk mixed [.val] Tryz.func106 rfl rfl (by kernel_rfl) fun zA zB zC zD zE zF zG zH zI zJ zK zL zM zN zO zP zQ zR zS zT zU zV zX zY zZ za zb zc zd ze zf zg zh zi zj zk zl zm zn zo zp zq zr zs zt zu zw zx zy A L F hS hF => ?_
 have h1 : zg r = l.length := by rw [hS.len, hr, qa3]
 have h2 : zg s = m.length := by rw [hS.len, hs, qa3]
 have hN : zA .i64 (zB (zT (zY (zg r)) (zY (zg s))) 1) = zY n := by
  rw [h1, h2, hS.wrap, hS.add, hS.max, hS.ofN, hS.ofN, hS.ofN, hn]
  split
  ·rw [wrap_i64 (by omega) (by omega)]; omega
  ·rw [wrap_i64 (by omega) (by omega)]; omega
 have hnn : zV (zY n) = n := by rw [hS.nat, hS.ofN]; omega
 have hrep : zq n [.v (.int .u32 0)] = zx .u32 (List.replicate n 0) := by rw [hS.rep, hS.W]; exact W_rep ..
 cbv
 rw [hN, hnn, hrep]
 refine nd (by rw [hS.mkok, hS.ofN]; exact decide_eq_true (by unfold capBytes; omega)) ?_
 refine loopZ ccOk mixed hS (fun (j : Nat) s' => ∃ (k : Nat) (o : List Int) (c : Int), k + j = n /\ o.length = n /\ Wd o /\ (0 <= c /\ c <= 1) /\ val (o.take k) + c * 4294967296 ^ k = val (l.take k) + val (m.take k) /\ s' = raddSt r s (zx .u32 o) (zY n) n c (zY k)) (n := n)
  (s0 := raddSt r s (zx .u32 (List.replicate n 0)) (zY n) n 0 (zY 0)) (qaj ?_ ?_) rfl (Nat.le_succ 2) ?_ ?_
 ·simp [leT, raddSt, mkSt, vi, vl, vnil, hS.ofN]
 ·simp [leH, raddSt, mkSt]
 ·exact ⟨0, _, 0, by omega, by simp, Wd.rep _, by omega, by simp [val], rfl⟩
 ·rintro j _ ⟨k, o, c, hk, ho, hw, hc, hv, rfl⟩
  have ga := hlw.get k
  have gb := hmw.get k
  have hwa := rword_call (zY k) hr (by omega) hlw (by rw [hS.ofN]; omega)
  have hwb := rword_call (zY k) hs (by omega) hmw (by rw [hS.ofN]; omega)
  rw [show (zY k).toNat = k by rw [hS.ofN]; omega] at hwa hwb
  obtain ⟨t, ht⟩ : ∃ t, t = l.getD k 0 + m.getD k 0 + c := ⟨_, rfl⟩
  have hst := add_step hv ht
  have e1 : zA .u64 (zB (zA .u64 (zB (l.getD k 0) (m.getD k 0))) c) = t := by
   rw [hS.wrap, hS.add, hS.wrap, hS.add, qaa (x := l.getD k 0 + m.getD k 0) (by omega) (by omega), qaa (by omega) (by omega), ht]
  have e2 : zA .u32 (zF t 4294967296) = t % 4294967296 := by rw [hS.rem, Int.tmod_eq_emod_of_nonneg (by omega), hS.wrap]; exact qbd (by omega) (by omega)
  have e3 : zA .u64 (zE t 4294967296) = t / 4294967296 := by rw [hS.quo, Int.tdiv_eq_ediv_of_nonneg (by omega), hS.wrap]; exact qaa (by omega) (by omega)
  have e4 : zA .i64 (zB (zY k) 1) = zY (k + 1) := by rw [hS.wrap, hS.add, hS.ofN, hS.ofN, wrap_i64 (by omega) (by omega)]; omega
  have e5 : zZ 0 (zY k) = k := by rw [hS.idx, hS.ofN]; omega
  have e6 : zO (zY k) (zY n) = decide (k < n) := by
   rw [hS.lt, hS.ofN, hS.ofN]
   by_cases h : k < n
   ·rw [decide_eq_true h]; exact decide_eq_true (by omega)
   ·rw [decide_eq_false h]; exact decide_eq_false (by omega)
  have e7 : ∀ x, zl .u32 (zx .u32 o) k x = zx .u32 (o.set k x) := fun x => by rw [hS.setI, hS.W, W_set]
  have e8 : k < n -> zX (zY k) n = true := fun h => by rw [hS.inb, hS.ofN]; exact decide_eq_true (by omega)
  have e9 : k < n -> zj .u32 (zx .u32 o) k = true := fun h => by rw [hS.isI, hS.W, W_isI]; exact decide_eq_true (by omega)
  have e10 : zm 0 n (zx .u32 o) = true := by rw [hS.fit, hS.W, qa3]; exact decide_eq_true (by omega)
  have e11 : zn (zx .u32 o) 0 n = W .u32 o := by rw [hS.part, hS.W, W_part, List.drop_zero, List.take_of_length_le (by omega)]
  have hT := qa8 (r := W .u32 o) rfl (by omega) hw
  have hend : k = n -> val o = val l + val m := fun h => by
   subst h
   rw [List.take_of_length_le (by omega), List.take_of_length_le (by omega), List.take_of_length_le (by omega)] at hv
   have b1 := val_lt hlw
   have b2 := val_lt hmw
   have b3 := ipow_le (show l.length <= max l.length m.length by omega)
   have b4 := ipow_le (show m.length <= max l.length m.length by omega)
   have b5 : (4294967296 : Int) ^ k = 4294967296 ^ max l.length m.length * 4294967296 := by rw [hn, Int.pow_succ]
   have b6 := qad hw
   have b7 := qam (max l.length m.length)
   rcases (show c = 0 ∨ c = 1 by omega) with rfl | rfl
   ·omega
   ·omega
  have hset : k < n -> val ((o.set k (t % 4294967296)).take (k + 1)) = val (o.take k) + 4294967296 ^ k * (t % 4294967296) := fun h => qaw _ (by omega)
  generalize hga : l.getD k 0 = a at *
  generalize hgb : m.getD k 0 = b at *
  cbv
  refine ⟨fun h => ?_, fun h => ?_⟩
  all_goals rw [e6] at h
  ·have h := of_decide_eq_true h
   refine ⟨_, hS.call hwa, ?_⟩
   cbv
   refine ⟨_, hS.call hwb, ?_⟩
   cbv
   rw [e1, e2, e3, e4, e5, e7]
   refine nd (e8 h) (nd (e9 h) ?_)
   refine again (s' := raddSt r s (zx .u32 (o.set k (t % 4294967296))) (zY n) n (t / 4294967296) (zY (k + 1))) (m := j - 1) (by simp [leT, raddSt, mkSt, vi, vl, vnil]) (by simp [leH, raddSt, mkSt]) rfl (Nat.le_succ 2) (by omega) ⟨_, _, _, by omega, by simpa using ho, hw.set _ (by omega) (by omega), by omega, ?_, rfl⟩
   rw [hset h, qac l, qac m, Int.pow_succ, hga, hgb]
   exact hst
  ·have h := of_decide_eq_false h
   rw [e11]
   refine nd e10 ⟨_, hS.call hT, ?_⟩
   rw [hend (by omega)]
   generalize W .u32 (dg (val l + val m).toNat) = x at *
   cbv
   exact hF _ (ResLe.refl _)
theorem zlt_nat {zO : Int -> Int -> Bool} {zY : Nat -> Int} (h1 : ∀ a b, zO a b = decide (a < b)) (h2 : ∀ n : Nat, zY n = (n : Int)) (k n : Nat) : zO (zY k) (zY n) = decide (k < n) := by
 rw [h1, h2, h2]
 by_cases h : k < n
 ·rw [decide_eq_true h]; exact decide_eq_true (by omega)
 ·rw [decide_eq_false h]; exact decide_eq_false (by omega)
def rtakSt (r s R : Abs.Rows) (len : Nat) (c i : Int) : St := mkSt 41 [vl r, vl s, .junk, .junk, vnil, .c (.sl 2 0 len false), vi .u64 c, vi .i64 i] [none, none, some (.rows 1 R true false)]
theorem rtaken_call {r s : Abs.Rows} {l m : List Int} (hr : r = W .u32 l) (hs : s = W .u32 m) (hl : l.length <= 1099511627776) (hm : m.length <= l.length) (hlw : Wd l) (hmw : Wd m) (hge : val m <= val l) :
  ACall Tryz.prog 108 [.val (tl r), .val (tl s)] ⟨[.val (tl (W .u32 (dg (val l - val m).toNat)))], [none, none]⟩ := by
 obtain ⟨n, hn⟩ : ∃ n : Nat, n = l.length := ⟨_, rfl⟩
 refine callZ ccOk mixed [.val] Tryz.func108 rfl rfl (by kernel_rfl) fun zA zB zC zD zE zF zG zH zI zJ zK zL zM zN zO zP zQ zR zS zT zU zV zX zY zZ za zb zc zd ze zf zg zh zi zj zk zl zm zn zo zp zq zr zs zt zu zw zx zy A L F hS hF => ?_
 have h1 : zg r = n := by rw [hS.len, hr, qa3, hn]
 have hnn : zV (zY n) = n := by rw [hS.nat, hS.ofN]; omega
 have hrep : zq n [.v (.int .u32 0)] = zx .u32 (List.replicate n 0) := by rw [hS.rep, hS.W]; exact W_rep ..
 cbv
 rw [h1, hnn, hrep]
 refine nd (by rw [hS.mkok, hS.ofN]; exact decide_eq_true (by unfold capBytes; omega)) ?_
 refine loopZ ccOk mixed hS (fun (j : Nat) s' => ∃ (k : Nat) (o : List Int) (c : Int), k + j = n /\ o.length = n /\ Wd o /\ (0 <= c /\ c <= 1) /\ val (o.take k) = val (l.take k) - val (m.take k) + c * 4294967296 ^ k /\ s' = rtakSt r s (zx .u32 o) n c (zY k)) (n := n)
  (s0 := rtakSt r s (zx .u32 (List.replicate n 0)) n 0 (zY 0)) (qaj ?_ ?_) rfl (Nat.le_succ 2) ?_ ?_
 ·simp [leT, rtakSt, mkSt, vi, vl, vnil, hS.ofN]
 ·simp [leH, rtakSt, mkSt]
 ·exact ⟨0, _, 0, by omega, by simp, Wd.rep _, by omega, by simp [val], rfl⟩
 ·rintro j _ ⟨k, o, c, hk, ho, hw, hc, hv, rfl⟩
  have ga := hlw.get k
  have gb := hmw.get k
  have hwb := rword_call (zY k) hs (by omega) hmw (by rw [hS.ofN]; omega)
  rw [show (zY k).toNat = k by rw [hS.ofN]; omega] at hwb
  obtain ⟨t, ht⟩ : ∃ t, t = 4294967296 + l.getD k 0 - m.getD k 0 - c := ⟨_, rfl⟩
  have hst := sub_step hv ht
  have e0 : zk r (zV (zY k)) = l.getD k 0 := by rw [hS.getI, hS.nat, hS.ofN, hr, W_getI, Int.toNat_natCast]
  have e1 : zA .u64 (zC (zA .u64 (zC (zA .u64 (zB 4294967296 (zA .u64 (l.getD k 0)))) (m.getD k 0))) c) = t := by
   rw [hS.wrap, hS.wrap, hS.wrap, hS.wrap, hS.add, hS.sub, hS.sub, qaa (x := l.getD k 0) (by omega) (by omega), qaa (x := 4294967296 + l.getD k 0) (by omega) (by omega), qaa (x := 4294967296 + l.getD k 0 - m.getD k 0) (by omega) (by omega), qaa (by omega) (by omega), ht]
  have e2 : zA .u32 (zF t 4294967296) = t % 4294967296 := by rw [hS.rem, Int.tmod_eq_emod_of_nonneg (by omega), hS.wrap]; exact qbd (by omega) (by omega)
  have e3 : zA .u64 (zC 1 (zA .u64 (zE t 4294967296))) = 1 - t / 4294967296 := by rw [hS.quo, Int.tdiv_eq_ediv_of_nonneg (by omega), hS.wrap, hS.wrap, qaa (x := t / 4294967296) (by omega) (by omega), hS.sub]; exact qaa (by omega) (by omega)
  have e4 : k < n -> zA .i64 (zB (zY k) 1) = zY (k + 1) := fun h => by rw [hS.wrap, hS.add, hS.ofN, hS.ofN, wrap_i64 (by omega) (by omega)]; omega
  have e5 : zZ 0 (zY k) = k := by rw [hS.idx, hS.ofN]; omega
  have e6 := zlt_nat hS.lt hS.ofN k n
  have e7 : ∀ x, zl .u32 (zx .u32 o) k x = zx .u32 (o.set k x) := fun x => by rw [hS.setI, hS.W, W_set]
  have e8 : k < n -> zX (zY k) n = true := fun h => by rw [hS.inb, hS.ofN]; exact decide_eq_true (by omega)
  have e9 : k < n -> zj .u32 (zx .u32 o) k = true := fun h => by rw [hS.isI, hS.W, W_isI]; exact decide_eq_true (by omega)
  have e9' : k < n -> zj .u32 r (zV (zY k)) = true := fun h => by rw [hS.isI, hr, hS.nat, hS.ofN, W_isI]; exact decide_eq_true (by omega)
  have e9'' : zP 0 (zY k) = true := by rw [hS.le, hS.ofN]; exact decide_eq_true (by omega)
  have e10 : zm 0 n (zx .u32 o) = true := by rw [hS.fit, hS.W, qa3]; exact decide_eq_true (by omega)
  have e11 : zn (zx .u32 o) 0 n = W .u32 o := by rw [hS.part, hS.W, W_part, List.drop_zero, List.take_of_length_le (by omega)]
  have hT := qa8 (r := W .u32 o) rfl (by omega) hw
  have hend : k = n -> val o = val l - val m := fun h => by
   subst h
   rw [List.take_of_length_le (by omega), List.take_of_length_le (by omega), List.take_of_length_le (by omega)] at hv
   have b1 := val_lt hw
   rw [ho] at b1
   have b7 := qam k
   rcases (show c = 0 ∨ c = 1 by omega) with rfl | rfl
   ·omega
   ·omega
  have hset : k < n -> val ((o.set k (t % 4294967296)).take (k + 1)) = val (o.take k) + 4294967296 ^ k * (t % 4294967296) := fun h => qaw _ (by omega)
  generalize hga : l.getD k 0 = a at *
  generalize hgb : m.getD k 0 = b at *
  cbv
  refine ⟨fun h => ?_, fun h => ?_⟩
  all_goals rw [h1] at h
  all_goals rw [e6] at h
  ·have h := of_decide_eq_true h
   refine nd e9'' (nd (e9' h) ?_)
   rw [e0]
   refine ⟨_, hS.call hwb, ?_⟩
   cbv
   rw [e1, e2, e3, e4 h, e5, e7]
   refine nd (e8 h) (nd (e9 h) ?_)
   refine again (s' := rtakSt r s (zx .u32 (o.set k (t % 4294967296))) n (1 - t / 4294967296) (zY (k + 1))) (m := j - 1) (by simp [leT, rtakSt, mkSt, vi, vl, vnil]) (by simp [leH, rtakSt, mkSt]) rfl (Nat.le_succ 2) (by omega) ⟨_, _, _, by omega, by simpa using ho, hw.set _ (by omega) (by omega), by omega, ?_, rfl⟩
   rw [hset h, qac l, qac m, Int.pow_succ, hga, hgb]
   exact hst
  ·have h := of_decide_eq_false h
   rw [e11]
   refine nd e10 ⟨_, hS.call hT, ?_⟩
   rw [hend (by omega)]
   generalize W .u32 (dg (val l - val m).toNat) = x at *
   cbv
   exact hF _ (ResLe.refl _)
open Go Go.Abs Go.Abs.M Go.Proofs
def rshoSt (r R : Abs.Rows) (d : Int) (len : Nat) (c i : Int) : St := mkSt 41 [vl r, vi .u64 d, .junk, .junk, vnil, vi .u64 0, .c (.sl 2 0 len false), vi .u64 c, vi .i64 i] [none, none, some (.rows 1 R true false)]
theorem rshortly_call {r : Abs.Rows} {l : List Int} (d q e : Int) (hr : r = W .u32 l) (hl : l.length <= 1099511627776) (hlw : Wd l) (hd : 0 < d) (hd2 : d < 4294967296) (hq : q = val l / d) (he : e = val l % d) :
  ACall Tryz.prog 137 [.val (tl r), .val (ti .u64 d)] ⟨[.val (tl (W .u32 (dg q.toNat))), .val (ti .u64 e)], [none, none]⟩ := by
 obtain ⟨n, hn⟩ : ∃ n : Nat, n = l.length := ⟨_, rfl⟩
 refine callZ ccOk mixed [.val, .val] Tryz.func137 rfl rfl (by kernel_rfl) fun zA zB zC zD zE zF zG zH zI zJ zK zL zM zN zO zP zQ zR zS zT zU zV zX zY zZ za zb zc zd ze zf zg zh zi zj zk zl zm zn zo zp zq zr zs zt zu zw zx zy A L F hS hF => ?_
 have h1 : zg r = n := by rw [hS.len, hr, qa3, hn]
 have hnn : zV (zY n) = n := by rw [hS.nat, hS.ofN]; omega
 have hrep : zq n [.v (.int .u32 0)] = zx .u32 (List.replicate n 0) := by rw [hS.rep, hS.W]; exact W_rep ..
 have hi0 : zA .i64 (zC (zY n) 1) = zC (zY n) 1 := by rw [hS.wrap, hS.sub, hS.ofN]; exact wrap_i64 (by omega) (by omega)
 have hdz : zN d 0 = true := by rw [hS.ne]; exact decide_eq_true (by omega)
 cbv
 rw [h1, hnn, hrep, hi0]
 refine nd (by rw [hS.mkok, hS.ofN]; exact decide_eq_true (by unfold capBytes; omega)) ?_
 refine loopZ ccOk mixed hS (fun (k : Nat) s' => ∃ (o : List Int) (c : Int), k <= n /\ o.length = n /\ Wd o /\ (0 <= c /\ c < d) /\ val (l.drop k) = d * val (o.drop k) + c /\ s' = rshoSt r (zx .u32 o) d n c (zC (zY k) 1)) (n := n)
  (s0 := rshoSt r (zx .u32 (List.replicate n 0)) d n 0 (zC (zY n) 1)) (qaj ?_ ?_) rfl (Nat.le_succ 2) ?_ ?_
 ·simp [leT, rshoSt, mkSt, vi, vl, vnil, hS.ofN]
 ·simp [leH, rshoSt, mkSt]
 ·refine ⟨_, 0, Nat.le_refl _, by simp, Wd.rep _, by omega, ?_, rfl⟩
  rw [List.drop_of_length_le (by omega), List.drop_of_length_le (by simp)]; simp [val]
 ·rintro k _ ⟨o, c, hk, ho, hw, hc, hv, rfl⟩
  have ga := hlw.get (k - 1)
  obtain ⟨t, ht⟩ : ∃ t, t = c * 4294967296 + l.getD (k - 1) 0 := ⟨_, rfl⟩
  have hst := short_step hv ht
  have hb := short_bound hd hc ga
  rw [<- ht] at hb
  have hcm : 0 <= c * 4294967296 /\ c * 4294967296 <= 4294967294 * 4294967296 := by omega
  have hmod := Int.emod_nonneg t (show d ≠ 0 by omega)
  have hmod2 := Int.emod_lt_of_pos t hd
  have hi : zC (zY k) 1 = (k : Int) - 1 := by rw [hS.sub, hS.ofN]
  have hz : zP 0 (zC (zY k) 1) = decide (1 <= k) := by
   rw [hS.le, hi]
   by_cases h : 1 <= k
   ·rw [decide_eq_true h]; exact decide_eq_true (by omega)
   ·rw [decide_eq_false h]; exact decide_eq_false (by omega)
  have hnt : 1 <= k -> zV (zC (zY k) 1) = k - 1 := fun h => by rw [hS.nat, hi]; omega
  have e0 : 1 <= k -> zk r (zV (zC (zY k) 1)) = l.getD (k - 1) 0 := fun h => by rw [hS.getI, hnt h, hr, W_getI]
  have e1 : zA .u64 (zB (zA .u64 (zD c 4294967296)) (zA .u64 (l.getD (k - 1) 0))) = t := by
   rw [hS.wrap, hS.wrap, hS.wrap, hS.mul, hS.add, qaa (x := l.getD (k - 1) 0) (by omega) (by omega), qaa (x := c * 4294967296) (by omega) (by omega), qaa (by omega) (by omega), ht]
  have e2 : zA .u32 (zA .u64 (zE t d)) = t / d := by rw [hS.quo, Int.tdiv_eq_ediv_of_nonneg (by omega), hS.wrap, hS.wrap, qaa (x := t / d) (by omega) (by omega)]; exact qbd (by omega) (by omega)
  have e3 : zF t d = t % d := by rw [hS.rem, Int.tmod_eq_emod_of_nonneg (by omega)]
  have e4 : 1 <= k -> zA .i64 (zC (zC (zY k) 1) 1) = zC (zY (k - 1)) 1 := fun h => by rw [hi, hS.wrap, hS.sub, hS.sub, hS.ofN, wrap_i64 (by omega) (by omega)]; omega
  have e5 : 1 <= k -> zZ 0 (zC (zY k) 1) = k - 1 := fun h => by rw [hS.idx, hi]; omega
  have e7 : ∀ x, zl .u32 (zx .u32 o) (k - 1) x = zx .u32 (o.set (k - 1) x) := fun x => by rw [hS.setI, hS.W, W_set]
  have e8 : 1 <= k -> zX (zC (zY k) 1) n = true := fun h => by rw [hS.inb, hi]; exact decide_eq_true (by omega)
  have e9 : 1 <= k -> zj .u32 (zx .u32 o) (k - 1) = true := fun h => by rw [hS.isI, hS.W, W_isI]; exact decide_eq_true (by omega)
  have e9' : 1 <= k -> zj .u32 r (zV (zC (zY k) 1)) = true := fun h => by rw [hS.isI, hr, hnt h, W_isI]; exact decide_eq_true (by omega)
  have e10 : zm 0 n (zx .u32 o) = true := by rw [hS.fit, hS.W, qa3]; exact decide_eq_true (by omega)
  have e11 : zn (zx .u32 o) 0 n = W .u32 o := by rw [hS.part, hS.W, W_part, List.drop_zero, List.take_of_length_le (by omega)]
  have hT := qa8 (r := W .u32 o) rfl (by omega) hw
  have hend : k = 0 -> val o = q /\ c = e := fun h => by
   subst h
   simp only [List.drop_zero] at hv
   rw [hq, he, hv]
   exact ⟨by rw [Int.add_comm, Int.add_mul_ediv_left _ _ (by omega), Int.ediv_eq_zero_of_lt hc.1 hc.2, Int.zero_add], by rw [Int.add_comm, Int.add_mul_emod_self_left, Int.emod_eq_of_lt hc.1 hc.2]⟩
  have hset : 1 <= k -> val (l.drop (k - 1)) = d * val ((o.set (k - 1) (t / d)).drop (k - 1)) + t % d := fun h => by
   rw [qag (l := l) (by omega), qag (l := o.set (k - 1) (t / d)) (by simp; omega), getD_set_self _ (by omega), qaz, show k - 1 + 1 = k by omega]
   exact hst
  generalize hga : l.getD (k - 1) 0 = a at *
  cbv
  refine ⟨fun h => ?_, fun h => ?_⟩
  ·have a1 := h
   rw [hz] at h
   have h := of_decide_eq_true h
   refine nd a1 (nd (e9' h) ?_)
   rw [e0 h, e1, e2, e3, e4 h, e5 h, e7]
   refine nd hdz (nd (e8 h) (nd (e9 h) (nd hdz ?_)))
   refine again (s' := rshoSt r (zx .u32 (o.set (k - 1) (t / d))) d n (t % d) (zC (zY (k - 1)) 1)) (m := k - 1) (by simp [leT, rshoSt, mkSt, vi, vl, vnil]) (by simp [leH, rshoSt, mkSt]) rfl (Nat.le_succ 2) (by omega) ⟨_, _, by omega, by simpa using ho, hw.set _ (by omega) (by omega), by omega, hset h, rfl⟩
  ·rw [hz] at h
   have h := of_decide_eq_false h
   rw [e11]
   obtain ⟨z1, z2⟩ := hend (by omega)
   refine nd e10 ⟨_, hS.call hT, ?_⟩
   rw [z1]
   generalize W .u32 (dg q.toNat) = x at *
   cbv
   exact fin2 hF rfl (tv_int z2)
def rtimSt (r s R : Abs.Rows) (len : Nat) (i : Int) : St := mkSt 69 [vl r, vl s, .junk, .junk, vnil, .c (.sl 2 0 len false), vi .i64 i] [none, none, some (.rows 1 R true false)]
def rtim2St (r s R : Abs.Rows) (len : Nat) (i c j : Int) : St := mkSt 69 [vl r, vl s, .junk, .junk, vnil, .c (.sl 2 0 len false), vi .i64 i, vi .u64 c, vi .i64 j] [none, none, some (.rows 1 R true false)]
theorem rtimes_call {r s : Abs.Rows} {l m : List Int} (hr : r = W .u32 l) (hs : s = W .u32 m) (hl : l.length <= 1099511627776) (hm : m.length <= 1099511627776) (hlw : Wd l) (hmw : Wd m) :
  ACall Tryz.prog 109 [.val (tl r), .val (tl s)] ⟨[.val (tl (W .u32 (dg (val l * val m).toNat)))], [none, none]⟩ := by
 obtain ⟨n, hn⟩ : ∃ n : Nat, n = l.length + m.length := ⟨_, rfl⟩
 refine callZ ccOk mixed [.val] Tryz.func109 rfl rfl (by kernel_rfl) fun zA zB zC zD zE zF zG zH zI zJ zK zL zM zN zO zP zQ zR zS zT zU zV zX zY zZ za zb zc zd ze zf zg zh zi zj zk zl zm zn zo zp zq zr zs zt zu zw zx zy A L F hS hF => ?_
 have h1 : zg r = l.length := by rw [hS.len, hr, qa3]
 have h2 : zg s = m.length := by rw [hS.len, hs, qa3]
 have hN : zA .i64 (zB (zY (zg r)) (zY (zg s))) = zY n := by
  rw [h1, h2, hS.wrap, hS.add, hS.ofN, hS.ofN, hS.ofN, hn, wrap_i64 (by omega) (by omega)]; omega
 have hnn : zV (zY n) = n := by rw [hS.nat, hS.ofN]; omega
 have hrep : zq n [.v (.int .u32 0)] = zx .u32 (List.replicate n 0) := by rw [hS.rep, hS.W]; exact W_rep ..
 cbv
 rw [hN, hnn, hrep]
 refine nd (by rw [hS.mkok, hS.ofN]; exact decide_eq_true (by unfold capBytes; omega)) ?_
 refine loopZ ccOk mixed hS (fun (u : Nat) s' => ∃ (k : Nat) (o : List Int), k + u = l.length /\ o.length = n /\ Wd o /\ val o = val (l.take k) * val m /\ s' = rtimSt r s (zx .u32 o) n (zY k)) (n := l.length)
  (s0 := rtimSt r s (zx .u32 (List.replicate n 0)) n (zY 0)) (qaj ?_ ?_) rfl (Nat.le_succ 2) ?_ ?_
 ·simp [leT, rtimSt, mkSt, vi, vl, vnil, hS.ofN]
 ·simp [leH, rtimSt, mkSt]
 ·exact ⟨0, _, by omega, by simp, Wd.rep _, by rw [val_rep]; simp [val], rfl⟩
 ·rintro u _ ⟨k, o, hk, ho, hw, hv, rfl⟩
  have gx := hlw.get k
  have e10 : zm 0 n (zx .u32 o) = true := by rw [hS.fit, hS.W, qa3]; exact decide_eq_true (by omega)
  have e11 : zn (zx .u32 o) 0 n = W .u32 o := by rw [hS.part, hS.W, W_part, List.drop_zero, List.take_of_length_le (by omega)]
  have hT := qa8 (r := W .u32 o) rfl (by omega) hw
  have e6 := zlt_nat hS.lt hS.ofN k l.length
  have e9' : k < l.length -> zj .u32 r (zV (zY k)) = true := fun h => by rw [hS.isI, hr, hS.nat, hS.ofN, W_isI]; exact decide_eq_true (by omega)
  have e9'' : zP 0 (zY k) = true := by rw [hS.le, hS.ofN]; exact decide_eq_true (by omega)
  have e0 : zk r (zV (zY k)) = l.getD k 0 := by rw [hS.getI, hS.nat, hS.ofN, hr, W_getI, Int.toNat_natCast]
  have ew : zA .u64 (l.getD k 0) = l.getD k 0 := by rw [hS.wrap, qaa (by omega) (by omega)]
  have hvk := qac l k
  have hend : k = l.length -> val o = val l * val m := fun h => by
   subst h
   rw [List.take_of_length_le (Nat.le_refl _)] at hv
   exact hv
  have htop : val o < 4294967296 ^ (k + m.length) := by
   rw [hv]
   have b := val_lt (hlw.take k)
   rw [List.length_take, Nat.min_eq_left (by omega)] at b
   exact mul_lt_pow (qad (hlw.take k)) (qad hmw) b (val_lt hmw)
  generalize hga : l.getD k 0 = x at *
  cbv
  refine ⟨fun h => ?_, fun h => ?_⟩
  all_goals rw [h1] at h
  all_goals rw [e6] at h
  ·have h := of_decide_eq_true h
   refine loopZ ccOk mixed hS (fun (u' : Nat) s' => ∃ (j : Nat) (o' : List Int) (c : Int), j + u' = m.length /\ o'.length = n /\ Wd o' /\ (0 <= c /\ c < 4294967296) /\ o'.drop (k + j) = o.drop (k + j) /\ val o' + c * 4294967296 ^ (k + j) = val o + x * 4294967296 ^ k * val (m.take j) /\ s' = rtim2St r s (zx .u32 o') n (zY k) c (zY j)) (n := m.length)
    (s0 := rtim2St r s (zx .u32 o) n (zY k) 0 (zY 0)) (qaj ?_ ?_) rfl (Nat.le_succ 2) ?_ ?_
   ·simp [leT, rtim2St, mkSt, vi, vl, vnil, hS.ofN]
   ·simp [leH, rtim2St, mkSt]
   ·exact ⟨0, _, 0, by omega, ho, hw, by omega, rfl, by simp [val], rfl⟩
   ·rintro u' _ ⟨j, o', c, hj, ho', hw', hc, hdr, hv', rfl⟩
    have gm := hmw.get j
    have gw := hw'.get (k + j)
    have hb := mul_bound gx gm gw hc
    obtain ⟨t, ht⟩ : ∃ t, t = x * m.getD j 0 + o'.getD (k + j) 0 + c := ⟨_, rfl⟩
    have hst := mul_step hv' ht (Int.pow_add 4294967296 k j)
    have f6 := zlt_nat hS.lt hS.ofN j m.length
    have f9 : j < m.length -> zj .u32 s (zV (zY j)) = true := fun h => by rw [hS.isI, hs, hS.nat, hS.ofN, W_isI]; exact decide_eq_true (by omega)
    have f9'' : zP 0 (zY j) = true := by rw [hS.le, hS.ofN]; exact decide_eq_true (by omega)
    have f0 : zk s (zV (zY j)) = m.getD j 0 := by rw [hS.getI, hS.nat, hS.ofN, hs, W_getI, Int.toNat_natCast]
    have f1 : j <= m.length -> zA .i64 (zB (zY k) (zY j)) = zY (k + j) := fun h => by rw [hS.wrap, hS.add, hS.ofN, hS.ofN, hS.ofN, wrap_i64 (by omega) (by omega)]; omega
    have f1' : zA .i64 (zB (zY k) (zY m.length)) = zY (k + m.length) := by rw [hS.wrap, hS.add, hS.ofN, hS.ofN, hS.ofN, wrap_i64 (by omega) (by omega)]; omega
    have f2 : ∀ q, zZ 0 (zY q) = q := fun q => by rw [hS.idx, hS.ofN]; omega
    have f3 : ∀ q, q < n -> zX (zY q) n = true := fun q hq => by rw [hS.inb, hS.ofN]; exact decide_eq_true (by omega)
    have f4 : ∀ q, q < n -> zj .u32 (zx .u32 o') q = true := fun q hq => by rw [hS.isI, hS.W, W_isI]; exact decide_eq_true (by omega)
    have f5 : ∀ q, zk (zx .u32 o') q = o'.getD q 0 := fun q => by rw [hS.getI, hS.W, W_getI]
    have f7 : ∀ q y, zl .u32 (zx .u32 o') q y = zx .u32 (o'.set q y) := fun q y => by rw [hS.setI, hS.W, W_set]
    have fw1 : zA .u64 (m.getD j 0) = m.getD j 0 := by rw [hS.wrap, qaa (by omega) (by omega)]
    have fw2 : zA .u64 (o'.getD (k + j) 0) = o'.getD (k + j) 0 := by rw [hS.wrap, qaa (by omega) (by omega)]
    have f8 : zA .u64 (zB (zA .u64 (zB (zA .u64 (zD x (m.getD j 0))) (o'.getD (k + j) 0))) c) = t := by
     rw [hS.wrap, hS.wrap, hS.wrap, hS.mul, hS.add, hS.add, qaa (x := x * m.getD j 0) (by omega) (by omega), qaa (x := x * m.getD j 0 + o'.getD (k + j) 0) (by omega) (by omega), qaa (by omega) (by omega), ht]
    have e2 : zA .u32 (zF t 4294967296) = t % 4294967296 := by rw [hS.rem, Int.tmod_eq_emod_of_nonneg (by omega), hS.wrap]; exact qbd (by omega) (by omega)
    have e3 : zA .u64 (zE t 4294967296) = t / 4294967296 := by rw [hS.quo, Int.tdiv_eq_ediv_of_nonneg (by omega), hS.wrap]; exact qaa (by omega) (by omega)
    have e3' : zA .u32 c = c := by rw [hS.wrap]; exact qbd (by omega) (by omega)
    have e4 : j < m.length -> zA .i64 (zB (zY j) 1) = zY (j + 1) := fun h => by rw [hS.wrap, hS.add, hS.ofN, hS.ofN, wrap_i64 (by omega) (by omega)]; omega
    have e4' : zA .i64 (zB (zY k) 1) = zY (k + 1) := by rw [hS.wrap, hS.add, hS.ofN, hS.ofN, wrap_i64 (by omega) (by omega)]; omega
    have hset : ∀ q y, q < n -> val (o'.set q y) = val o' + (y - o'.getD q 0) * 4294967296 ^ q := fun q y hq => val_set _ _ _ (by omega)
    have htz : j = m.length -> o'.getD (k + j) 0 = 0 := fun hj => by
     have e : o'.getD (k + j) 0 = o.getD (k + j) 0 := by
      have := congrArg (fun y => List.getD y 0 0) hdr
      simpa [List.getD_eq_getElem?_getD] using this
     rw [e, hj]
     exact top_zero hw (by omega) htop
    have htt : 0 <= t := by omega
    have htb : t < 18446744073709551616 := by omega
    have hmj := qac m j
    have hmm : j = m.length -> m.take j = m := fun h => List.take_of_length_le (by omega)
    clear ht hb
    generalize hgb : m.getD j 0 = y at *
    generalize hgc : o'.getD (k + j) 0 = w at *
    cbv
    refine ⟨fun h' => ?_, fun h' => ?_⟩
    all_goals rw [h2] at h'
    all_goals rw [f6] at h'
    ·have h' := of_decide_eq_true h'
     rw [f1 (by omega), f2, f0, e0, ew, fw1, f5, hgc, fw2, f8, e2, e3, e4 h', f7]
     refine nd e9'' (nd (e9' h) (nd f9'' (nd (f9 h') (nd (f3 _ (by omega)) (nd (f4 _ (by omega)) (nd (f3 _ (by omega)) (nd (f4 _ (by omega)) ?_)))))))
     refine again (s' := rtim2St r s (zx .u32 (o'.set (k + j) (t % 4294967296))) n (zY k) (t / 4294967296) (zY (j + 1))) (m := u' - 1) (by simp [leT, rtim2St, mkSt, vi, vl, vnil]) (by simp [leH, rtim2St, mkSt]) rfl (Nat.le_succ 2) (by omega)
      ⟨_, _, _, by omega, by simpa using ho', hw'.set _ (by omega) (by omega), by omega, ?_, ?_, rfl⟩
     ·rw [show k + (j + 1) = k + j + 1 by omega, qaz]
      have := congrArg (List.drop 1) hdr
      simpa [List.drop_drop] using this
     ·rw [hset _ _ (by omega), hgc, show k + (j + 1) = k + j + 1 by omega, Int.pow_succ, hmj]
      exact hst
    ·have h' := of_decide_eq_false h'
     have hjm : j = m.length := by omega
     rw [h2, f1', f2, e3', e4', f7]
     refine nd (f3 _ (by omega)) (nd (f4 _ (by omega)) ?_)
     refine again (s' := rtimSt r s (zx .u32 (o'.set (k + m.length) c)) n (zY (k + 1))) (m := u - 1) (by simp [leT, rtimSt, mkSt, vi, vl, vnil]) (by simp [leH, rtimSt, mkSt]) rfl (Nat.le_succ 2) (by omega)
      ⟨_, _, by omega, by simpa using ho', hw'.set _ (by omega) (by omega), ?_, rfl⟩
     have e := hset (k + j) c (by omega)
     rw [hgc, htz hjm] at e
     rw [hmm hjm, hv] at hv'
     rw [<- hjm, e, hvk]
     clear e hgc
     generalize val (List.take k l) = p1 at *
     generalize val m = p2 at *
     generalize val o' = p3 at *
     generalize (4294967296 : Int) ^ k = p4 at *
     generalize (4294967296 : Int) ^ (k + j) = p5 at *
     grind
  ·have h := of_decide_eq_false h
   rw [e11]
   refine nd e10 ⟨_, hS.call hT, ?_⟩
   rw [hend (by omega)]
   generalize W .u32 (dg (val l * val m).toNat) = z at *
   cbv
   exact hF _ (ResLe.refl _)
end Go.Proofs.YtdhidmcjglokcaaGreat
end
section
namespace Go.Abs
open Go.Abs.M
def IsM (n : Nat) (r : Rows) : Prop := r = W .u32 (dg n)
structure IsI (x : Int) (s : Bool) (r : Rows) : Prop where
 s : s = decide (x < 0)
 m : IsM x.natAbs r
theorem IsI.of {x y : Int} {s : Bool} {r : Rows} (h : IsI x s r) (e : x = y) : IsI y s r := e ▸ h
theorem IsI.inj {x : Int} {s t : Bool} {r q : Rows} (h : IsI x s r) (h' : IsI x t q) : s = t /\ r = q := ⟨h.s.trans h'.s.symm, h.m.trans h'.m.symm⟩
theorem IsM.len {n : Nat} {r : Rows} (h : IsM n r) : r.length = nl n := by rw [h, qa3]; rfl
end Go.Abs
end
section
namespace Go.Proofs.YtdhidmcjglokcaaGreat
open Go Go.Abs Go.Abs.M Go.Proofs
theorem rmadeM {n : Nat} {r : Abs.Rows} (s t : Bool) (hr : IsM n r) (hl : nl n <= 2199023255552) (ht : t = (s && decide (n ≠ 0))) : ACall Tryz.prog 101 [.val (tb s), .val (tl r)] ⟨[.val (.agg (iT t r))], [none, none]⟩ := by
 have h := rmade_call s t hr hl (qay n) (by
  rw [qao, ht]
  by_cases h : n = 0
  ·subst h; rfl
  ·rw [decide_eq_true h, decide_eq_true (by omega)])
 rw [qao, Int.toNat_natCast, <- hr] at h
 exact h
theorem IsI.made {x : Int} {r : Abs.Rows} (hr : IsM x.natAbs r) (t : Bool) (ht : t = decide (x < 0)) : IsI x t r := ⟨ht, hr⟩
theorem rof_call (n : Int) (h1 : -9223372036854775808 <= n) (h2 : n < 9223372036854775808) : ∃ u w, IsI n u w /\ ACall Tryz.prog 66 [.val (ti .i64 n)] ⟨[.val (.agg (iT u w))], [none]⟩ := by
 obtain ⟨w, hw⟩ : ∃ w, IsM n.natAbs w := ⟨_, rfl⟩
 have hl : nl n.natAbs <= 2 := qai (by omega)
 have hwords := rwords_call n.natAbs (by omega) (by omega)
 rw [Int.toNat_natCast, show W .u32 (dg n.natAbs) = w from hw.symm] at hwords
 refine ⟨_, w, ⟨rfl, hw⟩, ?_⟩
 refine callZ ccOk mixed [.val] Tryz.func66 rfl rfl (by kernel_rfl) fun zA zB zC zD zE zF zG zH zI zJ zK zL zM zN zO zP zQ zR zS zT zU zV zX zY zZ za zb zc zd ze zf zg zh zi zj zk zl zm zn zo zp zq zr zs zt zu zw zx zy A L F hS hF => ?_
 have e1 : n < 0 -> zA .u64 (zB (zA .u64 (zA .i64 (zC 0 (zA .i64 (zB n 1))))) 1) = n.natAbs := fun h => by
  rw [hS.wrap, hS.wrap, hS.wrap, hS.wrap, hS.add, hS.sub, hS.add, wrap_i64 (x := n + 1) (by omega) (by omega), wrap_i64 (by omega) (by omega), qaa (x := 0 - (n + 1)) (by omega) (by omega), qaa (by omega) (by omega)]; omega
 have e2 : ¬ n < 0 -> zA .u64 n = n.natAbs := fun h => by rw [hS.wrap, qaa (by omega) (by omega)]; omega
 have m1 := fun h => rmadeM true (decide (n < 0)) hw (by omega) h
 have m2 := fun h => rmadeM false (decide (n < 0)) hw (by omega) h
 cbv
 refine ⟨fun h => ?_, fun h => ?_⟩
 all_goals rw [hS.lt] at h
 ·have h' := of_decide_eq_true h
  rw [e1 h']
  refine ⟨_, hS.call hwords, ?_⟩
  have m := m1 (by rw [h, decide_eq_true (by omega)]; rfl)
  rw [h] at m hF
  cbv
  refine ⟨_, hS.call m, ?_⟩
  cbv
  exact hF _ (ResLe.refl _)
 ·have h' := of_decide_eq_false h
  rw [e2 h']
  refine ⟨_, hS.call hwords, ?_⟩
  have m := m2 (by rw [h]; rfl)
  rw [h] at m hF
  cbv
  refine ⟨_, hS.call m, ?_⟩
  cbv
  exact hF _ (ResLe.refl _)
theorem rsign_call {x : Int} {s : Bool} {r : Abs.Rows} (c : Int) (hx : IsI x s r) (hc : c = cmpI x 0) : ACall Tryz.prog 91 [.val (.agg (iT s r))] ⟨[.val (ti .i64 c)], [none]⟩ := by
 have hl : r.length = nl x.natAbs := hx.m.len
 have hz := @nl_zero x.natAbs
 refine callZ ccOk mixed [.val] Tryz.func91 rfl rfl (by kernel_rfl) fun zA zB zC zD zE zF zG zH zI zJ zK zL zM zN zO zP zQ zR zS zT zU zV zX zY zZ za zb zc zd ze zf zg zh zi zj zk zl zm zn zo zp zq zr zs zt zu zw zx zy A L F hS hF => ?_
 cbv
 rw [hx.s, hS.min, hS.ofN, hS.len, hl]
 refine ⟨fun h => fin1 hF (tv_int ?_), fun h => fin1 hF (tv_int ?_)⟩
 ·rw [hc, cmpI_lt (of_decide_eq_true h)]
 ·have := of_decide_eq_false h
  by_cases h0 : x = 0
  ·subst h0; rw [hc]; rfl
  ·rw [hc, cmpI_gt (by omega)]; split <;> omega
theorem rneg_call {x : Int} {s : Bool} {r : Abs.Rows} (hx : IsI x s r) (h1 : nl x.natAbs <= 2199023255552) : ∃ u w, IsI (-x) u w /\ ACall Tryz.prog 94 [.val (.agg (iT s r))] ⟨[.val (.agg (iT u w))], [none]⟩ := by
 obtain ⟨u, hu⟩ : ∃ u, u = decide (-x < 0) := ⟨_, rfl⟩
 refine ⟨u, r, ⟨hu, by rw [Int.natAbs_neg]; exact hx.m⟩, ?_⟩
 have m := rmadeM (!s) u hx.m h1 (by
  rw [hu, hx.s]
  rcases Int.lt_trichotomy x 0 with h | h | h
  ·rw [decide_eq_true h, decide_eq_false (by omega)]; rfl
  ·subst h; rfl
  ·rw [decide_eq_true (show -x < 0 by omega), decide_eq_false (show ¬ x < 0 by omega), decide_eq_true (show x.natAbs ≠ 0 by omega)]; rfl)
 refine callZ ccOk mixed [.val] Tryz.func94 rfl rfl (by kernel_rfl) fun zA zB zC zD zE zF zG zH zI zJ zK zL zM zN zO zP zQ zR zS zT zU zV zX zY zZ za zb zc zd ze zf zg zh zi zj zk zl zm zn zo zp zq zr zs zt zu zw zx zy A L F hS hF => ?_
 cbv
 rw [hS.not]
 refine ⟨_, hS.call m, ?_⟩
 cbv
 exact hF _ (ResLe.refl _)
theorem radd_call {x y : Int} {s t : Bool} {r q : Abs.Rows} (hx : IsI x s r) (hy : IsI y t q) (h1 : nl x.natAbs <= 549755813888) (h2 : nl y.natAbs <= 549755813888) :
  ∃ u w, IsI (x + y) u w /\ ACall Tryz.prog 77 [.val (.agg (iT s r)), .val (.agg (iT t q))] ⟨[.val (.agg (iT u w))], [none, none]⟩ := by
 obtain ⟨u, hu⟩ : ∃ u, u = decide (x + y < 0) := ⟨_, rfl⟩
 obtain ⟨w, hw⟩ : ∃ w, IsM (x + y).natAbs w := ⟨_, rfl⟩
 refine ⟨u, w, ⟨hu, hw⟩, ?_⟩
 have hb : nl (x + y).natAbs <= 1099511627776 := by
  have a := qbb (show (x + y).natAbs <= x.natAbs + y.natAbs by omega)
  have b := nl_add x.natAbs y.natAbs
  omega
 have hs := hx.s
 have ht := hy.s
 have cc := rcompared_call (cmpI x.natAbs y.natAbs) hx.m hy.m (by unfold nl at h1; omega) (by unfold nl at h2; omega) (qay _) (qay _) (dg_tr _) (dg_tr _) (by rw [qao, qao])
 have ca := radded_call hx.m hy.m (by unfold nl at h1; omega) (by unfold nl at h2; omega) (qay _) (qay _)
 have t1 := fun h h' => rtaken_call hx.m hy.m (by unfold nl at h1; omega) h (qay _) (qay _) h'
 have t2 := fun h h' => rtaken_call hy.m hx.m (by unfold nl at h2; omega) h (qay _) (qay _) h'
 simp only [qao] at ca t1 t2
 have m : ∀ s', u = (s' && decide ((x + y).natAbs ≠ 0)) -> _ := fun s' h => rmadeM s' u hw (by omega) h
 by_cases hst : s = t
 ·have e1 : W .u32 (dg ((x.natAbs : Int) + y.natAbs).toNat) = w := by
   rw [hw]; congr 2
   rw [hs, ht] at hst
   by_cases h : x < 0
   ·rw [decide_eq_true h] at hst; have := of_decide_eq_true hst.symm; omega
   ·rw [decide_eq_false h] at hst; have := of_decide_eq_false hst.symm; omega
  have ms := m s (by
   rw [hs, hu]
   rw [hs, ht] at hst
   by_cases h : x < 0
   ·rw [decide_eq_true h] at hst ⊢; have := of_decide_eq_true hst.symm; rw [decide_eq_true (by omega), decide_eq_true (by omega)]; rfl
   ·rw [decide_eq_false h] at hst ⊢; have := of_decide_eq_false hst.symm; rw [decide_eq_false (by omega)]; rfl)
  rw [e1] at ca
  clear t1 t2 m cc
  refine callZ ccOk mixed [.val] Tryz.func77 rfl rfl (by kernel_rfl) fun zA zB zC zD zE zF zG zH zI zJ zK zL zM zN zO zP zQ zR zS zT zU zV zX zY zZ za zb zc zd ze zf zg zh zi zj zk zl zm zn zo zp zq zr zs zt zu zw zx zy A L F hS hF => ?_
  cbv
  refine bT (by rw [hS.beq]; simpa using hst) ⟨_, hS.call ca, ?_⟩
  cbv
  refine ⟨_, hS.call ms, ?_⟩
  cbv
  exact hF _ (ResLe.refl _)
 ·have hst' : (decide (x < 0)) ≠ decide (y < 0) := by rw [<- hs, <- ht]; exact hst
  by_cases hlt : x.natAbs < y.natAbs
  ·have e1 : W .u32 (dg ((y.natAbs : Int) - x.natAbs).toNat) = w := by
    rw [hw]; congr 2
    by_cases h : x < 0 <;> by_cases h' : y < 0 <;> simp [h, h'] at hst' <;> omega
   have c := t2 (show nl x.natAbs <= nl y.natAbs from qbb (by omega)) (by omega)
   rw [e1] at c
   have ms := m t (by
    rw [ht, hu]
    rw [Bool.eq_iff_iff]
    by_cases h : x < 0 <;> by_cases h' : y < 0 <;> simp [h, h'] at hst' <;> simp [h'] <;> omega)
   have hcv : cmpI (x.natAbs : Int) y.natAbs = -1 := cmpI_lt (by omega)
   rw [hcv] at cc
   clear t1 t2 m ca
   refine callZ ccOk mixed [.val] Tryz.func77 rfl rfl (by kernel_rfl) fun zA zB zC zD zE zF zG zH zI zJ zK zL zM zN zO zP zQ zR zS zT zU zV zX zY zZ za zb zc zd ze zf zg zh zi zj zk zl zm zn zo zp zq zr zs zt zu zw zx zy A L F hS hF => ?_
   cbv
   refine bF (by rw [hS.beq]; simpa using hst) ⟨_, hS.call cc, ?_⟩
   cbv
   refine bT (by rw [hS.lt]; rfl) ⟨_, hS.call c, ?_⟩
   cbv
   refine ⟨_, hS.call ms, ?_⟩
   cbv
   exact hF _ (ResLe.refl _)
  ·have e1 : W .u32 (dg ((x.natAbs : Int) - y.natAbs).toNat) = w := by
    rw [hw]; congr 2
    by_cases h : x < 0 <;> by_cases h' : y < 0 <;> simp [h, h'] at hst' <;> omega
   have c := t1 (show nl y.natAbs <= nl x.natAbs from qbb (by omega)) (by omega)
   rw [e1] at c
   have ms := m s (by
    rw [hs, hu]
    rw [Bool.eq_iff_iff]
    by_cases h : x < 0 <;> by_cases h' : y < 0 <;> simp [h, h'] at hst' <;> simp [h] <;> omega)
   obtain ⟨v, hv, hv0⟩ : ∃ v, cmpI (x.natAbs : Int) y.natAbs = v /\ ¬ v < 0 := ⟨_, rfl, by
    unfold cmpI
    rw [if_neg (by omega)]
    split <;> omega⟩
   rw [hv] at cc
   clear t1 t2 m ca
   refine callZ ccOk mixed [.val] Tryz.func77 rfl rfl (by kernel_rfl) fun zA zB zC zD zE zF zG zH zI zJ zK zL zM zN zO zP zQ zR zS zT zU zV zX zY zZ za zb zc zd ze zf zg zh zi zj zk zl zm zn zo zp zq zr zs zt zu zw zx zy A L F hS hF => ?_
   cbv
   refine bF (by rw [hS.beq]; simpa using hst) ⟨_, hS.call cc, ?_⟩
   cbv
   refine bF (by rw [hS.lt]; exact decide_eq_false hv0) ⟨_, hS.call c, ?_⟩
   cbv
   refine ⟨_, hS.call ms, ?_⟩
   cbv
   exact hF _ (ResLe.refl _)
theorem rmul_call {x y : Int} {s t : Bool} {r q : Abs.Rows} (hx : IsI x s r) (hy : IsI y t q) (h1 : nl x.natAbs <= 549755813888) (h2 : nl y.natAbs <= 549755813888) :
  ∃ u w, IsI (x * y) u w /\ ACall Tryz.prog 78 [.val (.agg (iT s r)), .val (.agg (iT t q))] ⟨[.val (.agg (iT u w))], [none, none]⟩ := by
 obtain ⟨u, hu⟩ : ∃ u, u = decide (x * y < 0) := ⟨_, rfl⟩
 obtain ⟨w, hw⟩ : ∃ w, IsM (x * y).natAbs w := ⟨_, rfl⟩
 refine ⟨u, w, ⟨hu, hw⟩, ?_⟩
 have hb : nl (x * y).natAbs <= 1099511627776 := by
  rw [Int.natAbs_mul]
  have b := nl_mul x.natAbs y.natAbs
  omega
 have hs := hx.s
 have ht := hy.s
 have c := rtimes_call hx.m hy.m (by unfold nl at h1; omega) (by unfold nl at h2; omega) (qay _) (qay _)
 simp only [qao] at c
 have e1 : W .u32 (dg ((x.natAbs : Int) * y.natAbs).toNat) = w := by
  rw [hw]; congr 2
  rw [Int.natAbs_mul]
  have : ((x.natAbs : Int) * y.natAbs) = ((x.natAbs * y.natAbs : Nat) : Int) := by push_cast; rfl
  omega
 rw [e1] at c
 have ms := rmadeM (!(s == t)) u hw (by omega) (by
  rw [hu, hs, ht]
  rcases Int.lt_trichotomy x 0 with h | h | h
  ·rcases Int.lt_trichotomy y 0 with h' | h' | h'
   ·have := Int.mul_pos_of_neg_of_neg h h'
    simp [h, h']; omega
   ·subst h'; simp
   ·have := Int.mul_neg_of_neg_of_pos h h'
    have h2 : ¬ y < 0 := by omega
    simp [h, h2, this]; omega
  ·subst h; simp
  ·rcases Int.lt_trichotomy y 0 with h' | h' | h'
   ·have := Int.mul_neg_of_pos_of_neg h h'
    have h2 : ¬ x < 0 := by omega
    simp [h', h2, this]; omega
   ·subst h'; simp
   ·have := Int.mul_pos h h'
    have h2 : ¬ x < 0 := by omega
    have h3 : ¬ y < 0 := by omega
    have h4 : ¬ x * y < 0 := by omega
    simp [h2, h3, h4])
 refine callZ ccOk mixed [.val] Tryz.func78 rfl rfl (by kernel_rfl) fun zA zB zC zD zE zF zG zH zI zJ zK zL zM zN zO zP zQ zR zS zT zU zV zX zY zZ za zb zc zd ze zf zg zh zi zj zk zl zm zn zo zp zq zr zs zt zu zw zx zy A L F hS hF => ?_
 cbv
 refine ⟨_, hS.call c, ?_⟩
 cbv
 rw [hS.bne]
 refine ⟨_, hS.call ms, ?_⟩
 cbv
 exact hF _ (ResLe.refl _)
end Go.Proofs.YtdhidmcjglokcaaGreat
end
section
namespace Go.Abs.M
structure Kn (U V t u2 v1 v2 P lo lv : Int) : Prop where
 hP : 0 < P
 hU : U = (t * 4294967296 + u2) * P + lo
 hV : V = (v1 * 4294967296 + v2) * P + lv
 hlo : 0 <= lo /\ lo < P
 hlv : 0 <= lv /\ lv < P
 hu2 : 0 <= u2 /\ u2 < 4294967296
 hv2 : 0 <= v2 /\ v2 < 4294967296
 hv1 : 2147483648 <= v1 /\ v1 < 4294967296
 ht : 0 <= t
 hlt : U < V * 4294967296
section
variable {U V t u2 v1 v2 P lo lv q g : Int}
theorem Kn.t_lt (h : Kn U V t u2 v1 v2 P lo lv) : t < (v1 + 1) * 4294967296 := by
 obtain ⟨hP, hU, hV, hlo, hlv, hu2, hv2, hv1, ht, hlt⟩ := h
 rcases Int.lt_or_le t ((v1 + 1) * 4294967296) with h | h
 ·exact h
 ·exfalso
  have e1 : (v1 + 1) * 4294967296 * 4294967296 * P <= (t * 4294967296 + u2) * P := Int.mul_le_mul_of_nonneg_right (by omega) (by omega)
  have e2 : (v1 * 4294967296 + v2 + 1) * P <= (v1 + 1) * 4294967296 * P := Int.mul_le_mul_of_nonneg_right (by omega) (by omega)
  have e3 : (v1 * 4294967296 + v2 + 1) * P = (v1 * 4294967296 + v2) * P + P := by grind
  have e4 : (v1 + 1) * 4294967296 * 4294967296 * P = (v1 + 1) * 4294967296 * P * 4294967296 := by grind
  omega
theorem Kn.first (h : Kn U V t u2 v1 v2 P lo lv) (hq : q * V <= U) (hq0 : 0 <= q) : q <= t / v1 := by
 obtain ⟨hP, hU, hV, hlo, hlv, hu2, hv2, hv1, ht, hlt⟩ := h
 refine Int.le_ediv_of_mul_le (by omega) ?_
 rcases Int.lt_or_le t (q * v1) with h | h
 ·exfalso
  have e1 : (t + 1) * (4294967296 * P) <= q * v1 * (4294967296 * P) := Int.mul_le_mul_of_nonneg_right (by omega) (by omega)
  have e2 : q * (v1 * 4294967296 * P) <= q * V := Int.mul_le_mul_of_nonneg_left (by
   have : 0 <= v2 * P := Int.mul_nonneg (by omega) (by omega)
   have e : (v1 * 4294967296 + v2) * P = v1 * 4294967296 * P + v2 * P := by grind
   omega) hq0
  have e3 : q * v1 * (4294967296 * P) = q * (v1 * 4294967296 * P) := by grind
  have e4 : (t + 1) * (4294967296 * P) = t * 4294967296 * P + 4294967296 * P := by grind
  have e5 : (t * 4294967296 + u2) * P = t * 4294967296 * P + u2 * P := by grind
  have e6 : (u2 + 1) * P <= 4294967296 * P := Int.mul_le_mul_of_nonneg_right (by omega) (by omega)
  have e7 : (u2 + 1) * P = u2 * P + P := by grind
  omega
 ·exact h
theorem Kn.down (h : Kn U V t u2 v1 v2 P lo lv) (hq : q * V <= U) (hg : 0 <= g) (hqg : q <= g) (hbad : (t - g * v1) * 4294967296 + u2 < g * v2) : q <= g - 1 := by
 obtain ⟨hP, hU, hV, hlo, hlv, hu2, hv2, hv1, ht, hlt⟩ := h
 rcases Int.lt_or_le q g with h | h
 ·omega
 ·exfalso
  obtain rfl : q = g := by omega
  have e1 : (t * 4294967296 + u2 + 1) * P <= (q * (v1 * 4294967296 + v2)) * P := Int.mul_le_mul_of_nonneg_right (by grind) (by omega)
  have e2 : q * ((v1 * 4294967296 + v2) * P) <= q * V := Int.mul_le_mul_of_nonneg_left (by omega) hg
  have e3 : (q * (v1 * 4294967296 + v2)) * P = q * ((v1 * 4294967296 + v2) * P) := by grind
  have e4 : (t * 4294967296 + u2 + 1) * P = (t * 4294967296 + u2) * P + P := by grind
  omega
theorem Kn.near (h : Kn U V t u2 v1 v2 P lo lv) (hg0 : 0 <= g) (hg : g <= 4294967296) (hgood : g * v2 <= (t - g * v1) * 4294967296 + u2) : (g - 1) * V <= U := by
 obtain ⟨hP, hU, hV, hlo, hlv, hu2, hv2, hv1, ht, hlt⟩ := h
 rcases Int.lt_or_le 0 g with h0 | h0
 ·have e1 : (g * (v1 * 4294967296 + v2)) * P <= (t * 4294967296 + u2) * P := Int.mul_le_mul_of_nonneg_right (by grind) (by omega)
  have e2 : (g - 1) * V <= (g - 1) * ((v1 * 4294967296 + v2 + 1) * P) := Int.mul_le_mul_of_nonneg_left (by
   have : (v1 * 4294967296 + v2 + 1) * P = (v1 * 4294967296 + v2) * P + P := by grind
   omega) (by omega)
  have e3 : (g - 1) * ((v1 * 4294967296 + v2 + 1) * P) = (g * (v1 * 4294967296 + v2)) * P - (v1 * 4294967296 + v2 + 1 - g) * P := by grind
  have e4 : 0 <= (v1 * 4294967296 + v2 + 1 - g) * P := Int.mul_nonneg (by omega) (by omega)
  omega
 ·obtain rfl : g = 0 := by omega
  have hV0 : 0 <= V := by
   have : 0 <= (v1 * 4294967296 + v2) * P := Int.mul_nonneg (by omega) (by omega)
   omega
  have : 0 <= (t * 4294967296 + u2) * P := Int.mul_nonneg (by omega) (by omega)
  omega
end
theorem kn_of {u v : List Int} {n : Nat} (hn : 2 <= n) (hu : u.length = n + 1) (hv : v.length = n) (huw : Wd u) (hvw : Wd v) (htop : 2147483648 <= v.getD (n - 1) 0) (hlt : val u < val v * 4294967296) :
  Kn (val u) (val v) (u.getD n 0 * 4294967296 + u.getD (n - 1) 0) (u.getD (n - 2) 0) (v.getD (n - 1) 0) (v.getD (n - 2) 0) (4294967296 ^ (n - 2)) (val (u.take (n - 2))) (val (v.take (n - 2))) := by
 have a := qap u (n - 2) (by omega)
 rw [qag (by omega), qag (by omega), qag (by omega), show n - 2 + 1 = n - 1 by omega, show n - 1 + 1 = n by omega, List.drop_of_length_le (by omega)] at a
 have b := qap v (n - 2) (by omega)
 rw [qag (by omega), qag (by omega), show n - 2 + 1 = n - 1 by omega, show n - 1 + 1 = n by omega, List.drop_of_length_le (by omega)] at b
 have l1 := val_lt (huw.take (n - 2))
 have l2 := val_lt (hvw.take (n - 2))
 rw [List.length_take, Nat.min_eq_left (by omega)] at l1 l2
 have g1 := huw.get n
 have g2 := huw.get (n - 1)
 have g3 := huw.get (n - 2)
 have g4 := hvw.get (n - 1)
 have g5 := hvw.get (n - 2)
 simp only [val] at a b
 refine ⟨qam _, ?_, ?_, ⟨qad (huw.take _), l1⟩, ⟨qad (hvw.take _), l2⟩, g3, g5, ⟨htop, g4.2⟩, by omega, hlt⟩
 ·rw [a]; grind
 ·rw [b]; grind
theorem lessen_step {p t vo vu qv a m c br q pr : Int} (h : vo = vu - qv + (br + c) * p) (hp : pr = q * m + c) (ht : t = 4294967296 + a - pr % 4294967296 - br) :
  vo + p * (t % 4294967296) = (vu + p * a) - (qv + q * (p * m)) + (1 - t / 4294967296 + pr / 4294967296) * (p * 4294967296) := by
 have e1 : t % 4294967296 + 4294967296 * (t / 4294967296) = t := Int.emod_add_mul_ediv t 4294967296
 have e2 : pr % 4294967296 + 4294967296 * (pr / 4294967296) = pr := Int.emod_add_mul_ediv pr 4294967296
 generalize t % 4294967296 = r at *
 generalize t / 4294967296 = k at *
 generalize pr % 4294967296 = r' at *
 generalize pr / 4294967296 = k' at *
 grind
def wds : Nat -> Int -> List Int
 | 0, _ => []
 | n + 1, x => x % 4294967296 :: wds n (x / 4294967296)
theorem qa1 : ∀ (n : Nat) (x : Int), (wds n x).length = n
 | 0, _ => rfl
 | n + 1, x => by simp [wds, qa1 n]
theorem wds_wd : ∀ (n : Nat) (x : Int), Wd (wds n x)
 | 0, _ => Wd.nil
 | n + 1, x => Wd.cons (by omega) (by omega) (wds_wd n _)
theorem emod_split (x p : Int) (hp : 0 < p) : x % (p * 4294967296) = x % 4294967296 + 4294967296 * (x / 4294967296 % p) := by
 have e1 := Int.emod_add_mul_ediv x 4294967296
 have e2 := Int.emod_add_mul_ediv (x / 4294967296) p
 have b1 := Int.emod_nonneg x (show (4294967296 : Int) ≠ 0 by omega)
 have b2 := Int.emod_lt_of_pos x (show (0 : Int) < 4294967296 by omega)
 have b3 := Int.emod_nonneg (x / 4294967296) (show p ≠ 0 by omega)
 have b4 := Int.emod_lt_of_pos (x / 4294967296) hp
 generalize x % 4294967296 = r at *
 generalize x / 4294967296 % p = s at *
 generalize x / 4294967296 / p = k at *
 generalize x / 4294967296 = y at *
 have hx : x = (r + 4294967296 * s) + p * 4294967296 * k := by grind
 rw [hx, Int.add_mul_emod_self_left, Int.emod_eq_of_lt (by omega) (by
  have : 4294967296 * (s + 1) <= 4294967296 * p := Int.mul_le_mul_of_nonneg_left (by omega) (by omega)
  have e : 4294967296 * (s + 1) = 4294967296 * s + 4294967296 := by omega
  have e' : p * 4294967296 = 4294967296 * p := Int.mul_comm ..
  omega)]
theorem wds_val : ∀ (n : Nat) (x : Int), val (wds n x) = x % 4294967296 ^ n
 | 0, x => by simp [wds, val, Int.emod_one]
 | n + 1, x => by
  rw [wds, val, wds_val n, Int.pow_succ, emod_split x _ (qam n)]
theorem val_inj : ∀ {l m : List Int}, Wd l -> Wd m -> l.length = m.length -> val l = val m -> l = m
 | [], [], _, _, _, _ => rfl
 | [], _ :: _, _, _, h, _ => by simp at h
 | _ :: _, [], _, _, h, _ => by simp at h
 | x :: l, y :: m, hl, hm, h, hv => by
  have a := hl.head
  have b := hm.head
  simp only [val] at hv
  obtain ⟨rfl, hv'⟩ : x = y /\ val l = val m := by omega
  rw [val_inj hl.tail hm.tail (by simpa using h) hv']
theorem wds_of {l : List Int} {n : Nat} {x b : Int} (hw : Wd l) (hl : l.length = n) (hv : val l = x + b * 4294967296 ^ n) : l = wds n x := by
 refine val_inj hw (wds_wd _ _) (by rw [hl, qa1]) ?_
 rw [wds_val]
 have h1 := qad hw
 have h2 := val_lt hw
 rw [hl] at h2
 have : x = val l + 4294967296 ^ n * (-b) := by grind
 rw [this, Int.add_mul_emod_self_left, Int.emod_eq_of_lt h1 h2]
theorem wds_eq {n : Nat} {x : Int} (h0 : 0 <= x) (h1 : x < 4294967296 ^ n) : val (wds n x) = x := by rw [wds_val, Int.emod_eq_of_lt h0 h1]
def guessF (v1 v2 u2 : Int) : Nat -> Int -> Int -> Int
 | 0, q, _ => q
 | f + 1, q, e => if 4294967296 <= q ∨ e * 4294967296 + u2 < q * v2 then (if 4294967296 <= e + v1 then q - 1 else guessF v1 v2 u2 f (q - 1) (e + v1)) else q
theorem guessF_spec {U V t u2 v1 v2 P lo lv q : Int} (h : Kn U V t u2 v1 v2 P lo lv) (hq : q * V <= U) (hq0 : 0 <= q) (hqB : q < 4294967296) :
  ∀ (f : Nat) (g e : Int), e = t - g * v1 -> 0 <= e -> e < 4294967296 -> 4294967296 <= e + f * v1 -> q <= g -> g <= 4294967297 ->
   q <= guessF v1 v2 u2 f g e /\ guessF v1 v2 u2 f g e <= 4294967296 /\ (guessF v1 v2 u2 f g e - 1) * V <= U
 | 0, g, e, he, h0, h1, h2, h3, h4 => by simp at h2; omega
 | f + 1, g, e, he, h0, h1, h2, h3, h4 => by
  have hv1 := h.hv1
  have hu2 := h.hu2
  have hv2 := h.hv2
  simp only [guessF]
  by_cases hbad : 4294967296 <= g ∨ e * 4294967296 + u2 < g * v2
  ·rw [if_pos hbad]
   have hq' : q <= g - 1 := by
    rcases hbad with hb | hb
    ·omega
    ·exact h.down hq (by omega) h3 (by rw [<- he]; exact hb)
   by_cases hbr : 4294967296 <= e + v1
   ·rw [if_pos hbr]
    refine ⟨hq', by omega, h.near (by omega) (by omega) ?_⟩
    have e1 : t - (g - 1) * v1 = e + v1 := by grind
    rw [e1]
    have : (g - 1) * v2 <= 4294967296 * v2 := Int.mul_le_mul_of_nonneg_right (by omega) hv2.1
    omega
   ·rw [if_neg hbr]
    exact guessF_spec h hq hq0 hqB f (g - 1) (e + v1) (by grind) (by omega) (by omega) (by
     have : ((f + 1 : Nat) : Int) * v1 = f * v1 + v1 := by push_cast; grind
     omega) hq' (by omega)
  ·rw [if_neg hbad]
   have hb1 : g < 4294967296 := by omega
   have hb2 : g * v2 <= e * 4294967296 + u2 := by omega
   exact ⟨h3, by omega, h.near (by omega) (by omega) (by rw [<- he]; exact hb2)⟩
def guess0 (v1 v2 u2 t : Int) : Int := guessF v1 v2 u2 3 (t / v1) (t % v1)
theorem guess0_spec {U V t u2 v1 v2 P lo lv q : Int} (h : Kn U V t u2 v1 v2 P lo lv) (hq : q * V <= U) (hq0 : 0 <= q) (hqB : q < 4294967296) :
  q <= guess0 v1 v2 u2 t /\ guess0 v1 v2 u2 t <= 4294967296 /\ (guess0 v1 v2 u2 t - 1) * V <= U := by
 have hv1 := h.hv1
 have e := Int.emod_add_mul_ediv t v1
 have b1 := Int.emod_nonneg t (show v1 ≠ 0 by omega)
 have b2 := Int.emod_lt_of_pos t (show 0 < v1 by omega)
 refine guessF_spec h hq hq0 hqB 3 (t / v1) (t % v1) (by grind) b1 (by omega) (by push_cast; omega) (h.first hq hq0) ?_
 have := h.t_lt
 have : t / v1 < 4294967298 := Int.ediv_lt_of_lt_mul (by omega) (by omega)
 omega
end Go.Abs.M
end
section
namespace Go.Proofs.YtdhidmcjglokcaaGreat
open Go Go.Abs Go.Abs.M Go.Proofs
def rlesSt (r s : Abs.Rows) (len : Nat) (g c b i : Int) : St := mkSt 49 [.c (.sl 0 0 len false), vl s, vi .u64 g, .junk, .junk, .junk, vb false, vi .u64 c, vi .u64 b, vi .i64 i] [some (.rows 1 r false false), none, none]
theorem rlessen_call {r s r' : Abs.Rows} {u v : List Int} (g : Int) (b : Bool) (hr : r = W .u32 u) (hs : s = W .u32 v) (hul : u.length <= 1099511627776) (hvl : v.length < u.length) (huw : Wd u) (hvw : Wd v) (hg0 : 0 <= g) (hg : g <= 4294967296)
  (hr' : r' = W .u32 (wds u.length (val u - g * val v))) (hb : b = decide (val u - g * val v < 0)) :
  ACall Tryz.prog 139 [.bor 1 r, .val (tl s), .val (ti .u64 g)] ⟨[.val (tb b)], [some (.rows 1 r' false false), none, none]⟩ := by
 obtain ⟨n, hn⟩ : ∃ n : Nat, n = u.length := ⟨_, rfl⟩
 refine callZ ccOk mixed [.val] Tryz.func139 rfl rfl (by kernel_rfl) fun zA zB zC zD zE zF zG zH zI zJ zK zL zM zN zO zP zQ zR zS zT zU zV zX zY zZ za zb zc zd ze zf zg zh zi zj zk zl zm zn zo zp zq zr zs zt zu zw zx zy A L F hS hF => ?_
 have h1 : zg r = n := by rw [hS.len, hr, qa3, hn]
 have hrW : r = zx .u32 u := by rw [hS.W]; exact hr
 cbv
 rw [h1]
 refine loopZ ccOk mixed hS (fun (j : Nat) s' => ∃ (k : Nat) (o : List Int) (c b : Int), k + j = n /\ o.length = n /\ Wd o /\ (0 <= c /\ c < 4294967296) /\ (0 <= b /\ b <= 1) /\ (k = n -> c = 0) /\ o.drop k = u.drop k /\ val (o.take k) = val (u.take k) - g * val (v.take k) + (b + c) * 4294967296 ^ k /\ s' = rlesSt (zx .u32 o) s n g c b (zY k)) (n := n)
  (s0 := rlesSt (zx .u32 u) s n g 0 0 (zY 0)) (qaj ?_ ?_) rfl (Nat.le_refl 3) ?_ ?_
 ·simp [leT, rlesSt, mkSt, vi, vl, vb, hS.ofN]
 ·simp [leH, rlesSt, mkSt, hrW]
 ·exact ⟨0, u, 0, 0, by omega, hn.symm, huw, by omega, by omega, fun _ => rfl, rfl, by simp [val], rfl⟩
 ·rintro j _ ⟨k, o, c, b', hk, ho, hw, hc, hb', hcz, hdr, hv, rfl⟩
  have ga := huw.get k
  have gv := hvw.get k
  have hwb := rword_call (zY k) hs (by omega) hvw (by rw [hS.ofN]; omega)
  rw [show (zY k).toNat = k by rw [hS.ofN]; omega] at hwb
  have hgv : 0 <= g * v.getD k 0 /\ g * v.getD k 0 <= 4294967296 * 4294967295 := ⟨Int.mul_nonneg hg0 gv.1, Int.mul_le_mul hg (by omega) gv.1 (by omega)⟩
  obtain ⟨pr, hpr⟩ : ∃ pr, pr = g * v.getD k 0 + c := ⟨_, rfl⟩
  obtain ⟨t, ht⟩ : ∃ t, t = 4294967296 + u.getD k 0 - pr % 4294967296 - b' := ⟨_, rfl⟩
  have hst := lessen_step hv hpr ht
  have e5 : zZ 0 (zY k) = k := by rw [hS.idx, hS.ofN]; omega
  have hok : k < n -> o.getD k 0 = u.getD k 0 := fun h => by
   have := congrArg (fun y => List.getD y 0 0) hdr
   simpa [List.getD_eq_getElem?_getD] using this
  have e0 : k < n -> zk (zx .u32 o) k = u.getD k 0 := fun h => by rw [hS.getI, hS.W, W_getI, hok h]
  have eu : zA .u64 (u.getD k 0) = u.getD k 0 := by rw [hS.wrap, qaa (by omega) (by omega)]
  have f1 : zA .u64 (zB (zA .u64 (zD g (v.getD k 0))) c) = pr := by
   rw [hS.wrap, hS.wrap, hS.mul, hS.add, qaa (x := g * v.getD k 0) (by omega) (by omega), qaa (by omega) (by omega), hpr]
  have f2 : zF pr 4294967296 = pr % 4294967296 := by rw [hS.rem, Int.tmod_eq_emod_of_nonneg (by omega)]
  have f3 : zA .u64 (zE pr 4294967296) = pr / 4294967296 := by rw [hS.quo, Int.tdiv_eq_ediv_of_nonneg (by omega), hS.wrap]; exact qaa (by omega) (by omega)
  have e1 : zA .u64 (zC (zA .u64 (zC (zA .u64 (zB 4294967296 (u.getD k 0))) (zF pr 4294967296))) b') = t := by
   rw [f2, hS.wrap, hS.wrap, hS.wrap, hS.add, hS.sub, hS.sub, qaa (x := 4294967296 + u.getD k 0) (by omega) (by omega), qaa (x := 4294967296 + u.getD k 0 - pr % 4294967296) (by omega) (by omega), qaa (by omega) (by omega), ht]
  have e2 : zA .u32 (zF t 4294967296) = t % 4294967296 := by rw [hS.rem, Int.tmod_eq_emod_of_nonneg (by omega), hS.wrap]; exact qbd (by omega) (by omega)
  have e3 : zA .u64 (zC 1 (zA .u64 (zE t 4294967296))) = 1 - t / 4294967296 := by rw [hS.quo, Int.tdiv_eq_ediv_of_nonneg (by omega), hS.wrap, hS.wrap, qaa (x := t / 4294967296) (by omega) (by omega), hS.sub]; exact qaa (by omega) (by omega)
  have e4 : k < n -> zA .i64 (zB (zY k) 1) = zY (k + 1) := fun h => by rw [hS.wrap, hS.add, hS.ofN, hS.ofN, wrap_i64 (by omega) (by omega)]; omega
  have e6 := zlt_nat hS.lt hS.ofN k n
  have e7 : ∀ x, zl .u32 (zx .u32 o) k x = zx .u32 (o.set k x) := fun x => by rw [hS.setI, hS.W, W_set]
  have e8 : k < n -> zX (zY k) n = true := fun h => by rw [hS.inb, hS.ofN]; exact decide_eq_true (by omega)
  have e9 : k < n -> zj .u32 (zx .u32 o) k = true := fun h => by rw [hS.isI, hS.W, W_isI]; exact decide_eq_true (by omega)
  have e10 : za (zg (zx .u32 o)) (zg r) = true := by rw [h1, hS.neq, hS.len, hS.W, qa3]; exact decide_eq_true (by omega)
  have hend : k = n -> W .u32 o = r' /\ zM b' 1 = b := fun h => by
   subst h
   rw [List.take_of_length_le (by omega), List.take_of_length_le (by omega), List.take_of_length_le (by omega), hcz rfl, Int.add_zero] at hv
   refine ⟨?_, ?_⟩
   ·rw [hr', <- hn, wds_of hw ho hv]
   ·rw [hb, hS.eq]
    have b1 := val_lt hw
    rw [ho] at b1
    have b2 := qad hw
    rcases (show b' = 0 ∨ b' = 1 by omega) with rfl | rfl
    ·rw [decide_eq_false (by omega), decide_eq_false (by omega)]
    ·rw [decide_eq_true rfl, decide_eq_true (by omega)]
  have hset : k < n -> val ((o.set k (t % 4294967296)).take (k + 1)) = val (o.take k) + 4294967296 ^ k * (t % 4294967296) := fun h => qaw _ (by omega)
  have hlast : k + 1 = n -> pr / 4294967296 = 0 := fun h => by
   rw [hpr, List.getD_eq_getElem?_getD, List.getElem?_eq_none (by omega)]
   simp only [Option.getD_none, Int.mul_zero]
   omega
  have hprb : 0 <= pr / 4294967296 /\ pr / 4294967296 < 4294967296 := by omega
  have htb : 0 <= 1 - t / 4294967296 /\ 1 - t / 4294967296 <= 1 := by omega
  clear hgv hpr ht
  generalize hga : u.getD k 0 = a at *
  generalize hgb : v.getD k 0 = m at *
  cbv
  refine ⟨fun h => ?_, fun h => nd e10 ?_⟩
  all_goals rw [e6] at h
  ·have h := of_decide_eq_true h
   refine ⟨_, hS.call hwb, ?_⟩
   cbv
   rw [e5, e0 h, eu, f1, f3, e1, e2, e3, e4 h, e7]
   refine nd (e8 h) (nd (e9 h) (nd (e8 h) (nd (e9 h) ?_)))
   refine again (s' := rlesSt (zx .u32 (o.set k (t % 4294967296))) s n g (pr / 4294967296) (1 - t / 4294967296) (zY (k + 1))) (m := j - 1) (by simp [leT, rlesSt, mkSt, vi, vl, vb]) (by simp [leH, rlesSt, mkSt]) rfl (Nat.le_refl 3) (by omega)
    ⟨_, _, _, _, by omega, by simpa using ho, hw.set _ (by omega) (by omega), hprb, htb, hlast, ?_, ?_, rfl⟩
   ·rw [qaz]
    have := congrArg (List.drop 1) hdr
    simpa [List.drop_drop] using this
   ·rw [hset h, qac u, qac v, Int.pow_succ, hga, hgb, hst, Int.mul_add]
  ·have h := of_decide_eq_false h
   obtain ⟨z1, z2⟩ := hend (by omega)
   rw [z2, hS.W, z1]
   exact hF _ (ResLe.refl _)
def rresSt (r s : Abs.Rows) (len : Nat) (c i : Int) : St := mkSt 32 [.c (.sl 0 0 len false), vl s, .junk, .junk, vi .u64 c, vi .i64 i] [some (.rows 1 r false false), none]
theorem rrestore_call {r s r' : Abs.Rows} {u v : List Int} (hr : r = W .u32 u) (hs : s = W .u32 v) (hul : u.length <= 1099511627776) (hvl : v.length <= u.length) (huw : Wd u) (hvw : Wd v)
  (hr' : r' = W .u32 (wds u.length (val u + val v))) :
  ACall Tryz.prog 140 [.bor 1 r, .val (tl s)] ⟨[], [some (.rows 1 r' false false), none]⟩ := by
 obtain ⟨n, hn⟩ : ∃ n : Nat, n = u.length := ⟨_, rfl⟩
 refine callZ ccOk mixed [] Tryz.func140 rfl rfl (by kernel_rfl) fun zA zB zC zD zE zF zG zH zI zJ zK zL zM zN zO zP zQ zR zS zT zU zV zX zY zZ za zb zc zd ze zf zg zh zi zj zk zl zm zn zo zp zq zr zs zt zu zw zx zy A L F hS hF => ?_
 have h1 : zg r = n := by rw [hS.len, hr, qa3, hn]
 have hrW : r = zx .u32 u := by rw [hS.W]; exact hr
 cbv
 rw [h1]
 refine loopZ ccOk mixed hS (fun (j : Nat) s' => ∃ (k : Nat) (o : List Int) (c : Int), k + j = n /\ o.length = n /\ Wd o /\ (0 <= c /\ c <= 1) /\ o.drop k = u.drop k /\ val (o.take k) + c * 4294967296 ^ k = val (u.take k) + val (v.take k) /\ s' = rresSt (zx .u32 o) s n c (zY k)) (n := n)
  (s0 := rresSt (zx .u32 u) s n 0 (zY 0)) (qaj ?_ ?_) rfl (Nat.le_refl 2) ?_ ?_
 ·simp [leT, rresSt, mkSt, vi, vl, vb, hS.ofN]
 ·simp [leH, rresSt, mkSt, hrW]
 ·exact ⟨0, u, 0, by omega, hn.symm, huw, by omega, rfl, by simp [val], rfl⟩
 ·rintro j _ ⟨k, o, c, hk, ho, hw, hc, hdr, hv, rfl⟩
  have ga := huw.get k
  have gv := hvw.get k
  have hwb := rword_call (zY k) hs (by omega) hvw (by rw [hS.ofN]; omega)
  rw [show (zY k).toNat = k by rw [hS.ofN]; omega] at hwb
  obtain ⟨t, ht⟩ : ∃ t, t = u.getD k 0 + v.getD k 0 + c := ⟨_, rfl⟩
  have hst := add_step hv ht
  have e5 : zZ 0 (zY k) = k := by rw [hS.idx, hS.ofN]; omega
  have hok : k < n -> o.getD k 0 = u.getD k 0 := fun h => by
   have := congrArg (fun y => List.getD y 0 0) hdr
   simpa [List.getD_eq_getElem?_getD] using this
  have e0 : k < n -> zk (zx .u32 o) k = u.getD k 0 := fun h => by rw [hS.getI, hS.W, W_getI, hok h]
  have eu : zA .u64 (u.getD k 0) = u.getD k 0 := by rw [hS.wrap, qaa (by omega) (by omega)]
  have e1 : zA .u64 (zB (zA .u64 (zB (u.getD k 0) (v.getD k 0))) c) = t := by
   rw [hS.wrap, hS.add, hS.wrap, hS.add, qaa (x := u.getD k 0 + v.getD k 0) (by omega) (by omega), qaa (by omega) (by omega), ht]
  have e2 : zA .u32 (zF t 4294967296) = t % 4294967296 := by rw [hS.rem, Int.tmod_eq_emod_of_nonneg (by omega), hS.wrap]; exact qbd (by omega) (by omega)
  have e3 : zA .u64 (zE t 4294967296) = t / 4294967296 := by rw [hS.quo, Int.tdiv_eq_ediv_of_nonneg (by omega), hS.wrap]; exact qaa (by omega) (by omega)
  have e4 : k < n -> zA .i64 (zB (zY k) 1) = zY (k + 1) := fun h => by rw [hS.wrap, hS.add, hS.ofN, hS.ofN, wrap_i64 (by omega) (by omega)]; omega
  have e6 := zlt_nat hS.lt hS.ofN k n
  have e7 : ∀ x, zl .u32 (zx .u32 o) k x = zx .u32 (o.set k x) := fun x => by rw [hS.setI, hS.W, W_set]
  have e8 : k < n -> zX (zY k) n = true := fun h => by rw [hS.inb, hS.ofN]; exact decide_eq_true (by omega)
  have e9 : k < n -> zj .u32 (zx .u32 o) k = true := fun h => by rw [hS.isI, hS.W, W_isI]; exact decide_eq_true (by omega)
  have e10 : za (zg (zx .u32 o)) (zg r) = true := by rw [h1, hS.neq, hS.len, hS.W, qa3]; exact decide_eq_true (by omega)
  have hend : k = n -> W .u32 o = r' := fun h => by
   subst h
   rw [List.take_of_length_le (by omega), List.take_of_length_le (by omega), List.take_of_length_le (by omega)] at hv
   rw [hr', <- hn, wds_of (x := val u + val v) (b := -c) hw ho (by rw [Int.neg_mul]; omega)]
  have hset : k < n -> val ((o.set k (t % 4294967296)).take (k + 1)) = val (o.take k) + 4294967296 ^ k * (t % 4294967296) := fun h => qaw _ (by omega)
  have htb : 0 <= t / 4294967296 /\ t / 4294967296 <= 1 := by omega
  clear ht
  generalize hga : u.getD k 0 = a at *
  generalize hgb : v.getD k 0 = m at *
  cbv
  refine ⟨fun h => ?_, fun h => nd e10 ?_⟩
  all_goals rw [e6] at h
  ·have h := of_decide_eq_true h
   rw [e5]
   refine nd (e8 h) (nd (e9 h) ⟨_, hS.call hwb, ?_⟩)
   cbv
   rw [e5, e0 h, eu, e1, e2, e3, e4 h, e7]
   refine nd (e8 h) (nd (e9 h) ?_)
   refine again (s' := rresSt (zx .u32 (o.set k (t % 4294967296))) s n (t / 4294967296) (zY (k + 1))) (m := j - 1) (by simp [leT, rresSt, mkSt, vi, vl, vb]) (by simp [leH, rresSt, mkSt]) rfl (Nat.le_refl 2) (by omega)
    ⟨_, _, _, by omega, by simpa using ho, hw.set _ (by omega) (by omega), htb, ?_, ?_, rfl⟩
   ·rw [qaz]
    have := congrArg (List.drop 1) hdr
    simpa [List.drop_drop] using this
   ·rw [hset h, qac u, qac v, Int.pow_succ, hga, hgb]
    exact hst
  ·have h := of_decide_eq_false h
   rw [hS.W, hend (by omega)]
   exact hF _ (ResLe.refl _)
open Go Go.Abs Go.Abs.M Go.Proofs
def rgueSt (r s : Abs.Rows) (len : Nat) (n t q e : Int) : St := mkSt 75 [.c (.sl 0 0 len false), vl s, .junk, .junk, vi .u64 0, vi .i64 n, vi .u64 t, vi .u64 q, vi .u64 e] [some (.rows 1 r false false), none]
theorem rguess_call {r s : Abs.Rows} {u v : List Int} {n : Nat} (g : Int) (hr : r = W .u32 u) (hs : s = W .u32 v) (hu : u.length = n + 1) (hv : v.length = n) (hn : 2 <= n) (hn2 : n <= 1099511627776) (huw : Wd u) (hvw : Wd v) (htop : 2147483648 <= v.getD (n - 1) 0)
  (hg : g = guess0 (v.getD (n - 1) 0) (v.getD (n - 2) 0) (u.getD (n - 2) 0) (u.getD n 0 * 4294967296 + u.getD (n - 1) 0)) :
  ACall Tryz.prog 138 [.bor 1 r, .val (tl s)] ⟨[.val (ti .u64 g)], [some (.rows 1 r false false), none]⟩ := by
 have g1 := huw.get n
 have g2 := huw.get (n - 1)
 have g3 := huw.get (n - 2)
 have g4 := hvw.get (n - 1)
 have g5 := hvw.get (n - 2)
 obtain ⟨t, ht⟩ : ∃ t, t = u.getD n 0 * 4294967296 + u.getD (n - 1) 0 := ⟨_, rfl⟩
 rw [<- ht] at hg
 refine callZ ccOk mixed [.val] Tryz.func138 rfl rfl (by kernel_rfl) fun zA zB zC zD zE zF zG zH zI zJ zK zL zM zN zO zP zQ zR zS zT zU zV zX zY zZ za zb zc zd ze zf zg zh zi zj zk zl zm zn zo zp zq zr zs zt zu zw zx zy A L F hS hF => ?_
 have h1 : zg r = n + 1 := by rw [hS.len, hr, qa3, hu]
 have h2 : zg s = n := by rw [hS.len, hs, qa3, hv]
 have hrW : r = zx .u32 u := by rw [hS.W]; exact hr
 have w1 : zA .i64 (zC (zY n) 1) = zY (n - 1) := by rw [hS.wrap, hS.sub, hS.ofN, hS.ofN, wrap_i64 (by omega) (by omega)]; omega
 have w2 : zA .i64 (zC (zY n) 2) = zY (n - 2) := by rw [hS.wrap, hS.sub, hS.ofN, hS.ofN, wrap_i64 (by omega) (by omega)]; omega
 have f2 : ∀ q, zZ 0 (zY q) = q := fun q => by rw [hS.idx, hS.ofN]; omega
 have f3 : ∀ q, q < n + 1 -> zX (zY q) (zg r) = true := fun q hq => by rw [h1, hS.inb, hS.ofN]; exact decide_eq_true (by omega)
 have f4 : ∀ q, q < n + 1 -> zj .u32 r q = true := fun q hq => by rw [hS.isI, hr, W_isI]; exact decide_eq_true (by omega)
 have f5 : ∀ q, zk r q = u.getD q 0 := fun q => by rw [hS.getI, hr, W_getI]
 have f6 : ∀ q, zP 0 (zY q) = true := fun q => by rw [hS.le, hS.ofN]; exact decide_eq_true (by omega)
 have f7 : ∀ q, q < n -> zj .u32 s (zV (zY q)) = true := fun q hq => by rw [hS.isI, hs, hS.nat, hS.ofN, W_isI]; exact decide_eq_true (by omega)
 have f8 : ∀ q, zk s (zV (zY q)) = v.getD q 0 := fun q => by rw [hS.getI, hS.nat, hS.ofN, hs, W_getI, Int.toNat_natCast]
 have eu : ∀ q, zA .u64 (u.getD q 0) = u.getD q 0 := fun q => by have := huw.get q; rw [hS.wrap, qaa (by omega) (by omega)]
 have ev : ∀ q, zA .u64 (v.getD q 0) = v.getD q 0 := fun q => by have := hvw.get q; rw [hS.wrap, qaa (by omega) (by omega)]
 have et : zA .u64 (zB (zA .u64 (zD (u.getD n 0) 4294967296)) (u.getD (n - 1) 0)) = t := by
  rw [hS.wrap, hS.wrap, hS.mul, hS.add, qaa (x := u.getD n 0 * 4294967296) (by omega) (by omega), qaa (by omega) (by omega), ht]
 have htb : 0 <= t /\ t < 18446744073709551616 := by omega
 have hnz : zN (v.getD (n - 1) 0) 0 = true := by rw [hS.ne]; exact decide_eq_true (by omega)
 have hq0 : 0 <= t / v.getD (n - 1) 0 := Int.ediv_nonneg (by omega) (by omega)
 have hq1 : t / v.getD (n - 1) 0 < 8589934592 := Int.ediv_lt_of_lt_mul (by omega) (by omega)
 have hm0 := Int.emod_nonneg t (show v.getD (n - 1) 0 ≠ 0 by omega)
 have hm1 := Int.emod_lt_of_pos t (show 0 < v.getD (n - 1) 0 by omega)
 have eq : zA .u64 (zE t (v.getD (n - 1) 0)) = t / v.getD (n - 1) 0 := by rw [hS.quo, Int.tdiv_eq_ediv_of_nonneg (by omega), hS.wrap]; exact qaa (by omega) (by omega)
 have er : zF t (v.getD (n - 1) 0) = t % v.getD (n - 1) 0 := by rw [hS.rem, Int.tmod_eq_emod_of_nonneg (by omega)]
 have hstart : guessF (v.getD (n - 1) 0) (v.getD (n - 2) 0) (u.getD (n - 2) 0) 3 (t / v.getD (n - 1) 0) (t % v.getD (n - 1) 0) = g := hg.symm
 have e10 : za (zg r) (zg r) = true := by rw [hS.neq]; exact decide_eq_true rfl
 clear hg ht
 generalize ha1 : v.getD (n - 1) 0 = v1 at *
 generalize ha2 : v.getD (n - 2) 0 = v2 at *
 generalize ha3 : u.getD (n - 2) 0 = u2 at *
 generalize ha4 : u.getD n 0 = u0 at *
 generalize ha5 : u.getD (n - 1) 0 = u1 at *
 have eu0 := eu n
 have eu1 := eu (n - 1)
 have eu2 := eu (n - 2)
 have ev1 := ev (n - 1)
 have ev2 := ev (n - 2)
 rw [ha4] at eu0
 rw [ha5] at eu1
 rw [ha3] at eu2
 rw [ha1] at ev1
 rw [ha2] at ev2
 cbv
 rw [h2, w1, f2, f2, f5, f5, f8, ha1, ha4, ha5, eu0, eu1, ev1, et, eq, er]
 refine nd (f3 _ (by omega)) (nd (f4 _ (by omega)) (nd (f3 _ (by omega)) (nd (f4 _ (by omega)) (nd (f6 _) (nd (f7 _ (by omega)) (nd hnz (nd (f6 _) (nd (f7 _ (by omega)) (nd hnz ?_)))))))))
 generalize t / v1 = q0 at *
 generalize t % v1 = m0 at *
 refine loopZ ccOk mixed hS (fun (j : Nat) s' => ∃ (q e : Int), 0 <= q /\ q < 8589934592 /\ 0 <= e /\ e < 4294967296 /\ guessF v1 v2 u2 j q e = g /\ 4294967296 <= e + j * v1 /\ s' = rgueSt r s (zg r) (zY n) t q e) (n := 3)
  (s0 := rgueSt r s (zg r) (zY n) t q0 m0) (qaj ?_ ?_) rfl (Nat.le_refl 2) ?_ ?_
 ·simp [leT, rgueSt, mkSt, vi, vl, vb, hS.ofN]
 ·simp [leH, rgueSt, mkSt]
 ·exact ⟨q0, m0, hq0, hq1, hm0, by omega, hstart, by push_cast; omega, rfl⟩
 ·rintro j _ ⟨q, e, b1, b2, b3, b4, hgF, hme, rfl⟩
  have j0 : j ≠ 0 := by
   rintro rfl
   simp at hme
   omega
  obtain ⟨j, rfl⟩ : ∃ i, j = i + 1 := ⟨j - 1, by omega⟩
  have hme' : 4294967296 <= (e + v1) + j * v1 := by
   have : ((j + 1 : Nat) : Int) * v1 = j * v1 + v1 := by push_cast; grind
   omega
  simp only [guessF] at hgF
  have x1 : zP 4294967296 q = decide (4294967296 <= q) := by rw [hS.le]
  have x2 : zA .u64 (zB e v1) = e + v1 := by rw [hS.wrap, hS.add]; exact qaa (by omega) (by omega)
  have x3 : zP 4294967296 (e + v1) = decide (4294967296 <= e + v1) := by rw [hS.le]
  have x4 : 0 < q -> zA .u64 (zC q 1) = q - 1 := fun h => by rw [hS.wrap, hS.sub]; exact qaa (by omega) (by omega)
  have hq2 : q < 4294967296 -> 0 <= q * v2 /\ q * v2 <= 4294967295 * 4294967295 := fun h => ⟨Int.mul_nonneg b1 g5.1, Int.mul_le_mul (by omega) (by omega) g5.1 (by omega)⟩
  have x5 : q < 4294967296 -> zO (zA .u64 (zB (zA .u64 (zD e 4294967296)) u2)) (zA .u64 (zD q v2)) = decide (e * 4294967296 + u2 < q * v2) := fun h => by
   have := hq2 h
   rw [hS.lt, hS.wrap, hS.wrap, hS.wrap, hS.mul, hS.mul, hS.add, qaa (x := e * 4294967296) (by omega) (by omega), qaa (x := e * 4294967296 + u2) (by omega) (by omega), qaa (x := q * v2) (by omega) (by omega)]
  have hpos : e * 4294967296 + u2 < q * v2 -> 0 < q := fun h => by
   rcases Int.lt_or_le 0 q with h' | h'
   ·exact h'
   ·obtain rfl : q = 0 := by omega
    omega
  have fin : ∀ x : Int, x = g -> F ⟨[.val (.c (.v (.int .u64 x)))], [some (.rows 1 r false false), none]⟩ := fun x hx => by rw [hx]; exact hF _ (ResLe.refl _)
  have step : (4294967296 <= q ∨ e * 4294967296 + u2 < q * v2) -> ¬ 4294967296 <= e + v1 -> 0 < q -> ∀ (T : List AV) (H : Heap), leT T (rgueSt r s (zg r) (zY n) t (q - 1) (e + v1)).tmps -> leH H (rgueSt r s (zg r) (zY n) t (q - 1) (e + v1)).heap -> ∃ s' : St, (St.mk T H).Le s' /\ s'.refsLt = true /\ [Arg.bor 1 r, Arg.val (tl s)].length <= s'.heap.length /\ ∃ m, m < j + 1 /\ ∃ (q e : Int), 0 <= q /\ q < 8589934592 /\ 0 <= e /\ e < 4294967296 /\ guessF v1 v2 u2 m q e = g /\ 4294967296 <= e + m * v1 /\ s' = rgueSt r s (zg r) (zY n) t q e := fun hb hc hp T H hT hH => by
   rw [if_pos hb, if_neg hc] at hgF
   exact ⟨_, qaj hT hH, rfl, Nat.le_refl 2, j, by omega, q - 1, e + v1, by omega, by omega, by omega, by omega, hgF, hme', rfl⟩
  cbv
  rw [w1, w2, f2, f8, f8, f5, ha1, ha2, ha3, ev1, ev2, eu2, x2]
  refine ⟨fun h => ?_, fun h => ?_⟩
  all_goals rw [x1] at h
  ·have h := of_decide_eq_true h
   rw [x4 (by omega)]
   refine nd (f6 _) (nd (f7 _ (by omega)) ⟨fun h' => nd e10 (fin _ ?_), fun h' => ?_⟩)
   all_goals rw [x3] at h'
   ·rw [if_pos (.inl h), if_pos (of_decide_eq_true h')] at hgF
    exact hgF
   ·exact step (.inl h) (of_decide_eq_false h') (by omega) _ _ (by simp [leT, rgueSt, mkSt, vi, vl, vb]) (by simp [leH, rgueSt, mkSt])
  ·have h := of_decide_eq_false h
   refine nd (f6 _) (nd (f7 _ (by omega)) (nd (f3 _ (by omega)) (nd (f4 _ (by omega)) ⟨fun h'' => ?_, fun h'' => nd e10 (fin _ ?_)⟩)))
   all_goals rw [x5 (by omega)] at h''
   ·have h'' := of_decide_eq_true h''
    have hp := hpos h''
    rw [x4 hp]
    refine nd (f6 _) (nd (f7 _ (by omega)) ⟨fun h' => nd e10 (fin _ ?_), fun h' => ?_⟩)
    all_goals rw [x3] at h'
    ·rw [if_pos (.inr h''), if_pos (of_decide_eq_true h')] at hgF
     exact hgF
    ·exact step (.inr h'') (of_decide_eq_false h') hp _ _ (by simp [leT, rgueSt, mkSt, vi, vl, vb]) (by simp [leH, rgueSt, mkSt])
   ·have h'' := of_decide_eq_false h''
    rw [if_neg (by omega)] at hgF
    exact hgF
end Go.Proofs.YtdhidmcjglokcaaGreat
end
section
namespace Go.Abs.M
def setRg (l : List Int) (c : Nat) (xs : List Int) : List Int := l.take c ++ xs ++ l.drop (c + xs.length)
theorem val_take_eq {l : List Int} {p : Nat} (hw : Wd l) (h : val l < 4294967296 ^ p) : val (l.take p) = val l /\ val (l.drop p) = 0 := by
 rcases Nat.lt_or_ge l.length p with hp | hp
 ·rw [List.take_of_length_le (by omega), List.drop_of_length_le (by omega)]; exact ⟨rfl, rfl⟩
 ·have e := qap l p hp
  have a := qad (hw.take p)
  have b := qad (hw.drop p)
  have hq := qam p
  rcases Int.lt_or_le 0 (val (l.drop p)) with h0 | h0
  ·exfalso
   have : 4294967296 ^ p * 1 <= 4294967296 ^ p * val (l.drop p) := Int.mul_le_mul_of_nonneg_left (by omega) (by omega)
   omega
  ·have hz : val (l.drop p) = 0 := by omega
   rw [hz] at e
   exact ⟨by omega, hz⟩
structure DInv (U V : Int) (n m k : Nat) (u q : List Int) : Prop where
 ul : u.length = n + m + 1
 ql : q.length = m + 1
 uw : Wd u
 qw : Wd q
 hk : k <= m + 1
 eq : U = val u + V * 4294967296 ^ k * val (q.drop k)
 lt : val (u.drop k) < V
def dpart (n j : Nat) (u : List Int) : List Int := (u.drop j).take (n + 1)
section
variable {U V : Int} {n m j : Nat} {u q v : List Int}
theorem DInv.part_val (h : DInv U V n m (j + 1) u q) (hV : V < 4294967296 ^ n) : val (dpart n j u) = val (u.drop j) /\ val (u.drop (j + (n + 1))) = 0 /\ val (dpart n j u) < V * 4294967296 := by
 have hj := h.hk
 have hul := h.ul
 have hlt := h.lt
 have e := qag (l := u) (k := j) (by omega)
 have hw := h.uw.get j
 have hb : val (u.drop j) < V * 4294967296 := by omega
 have hb2 : val (u.drop j) < 4294967296 ^ (n + 1) := by rw [Int.pow_succ]; omega
 obtain ⟨a, b⟩ := val_take_eq (h.uw.drop j) hb2
 refine ⟨a, ?_, by unfold dpart; omega⟩
 rw [List.drop_drop] at b
 exact b
theorem dpart_length (hu : u.length = n + m + 1) (hj : j <= m) : (dpart n j u).length = n + 1 := by unfold dpart; simp; omega
theorem setRg_length {c : Nat} {xs l : List Int} (h : c + xs.length <= l.length) : (setRg l c xs).length = l.length := by unfold setRg; simp; omega
theorem setRg_wd {c : Nat} {xs l : List Int} (hl : Wd l) (hx : Wd xs) : Wd (setRg l c xs) := ((hl.take c).append hx).append (hl.drop _)
theorem val_setRg {c : Nat} {xs l : List Int} (h : c + xs.length <= l.length) : val (setRg l c xs) = val (l.take c) + 4294967296 ^ c * (val xs + 4294967296 ^ xs.length * val (l.drop (c + xs.length))) := by
 unfold setRg
 rw [List.append_assoc, val_append, val_append, List.length_take, Nat.min_eq_left (by omega)]
theorem drop_setRg {c : Nat} {xs l : List Int} (h : c + xs.length <= l.length) : (setRg l c xs).drop c = xs ++ l.drop (c + xs.length) := by
 unfold setRg
 rw [List.append_assoc, List.drop_append_of_le_length (by simp; omega), List.drop_of_length_le (by simp; omega)]
 rfl
theorem DInv.step (h : DInv U V n m (j + 1) u q) (hV : V < 4294967296 ^ n) (hV0 : 0 < V) {d : Int} (hd : d = val (dpart n j u) / V) :
  0 <= d /\ d < 4294967296 /\ DInv U V n m j (setRg u j (wds (n + 1) (val (dpart n j u) - d * V))) (q.set j d) := by
 obtain ⟨p1, p2, p3⟩ := h.part_val hV
 have hj := h.hk
 have hul := h.ul
 have hpw : Wd (dpart n j u) := (h.uw.drop j).take _
 have hp0 := qad hpw
 have hd0 : 0 <= d := by rw [hd]; exact Int.ediv_nonneg hp0 (by omega)
 have hd1 : d < 4294967296 := by rw [hd]; exact Int.ediv_lt_of_lt_mul hV0 (by rw [Int.mul_comm]; exact p3)
 have hm0 := Int.emod_nonneg (val (dpart n j u)) (show V ≠ 0 by omega)
 have hm1 := Int.emod_lt_of_pos (val (dpart n j u)) hV0
 have hme := Int.emod_add_mul_ediv (val (dpart n j u)) V
 rw [<- hd] at hme
 have hpow : (4294967296 : Int) ^ (n + 1) = 4294967296 ^ n * 4294967296 := Int.pow_succ ..
 have hpp := qam n
 have hx : val (wds (n + 1) (val (dpart n j u) - d * V)) = val (dpart n j u) - d * V := wds_eq (by
  have : d * V = V * d := Int.mul_comm ..
  omega) (by
  have : d * V = V * d := Int.mul_comm ..
  omega)
 have hwl := qa1 (n + 1) (val (dpart n j u) - d * V)
 have hfit : j + (wds (n + 1) (val (dpart n j u) - d * V)).length <= u.length := by rw [hwl]; omega
 refine ⟨hd0, hd1, ⟨by rw [setRg_length hfit]; exact hul, by simpa using h.ql, setRg_wd h.uw (wds_wd _ _), h.qw.set _ hd0 hd1, by omega, ?_, ?_⟩⟩
 ·have e1 := val_setRg hfit
  rw [hwl, hx, p2, Int.mul_zero, Int.add_zero] at e1
  have e2 := qap u j (by omega)
  rw [<- p1] at e2
  have e3 : val ((q.set j d).drop j) = d + 4294967296 * val (q.drop (j + 1)) := by
   have hql := h.ql
   rw [qag (by simp; omega), getD_set_self _ (by omega), qaz]
  rw [e1, e3, h.eq, e2, Int.pow_succ]
  grind
 ·rw [drop_setRg hfit, val_append, hwl, hx, p2]
  have : d * V = V * d := Int.mul_comm ..
  omega
end
theorem digit_of {X V g d : Int} (hV : 0 < V) (hd : d = X / V) (h1 : d <= g) (h2 : (g - 1) * V <= X) : (X - g * V < 0 -> g - 1 = d) /\ (¬ X - g * V < 0 -> g = d) := by
 have e := Int.emod_add_mul_ediv X V
 have b1 := Int.emod_nonneg X (show V ≠ 0 by omega)
 have b2 := Int.emod_lt_of_pos X hV
 rw [<- hd] at e
 have hg : g <= d + 1 := by
  rcases Int.lt_or_le (d + 1) g with h | h
  ·exfalso
   have : (d + 1) * V <= (g - 1) * V := Int.mul_le_mul_of_nonneg_right (by omega) (by omega)
   have e2 : (d + 1) * V = V * d + V := by grind
   omega
  ·exact h
 refine ⟨fun h => ?_, fun h => ?_⟩
 ·rcases (show g = d ∨ g = d + 1 by omega) with rfl | rfl
  ·have : g * V = V * g := Int.mul_comm ..
   omega
  ·omega
 ·rcases (show g = d ∨ g = d + 1 by omega) with rfl | rfl
  ·rfl
  ·have e2 : (d + 1) * V = V * d + V := by grind
   omega
theorem wds_back {n : Nat} {x y : Int} : wds n (val (wds n x) + y) = wds n (x + y) := by
 refine val_inj (wds_wd _ _) (wds_wd _ _) (by rw [qa1, qa1]) ?_
 rw [wds_val, wds_val, wds_val, Int.emod_add_emod]
theorem DInv.start {U V : Int} {n m : Nat} {u : List Int} (hu : u.length = n + m + 1) (hw : Wd u) (hU : val u = U) (hlt : U < V * 4294967296 ^ (m + 1)) : DInv U V n m (m + 1) u (List.replicate (m + 1) 0) := by
 refine ⟨hu, by simp, hw, Wd.rep _, Nat.le_refl _, ?_, ?_⟩
 ·rw [List.drop_of_length_le (by simp)]; simp [val, hU]
 ·have e := qap u (m + 1) (by omega)
  have a := qad (hw.take (m + 1))
  rcases Int.lt_or_le (val (u.drop (m + 1))) V with h | h
  ·exact h
  ·exfalso
   have : 4294967296 ^ (m + 1) * V <= 4294967296 ^ (m + 1) * val (u.drop (m + 1)) := Int.mul_le_mul_of_nonneg_left h (by have := qam (m + 1); omega)
   have e2 : V * 4294967296 ^ (m + 1) = 4294967296 ^ (m + 1) * V := Int.mul_comm ..
   omega
theorem DInv.last {a b d : Int} {n m : Nat} {u q : List Int} (h : DInv (d * a) (d * b) n m 0 u q) (hd : 0 < d) (hb : 0 < b) : val q = a / b /\ val u / d = a % b := by
 have e := h.eq
 have l := h.lt
 simp only [List.drop_zero, Int.pow_zero, Int.mul_one] at e l
 have hu := qad h.uw
 have e1 : val u = d * (a - b * val q) := by grind
 have r0 : 0 <= a - b * val q := by
  rcases Int.lt_or_le (a - b * val q) 0 with h | h
  ·have := Int.mul_neg_of_pos_of_neg hd h; omega
  ·exact h
 have r1 : a - b * val q < b := by
  rcases Int.lt_or_le (a - b * val q) b with h | h
  ·exact h
  ·have := Int.mul_le_mul_of_nonneg_left h (show 0 <= d by omega)
   omega
 have hq : a / b = val q /\ a % b = a - b * val q := by
  have e2 : a = (a - b * val q) + b * val q := by omega
  refine ⟨?_, ?_⟩
  ·conv => lhs; rw [e2]
   rw [Int.add_mul_ediv_left _ _ (by omega), Int.ediv_eq_zero_of_lt r0 r1, Int.zero_add]
  ·conv => lhs; rw [e2]
   rw [Int.add_mul_emod_self_left, Int.emod_eq_of_lt r0 r1]
 refine ⟨hq.1.symm, ?_⟩
 rw [hq.2, e1, Int.mul_ediv_cancel_left _ (by omega)]
theorem norm_ok {b w d : Int} {n : Nat} (hw0 : 1 <= w) (hw1 : w < 4294967296) (hd : d = 4294967296 / (w + 1)) (h1 : w * 4294967296 ^ n <= b) (h2 : b < (w + 1) * 4294967296 ^ n) :
  1 <= d /\ d < 4294967296 /\ 2147483648 * 4294967296 ^ n <= d * b /\ d * b < 4294967296 * 4294967296 ^ n := by
 have e := Int.emod_add_mul_ediv 4294967296 (w + 1)
 have b1 := Int.emod_nonneg 4294967296 (show w + 1 ≠ 0 by omega)
 have b2 := Int.emod_lt_of_pos 4294967296 (show 0 < w + 1 by omega)
 rw [<- hd] at e
 have hp := qam n
 have d1 : 1 <= d := by
  rw [hd]
  exact Int.le_ediv_of_mul_le (by omega) (by omega)
 have d2 : d < 4294967296 := by
  rw [hd]
  exact Int.ediv_lt_of_lt_mul (by omega) (by omega)
 have big : 2147483648 <= d * w := by
  rcases (show d = 1 ∨ 2 <= d by omega) with h | h
  ·rw [h] at e ⊢; omega
  ·rcases (show w = 1 ∨ 2 <= w by omega) with h' | h'
   ·subst h'; omega
   ·have : 2 * (w - 1) <= d * (w - 1) := Int.mul_le_mul_of_nonneg_right h (by omega)
    have e1 : d * (w - 1) = d * w - d := by grind
    have e2 : (w + 1) * d = d * w + d := by grind
    omega
 refine ⟨d1, d2, ?_, ?_⟩
 ·have x1 : d * (w * 4294967296 ^ n) <= d * b := Int.mul_le_mul_of_nonneg_left h1 (by omega)
  have x2 : 2147483648 * 4294967296 ^ n <= d * w * 4294967296 ^ n := Int.mul_le_mul_of_nonneg_right big (by omega)
  have x3 : d * w * 4294967296 ^ n = d * (w * 4294967296 ^ n) := by grind
  omega
 ·have x1 : d * b < d * ((w + 1) * 4294967296 ^ n) := Int.mul_lt_mul_of_pos_left h2 (by omega)
  have x2 : (w + 1) * d * 4294967296 ^ n <= 4294967296 * 4294967296 ^ n := Int.mul_le_mul_of_nonneg_right (by omega) (by omega)
  have x3 : (w + 1) * d * 4294967296 ^ n = d * ((w + 1) * 4294967296 ^ n) := by grind
  omega
theorem top_word {l : List Int} {n : Nat} (hw : Wd l) (hl : l.length = n + 1) : l.getD n 0 * 4294967296 ^ n <= val l /\ val l < (l.getD n 0 + 1) * 4294967296 ^ n := by
 have e := qap l n (by omega)
 rw [qag (by omega), List.drop_of_length_le (by omega)] at e
 have a := qad (hw.take n)
 have b := val_lt (hw.take n)
 rw [List.length_take, Nat.min_eq_left (by omega)] at b
 simp only [val] at e
 have x1 : (l.getD n 0 + 1) * 4294967296 ^ n = l.getD n 0 * 4294967296 ^ n + 4294967296 ^ n := by grind
 have x2 : 4294967296 ^ n * (l.getD n 0 + 4294967296 * 0) = l.getD n 0 * 4294967296 ^ n := by grind
 omega
theorem dpart_setRg {n j : Nat} {u x : List Int} (hx : x.length = n + 1) (h : j + (n + 1) <= u.length) : dpart n j (setRg u j x) = x := by
 unfold dpart
 rw [drop_setRg (by omega), List.take_append_of_le_length (by omega), List.take_of_length_le (by omega)]
theorem setRg_self {n j : Nat} {u : List Int} (h : j + (n + 1) <= u.length) : setRg u j (dpart n j u) = u := by
 unfold setRg dpart
 rw [List.length_take, List.length_drop, Nat.min_eq_left (by omega)]
 have e : List.drop (j + (n + 1)) u = List.drop (n + 1) (List.drop j u) := by rw [List.drop_drop]
 rw [e, List.append_assoc, List.take_append_drop, List.take_append_drop]
theorem setRg_setRg {j : Nat} {u x y : List Int} (hxy : x.length = y.length) (h : j + x.length <= u.length) : setRg (setRg u j x) j y = setRg u j y := by
 have e1 : (setRg u j x).take j = u.take j := by
  unfold setRg
  rw [List.append_assoc, List.take_append_of_le_length (by simp; omega), List.take_of_length_le (by simp; omega)]
 have e2 : (setRg u j x).drop (j + y.length) = u.drop (j + y.length) := by
  have := drop_setRg h
  rw [<- List.drop_drop, this, List.drop_append_of_le_length (by omega), List.drop_of_length_le (by omega), hxy]
  rfl
 show (setRg u j x).take j ++ y ++ (setRg u j x).drop (j + y.length) = setRg u j y
 rw [e1, e2]
 rfl
theorem fill_val {n : Nat} {x : List Int} (h : x.length <= n) (hw : Wd x) : val (setRg (List.replicate n 0) 0 x) = val x /\ (setRg (List.replicate n 0) 0 x).length = n /\ Wd (setRg (List.replicate n 0) 0 x) := by
 refine ⟨?_, by rw [setRg_length (by simp; omega)]; simp, setRg_wd (Wd.rep _) hw⟩
 rw [val_setRg (by simp; omega)]
 simp [val, val_rep]
end Go.Abs.M
namespace Go.Abs.M
theorem div_round {U V : Int} {n m j : Nat} {u q lv : List Int} (hI : DInv U V n m (j + 1) u q) (hn : 2 <= n) (llv : lv.length = n) (wlv : Wd lv) (vlv : val lv = V) (htop : 2147483648 <= lv.getD (n - 1) 0) :
  ∃ (g qd : Int) (b : Bool) (x1 : List Int), g = guess0 (lv.getD (n - 1) 0) (lv.getD (n - 2) 0) ((dpart n j u).getD (n - 2) 0) ((dpart n j u).getD n 0 * 4294967296 + (dpart n j u).getD (n - 1) 0) /\ 0 <= g /\ g <= 4294967296 /\ 0 <= qd /\ qd < 4294967296 /\
   b = decide (val (dpart n j u) - g * val lv < 0) /\ x1 = wds (n + 1) (val (dpart n j u) - g * val lv) /\ x1.length = n + 1 /\ Wd x1 /\ j <= m /\ u.length = n + m + 1 /\ q.length = m + 1 /\ (dpart n j u).length = n + 1 /\ Wd (dpart n j u) /\
   (b = true -> g - 1 = qd /\ ∃ x2, x2 = wds x1.length (val x1 + val lv) /\ x2.length = n + 1 /\ DInv U V n m j (setRg u j x2) (q.set j qd)) /\
   (b = false -> g = qd /\ DInv U V n m j (setRg u j x1) (q.set j qd)) := by
 have hVlt : V < 4294967296 ^ n := by rw [<- vlv, <- llv]; exact val_lt wlv
 have hV0 : 0 < V := by
  have h1 := (top_word wlv (n := n - 1) (by omega)).1
  rw [vlv] at h1
  have h2 := Int.mul_pos (show 0 < lv.getD (n - 1) 0 by omega) (qam (n - 1))
  omega
 have hj := hI.hk
 have hul := hI.ul
 obtain ⟨p1, p2, p3⟩ := hI.part_val hVlt
 obtain ⟨X, hX⟩ : ∃ X, X = val (dpart n j u) := ⟨_, rfl⟩
 obtain ⟨qd, hqd⟩ : ∃ qd, qd = X / V := ⟨_, rfl⟩
 obtain ⟨s1, s2, s3⟩ := hI.step hVlt hV0 (hX ▸ hqd)
 have pl := dpart_length (n := n) hul (show j <= m by omega)
 have pw : Wd (dpart n j u) := (hI.uw.drop j).take _
 have hX0 := qad pw
 rw [<- hX] at hX0 p3 s3
 have hkn := kn_of hn pl llv pw wlv htop (by rw [vlv, <- hX]; exact p3)
 obtain ⟨g, hg⟩ : ∃ g, g = guess0 (lv.getD (n - 1) 0) (lv.getD (n - 2) 0) ((dpart n j u).getD (n - 2) 0) ((dpart n j u).getD n 0 * 4294967296 + (dpart n j u).getD (n - 1) 0) := ⟨_, rfl⟩
 obtain ⟨k1, k2, k3⟩ := guess0_spec (q := qd) hkn (by rw [vlv, <- hX, hqd]; exact Int.ediv_mul_le _ (by omega)) s1 s2
 rw [<- hg] at k1 k2 k3
 rw [vlv, <- hX] at k3
 obtain ⟨d1, d2⟩ := digit_of hV0 hqd k1 k3
 refine ⟨g, qd, _, _, hg, by omega, k2, s1, s2, rfl, rfl, qa1 _ _, wds_wd _ _, by omega, hul, hI.ql, pl, pw, fun h => ?_, fun h => ?_⟩
 ·rw [vlv, <- hX] at h
  have hq := d1 (of_decide_eq_true h)
  refine ⟨hq, _, rfl, by rw [qa1, qa1], ?_⟩
  rw [qa1, wds_back, vlv, <- hX, show X - g * V + V = X - qd * V by rw [show g = qd + 1 by omega]; grind]
  exact s3
 ·rw [vlv, <- hX] at h
  have hq := d2 (of_decide_eq_false h)
  refine ⟨hq, ?_⟩
  rw [vlv, <- hX, hq]
  exact s3
end Go.Abs.M
end
section
namespace Go.Proofs.YtdhidmcjglokcaaGreat
open Go Go.Abs Go.Abs.M Go.Proofs
def rdivSt (r s v U Q : Abs.Rows) (ul ql : Nat) (n d j : Int) : St := mkSt 110 [vl r, vl s, .junk, .junk, vnil, vnil, .junk, .junk, vi .i64 n, vi .u64 d, vl v, .c (.sl 8 0 ul false), .c (.sl 13 0 ql false), vi .i64 j] [none, none, none, none, none, none, none, none, some (.rows 1 U true false), none, none, none, none, some (.rows 1 Q true false)]
theorem rdivided_walk {r s w v y A2 A3 : Abs.Rows} {U V w1 d c : Int} {n la m l1 m1 n1 n' : Nat} {lr ls lv lu u0 : List Int}
  (hr : r = W .u32 lr) (hs : s = W .u32 ls) (hv : v = W .u32 lv) (hy : y = W .u32 lu) (lrl : lr.length = la) (lsl : ls.length = n) (hsz : la <= 549755813888) (hn : 2 <= n) (hm : la = n + m) (hl1 : l1 = la + 1) (hm1 : m1 = m + 1) (hn1 : n1 = n + 1) (hn' : n = n' + 1)
  (hw1 : ls.getD n' 0 = w1) (hw1b : 1 <= w1 /\ w1 < 4294967296) (hd : 4294967296 / (w1 + 1) = d) (hdb : 1 <= d /\ d < 4294967296) (hc : ¬ c < 0) (llu : lu.length <= l1) (hu0 : setRg (List.replicate l1 0) 0 lu = u0)
  (llv : lv.length = n) (wlv : Wd lv) (vlv : val lv = V) (htop : 2147483648 <= lv.getD (n - 1) 0)
  (hstart : DInv U V n m (m + 1) u0 (List.replicate m1 0))
  (cc : ACall Tryz.prog 107 [.val (tl r), .val (tl s)] ⟨[.val (ti .i64 c)], [none, none]⟩)
  (c1 : ACall Tryz.prog 102 [.val (ti .u64 d)] ⟨[.val (tl w)], [none]⟩)
  (c2 : ACall Tryz.prog 109 [.val (tl s), .val (tl w)] ⟨[.val (tl v)], [none, none]⟩)
  (c3 : ACall Tryz.prog 109 [.val (tl r), .val (tl w)] ⟨[.val (tl y)], [none, none]⟩)
  (hlast : ∀ u q, DInv U V n m 0 u q -> ∃ (A1 : Abs.Rows) (A4 : Int), ACall Tryz.prog 120 [.val (tl (W .u32 u))] ⟨[.val (tl A1)], [none]⟩ /\ ACall Tryz.prog 120 [.val (tl (W .u32 q))] ⟨[.val (tl A2)], [none]⟩ /\
   ACall Tryz.prog 137 [.val (tl A1), .val (ti .u64 d)] ⟨[.val (tl A3), .val (ti .u64 A4)], [none, none]⟩) :
  ACall Tryz.prog 130 [.val (tl r), .val (tl s)] ⟨[.val (tl A2), .val (tl A3)], [none, none]⟩ := by
 refine callZ ccOk mixed [.val, .val] Tryz.func130 rfl rfl (by kernel_rfl) fun zA zB zC zD zE zF zG zH zI zJ zK zL zM zN zO zP zQ zR zS zT zU zV zX zY zZ za zb zc zd ze zf zg zh zi zj zk zl zm zn zo zp zq zr zs zt zu zw zx zy A L F hS hF => ?_
 have z1 : zg r = la := by rw [hS.len, hr, qa3, lrl]
 have z2 : zg s = n := by rw [hS.len, hs, qa3, lsl]
 have z3 : zA .i64 (zC (zY n) 1) = zY n' := by rw [hS.wrap, hS.sub, hS.ofN, hS.ofN, wrap_i64 (by omega) (by omega)]; omega
 have z4 : zk s (zV (zY n')) = w1 := by rw [hS.getI, hS.nat, hS.ofN, hs, W_getI, Int.toNat_natCast, hw1]
 have z5 : zA .u64 (zB (zA .u64 w1) 1) = w1 + 1 := by rw [hS.wrap, hS.wrap, qaa (x := w1) (by omega) (by omega), hS.add]; exact qaa (by omega) (by omega)
 have z6 : zA .u64 (zE 4294967296 (w1 + 1)) = d := by rw [hS.quo, Int.tdiv_eq_ediv_of_nonneg (by omega), hd, hS.wrap]; exact qaa (by omega) (by omega)
 have z7 : zA .i64 (zB (zY la) 1) = zY l1 := by rw [hS.wrap, hS.add, hS.ofN, hS.ofN, wrap_i64 (by omega) (by omega)]; omega
 have z8 : zA .i64 (zC (zY la) (zY n)) = zC (zY (m + 1)) 1 := by rw [hS.wrap, hS.sub, hS.ofN, hS.ofN, hS.sub, hS.ofN, wrap_i64 (by omega) (by omega)]; omega
 have z9 : zA .i64 (zB (zC (zY (m + 1)) 1) 1) = zY m1 := by rw [hS.wrap, hS.add, hS.sub, hS.ofN, hS.ofN, wrap_i64 (by omega) (by omega)]; omega
 have znt : ∀ k, zV (zY k) = k := fun k => by rw [hS.nat, hS.ofN]; omega
 have hrep : ∀ k, zq k [.v (.int .u32 0)] = zx .u32 (List.replicate k 0) := fun k => by rw [hS.rep, hS.W]; exact W_rep ..
 have hy0 : zp (zx .u32 (List.replicate l1 0)) 0 y = zx .u32 u0 := by rw [hS.setg, hS.W, hy, W_setg, <- hu0]; rfl
 have zyl : zg y = lu.length := by rw [hS.len, hy, qa3]
 have o1 : zO c 0 = false := by rw [hS.lt]; exact decide_eq_false hc
 have o2 : zM (zY n) 1 = false := by rw [hS.eq, hS.ofN]; exact decide_eq_false (by omega)
 have o3 : zP 0 (zY n') = true := by rw [hS.le, hS.ofN]; exact decide_eq_true (by omega)
 have o4 : zj .u32 s (zV (zY n')) = true := by rw [hS.isI, znt, hs, W_isI]; exact decide_eq_true (by omega)
 have o5 : zN (w1 + 1) 0 = true := by rw [hS.ne]; exact decide_eq_true (by omega)
 have o6 : zf (zY l1) (zY l1) 4 = true := by rw [hS.mkok, hS.ofN]; exact decide_eq_true (by unfold capBytes; omega)
 have o7 : zm 0 l1 (zx .u32 (List.replicate l1 0)) = true := by rw [hS.fit, hS.W, qa3]; exact decide_eq_true (by simp)
 have o8 : zr 1 y = true := by rw [hS.wide, hy]; exact W_wide _ _
 have o9 : zP (zY (zg y)) (zY l1) = true := by rw [hS.le, hS.ofN, hS.ofN, zyl]; exact decide_eq_true (by omega)
 have o10 : zf (zY m1) (zY m1) 4 = true := by rw [hS.mkok, hS.ofN]; exact decide_eq_true (by unfold capBytes; omega)
 clear hr hs lrl lsl hw1 hw1b hd hc llu hu0 hy zyl
 cbv
 refine ⟨_, hS.call cc, ?_⟩
 cbv
 rw [z2, z3, z4, z5]
 refine bF o1 (bF o2 (nd o3 (nd o4 (nd o5 ?_))))
 rw [z6]
 refine ⟨_, hS.call c1, ?_⟩
 cbv
 refine ⟨_, hS.call c2, ?_⟩
 cbv
 rw [z1, z7, znt, hrep]
 refine nd o6 ?_
 refine ⟨_, hS.call c1, ?_⟩
 cbv
 refine ⟨_, hS.call c3, ?_⟩
 cbv
 rw [hy0, z1, z8, z9, znt, hrep]
 refine nd o7 (nd o8 (nd o9 (nd o10 ?_)))
 clear z2 z3 z4 z5 z6 z7 z8 z9 o1 o2 o3 o4 o5 o6 o7 o8 o9 o10 cc c1 c2 c3 hy0
 refine loopZ ccOk mixed hS (fun (k : Nat) s' => ∃ (u q : List Int), DInv U V n m k u q /\ s' = rdivSt r s v (zx .u32 u) (zx .u32 q) l1 m1 (zY n) d (zC (zY k) 1)) (n := m + 1)
  (s0 := rdivSt r s v (zx .u32 u0) (zx .u32 (List.replicate m1 0)) l1 m1 (zY n) d (zC (zY (m + 1)) 1)) (qaj ?_ ?_) rfl (by show 2 <= 14; omega) ?_ ?_
 ·simp [leT, rdivSt, mkSt, vi, vl, vnil]
 ·simp [leH, rdivSt, mkSt]
 ·exact ⟨u0, _, hstart, rfl⟩
 ·clear hstart
  rintro k _ ⟨u, q, hI, rfl⟩
  cases k with
  | zero =>
   obtain ⟨A1, A4, t1, t2, t3⟩ := hlast u q hI
   have hul := hI.ul
   have hql := hI.ql
   have hz : zP 0 (zC (zY 0) 1) = false := by rw [hS.le, hS.sub, hS.ofN]; rfl
   have e10 : zm 0 l1 (zx .u32 u) = true := by rw [hS.fit, hS.W, qa3]; exact decide_eq_true (by omega)
   have e11 : zn (zx .u32 u) 0 l1 = W .u32 u := by rw [hS.part, hS.W, W_part, List.drop_zero, List.take_of_length_le (by omega)]
   have e12 : zm 0 m1 (zx .u32 q) = true := by rw [hS.fit, hS.W, qa3]; exact decide_eq_true (by omega)
   have e13 : zn (zx .u32 q) 0 m1 = W .u32 q := by rw [hS.part, hS.W, W_part, List.drop_zero, List.take_of_length_le (by omega)]
   cbv
   refine bF hz ?_
   rw [e11]
   refine nd e10 ⟨_, hS.call t1, ?_⟩
   cbv
   refine ⟨_, hS.call t3, ?_⟩
   cbv
   rw [e13]
   refine nd e12 ⟨_, hS.call t2, ?_⟩
   cbv
   exact hF _ (ResLe.refl _)
  | succ j =>
   obtain ⟨g, qd, b, x1, hg, g0, g1, q0, q1, hb, hx1, lx1, wx1, hjm, hul, hql, pl, pw, ht, hf⟩ := div_round hI hn llv wlv vlv htop
   have cg := rguess_call (r := zx .u32 (dpart n j u)) g (by rw [hS.W]) hv pl llv hn (by omega) pw wlv htop hg
   have cl := rlessen_call (r := zx .u32 (dpart n j u)) (r' := zx .u32 x1) g b (by rw [hS.W]) hv (by omega) (by omega) pw wlv g0 g1 (by rw [hS.W, pl, hx1]) hb
   have cr := fun x2 h => rrestore_call (r := zx .u32 x1) (r' := zx .u32 x2) (s := v) (u := x1) (by rw [hS.W]) hv (by omega) (by omega) wx1 wlv h
   clear hg hb hx1
   have hi : zC (zY (j + 1)) 1 = (j : Int) := by rw [hS.sub, hS.ofN]; omega
   have hz : zP 0 (zC (zY (j + 1)) 1) = true := by rw [hS.le, hi]; exact decide_eq_true (by omega)
   have hw1' : zA .i64 (zC (zC (zY (j + 1)) 1) 1) = zC (zY j) 1 := by rw [hi, hS.wrap, hS.sub, hS.sub, hS.ofN, wrap_i64 (by omega) (by omega)]
   have y1 : zA .i64 (zB (zA .i64 (zB (zC (zY (j + 1)) 1) (zY n))) 1) = zY (j + n1) := by
    rw [hi, hS.wrap, hS.wrap, hS.add, hS.add, hS.ofN, hS.ofN, wrap_i64 (x := (j : Int) + n) (by omega) (by omega), wrap_i64 (by omega) (by omega)]; omega
   have y2 : zZ 0 (zC (zY (j + 1)) 1) = j := by rw [hS.idx, hi]; omega
   have y3 : zc (zY (j + n1)) (zC (zY (j + 1)) 1) = n1 := by rw [hS.dif, hi, hS.ofN]; omega
   have y4 : ∀ u' : List Int, zn (zx .u32 u') j n1 = zx .u32 (dpart n j u') := fun u' => by rw [hS.part, hS.W, W_part, hn1]; rfl
   have y5 : ∀ u' x : List Int, zp (zx .u32 u') j (zx .u32 x) = zx .u32 (setRg u' j x) := fun u' x => by rw [hS.setg, hS.W, W_setg]; rfl
   have y6 : zd (zC (zY (j + 1)) 1) (zY (j + n1)) l1 = true := by rw [hS.cut, hi, hS.ofN]; exact decide_eq_true (by omega)
   have y7 : ∀ u' : List Int, u'.length = n + m + 1 -> zm j n1 (zx .u32 u') = true := fun u' h => by rw [hS.fit, hS.W, qa3]; exact decide_eq_true (by omega)
   have y8 : ∀ x : List Int, x.length = n + 1 -> za (zg (zx .u32 x)) n1 = true := fun x h => by rw [hS.neq, hS.len, hS.W, qa3, hn1]; exact decide_eq_true h
   have y9 : setRg u j (dpart n j u) = u := setRg_self (by omega)
   have y10 : dpart n j (setRg u j x1) = x1 := dpart_setRg lx1 (by omega)
   have y11 : (setRg u j x1).length = n + m + 1 := by rw [setRg_length (by omega)]; exact hul
   have y12 : ∀ x2 : List Int, x2.length = n + 1 -> setRg (setRg u j x1) j x2 = setRg u j x2 := fun x2 h => setRg_setRg (by omega) (by omega)
   have y13 : zX (zC (zY (j + 1)) 1) m1 = true := by rw [hS.inb, hi]; exact decide_eq_true (by omega)
   have y14 : zj .u32 (zx .u32 q) j = true := by rw [hS.isI, hS.W, W_isI]; exact decide_eq_true (by omega)
   have y15 : ∀ x, zl .u32 (zx .u32 q) j x = zx .u32 (q.set j x) := fun x => by rw [hS.setI, hS.W, W_set]
   have y16 : zA .u32 qd = qd := by rw [hS.wrap]; exact qbd (by omega) (by omega)
   have y18 : g - 1 = qd -> zA .u64 (zC g 1) = qd := fun h => by rw [hS.wrap, hS.sub, qaa (by omega) (by omega), h]
   clear hI hi
   cbv
   refine bT hz ?_
   rw [y1, y2, y3, y4]
   refine nd y6 (nd (y7 _ hul) ⟨_, hS.call cg, ?_⟩)
   cbv
   rw [y5, y9, y4]
   refine nd (y8 _ pl) (nd (y7 _ hul) ?_)
   cases b with
   | true =>
    obtain ⟨hgq, x2, hx2, lx2, hI2⟩ := ht rfl
    refine ⟨_, hS.call cl, ?_⟩
    cbv
    rw [y5, y4, y10]
    refine nd (y8 _ lx1) (bT rfl (nd (y7 _ y11) ⟨_, hS.call (cr x2 (by rw [hS.W, hx2])), ?_⟩))
    cbv
    rw [y2, y5, y12 _ lx2, y18 hgq, y16, y15, hw1']
    refine nd (y8 _ lx2) (nd y13 (nd y14 ?_))
    exact again (s' := rdivSt r s v (zx .u32 (setRg u j x2)) (zx .u32 (q.set j qd)) l1 m1 (zY n) d (zC (zY j) 1)) (m := j) (by simp [leT, rdivSt, mkSt, vi, vl, vnil]) (by simp [leH, rdivSt, mkSt]) rfl (by show 2 <= 14; omega) (by omega) ⟨_, _, hI2, rfl⟩
   | false =>
    obtain ⟨hgq, hI2⟩ := hf rfl
    refine ⟨_, hS.call cl, ?_⟩
    cbv
    rw [y2, y5, hgq, y16, y15, hw1']
    refine nd (y8 _ lx1) (bF rfl (nd y13 (nd y14 ?_)))
    exact again (s' := rdivSt r s v (zx .u32 (setRg u j x1)) (zx .u32 (q.set j qd)) l1 m1 (zY n) d (zC (zY j) 1)) (m := j) (by simp [leT, rdivSt, mkSt, vi, vl, vnil]) (by simp [leH, rdivSt, mkSt]) rfl (by show 2 <= 14; omega) (by omega) ⟨_, _, hI2, rfl⟩
open Go Go.Abs Go.Abs.M Go.Proofs
theorem rdivided_long {r s : Abs.Rows} {a b : Nat} (hr : IsM a r) (hs : IsM b s) (h2 : 2 <= nl b) (hab : b <= a) (hsz : nl a <= 549755813888) :
  ACall Tryz.prog 130 [.val (tl r), .val (tl s)] ⟨[.val (tl (W .u32 (dg (a / b)))), .val (tl (W .u32 (dg (a % b))))], [none, none]⟩ := by
 obtain ⟨n, hn⟩ : ∃ n, n = nl b := ⟨_, rfl⟩
 obtain ⟨la, hla⟩ : ∃ la, la = nl a := ⟨_, rfl⟩
 have hmono := qbb hab
 obtain ⟨m, hm⟩ : ∃ m, la = n + m := ⟨la - n, by omega⟩
 obtain ⟨n', hn'⟩ : ∃ n', n = n' + 1 := ⟨n - 1, by omega⟩
 have lb : (dg b).length = n := hn.symm
 have laa : (dg a).length = la := hla.symm
 obtain ⟨w1, hw1⟩ : ∃ w1, w1 = (dg b).getD n' 0 := ⟨_, rfl⟩
 have hw1b := (qay b).get n'
 rw [<- hw1] at hw1b
 have htw := top_word (qay b) (n := n') (by omega)
 rw [<- hw1, qao] at htw
 have hw1p : 1 <= w1 := by
  rcases dg_tr b with h | h
  ·rw [h] at lb; simp at lb; omega
  ·rw [lb, hn', Nat.add_sub_cancel, <- hw1] at h; omega
 obtain ⟨d, hd⟩ : ∃ d, d = 4294967296 / (w1 + 1) := ⟨_, rfl⟩
 obtain ⟨d1, d2, d3, d4⟩ := norm_ok hw1p hw1b.2 hd htw.1 htw.2
 have hbpos : 0 < (b : Int) := by
  rcases Nat.eq_zero_or_pos b with h | h
  ·subst h; simp [dg_zero] at lb; omega
  ·omega
 obtain ⟨V, hV⟩ : ∃ V, V = d * b := ⟨_, rfl⟩
 have hV0 : 0 < V := by rw [hV]; exact Int.mul_pos (by omega) hbpos
 have hpow : (4294967296 : Int) ^ n = 4294967296 ^ n' * 4294967296 := by rw [hn', Int.pow_succ]
 have hVlt : V < 4294967296 ^ n := by rw [hpow, hV]; omega
 have hVge : 2147483648 * 4294967296 ^ n' <= V := by rw [hV]; exact d3
 obtain ⟨lv, hlv⟩ : ∃ lv, lv = dg V.toNat := ⟨_, rfl⟩
 have vlv : val lv = V := by rw [hlv, qao]; omega
 have wlv : Wd lv := by rw [hlv]; exact qay _
 have llv : lv.length = n := by
  have a1 : nl V.toNat <= n := qai (by omega)
  have a2 : n' < nl V.toNat := by
   rcases Nat.lt_or_ge n' (nl V.toNat) with h | h
   ·exact h
   ·have x1 := lt_nl V.toNat
    have x2 := ipow_le h
    have x3 := qam n'
    omega
  rw [hlv]
  show nl V.toNat = n
  omega
 have htop : 2147483648 <= lv.getD (n - 1) 0 := by
  have t := (top_word wlv (n := n') (by omega)).2
  rw [vlv] at t
  rw [hn', Nat.add_sub_cancel]
  rcases Int.lt_or_le (lv.getD n' 0) 2147483648 with h | h
  ·exfalso
   have := Int.mul_le_mul_of_nonneg_right (show lv.getD n' 0 + 1 <= 2147483648 by omega) (show (0 : Int) <= 4294967296 ^ n' by have := qam n'; omega)
   omega
  ·exact h
 obtain ⟨lu, hlu⟩ : ∃ lu, lu = dg (d * a).toNat := ⟨_, rfl⟩
 have hda : 0 <= d * (a : Int) := Int.mul_nonneg (by omega) (by omega)
 have vlu : val lu = d * a := by rw [hlu, qao]; omega
 have llu : lu.length <= la + 1 := by
  rw [hlu]
  refine qai (k := la + 1) ?_
  have x1 := lt_nl a
  rw [<- hla] at x1
  have x2 : d * (a : Int) <= 4294967296 * a := Int.mul_le_mul_of_nonneg_right (by omega) (by omega)
  rw [Int.pow_succ]
  omega
 obtain ⟨f1, f2, f3⟩ := fill_val llu (by rw [hlu]; exact qay _)
 obtain ⟨w, hw⟩ : ∃ w, w = W .u32 (dg d.toNat) := ⟨_, rfl⟩
 have ld : (dg d.toNat).length <= 1 := qai (k := 1) (by rw [Int.pow_succ, Int.pow_zero]; omega)
 have cc := rcompared_call (cmpI a b) hr hs (by omega) (by omega) (qay _) (qay _) (dg_tr _) (dg_tr _) (by rw [qao, qao])
 have c1 := rwords_call d (by omega) (by omega)
 rw [<- hw] at c1
 have c2 := rtimes_call hs hw (by omega) (by omega) (qay _) (qay _)
 rw [qao, qao, show ((b : Int) * (d.toNat : Int)).toNat = V.toNat by rw [hV, Int.mul_comm]; congr 2; omega, <- hlv] at c2
 have c3 := rtimes_call hr hw (by omega) (by omega) (qay _) (qay _)
 rw [qao, qao, show ((a : Int) * (d.toNat : Int)).toNat = (d * a).toNat by rw [Int.mul_comm]; congr 2; omega, <- hlu] at c3
 have hUlt : d * (a : Int) < V * 4294967296 ^ (m + 1) := by
  have x1 := lt_nl a
  rw [<- hla, hm] at x1
  have x2 : (4294967296 : Int) ^ (n + m) = 4294967296 ^ n' * 4294967296 ^ (m + 1) := by rw [<- Int.pow_add]; congr 1; omega
  have x3 : w1 * 4294967296 ^ n' * 4294967296 ^ (m + 1) <= (b : Int) * 4294967296 ^ (m + 1) := Int.mul_le_mul_of_nonneg_right htw.1 (by have := qam (m + 1); omega)
  have x4 : 1 * (4294967296 ^ n' * 4294967296 ^ (m + 1)) <= w1 * (4294967296 ^ n' * (4294967296 : Int) ^ (m + 1)) := Int.mul_le_mul_of_nonneg_right hw1p (by have := Int.mul_pos (qam n') (qam (m + 1)); omega)
  have x5 : w1 * 4294967296 ^ n' * 4294967296 ^ (m + 1) = w1 * (4294967296 ^ n' * (4294967296 : Int) ^ (m + 1)) := by grind
  have x6 : d * (a : Int) < d * (b * 4294967296 ^ (m + 1)) := Int.mul_lt_mul_of_pos_left (by omega) (by omega)
  have x7 : d * ((b : Int) * 4294967296 ^ (m + 1)) = d * b * 4294967296 ^ (m + 1) := by grind
  rw [hV]; omega
 have hstart := DInv.start (n := n) (m := m) (by rw [f2, hm]) f3 (f1.trans vlu) hUlt
 refine rdivided_walk hr hs rfl rfl laa lb (by omega) (by omega) hm rfl rfl rfl hn' hw1.symm ⟨hw1p, hw1b.2⟩ hd.symm ⟨d1, d2⟩ (c := cmpI a b) (by unfold cmpI; rw [if_neg (by omega)]; split <;> omega) llu rfl llv wlv vlv htop hstart cc c1 c2 c3 fun u q hI => ?_
 rw [hV] at hI
 obtain ⟨l1, l2⟩ := hI.last (by omega) hbpos
 have vu0 := qad hI.uw
 have hul := hI.ul
 have hql := hI.ql
 have t1 := qa8 (r := W .u32 u) rfl (by omega) hI.uw
 have t2 := qa8 (r := W .u32 q) rfl (by omega) hI.qw
 have lt1 : (dg (val u).toNat).length <= la + 1 := by have := nl_wd hI.uw; unfold nl at this; omega
 have t3 := rshortly_call (r := W .u32 (dg (val u).toNat)) d ((a : Int) % b) (val u % d) rfl (by omega) (qay _) (by omega) d2 (by rw [qao, Int.toNat_of_nonneg vu0, l2]) (by rw [qao, Int.toNat_of_nonneg vu0])
 rw [l1] at t2
 exact ⟨_, _, t1, t2, t3⟩
theorem rdivided_call {r s : Abs.Rows} {a b : Nat} (hr : IsM a r) (hs : IsM b s) (hb : b ≠ 0) (hsz : nl a <= 549755813888) (hszb : nl b <= 549755813888) :
  ∃ x y, IsM (a / b) x /\ IsM (a % b) y /\ ACall Tryz.prog 130 [.val (tl r), .val (tl s)] ⟨[.val (tl x), .val (tl y)], [none, none]⟩ := by
 have cc := rcompared_call (cmpI a b) hr hs (by unfold nl at hsz; omega) (by unfold nl at hszb; omega) (qay _) (qay _) (dg_tr _) (dg_tr _) (by rw [qao, qao])
 by_cases hab : a < b
 ·refine ⟨[], r, by rw [Nat.div_eq_of_lt hab]; rfl, by rw [Nat.mod_eq_of_lt hab]; exact hr, ?_⟩
  rw [cmpI_lt (by omega)] at cc
  refine callZ ccOk mixed [.val, .val] Tryz.func130 rfl rfl (by kernel_rfl) fun zA zB zC zD zE zF zG zH zI zJ zK zL zM zN zO zP zQ zR zS zT zU zV zX zY zZ za zb zc zd ze zf zg zh zi zj zk zl zm zn zo zp zq zr zs zt zu zw zx zy A L F hS hF => ?_
  cbv
  refine ⟨_, hS.call cc, ?_⟩
  cbv
  exact bT (by rw [hS.lt]; rfl) (fin2w hF (TLe.drop _ _) (TVLe.refl _))
 ·by_cases h1 : nl b = 1
  ·obtain ⟨x, hx⟩ : ∃ x, IsM (a / b) x := ⟨_, rfl⟩
   obtain ⟨y, hy⟩ : ∃ y, IsM (a % b) y := ⟨_, rfl⟩
   refine ⟨x, y, hx, hy, ?_⟩
   have hblt : (b : Int) < 4294967296 := by have := lt_nl b; rw [h1] at this; omega
   have hdgb : dg b = [(b : Int)] := by
    rw [dg_pos hb, show b % 4294967296 = b by omega, show b / 4294967296 = 0 by omega, dg_zero]
   have hmod : (a : Int) % b < b := Int.emod_lt_of_pos _ (by omega)
   have hmod0 : 0 <= (a : Int) % b := Int.emod_nonneg _ (by omega)
   have c1 := rshortly_call b ((a : Int) / b) ((a : Int) % b) hr (by unfold nl at hsz; omega) (qay _) (by omega) hblt (by rw [qao]) (by rw [qao])
   have c2 := rwords_call ((a : Int) % b) hmod0 (by omega)
   have q1 : W .u32 (dg ((a : Int) / b).toNat) = x := hx.symm
   have q2 : W .u32 (dg ((a : Int) % b).toNat) = y := hy.symm
   rw [q1] at c1
   rw [q2] at c2
   obtain ⟨c, hc, hc0⟩ : ∃ c, cmpI (a : Int) b = c /\ ¬ c < 0 := ⟨_, rfl, by
    unfold cmpI
    rw [if_neg (by omega)]
    split <;> omega⟩
   rw [hc] at cc
   generalize (a : Int) % b = e at *
   generalize hbv : (b : Int) = d at *
   refine callZ ccOk mixed [.val, .val] Tryz.func130 rfl rfl (by kernel_rfl) fun zA zB zC zD zE zF zG zH zI zJ zK zL zM zN zO zP zQ zR zS zT zU zV zX zY zZ za zb zc zd ze zf zg zh zi zj zk zl zm zn zo zp zq zr zs zt zu zw zx zy A L F hS hF => ?_
   have z2 : zM (zY (zg s)) 1 = true := by rw [hS.len, hs, qa3, hdgb, hS.ofN, hS.eq]; rfl
   have z3 : zj .u32 s (zV 0) = true := by rw [hS.isI, hs, hS.nat, hdgb]; rfl
   have z4 : zA .u64 (zk s (zV 0)) = d := by rw [hS.getI, hs, hS.nat, W_getI, hdgb, hS.wrap]; exact qaa (by show 0 <= d; omega) (by show d < _; omega)
   cbv
   refine ⟨_, hS.call cc, ?_⟩
   cbv
   rw [z4]
   refine bF (by rw [hS.lt]; exact decide_eq_false hc0) (bT z2 (nd (by rw [hS.le]; rfl) (nd z3 ⟨_, hS.call c1, ?_⟩)))
   cbv
   refine ⟨_, hS.call c2, ?_⟩
   cbv
   exact hF _ (ResLe.refl _)
  ·have h0 : nl b ≠ 0 := fun h => hb (nl_zero.1 h)
   exact ⟨_, _, rfl, rfl, rdivided_long hr hs (by omega) (by omega) hsz⟩
end Go.Proofs.YtdhidmcjglokcaaGreat
end
section
namespace Go.Abs.M
theorem ediv_unique {x y q r : Int} (hy : y ≠ 0) (h : x = y * q + r) (h0 : 0 <= r) (h1 : r < y.natAbs) : x / y = q /\ x % y = r := by
 rcases Int.lt_or_lt_of_ne hy with hneg | hpos
 ·have e : x = r + (-y) * (-q) := by rw [Int.neg_mul_neg]; omega
  have a : x / (-y) = -q := by rw [e, Int.add_mul_ediv_left _ _ (by omega), Int.ediv_eq_zero_of_lt h0 (by omega)]; omega
  have b : x % (-y) = r := by rw [e, Int.add_mul_emod_self_left, Int.emod_eq_of_lt h0 (by omega)]
  rw [Int.ediv_neg] at a
  rw [Int.emod_neg] at b
  exact ⟨by omega, b⟩
 ·have e : x = r + y * q := by omega
  refine ⟨?_, ?_⟩
  ·rw [e, Int.add_mul_ediv_left _ _ (by omega), Int.ediv_eq_zero_of_lt h0 (by omega)]; omega
  ·rw [e, Int.add_mul_emod_self_left, Int.emod_eq_of_lt h0 (by omega)]
theorem divmod_abs {x y : Int} (hy : y ≠ 0) :
  (¬ (x < 0 /\ x.natAbs % y.natAbs ≠ 0) -> (x / y).natAbs = x.natAbs / y.natAbs /\ (x % y) = (x.natAbs % y.natAbs : Nat)) /\
  (x < 0 /\ x.natAbs % y.natAbs ≠ 0 -> (x / y).natAbs = x.natAbs / y.natAbs + 1 /\ (x % y) = (y.natAbs - x.natAbs % y.natAbs : Nat)) /\
  (x / y < 0 ↔ ((x < 0 ↔ ¬ y < 0) /\ x / y ≠ 0)) := by
 have hya : y.natAbs ≠ 0 := by omega
 have hdm := Nat.div_add_mod x.natAbs y.natAbs
 have hlt := Nat.mod_lt x.natAbs (show 0 < y.natAbs by omega)
 generalize hk : x.natAbs / y.natAbs = k at *
 generalize hr : x.natAbs % y.natAbs = r at *
 have hdi : (y.natAbs : Int) * k + r = x.natAbs := by exact_mod_cast hdm
 rcases Int.lt_or_le x 0 with hx | hx <;> rcases Int.lt_or_lt_of_ne hy with hy' | hy'
 ·have ey : (y.natAbs : Int) = -y := by omega
  have ex : (x.natAbs : Int) = -x := by omega
  rw [ey, ex] at hdi
  by_cases h0 : r = 0
  ·obtain ⟨a, b⟩ := ediv_unique (x := x) (q := k) (r := 0) hy (by rw [h0] at hdi; simp at hdi; rw [Int.neg_mul] at hdi; omega) (by omega) (by omega)
   refine ⟨fun _ => ⟨by rw [a]; rfl, by rw [b, h0]; rfl⟩, fun h => absurd h0 h.2, by rw [a]; omega⟩
  ·obtain ⟨a, b⟩ := ediv_unique (x := x) (q := k + 1) (r := y.natAbs - r) hy (by rw [ey, Int.mul_add]; rw [Int.neg_mul] at hdi; omega) (by omega) (by omega)
   refine ⟨fun h => absurd ⟨hx, h0⟩ h, fun _ => ⟨by rw [a]; omega, by rw [b]; omega⟩, by rw [a]; omega⟩
 ·have ey : (y.natAbs : Int) = y := by omega
  have ex : (x.natAbs : Int) = -x := by omega
  rw [ey, ex] at hdi
  by_cases h0 : r = 0
  ·obtain ⟨a, b⟩ := ediv_unique (x := x) (q := -k) (r := 0) hy (by rw [h0] at hdi; simp at hdi; rw [Int.mul_neg]; omega) (by omega) (by omega)
   refine ⟨fun _ => ⟨by rw [a]; omega, by rw [b, h0]; rfl⟩, fun h => absurd h0 h.2, by rw [a]; omega⟩
  ·obtain ⟨a, b⟩ := ediv_unique (x := x) (q := -k - 1) (r := y.natAbs - r) hy (by rw [ey, Int.mul_sub, Int.mul_neg]; omega) (by omega) (by omega)
   refine ⟨fun h => absurd ⟨hx, h0⟩ h, fun _ => ⟨by rw [a]; omega, by rw [b]; omega⟩, by rw [a]; omega⟩
 ·have ey : (y.natAbs : Int) = -y := by omega
  have ex : (x.natAbs : Int) = x := by omega
  rw [ey, ex] at hdi
  obtain ⟨a, b⟩ := ediv_unique (x := x) (q := -k) (r := r) hy (by rw [Int.mul_neg]; rw [Int.neg_mul] at hdi; omega) (by omega) (by omega)
  refine ⟨fun _ => ⟨by rw [a]; omega, b⟩, fun h => absurd h.1 (by omega), by rw [a]; omega⟩
 ·have ey : (y.natAbs : Int) = y := by omega
  have ex : (x.natAbs : Int) = x := by omega
  rw [ey, ex] at hdi
  obtain ⟨a, b⟩ := ediv_unique (x := x) (q := k) (r := r) hy (by omega) (by omega) (by omega)
  refine ⟨fun _ => ⟨by rw [a]; omega, b⟩, fun h => absurd h.1 (by omega), by rw [a]; omega⟩
end Go.Abs.M
end
section
namespace Go.Proofs.YtdhidmcjglokcaaGreat
open Go Go.Abs Go.Abs.M Go.Proofs
theorem rdivmod_call {x y : Int} {s t : Bool} {r q : Abs.Rows} (hx : IsI x s r) (hy : IsI y t q) (hy0 : y ≠ 0) (h1 : nl x.natAbs <= 274877906944) (h2 : nl y.natAbs <= 274877906944) :
  ∃ u w p, IsI (x / y) u w /\ IsI (x % y) false p /\ ACall Tryz.prog 124 [.val (.agg (iT s r)), .val (.agg (iT t q))] ⟨[.val (.agg (iT u w)), .val (.agg (iT false p)), .val (ti .i64 0)], [none, none]⟩ := by
 obtain ⟨a1, a2, ha1, ha2, cd⟩ := rdivided_call hx.m hy.m (by omega) (by omega) (by omega)
 obtain ⟨m1, m2, m3⟩ := divmod_abs (x := x) hy0
 obtain ⟨u, hu⟩ : ∃ u, u = decide (x / y < 0) := ⟨_, rfl⟩
 obtain ⟨w, hw⟩ : ∃ w, IsM (x / y).natAbs w := ⟨_, rfl⟩
 obtain ⟨p, hp⟩ : ∃ p, IsM (x % y).natAbs p := ⟨_, rfl⟩
 have hmod0 := Int.emod_nonneg x hy0
 have hyn : y.natAbs ≠ 0 := by omega
 have hdle : x.natAbs / y.natAbs <= x.natAbs := Nat.div_le_self ..
 have hmlt : x.natAbs % y.natAbs < y.natAbs := Nat.mod_lt _ (by omega)
 have hs := hx.s
 have ht := hy.s
 have hbq : nl (x / y).natAbs <= 549755813888 := by
  have a := qbb (show (x / y).natAbs <= x.natAbs + 1 by
   by_cases h : x < 0 /\ x.natAbs % y.natAbs ≠ 0
   ·have := (m2 h).1; omega
   ·have := (m1 h).1; omega)
  have b := nl_add x.natAbs 1
  have c : nl 1 <= 1 := qai (by omega)
  omega
 have hbr : nl (x % y).natAbs <= 549755813888 := by
  have a := qbb (show (x % y).natAbs <= y.natAbs by
   by_cases h : x < 0 /\ x.natAbs % y.natAbs ≠ 0
   ·have := (m2 h).2; omega
   ·have := (m1 h).2; omega)
  omega
 have cm1 := rmadeM (!(s == t)) u hw (by omega) (by
  rw [hu, hs, ht, Bool.eq_iff_iff]
  by_cases h : x < 0 <;> by_cases h' : y < 0 <;> simp [h, h'] at m3 ⊢ <;> omega)
 have cm2 := rmadeM false false hp (by omega) rfl
 have hql : q.length = nl y.natAbs := hy.m.len
 have hql0 : nl y.natAbs ≠ 0 := fun h => hyn (nl_zero.1 h)
 have ha2l : a2.length = nl (x.natAbs % y.natAbs) := ha2.len
 have ha2z := @nl_zero (x.natAbs % y.natAbs)
 refine ⟨u, w, p, ⟨hu, hw⟩, ⟨(decide_eq_false (by omega)).symm, hp⟩, ?_⟩
 by_cases hc : x < 0 /\ x.natAbs % y.natAbs ≠ 0
 ·obtain ⟨n1, n2⟩ := m2 hc
  have ca := radded_call (s := W .u32 [1]) ha1 rfl (by have := qbb hdle; unfold nl at *; omega) (by simp) (qay _) (Wd.cons (by omega) (by omega) Wd.nil)
  have ct := rtaken_call hy.m ha2 (by unfold nl at *; omega) (by have := qbb (Nat.le_of_lt hmlt); unfold nl at *; omega) (qay _) (qay _) (by rw [qao, qao]; omega)
  rw [qao, qao] at ct
  rw [qao, show val [1] = 1 from rfl] at ca
  have e1 : W .u32 (dg (((x.natAbs / y.natAbs : Nat) : Int) + 1).toNat) = w := by rw [hw]; congr 2; omega
  have e2 : W .u32 (dg ((y.natAbs : Int) - ((x.natAbs % y.natAbs : Nat) : Int)).toNat) = p := by rw [hp]; congr 2; omega
  rw [e1] at ca
  rw [e2] at ct
  have hs' : s = true := by rw [hs]; exact decide_eq_true hc.1
  subst hs'
  clear m1 m2 m3 hbq hbr
  refine callZ ccOk mixed [.val, .val, .val] Tryz.func124 rfl rfl (by kernel_rfl) fun zA zB zC zD zE zF zG zH zI zJ zK zL zM zN zO zP zQ zR zS zT zU zV zX zY zZ za zb zc zd ze zf zg zh zi zj zk zl zm zn zo zp zq zr zs zt zu zw zx zy A L F hS hF => ?_
  have z1 : zM (zY (zg q)) 0 = false := by rw [hS.len, hql, hS.ofN, hS.eq]; exact decide_eq_false (by omega)
  have z2 : zO 0 (zY (zg a2)) = true := by rw [hS.len, ha2l, hS.ofN, hS.lt]; exact decide_eq_true (by omega)
  have z3 : zn [[.v (.int .u32 1)]] 0 1 = W .u32 [1] := by rw [hS.part]; rfl
  have z4 : zm 0 1 [[.v (.int .u32 1)]] = true := by rw [hS.fit]; rfl
  cbv
  refine bF z1 ⟨_, hS.call cd, ?_⟩
  cbv
  refine bT rfl (bT z2 (nd z4 ?_))
  rw [z3]
  refine ⟨_, hS.call ca, ?_⟩
  cbv
  refine ⟨_, hS.call ct, ?_⟩
  cbv
  rw [hS.bne]
  refine ⟨_, hS.call cm1, ?_⟩
  cbv
  refine ⟨_, hS.call cm2, ?_⟩
  cbv
  exact hF _ (ResLe.refl _)
 ·obtain ⟨n1, n2⟩ := m1 hc
  obtain rfl : w = a1 := by rw [hw, ha1, n1]
  obtain rfl : p = a2 := by rw [hp, ha2, n2]; rfl
  clear m1 m2 m3 hbq hbr
  refine callZ ccOk mixed [.val, .val, .val] Tryz.func124 rfl rfl (by kernel_rfl) fun zA zB zC zD zE zF zG zH zI zJ zK zL zM zN zO zP zQ zR zS zT zU zV zX zY zZ za zb zc zd ze zf zg zh zi zj zk zl zm zn zo zp zq zr zs zt zu zw zx zy A L F hS hF => ?_
  have z1 : zM (zY (zg q)) 0 = false := by rw [hS.len, hql, hS.ofN, hS.eq]; exact decide_eq_false (by omega)
  have z2 : s = true -> zO 0 (zY (zg p)) = false := fun h => by
   rw [hS.len, ha2l, hS.ofN, hS.lt]
   rw [h] at hs
   have := of_decide_eq_true hs.symm
   exact decide_eq_false (by omega)
  have fin : A 101 [.val (tb (!(s == t))), .val (tl w)] ⟨[.val (.agg (iT u w))], [none, none]⟩ := hS.call cm1
  cbv
  refine bF z1 ⟨_, hS.call cd, ?_⟩
  cbv
  refine ⟨fun h => bF (z2 h) ?_, fun h => ?_⟩
  all_goals
   rw [hS.bne]
   refine ⟨_, fin, ?_⟩
   cbv
   refine ⟨_, hS.call cm2, ?_⟩
   cbv
   exact hF _ (ResLe.refl _)
open Go Go.Abs Go.Abs.M Go.Proofs
theorem rnumber_call {l : List Int} {r : Abs.Rows} (n : Int) (hr : r = W .u32 l) (hl : l.length <= 2) (hw : Wd l) (hn : n = val l) : ACall Tryz.prog 129 [.val (tl r)] ⟨[.val (ti .u64 n)], [none]⟩ := by
 have a := hw.get 0
 have b := hw.get 1
 have c1 := rword_call 1 hr (by omega) hw (by omega)
 have c0 := rword_call 0 hr (by omega) hw (by omega)
 have hv : val l = l.getD 0 0 + 4294967296 * l.getD 1 0 := by
  match l, hl with
  | [], _ => rfl
  | [x], _ => simp [val]
  | [x, y], _ => simp [val]
 rw [show (1 : Int).toNat = 1 from rfl] at c1
 rw [show (0 : Int).toNat = 0 from rfl] at c0
 generalize l.getD 0 0 = x at *
 generalize l.getD 1 0 = y at *
 refine callZ ccOk mixed [.val] Tryz.func129 rfl rfl (by kernel_rfl) fun zA zB zC zD zE zF zG zH zI zJ zK zL zM zN zO zP zQ zR zS zT zU zV zX zY zZ za zb zc zd ze zf zg zh zi zj zk zl zm zn zo zp zq zr zs zt zu zw zx zy A L F hS hF => ?_
 cbv
 refine ⟨_, hS.call c1, ?_⟩
 cbv
 refine ⟨_, hS.call c0, ?_⟩
 cbv
 refine fin1 hF (tv_int ?_)
 rw [hn, hv, hS.wrap, hS.wrap, hS.mul, hS.add, qaa (x := y * 4294967296) (by omega) (by omega), qaa (by omega) (by omega)]
 omega
def reucSt (a b : Int) : St := mkSt 14 [vi .u64 a, vi .u64 b] [none, none]
theorem reuclid_call (a b : Nat) (g : Int) (ha : a < 18446744073709551616) (hb : b < 18446744073709551616) (hg : g = Nat.gcd a b) : ACall Tryz.prog 128 [.val (ti .u64 a), .val (ti .u64 b)] ⟨[.val (ti .u64 g)], [none, none]⟩ := by
 obtain ⟨x, hx⟩ : ∃ x : Int, x = a := ⟨_, rfl⟩
 obtain ⟨y, hy⟩ : ∃ y : Int, y = b := ⟨_, rfl⟩
 rw [<- hx, <- hy]
 refine callZ ccOk mixed [.val] Tryz.func128 rfl rfl (by kernel_rfl) fun zA zB zC zD zE zF zG zH zI zJ zK zL zM zN zO zP zQ zR zS zT zU zV zX zY zZ za zb zc zd ze zf zg zh zi zj zk zl zm zn zo zp zq zr zs zt zu zw zx zy A L F hS hF => ?_
 cbv
 refine loopZ ccOk mixed hS (fun (m : Nat) s => ∃ c : Nat, c < 18446744073709551616 /\ m < 18446744073709551616 /\ Nat.gcd c m = Nat.gcd a b /\ s = reucSt (zY c) (zY m)) (n := b) (s0 := reucSt (zY a) (zY b)) (qaj ?_ ?_) rfl (Nat.le_refl 2) ?_ ?_
 ·simp [leT, reucSt, mkSt, vi, hS.ofN, hx, hy]
 ·simp [leH, reucSt, mkSt]
 ·exact ⟨a, ha, hb, rfl, rfl⟩
 ·rintro m _ ⟨c, hc, hm, hgc, rfl⟩
  have e1 : 0 < m -> zF (zY c) (zY m) = zY (c % m) := fun h => by rw [hS.rem, hS.ofN, hS.ofN, hS.ofN, Int.tmod_eq_emod_of_nonneg (by omega)]; rfl
  have e2 : zO 0 (zY m) = decide (0 < m) := by
   rw [hS.lt, hS.ofN]
   by_cases h : 0 < m
   ·rw [decide_eq_true h]; exact decide_eq_true (by omega)
   ·rw [decide_eq_false h]; exact decide_eq_false (by omega)
  have e3 : 0 < m -> zN (zY m) 0 = true := fun h => by rw [hS.ne, hS.ofN]; exact decide_eq_true (by omega)
  have e4 : m = 0 -> zY c = g := fun h => by subst h; rw [Nat.gcd_zero_right] at hgc; rw [hS.ofN, hg, hgc]
  cbv
  refine ⟨fun h => ?_, fun h => ?_⟩
  all_goals rw [e2] at h
  ·have h := of_decide_eq_true h
   rw [e1 h]
   refine nd (e3 h) ?_
   refine again (s' := reucSt (zY m) (zY (c % m))) (m := c % m) (by simp [leT, reucSt, mkSt, vi]) (by simp [leH, reucSt, mkSt]) rfl (Nat.le_refl 2) (Nat.mod_lt _ h) ⟨m, hm, ?_, ?_, rfl⟩
   ·have := Nat.mod_lt c h; omega
   ·rw [<- hgc, Nat.gcd_comm c m, Nat.gcd_rec m c, Nat.gcd_comm]
  ·have h := of_decide_eq_false h
   exact fin1 hF (tv_int (e4 (by omega)))
def rcomSt (r s : Abs.Rows) : St := mkSt 33 [vl r, vl s, .junk, .junk, vnil] [none, none]
theorem rcommon_call {r s w : Abs.Rows} {a b : Nat} (hr : IsM a r) (hs : IsM b s) (h1 : nl a <= 274877906944) (h2 : nl b <= 274877906944) (hg : IsM (Nat.gcd a b) w) : ACall Tryz.prog 113 [.val (tl r), .val (tl s)] ⟨[.val (tl w)], [none, none]⟩ := by
 refine callZ ccOk mixed [.val] Tryz.func113 rfl rfl (by kernel_rfl) fun zA zB zC zD zE zF zG zH zI zJ zK zL zM zN zO zP zQ zR zS zT zU zV zX zY zZ za zb zc zd ze zf zg zh zi zj zk zl zm zn zo zp zq zr zs zt zu zw zx zy A L F hS hF => ?_
 cbv
 refine loopZ ccOk mixed hS (fun (m : Nat) s => ∃ (c : Nat) (x y : Abs.Rows), IsM c x /\ IsM m y /\ nl c <= 274877906944 /\ nl m <= 274877906944 /\ Nat.gcd c m = Nat.gcd a b /\ s = rcomSt x y) (n := b) (s0 := rcomSt r s) (qaj ?_ ?_) rfl (Nat.le_refl 2) ?_ ?_
 ·simp [leT, rcomSt, mkSt, vl, vnil]
 ·simp [leH, rcomSt, mkSt]
 ·exact ⟨a, r, s, hr, hs, h1, h2, rfl, rfl⟩
 ·rintro m _ ⟨c, x, y, hx, hy, l1, l2, hgc, rfl⟩
  have hmz := @nl_zero m
  have hxl : zg x = nl c := by rw [hS.len, hx.len]
  have hyl : zg y = nl m := by rw [hS.len, hy.len]
  have e1 : zO 0 (zY (zg y)) = decide (m ≠ 0) := by
   rw [hyl, hS.lt, hS.ofN]
   by_cases h : m = 0
   ·rw [decide_eq_false (show ¬ m ≠ 0 by omega)]; exact decide_eq_false (by omega)
   ·rw [decide_eq_true h]; exact decide_eq_true (by omega)
  have e2 : zP (zY (zg x)) 2 = decide (nl c <= 2) := by
   rw [hxl, hS.le, hS.ofN]
   by_cases h : nl c <= 2
   ·rw [decide_eq_true h]; exact decide_eq_true (by omega)
   ·rw [decide_eq_false h]; exact decide_eq_false (by omega)
  have e3 : zP (zY (zg y)) 2 = decide (nl m <= 2) := by
   rw [hyl, hS.le, hS.ofN]
   by_cases h : nl m <= 2
   ·rw [decide_eq_true h]; exact decide_eq_true (by omega)
   ·rw [decide_eq_false h]; exact decide_eq_false (by omega)
  have hdiv : m ≠ 0 -> ∃ p q, IsM (c / m) p /\ IsM (c % m) q /\ ACall Tryz.prog 130 [.val (tl x), .val (tl y)] ⟨[.val (tl p), .val (tl q)], [none, none]⟩ := fun h => rdivided_call hx hy h (by omega) (by omega)
  have hshort : nl c <= 2 -> nl m <= 2 -> ∃ (c' m' g : Int), ACall Tryz.prog 129 [.val (tl x)] ⟨[.val (ti .u64 c')], [none]⟩ /\ ACall Tryz.prog 129 [.val (tl y)] ⟨[.val (ti .u64 m')], [none]⟩ /\
    ACall Tryz.prog 128 [.val (ti .u64 c'), .val (ti .u64 m')] ⟨[.val (ti .u64 g)], [none, none]⟩ /\ ACall Tryz.prog 102 [.val (ti .u64 g)] ⟨[.val (tl w)], [none]⟩ := fun k1 k2 => by
   have b1 := lt_nl c
   have b2 := lt_nl m
   have b3 := ipow_le k1
   have b4 := ipow_le k2
   have n1 := rnumber_call (c : Int) hx k1 (qay _) (by rw [qao])
   have n2 := rnumber_call (m : Int) hy k2 (qay _) (by rw [qao])
   have hgb : Nat.gcd c m < 18446744073709551616 := by
    by_cases h : m = 0
    ·subst h; rw [Nat.gcd_zero_right]; omega
    ·have := Nat.gcd_le_right c (Nat.pos_of_ne_zero h); omega
   have n4 := rwords_call (Nat.gcd c m : Int) (by omega) (by omega)
   rw [Int.toNat_natCast, hgc, <- show w = W .u32 (dg (Nat.gcd a b)) from hg, <- hgc] at n4
   exact ⟨_, _, _, n1, n2, reuclid_call c m _ (by omega) (by omega) rfl, n4⟩
  have hend : m = 0 -> x = w := fun h => by
   subst h
   rw [Nat.gcd_zero_right] at hgc
   rw [hx, hg, hgc]
  cbv
  refine ⟨fun h => ?_, fun h => ?_⟩
  all_goals rw [e1] at h
  ·have h := of_decide_eq_true h
   have go : ∀ (H : Prop), (∀ p q, IsM (c % m) q -> ACall Tryz.prog 130 [.val (tl x), .val (tl y)] ⟨[.val (tl p), .val (tl q)], [none, none]⟩ -> H) -> H := fun H k => by
    obtain ⟨p, q, _, hq, cd⟩ := hdiv h
    exact k p q hq cd
   have nx : ∀ q, IsM (c % m) q -> ∃ (c' : Nat) (x' y' : Abs.Rows), IsM c' x' /\ IsM (c % m) y' /\ nl c' <= 274877906944 /\ nl (c % m) <= 274877906944 /\ Nat.gcd c' (c % m) = Nat.gcd a b /\ rcomSt y q = rcomSt x' y' := fun q hq =>
    ⟨m, y, q, hy, hq, l2, Nat.le_trans (qbb (Nat.le_of_lt (Nat.mod_lt _ (Nat.pos_of_ne_zero h)))) l2, by rw [<- hgc, Nat.gcd_comm c m, Nat.gcd_rec m c, Nat.gcd_comm], rfl⟩
   refine ⟨fun h2 => ⟨fun h3 => ?_, fun h3 => ?_⟩, fun h2 => ?_⟩
   ·rw [e2] at h2
    rw [e3] at h3
    obtain ⟨c', m', g, n1, n2, n3, n4⟩ := hshort (of_decide_eq_true h2) (of_decide_eq_true h3)
    refine ⟨_, hS.call n1, ?_⟩
    cbv
    refine ⟨_, hS.call n2, ?_⟩
    cbv
    refine ⟨_, hS.call n3, ?_⟩
    cbv
    refine ⟨_, hS.call n4, ?_⟩
    cbv
    exact hF _ (ResLe.refl _)
   all_goals
    refine go _ fun p q hq cd => ?_
    refine ⟨_, hS.call cd, ?_⟩
    cbv
    exact again (s' := rcomSt y q) (m := c % m) (by simp [leT, rcomSt, mkSt, vl, vnil]) (by simp [leH, rcomSt, mkSt]) rfl (Nat.le_refl 2) (Nat.mod_lt _ (Nat.pos_of_ne_zero h)) (nx q hq)
  ·have h := of_decide_eq_false h
   rw [hend (by omega)]
   exact hF _ (ResLe.refl _)
theorem rgcd_call {x y : Int} {s t : Bool} {r q : Abs.Rows} (hx : IsI x s r) (hy : IsI y t q) (h1 : nl x.natAbs <= 274877906944) (h2 : nl y.natAbs <= 274877906944) :
  ∃ w, IsI (Int.gcd x y) false w /\ ACall Tryz.prog 93 [.val (.agg (iT s r)), .val (.agg (iT t q))] ⟨[.val (.agg (iT false w))], [none, none]⟩ := by
 obtain ⟨w, hw⟩ : ∃ w, IsM (Int.gcd x y) w := ⟨_, rfl⟩
 have c1 := rcommon_call (w := w) hx.m hy.m h1 h2 hw
 have hb : nl (Int.gcd x y) <= 2199023255552 := by
  by_cases h : x = 0
  ·subst h
   have : Int.gcd 0 y = y.natAbs := by simp [Int.gcd]
   rw [this]; omega
  ·have : Int.gcd x y <= x.natAbs := Nat.gcd_le_left _ (by omega)
   have := qbb this
   omega
 have c2 := rmadeM false false hw hb rfl
 refine ⟨w, ⟨(decide_eq_false (by omega)).symm, hw⟩, ?_⟩
 refine callZ ccOk mixed [.val] Tryz.func93 rfl rfl (by kernel_rfl) fun zA zB zC zD zE zF zG zH zI zJ zK zL zM zN zO zP zQ zR zS zT zU zV zX zY zZ za zb zc zd ze zf zg zh zi zj zk zl zm zn zo zp zq zr zs zt zu zw zx zy A L F hS hF => ?_
 cbv
 refine ⟨_, hS.call c1, ?_⟩
 cbv
 refine ⟨_, hS.call c2, ?_⟩
 cbv
 exact hF _ (ResLe.refl _)
end Go.Proofs.YtdhidmcjglokcaaGreat
end
section
namespace Go.Abs
open Go.Abs.M
structure IsR (x : Rat) (s : Bool) (r : Rows) (t : Bool) (q : Rows) : Prop where
 n : IsI x.num s r
 d : IsI (x.den : Int) t q
theorem lowest_num {n d : Int} (hd : d ≠ 0) : n / (if d < 0 then -(Int.gcd n d : Int) else (Int.gcd n d : Int)) = (Rat.divInt n d).num := by
 rw [Rat.num_divInt, Int.gcd_comm d n]
 have hdvd : ((Int.gcd n d : Nat) : Int) ∣ n := Int.gcd_dvd_left ..
 by_cases h : d < 0
 ·rw [if_pos h, Int.ediv_neg, Int.sign_eq_neg_one_of_neg h, Int.neg_one_mul, Int.neg_ediv_of_dvd hdvd]
 ·rw [if_neg h, Int.sign_eq_one_of_pos (by omega), Int.one_mul]
theorem lowest_den {n d : Int} (hd : d ≠ 0) : d / (if d < 0 then -(Int.gcd n d : Int) else (Int.gcd n d : Int)) = ((Rat.divInt n d).den : Int) := by
 rw [Rat.den_divInt, if_neg hd, Int.gcd_comm d n]
 have hdvd : ((Int.gcd n d : Nat) : Int) ∣ d := Int.gcd_dvd_right ..
 by_cases h : d < 0
 ·rw [if_pos h, Int.ediv_neg, <- Int.neg_ediv_of_dvd hdvd, show -d = (d.natAbs : Int) by omega]; rfl
 ·rw [if_neg h]
  conv => lhs; rw [show d = (d.natAbs : Int) by omega]
  rfl
end Go.Abs
end
section
namespace Go.Proofs.YtdhidmcjglokcaaGreat
open Go Go.Abs Go.Abs.M Go.Proofs
theorem rexact_call {x y : Int} {s t : Bool} {r q : Abs.Rows} (hx : IsI x s r) (hy : IsI y t q) (hy0 : y ≠ 0) (h1 : nl x.natAbs <= 274877906944) (h2 : nl y.natAbs <= 274877906944) :
  ∃ u w, IsI (x / y) u w /\ ACall Tryz.prog 110 [.val (.agg (iT s r)), .val (.agg (iT t q))] ⟨[.val (.agg (iT u w))], [none, none]⟩ := by
 obtain ⟨u, w, p, hu, hp, cd⟩ := rdivmod_call hx hy hy0 h1 h2
 refine ⟨u, w, hu, ?_⟩
 refine callZ ccOk mixed [.val] Tryz.func110 rfl rfl (by kernel_rfl) fun zA zB zC zD zE zF zG zH zI zJ zK zL zM zN zO zP zQ zR zS zT zU zV zX zY zZ za zb zc zd ze zf zg zh zi zj zk zl zm zn zo zp zq zr zs zt zu zw zx zy A L F hS hF => ?_
 cbv
 refine ⟨_, hS.call cd, ?_⟩
 cbv
 exact hF _ (ResLe.refl _)
theorem rlowest_call {x y : Int} {s t : Bool} {r q : Abs.Rows} (hx : IsI x s r) (hy : IsI y t q) (hy0 : y ≠ 0) (h1 : nl x.natAbs <= 274877906944) (h2 : nl y.natAbs <= 274877906944) :
  ∃ u w v p, IsR (Rat.divInt x y) u w v p /\ ACall Tryz.prog 79 [.val (.agg (iT s r)), .val (.agg (iT t q))] ⟨[.val (.agg (iT u w ++ iT v p))], [none, none]⟩ := by
 obtain ⟨g, hg, cg⟩ := rgcd_call hx hy h1 h2
 have hgp : Int.gcd x y ≠ 0 := by
  intro h
  rw [Int.gcd_eq_zero_iff] at h
  exact hy0 h.2
 have hgle : nl (Int.gcd x y) <= 274877906944 := by
  have : Int.gcd x y <= y.natAbs := Nat.gcd_le_right _ (by omega)
  have := qbb this
  omega
 have cs := rsign_call (cmpI y 0) hy rfl
 obtain ⟨a, b, hn, cn⟩ := rneg_call hg (by rw [Int.natAbs_natCast]; omega)
 by_cases hneg : y < 0
 ·obtain ⟨u, w, hu, c1⟩ := rexact_call hx hn (by omega) h1 (by rw [Int.natAbs_neg, Int.natAbs_natCast]; exact hgle)
  obtain ⟨v, p, hv, c2⟩ := rexact_call hy hn (by omega) h2 (by rw [Int.natAbs_neg, Int.natAbs_natCast]; exact hgle)
  have e1 := lowest_num (n := x) hy0
  have e2 := lowest_den (n := x) hy0
  rw [if_pos hneg] at e1 e2
  refine ⟨u, w, v, p, ⟨hu.of e1, hv.of e2⟩, ?_⟩
  rw [cmpI_lt hneg] at cs
  refine callZ ccOk mixed [.val] Tryz.func79 rfl rfl (by kernel_rfl) fun zA zB zC zD zE zF zG zH zI zJ zK zL zM zN zO zP zQ zR zS zT zU zV zX zY zZ za zb zc zd ze zf zg zh zi zj zk zl zm zn zo zp zq zr zs zt zu zw zx zy A L F hS hF => ?_
  cbv
  refine ⟨_, hS.call cg, ?_⟩
  cbv
  refine ⟨_, hS.call cs, ?_⟩
  cbv
  refine bT (by rw [hS.lt]; rfl) ⟨_, hS.call cn, ?_⟩
  cbv
  refine ⟨_, hS.call c1, ?_⟩
  cbv
  refine ⟨_, hS.call c2, ?_⟩
  cbv
  exact hF _ (ResLe.refl _)
 ·obtain ⟨u, w, hu, c1⟩ := rexact_call hx hg (by omega) h1 (by rw [Int.natAbs_natCast]; exact hgle)
  obtain ⟨v, p, hv, c2⟩ := rexact_call hy hg (by omega) h2 (by rw [Int.natAbs_natCast]; exact hgle)
  have e1 := lowest_num (n := x) hy0
  have e2 := lowest_den (n := x) hy0
  rw [if_neg hneg] at e1 e2
  refine ⟨u, w, v, p, ⟨hu.of e1, hv.of e2⟩, ?_⟩
  rw [cmpI_gt (by omega)] at cs
  refine callZ ccOk mixed [.val] Tryz.func79 rfl rfl (by kernel_rfl) fun zA zB zC zD zE zF zG zH zI zJ zK zL zM zN zO zP zQ zR zS zT zU zV zX zY zZ za zb zc zd ze zf zg zh zi zj zk zl zm zn zo zp zq zr zs zt zu zw zx zy A L F hS hF => ?_
  cbv
  refine ⟨_, hS.call cg, ?_⟩
  cbv
  refine ⟨_, hS.call cs, ?_⟩
  cbv
  refine bF (by rw [hS.lt]; rfl) ⟨_, hS.call c1, ?_⟩
  cbv
  refine ⟨_, hS.call c2, ?_⟩
  cbv
  exact hF _ (ResLe.refl _)
end Go.Proofs.YtdhidmcjglokcaaGreat
end
section
namespace Go.Abs
theorem shr_std {k : IntKind} {a b : Int} (n : Nat) (hb : b = n) (hn : n <= k.bits) (ha : 0 <= a) : ZI.std.shr k a b = a / 2 ^ n := by
 rw [hb]
 show a.fdiv (2 ^ (Min.min ((n : Int).toNat) k.bits)) = _
 rw [Int.toNat_natCast, Nat.min_eq_left hn, Int.fdiv_eq_ediv_of_nonneg _ (Int.le_of_lt (Int.pow_pos (by omega)))]
theorem shr32 {a : Int} (h0 : 0 <= a) : ZI.std.shr .u64 a 32 = a / 4294967296 := by
 rw [shr_std (b := 32) 32 rfl (by decide) h0]; rfl
end Go.Abs
end
section
namespace Go.Proofs.YtdhidmcjglokcaaGreat
open Go Go.Abs Go.Abs.M Go.Proofs
def itrimSt (r : Abs.Rows) (n : Int) : St := mkSt 21 [vl r, .junk, vnil, vi .i64 n] [none]
theorem itrim_call {r : Abs.Rows} {l : List Int} (hr : r = W .u32 l) (hl : l.length <= 2199023255552) (hw : Wd l) : ACall Tryz.prog 115 [.val (.c (.lst false r))] ⟨[.val (.c (.lst false (W .u32 (dg (val l).toNat))))], [none]⟩ := by
 refine callZ ccOk mixed [.val] Tryz.func115 rfl rfl (by kernel_rfl) fun zA zB zC zD zE zF zG zH zI zJ zK zL zM zN zO zP zQ zR zS zT zU zV zX zY zZ za zb zc zd ze zf zg zh zi zj zk zl zm zn zo zp zq zr zs zt zu zw zx zy A L F hS hF => ?_
 have hlen : zg r = l.length := by rw [hS.len, hr, qa3]
 cbv
 refine loopZ ccOk mixed hS (fun m s => ∃ n : Nat, n = m /\ n <= l.length /\ val (l.take n) = val l /\ s = itrimSt r (zY n)) (n := l.length) (s0 := itrimSt r (zY l.length)) (qaj ?_ ?_) rfl (Nat.le_refl 1) ?_ ?_
 ·simp [leT, itrimSt, mkSt, vnil, vi, vl, hlen]
 ·simp [leH, itrimSt, mkSt]
 ·exact ⟨_, rfl, Nat.le_refl _, by rw [List.take_length], rfl⟩
 ·rintro m _ ⟨n, rfl, hn, hv, rfl⟩
  have hp : 0 < n -> zA .i64 (zC (zY n) 1) = zY (n - 1) := fun h => by rw [hS.wrap, hS.sub, hS.ofN, hS.ofN, wrap_i64 (by omega) (by omega)]; omega
  have hg : 0 < n -> zk r (zV (zY (n - 1))) = l.getD (n - 1) 0 := fun h => by rw [hS.getI, hS.nat, hS.ofN, hr, W_getI, Int.toNat_natCast]
  have hc : zd 0 (zY n) (zg r) = true := by rw [hS.cut, hlen, hS.ofN]; exact decide_eq_true (by omega)
  have hwd : zr 1 r = true := by rw [hS.wide, hr]; exact W_wide _ _
  have hF' : n = 0 ∨ l.getD (n - 1) 0 ≠ 0 -> F ⟨[.val (.c (.lst false (zn r 0 (zV (zY n)))))], [none]⟩ := fun h => fin1 hF (by
   rw [hS.part, hS.nat, hS.ofN, hr, W_part, Int.toNat_natCast, List.drop_zero, trim_dg hw hn hv h])
  cbv
  refine ⟨fun h => ?_, fun h => nd hc (nd hwd (hF' ?_))⟩
  all_goals rw [hS.lt, hS.ofN] at h
  ·have h : 0 < n := by simpa using h
   rw [hp h, hg h]
   refine nd (by rw [hS.le, hS.ofN]; exact decide_eq_true (by omega)) (nd (by rw [hS.isI, hS.nat, hS.ofN, hr, W_isI]; exact decide_eq_true (by omega)) ⟨fun h2 => ?_, fun h2 => nd hc (nd hwd (hF' (.inr ?_)))⟩)
   all_goals rw [hS.eq] at h2
   ·refine again (s' := itrimSt r (zY (n - 1))) (m := n - 1) (by simp [leT, itrimSt, mkSt, vnil, vi, vl]) (by simp [leH, itrimSt, mkSt]) rfl (Nat.le_refl 1) (by omega) ⟨_, rfl, by omega, ?_, rfl⟩
    have := val_take_succ (l := l) (k := n - 1) (by omega)
    rw [show n - 1 + 1 = n by omega, of_decide_eq_true h2] at this
    omega
   ·exact of_decide_eq_false h2
  ·exact .inl (by simpa using h)
theorem iwords_call (n : Int) (hn : 0 <= n) (hn2 : n < 18446744073709551616) : ACall Tryz.prog 118 [.val (ti .u64 n)] ⟨[.val (tl (W .u32 (dg n.toNat)))], [none]⟩ := by
 refine callZ ccOk mixed [.val] Tryz.func118 rfl rfl (by kernel_rfl) fun zA zB zC zD zE zF zG zH zI zJ zK zL zM zN zO zP zQ zR zS zT zU zV zX zY zZ za zb zc zd ze zf zg zh zi zj zk zl zm zn zo zp zq zr zs zt zu zw zx zy A L F hS hF => ?_
 have e1 : zA .u32 n = n % 4294967296 := by rw [hS.wrap]; exact wrap_u32m _
 have e2 : zA .u32 (zH .u64 n 32) = n / 4294967296 := by
  rw [show zH .u64 n 32 = ZI.std.shr .u64 n 32 from hS.shr .., shr32 hn, hS.wrap]; exact qbd (by omega) (by omega)
 have hT := itrim_call (r := W .u32 [n % 4294967296, n / 4294967296]) rfl (by simp) (Wd.cons (by omega) (by omega) (Wd.cons (by omega) (by omega) Wd.nil))
 cbv
 rw [e1, e2]
 refine nd (by rw [hS.fit]; rfl) ?_
 rw [hS.part]
 refine ⟨_, hS.call hT, ?_⟩
 rw [show val [n % 4294967296, n / 4294967296] = n by simp only [val]; omega]
 generalize W .u32 (dg n.toNat) = x at *
 cbv
 exact hF _ (ResLe.refl _)
theorem isigned_call {r : Abs.Rows} {l : List Int} (s t : Bool) (hr : r = W .u32 l) (hl : l.length <= 2199023255552) (hw : Wd l) (ht : t = (s && decide (0 < val l))) : ACall Tryz.prog 117 [.val (tb s), .val (tl r)] ⟨[.val (.agg (iT t (W .u32 (dg (val l).toNat))))], [none, none]⟩ := by
 refine callZ ccOk mixed [.val] Tryz.func117 rfl rfl (by kernel_rfl) fun zA zB zC zD zE zF zG zH zI zJ zK zL zM zN zO zP zQ zR zS zT zU zV zX zY zZ za zb zc zd ze zf zg zh zi zj zk zl zm zn zo zp zq zr zs zt zu zw zx zy A L F hS hF => ?_
 have hT := itrim_call hr hl hw
 have hz : zM (zY (zg (W .u32 (dg (val l).toNat)))) 0 = decide (¬ 0 < val l) := by
  rw [hS.eq, hS.ofN, hS.len, qa3]
  have := qad hw
  have h2 := @nl_zero (val l).toNat
  unfold nl at h2
  by_cases h : 0 < val l
  ·rw [decide_eq_false (show ¬ ¬ 0 < val l by omega)]; exact decide_eq_false (by omega)
  ·rw [decide_eq_true h]; exact decide_eq_true (by omega)
 have h0 : ¬ 0 < val l -> W .u32 (dg (val l).toNat) = [] := fun h => by rw [show (val l).toNat = 0 by omega]; rfl
 generalize W .u32 (dg (val l).toNat) = x at *
 cbv
 refine ⟨_, hS.call hT, ?_⟩
 cbv
 rw [hz]
 refine ⟨fun h => fin1w hF ?_, fun h => fin1w hF ?_⟩
 ·have h' := of_decide_eq_true h
  rw [ht, decide_eq_false h', Bool.and_false, h0 h']
  exact ⟨.v _, TLe.drop _ _, trivial⟩
 ·have h' := of_decide_eq_false h
  rw [ht, decide_eq_true (by omega), Bool.and_true]
  exact TVLe.refl _
theorem isignedM {n : Nat} {r : Abs.Rows} (s t : Bool) (hr : IsM n r) (hl : nl n <= 2199023255552) (ht : t = (s && decide (n ≠ 0))) : ACall Tryz.prog 117 [.val (tb s), .val (tl r)] ⟨[.val (.agg (iT t r))], [none, none]⟩ := by
 have h := isigned_call s t hr hl (qay n) (by
  rw [qao, ht]
  by_cases h : n = 0
  ·subst h; rfl
  ·rw [decide_eq_true h, decide_eq_true (by omega)])
 rw [qao, Int.toNat_natCast, <- hr] at h
 exact h
open Go Go.Abs Go.Abs.M Go.Proofs
open Go Go.Abs Go.Abs.M Go.Proofs
open Go Go.Abs Go.Abs.M Go.Proofs
open Go Go.Abs Go.Abs.M Go.Proofs
end Go.Proofs.YtdhidmcjglokcaaGreat
end
section
namespace Go.Abs.M
theorem dif_word2 {a b c d : Int} (ha : 0 <= a /\ a < 4294967296) (hb : 0 <= b /\ b < 4294967296) (hc : 0 <= c /\ c <= 1) (hd : d = ((a - b) % 18446744073709551616 - c) % 18446744073709551616) :
  d % 4294967296 = (4294967296 + a - b - c) % 4294967296 /\ d / 9223372036854775808 = 1 - (4294967296 + a - b - c) / 4294967296 /\ 0 <= d := by omega
structure QwI (u v : List Int) (n : Nat) (g : Int) (k : Nat) (o : List Int) (c b : Int) : Prop where
 lo : o.length = n + 1
 wo : Wd o
 hc : 0 <= c /\ c < 4294967296
 hb : 0 <= b /\ b <= 1
 dr : o.drop k = u.drop k
 eq : val (o.take k) = val (u.take k) - g * val (v.take k) + (b + c) * 4294967296 ^ k
theorem drop_getD_eq {o u : List Int} {k : Nat} (h : o.drop k = u.drop k) : o.getD k 0 = u.getD k 0 := by
 have := congrArg (fun y => List.getD y 0 0) h
 simpa [List.getD_eq_getElem?_getD] using this
theorem drop_set_eq {o u : List Int} {k : Nat} (x : Int) (h : o.drop k = u.drop k) : (o.set k x).drop (k + 1) = u.drop (k + 1) := by
 rw [qaz]
 have := congrArg (List.drop 1) h
 simpa [List.drop_drop] using this
section
variable {u v o : List Int} {n k : Nat} {g c b pr d : Int}
theorem QwI.start (hu : u.length = n + 1) (hw : Wd u) : QwI u v n g 0 u 0 0 := ⟨hu, hw, by omega, by omega, rfl, by simp [val]⟩
theorem QwI.step (h : QwI u v n g k o c b) (huw : Wd u) (hvw : Wd v) (hg0 : 0 <= g) (hg1 : g <= 4294967296) (hk : k < n) (hpr : pr = g * v.getD k 0 + c) (hd : d = ((u.getD k 0 - pr % 4294967296) % 18446744073709551616 - b) % 18446744073709551616) :
  (0 <= g * v.getD k 0 /\ g * v.getD k 0 < 18446744073709551616) /\ (0 <= pr /\ pr < 18446744073709551616) /\ 0 <= d /\ o.getD k 0 = u.getD k 0 /\ QwI u v n g (k + 1) (o.set k (d % 4294967296)) (pr / 4294967296) (d / 9223372036854775808) := by
 obtain ⟨lo, wo, hc, hb, dr, eq⟩ := h
 have ga := huw.get k
 have gv := hvw.get k
 have hgv : 0 <= g * v.getD k 0 /\ g * v.getD k 0 <= 4294967296 * 4294967295 := ⟨Int.mul_nonneg hg0 gv.1, Int.mul_le_mul hg1 (by omega) gv.1 (by omega)⟩
 obtain ⟨t, ht⟩ : ∃ t, t = 4294967296 + u.getD k 0 - pr % 4294967296 - b := ⟨_, rfl⟩
 have hst := lessen_step eq hpr ht
 obtain ⟨d1, d2, d3⟩ := dif_word2 ga (show 0 <= pr % 4294967296 /\ pr % 4294967296 < 4294967296 by omega) hb hd
 rw [<- ht] at d1 d2
 refine ⟨by omega, by omega, d3, drop_getD_eq dr, ?_⟩
 rw [d1, d2]
 refine ⟨by simpa using lo, wo.set _ (by omega) (by omega), by omega, by omega, drop_set_eq _ dr, ?_⟩
 rw [qaw _ (by omega), qac u, qac v, Int.pow_succ, hst, Int.mul_add]
theorem QwI.last (h : QwI u v n g n o c b) (hu : u.length = n + 1) (hv : v.length = n) (huw : Wd u) (hd : d = ((u.getD n 0 - c) % 18446744073709551616 - b) % 18446744073709551616) :
  0 <= d /\ o.getD n 0 = u.getD n 0 /\ (d / 9223372036854775808 = 0 ↔ ¬ val u - g * val v < 0) /\ o.set n (d % 4294967296) = wds (n + 1) (val u - g * val v) /\ (o.set n (d % 4294967296)).length = n + 1 := by
 obtain ⟨lo, wo, hc, hb, dr, eq⟩ := h
 have gun := huw.get n
 obtain ⟨n1, n2, n3⟩ := dif_word2 gun hc hb hd
 obtain ⟨y, hy⟩ : ∃ y, y = 4294967296 + u.getD n 0 - c - b := ⟨_, rfl⟩
 rw [<- hy] at n1 n2
 rw [n1, n2]
 have wo2 : Wd (o.set n (y % 4294967296)) := wo.set _ (by omega) (by omega)
 have lo2 : (o.set n (y % 4294967296)).length = n + 1 := by simpa using lo
 have hsum : val (o.set n (y % 4294967296)) = (val u - g * val v) + (1 - y / 4294967296) * 4294967296 ^ (n + 1) := by
  have a1 := qaw (l := o) (k := n) (y % 4294967296) (by omega)
  rw [List.take_of_length_le (by omega)] at a1
  have a2 := qac u n
  rw [List.take_of_length_le (by omega)] at a2
  rw [List.take_of_length_le (l := v) (by omega)] at eq
  have a3 := Int.emod_add_mul_ediv y 4294967296
  have a4 : y % 4294967296 = 4294967296 + u.getD n 0 - c - b - 4294967296 * (y / 4294967296) := by omega
  rw [a1, a2, eq, Int.pow_succ, a4]
  generalize y / 4294967296 = z at *
  generalize (4294967296 : Int) ^ n = p at *
  generalize val v = vv at *
  generalize val (u.take n) = uu at *
  generalize u.getD n 0 = w at *
  clear a1 a2 a3 a4 eq n1 n2 hd hy wo2 lo2 dr
  grind
 refine ⟨n3, drop_getD_eq dr, ?_, wds_of wo2 lo2 hsum, lo2⟩
 have a2 := val_lt wo2
 have a3 := qad wo2
 rw [lo2] at a2
 have a4 := qam (n + 1)
 rcases (show 1 - y / 4294967296 = 0 ∨ 1 - y / 4294967296 = 1 by omega) with h1 | h1
 ·rw [h1] at hsum ⊢; constructor <;> intro <;> omega
 ·rw [h1] at hsum ⊢; constructor <;> intro <;> omega
structure QrI (u v : List Int) (n : Nat) (k : Nat) (o : List Int) (c : Int) : Prop where
 lo : o.length = n + 1
 wo : Wd o
 hc : 0 <= c /\ c <= 1
 dr : o.drop k = u.drop k
 eq : val (o.take k) + c * 4294967296 ^ k = val (u.take k) + val (v.take k)
theorem QrI.start (hu : u.length = n + 1) (hw : Wd u) : QrI u v n 0 u 0 := ⟨hu, hw, by omega, rfl, by simp [val]⟩
theorem QrI.step {t : Int} (h : QrI u v n k o c) (huw : Wd u) (hvw : Wd v) (hk : k < n) (ht : t = u.getD k 0 + v.getD k 0 + c) :
  (0 <= t /\ t < 18446744073709551616) /\ o.getD k 0 = u.getD k 0 /\ QrI u v n (k + 1) (o.set k (t % 4294967296)) (t / 4294967296) := by
 obtain ⟨lo, wo, hc, dr, eq⟩ := h
 have ga := huw.get k
 have gv := hvw.get k
 have hst := add_step eq ht
 refine ⟨by omega, drop_getD_eq dr, by simpa using lo, wo.set _ (by omega) (by omega), by omega, drop_set_eq _ dr, ?_⟩
 rw [qaw _ (by omega), qac u, qac v, Int.pow_succ]
 exact hst
theorem QrI.last (h : QrI u v n n o c) (hu : u.length = n + 1) (hv : v.length = n) (huw : Wd u) : o.getD n 0 = u.getD n 0 /\ o.set n ((u.getD n 0 + c) % 4294967296) = wds (n + 1) (val u + val v) /\ (o.set n ((u.getD n 0 + c) % 4294967296)).length = n + 1 := by
 obtain ⟨lo, wo, hc, dr, eq⟩ := h
 have gun := huw.get n
 obtain ⟨y, hy⟩ : ∃ y, y = u.getD n 0 + c := ⟨_, rfl⟩
 rw [<- hy]
 have wo2 : Wd (o.set n (y % 4294967296)) := wo.set _ (by omega) (by omega)
 have lo2 : (o.set n (y % 4294967296)).length = n + 1 := by simpa using lo
 refine ⟨drop_getD_eq dr, wds_of (b := -(y / 4294967296)) wo2 lo2 ?_, lo2⟩
 have a1 := qaw (l := o) (k := n) (y % 4294967296) (by omega)
 rw [List.take_of_length_le (by omega)] at a1
 have a2 := qac u n
 rw [List.take_of_length_le (by omega)] at a2
 rw [List.take_of_length_le (l := v) (by omega)] at eq
 have a3 := Int.emod_add_mul_ediv y 4294967296
 have a4 : y % 4294967296 = u.getD n 0 + c - 4294967296 * (y / 4294967296) := by omega
 have a5 : val (o.take n) = val (u.take n) + val v - c * 4294967296 ^ n := by omega
 rw [a1, a2, a5, Int.pow_succ, a4]
 generalize y / 4294967296 = z at *
 generalize (4294967296 : Int) ^ n = p at *
 generalize val v = vv at *
 generalize val (u.take n) = uu at *
 generalize u.getD n 0 = w at *
 clear a1 a2 a3 a4 a5 eq hy wo2 lo2 dr
 grind
end
end Go.Abs.M
end
section
namespace Go.Proofs.YtdhidmcjglokcaaGreat
open Go Go.Abs Go.Abs.M Go.Proofs
open Go Go.Abs Go.Abs.M Go.Proofs
open Go Go.Abs Go.Abs.M Go.Proofs
open Go Go.Abs Go.Abs.M Go.Proofs
open Go Go.Abs Go.Abs.M Go.Proofs
def IsS (x : Int) (s : Bool) (r : Abs.Rows) : Prop := IsM x.natAbs r /\ ((s = true -> x <= 0) /\ (s = false -> 0 <= x))
theorem IsS.of {x : Int} {s : Bool} {r : Abs.Rows} (h : IsI x s r) : IsS x s r := by
 refine ⟨h.m, fun hs => ?_, fun hs => ?_⟩
 ·rw [h.s] at hs; have := of_decide_eq_true hs; omega
 ·rw [h.s] at hs; have := of_decide_eq_false hs; omega
theorem IsS.neg {x : Int} {s : Bool} {r : Abs.Rows} (h : IsS x s r) : IsS (-x) (!s) r := by
 obtain ⟨h1, h2, h3⟩ := h
 refine ⟨by rw [Int.natAbs_neg]; exact h1, fun hs => ?_, fun hs => ?_⟩
 ·have := h3 (by simpa using hs); omega
 ·have := h2 (by simpa using hs); omega
theorem isignedS {x : Int} {r : Abs.Rows} (s : Bool) (hx : IsS x s r) (hl : nl x.natAbs <= 2199023255552) : ∃ u, IsI x u r /\ ACall Tryz.prog 117 [.val (tb s), .val (tl r)] ⟨[.val (.agg (iT u r))], [none, none]⟩ := by
 obtain ⟨h1, h2, h3⟩ := hx
 refine ⟨decide (x < 0), ⟨rfl, h1⟩, isignedM s _ h1 hl ?_⟩
 cases s with
 | true => have := h2 rfl; rw [Bool.true_and, Bool.eq_iff_iff]; simp; omega
 | false => have := h3 rfl; rw [Bool.false_and]; exact decide_eq_false (by omega)
theorem iof_call (n : Int) (h1 : -9223372036854775808 <= n) (h2 : n < 9223372036854775808) : ∃ u w, IsI n u w /\ ACall Tryz.prog 100 [.val (ti .i64 n)] ⟨[.val (.agg (iT u w))], [none]⟩ := by
 obtain ⟨w, hw⟩ : ∃ w, IsM n.natAbs w := ⟨_, rfl⟩
 have hl : nl n.natAbs <= 2 := qai (by omega)
 have hwords := iwords_call n.natAbs (by omega) (by omega)
 rw [Int.toNat_natCast, show W .u32 (dg n.natAbs) = w from hw.symm] at hwords
 obtain ⟨u, hu, cs⟩ := isignedS (x := n) (decide (n < 0)) ⟨hw, fun h => by have := of_decide_eq_true h; omega, fun h => by have := of_decide_eq_false h; omega⟩ (by omega)
 refine ⟨u, w, hu, ?_⟩
 obtain ⟨M, hM⟩ : ∃ M : Int, M = n.natAbs := ⟨_, rfl⟩
 obtain ⟨D, hD⟩ : ∃ D, D = decide (n < 0) := ⟨_, rfl⟩
 rw [<- hM] at hwords
 rw [<- hD] at cs
 refine callZ ccOk mixed [.val] Tryz.func100 rfl rfl (by kernel_rfl) fun zA zB zC zD zE zF zG zH zI zJ zK zL zM zN zO zP zQ zR zS zT zU zV zX zY zZ za zb zc zd ze zf zg zh zi zj zk zl zm zn zo zp zq zr zs zt zu zw zx zy A L F hS hF => ?_
 have hlt : zO n 0 = D := by rw [hD]; exact hS.lt ..
 have e1 : D = true -> zA .u64 (zC 0 (zA .u64 n)) = M := fun h => by
  rw [hD] at h
  have := of_decide_eq_true h
  rw [hS.wrap, hS.wrap, hS.sub, wrap_u64m, wrap_u64m]; omega
 have e2 : D = false -> zA .u64 n = M := fun h => by
  rw [hD] at h
  have := of_decide_eq_false h
  rw [hS.wrap, qaa (by omega) (by omega)]; omega
 clear hM hD hw hl hu
 cbv
 rw [hlt]
 refine ⟨fun h => ?_, fun h => ?_⟩
 ·rw [e1 h]
  refine ⟨_, hS.call (hwords), ?_⟩
  cbv
  refine ⟨_, hS.call (cs), ?_⟩
  cbv
  exact hF _ (ResLe.refl _)
 ·rw [e2 h]
  refine ⟨_, hS.call (hwords), ?_⟩
  cbv
  refine ⟨_, hS.call (cs), ?_⟩
  cbv
  exact hF _ (ResLe.refl _)
theorem isign_call {x : Int} {s : Bool} {r : Abs.Rows} (c : Int) (hx : IsI x s r) (hc : c = cmpI x 0) : ACall Tryz.prog 96 [.val (.agg (iT s r))] ⟨[.val (ti .i64 c)], [none]⟩ := by
 have hl : r.length = nl x.natAbs := hx.m.len
 have hz := @nl_zero x.natAbs
 refine callZ ccOk mixed [.val] Tryz.func96 rfl rfl (by kernel_rfl) fun zA zB zC zD zE zF zG zH zI zJ zK zL zM zN zO zP zQ zR zS zT zU zV zX zY zZ za zb zc zd ze zf zg zh zi zj zk zl zm zn zo zp zq zr zs zt zu zw zx zy A L F hS hF => ?_
 have e1 : zM (zY (zg r)) 0 = decide (x = 0) := by
  rw [hS.eq, hS.ofN, hS.len, hl]
  by_cases h : x = 0
  ·rw [decide_eq_true h]; exact decide_eq_true (by omega)
  ·rw [decide_eq_false h]; exact decide_eq_false (by omega)
 cbv
 rw [e1]
 refine ⟨fun h => fin1 hF (tv_int ?_), fun h => ⟨fun h' => fin1 hF (tv_int ?_), fun h' => fin1 hF (tv_int ?_)⟩⟩
 ·rw [hc, of_decide_eq_true h]; rfl
 ·rw [hx.s] at h'; rw [hc, cmpI_lt (of_decide_eq_true h')]
 ·rw [hx.s] at h'
  have := of_decide_eq_false h'
  have := of_decide_eq_false h
  rw [hc, cmpI_gt (by omega)]
open Go Go.Abs Go.Abs.M Go.Proofs
end Go.Proofs.YtdhidmcjglokcaaGreat
end
section
namespace Go.Abs
open Go.Abs.M
theorem W_inj {k : IntKind} : ∀ {a b : List Int}, W k a = W k b -> a = b
 | [], [], _ => rfl
 | [], _ :: _, h => by simp [W] at h
 | _ :: _, [], h => by simp [W] at h
 | x :: a, y :: b, h => by
  simp only [W, List.map_cons, List.cons.injEq, Tree.v.injEq, Value.int.injEq, true_and, and_true] at h
  rw [h.1, W_inj (k := k) h.2]
def CanQ (s : Bool) (l : List Int) (t : Bool) (m : List Int) : Prop := ∃ q : Rat, IsR q s (W .u32 l) t (W .u32 m)
end Go.Abs
end
section
namespace Go.Proofs.YtdhidmcjglokcaaGreat
open Go Go.Abs Go.Abs.M Go.Proofs
open Go Go.Abs Go.Abs.M Go.Proofs
def Qs (x : Rat) (k : Nat) : Prop := nl x.num.natAbs <= k /\ nl x.den <= k
open Go Go.Abs Go.Abs.M Go.Proofs
end Go.Proofs.YtdhidmcjglokcaaGreat
end
section
namespace Go.Abs
open Go.Abs.M
structure QC where
 s : Bool
 l : List Int
 t : Bool
 m : List Int
def QC.row (c : QC) : List Tree := iT c.s (W .u32 c.l) ++ iT c.t (W .u32 c.m)
def QC.can (c : QC) : Prop := CanQ c.s c.l c.t c.m
structure QC.ok (c : QC) (k : Nat) : Prop where
 l : Wd c.l
 m : Wd c.m
 ll : c.l.length <= k
 lm : c.m.length <= k
def qrows (cs : List QC) : Rows := cs.map QC.row
theorem QC.sign {c : QC} (h : c.can) : ∃ x : Int, IsI x c.s (W .u32 c.l) /\ (x = 0 ↔ c.l = []) := by
 obtain ⟨q, h1, h2⟩ := h
 refine ⟨q.num, h1, ?_⟩
 have hl : c.l = dg q.num.natAbs := W_inj h1.m
 rw [hl, dg_eq_nil]
 omega
theorem bool_ex (p : Prop) : ∃ b : Bool, b = true ↔ p := by
 rcases Classical.em p with h | h
 ·exact ⟨true, fun _ => h, fun _ => rfl⟩
 ·exact ⟨false, fun h' => (by cases h'), fun h' => absurd h' h⟩
end Go.Abs
namespace Go.Abs
open Go.Abs.M
def qc (q : Rat) : QC := ⟨decide (q.num < 0), dg q.num.natAbs, decide ((q.den : Int) < 0), dg (q.den : Int).natAbs⟩
theorem qc_isR (q : Rat) : IsR q (qc q).s (W .u32 (qc q).l) (qc q).t (W .u32 (qc q).m) := ⟨⟨rfl, rfl⟩, ⟨rfl, rfl⟩⟩
theorem qc_row {q : Rat} {s t : Bool} {r p : Rows} (h : IsR q s r t p) : iT s r ++ iT t p = (qc q).row := by
 have h1 := h.n.s
 have h2 := h.n.m
 have h3 := h.d.s
 have h4 := h.d.m
 unfold IsM at h2 h4
 subst h1 h2 h3 h4
 rfl
def ur (P : List Rat) : Rows := qrows (P.map qc)
theorem ur_len (P : List Rat) : (ur P).length = P.length := by simp [ur, qrows]
theorem qau {P : List Rat} {i : Nat} {q : Rat} (h : P[i]? = some q) : (ur P)[i]? = some (qc q).row := by simp [ur, qrows, h]
theorem ur_app (P : List Rat) (q : Rat) : ur (P ++ [q]) = ur P ++ [(qc q).row] := by simp [ur, qrows]
theorem ur_take (P : List Rat) (k : Nat) : (ur P).take k = ur (P.take k) := by simp [ur, qrows, List.map_take]
def tlen : List Rat -> Nat -> Nat
 | _, 0 => 0
 | P, k + 1 => if P.getD k 0 = 0 then tlen P k else k + 1
def ptrim (P : List Rat) : List Rat := P.take (tlen P P.length)
theorem tlen_le (P : List Rat) : ∀ k, tlen P k <= k
 | 0 => Nat.le_refl _
 | k + 1 => by unfold tlen; split; have := tlen_le P k; omega; omega
theorem tlen_last (P : List Rat) : ∀ k, tlen P k ≠ 0 -> P.getD (tlen P k - 1) 0 ≠ 0
 | 0, h => absurd rfl h
 | k + 1, h => by
  unfold tlen at h ⊢
  split
  ·rename_i h0; rw [if_pos h0] at h; exact tlen_last P k h
  ·rename_i h0; simpa using h0
end Go.Abs
namespace Go.Abs
end Go.Abs
namespace Go.Abs
def accL (R : List Rat) (c : Rat) (B : List Rat) (k : Nat) : Nat -> List Rat
 | 0 => R
 | i + 1 => (accL R c B k i).set (i + k) ((accL R c B k i).getD (i + k) 0 + c * B.getD i 0)
def pacc (R : List Rat) (c : Rat) (B : List Rat) (k : Nat) : List Rat := accL R c B k B.length
theorem accL_len (R : List Rat) (c : Rat) (B : List Rat) (k : Nat) : ∀ i, (accL R c B k i).length = R.length
 | 0 => rfl
 | i + 1 => by unfold accL; rw [List.length_set, accL_len R c B k i]
theorem accL_get {R : List Rat} {c : Rat} {B : List Rat} {k : Nat} : ∀ (i j : Nat), i + k <= R.length -> (accL R c B k i).getD j 0 = if k <= j /\ j < k + i then R.getD j 0 + c * B.getD (j - k) 0 else R.getD j 0
 | 0, j, _ => by rw [if_neg (by omega)]; rfl
 | i + 1, j, h => by
  have ih := accL_get (R := R) (c := c) (B := B) (k := k) i
  have hl := accL_len R c B k i
  unfold accL
  rw [List.getD_eq_getElem?_getD, List.getElem?_set]
  by_cases hj : i + k = j
  ·subst hj
   rw [if_pos rfl, if_pos (by omega), Option.getD_some, ih _ (by omega), if_neg (by omega), if_pos (by omega), show i + k - k = i by omega]
  ·rw [if_neg hj, <- List.getD_eq_getElem?_getD, ih j (by omega)]
   by_cases h2 : k <= j /\ j < k + i
   ·rw [if_pos h2, if_pos (by omega)]
   ·rw [if_neg h2, if_neg (by omega)]
theorem ur_set (P : List Rat) (i : Nat) (q : Rat) : (ur P).set i (qc q).row = ur (P.set i q) := by
 simp only [ur, qrows, List.map_set]
end Go.Abs
end
section
namespace Go.Proofs.YtdhidmcjglokcaaGreat
open Go Go.Abs Go.Abs.M Go.Proofs
theorem pwhole_call {n : Int} {s : Bool} {r : Abs.Rows} (hn : IsI n s r) : ∃ v p, IsR (n : Rat) s r v p /\ ACall Tryz.prog 99 [.val (.agg (iT s r))] ⟨[.val (.agg (iT s r ++ iT v p))], [none]⟩ := by
 obtain ⟨v, p, h, c⟩ := iof_call 1 (by omega) (by omega)
 refine ⟨v, p, ⟨by rw [Rat.num_intCast]; exact hn, by rw [Rat.den_intCast]; exact h⟩, ?_⟩
 refine callZ ccOk mixed [.val] Tryz.func99 rfl rfl (by kernel_rfl) fun zA zB zC zD zE zF zG zH zI zJ zK zL zM zN zO zP zQ zR zS zT zU zV zX zY zZ za zb zc zd ze zf zg zh zi zj zk zl zm zn zo zp zq zr zs zt zu zw zx zy A L F hS hF => ?_
 cbv
 refine ⟨_, hS.call (c), ?_⟩
 cbv
 exact hF _ (ResLe.refl _)
theorem pWhole_call (n : Int) (h1 : -9223372036854775808 <= n) (h2 : n < 9223372036854775808) : ∃ s r v p, IsR (n : Rat) s r v p /\ ACall Tryz.prog 61 [.val (ti .i64 n)] ⟨[.val (.agg (iT s r ++ iT v p))], [none]⟩ := by
 obtain ⟨s, r, h, c⟩ := iof_call n h1 h2
 obtain ⟨v, p, h3, c2⟩ := pwhole_call h
 refine ⟨s, r, v, p, h3, ?_⟩
 refine callZ ccOk mixed [.val] Tryz.func61 rfl rfl (by kernel_rfl) fun zA zB zC zD zE zF zG zH zI zJ zK zL zM zN zO zP zQ zR zS zT zU zV zX zY zZ za zb zc zd ze zf zg zh zi zj zk zl zm zn zo zp zq zr zs zt zu zw zx zy A L F hS hF => ?_
 cbv
 refine ⟨_, hS.call (c), ?_⟩
 cbv
 refine ⟨_, hS.call (c2), ?_⟩
 cbv
 exact hF _ (ResLe.refl _)
open Go Go.Abs Go.Abs.M Go.Proofs
def madeN (n k : Int) : Int := if k % 8 = 7 then n * (4611686018427387904 + k) * (4611686018427387904 + k) + k else n
def madeD (d k : Int) : Int := if k % 8 = 6 then (if d = 0 then 1 else d) * (4611686018427387904 + k) * (4611686018427387904 + k) else if d = 0 then 1 else d
def madeQ (n d k : Int) : Rat := Rat.divInt (madeN n k) (madeD d k)
theorem made_nd {n d k : Int} (n1 : -128 <= n) (n2 : n < 128) (d1 : -128 <= d) (d2 : d < 128) (k1 : 0 <= k) (k2 : k < 256) : nl (madeN n k).natAbs <= 8 /\ nl (madeD d k).natAbs <= 8 /\ madeD d k ≠ 0 := by
 have b : nl (4611686018427387904 + k).natAbs <= 2 := qai (by omega)
 have sa : nl n.natAbs <= 1 := qai (by omega)
 have sb : nl d.natAbs <= 1 := qai (by omega)
 have s1 : nl (1 : Int).natAbs <= 1 := qai (by omega)
 have sk : nl k.natAbs <= 1 := qai (by omega)
 refine ⟨?_, ?_, ?_⟩
 ·unfold madeN
  split
  ·have h1 := nl_mul (n.natAbs * (4611686018427387904 + k).natAbs) (4611686018427387904 + k).natAbs
   have h2 := nl_mul n.natAbs (4611686018427387904 + k).natAbs
   have h3 := nl_add (n * (4611686018427387904 + k) * (4611686018427387904 + k)).natAbs k.natAbs
   rw [Int.natAbs_mul, Int.natAbs_mul] at h3
   have h4 := qbb (Int.natAbs_add_le (n * (4611686018427387904 + k) * (4611686018427387904 + k)) k)
   rw [Int.natAbs_mul, Int.natAbs_mul] at h4
   omega
  ·omega
 ·have key : ∀ x : Int, nl x.natAbs <= 1 -> nl (x * (4611686018427387904 + k) * (4611686018427387904 + k)).natAbs <= 8 := fun x hx => by
   rw [Int.natAbs_mul, Int.natAbs_mul]
   have h1 := nl_mul (x.natAbs * (4611686018427387904 + k).natAbs) (4611686018427387904 + k).natAbs
   have h2 := nl_mul x.natAbs (4611686018427387904 + k).natAbs
   omega
  unfold madeD
  split
  ·exact key _ (by split <;> omega)
  ·split <;> omega
 ·unfold madeD
  split
  ·exact Int.mul_ne_zero (Int.mul_ne_zero (by split <;> omega) (by omega)) (by omega)
  ·split <;> omega
theorem rmade2_call (n d k : Int) (n1 : -128 <= n) (n2 : n < 128) (d1 : -128 <= d) (d2 : d < 128) (k1 : 0 <= k) (k2 : k < 256) :
  ∃ u w v p, IsR (madeQ n d k) u w v p /\ ACall Tryz.prog 33 [.val (.agg [.v (.int .i8 n), .v (.int .i8 d), .v (.int .u8 k)])] ⟨[.val (.agg (iT u w ++ iT v p))], [none]⟩ := by
 obtain ⟨a1, a2, ha, ca⟩ := rof_call n (by omega) (by omega)
 obtain ⟨b1, b2, hb, cb⟩ := rof_call d (by omega) (by omega)
 obtain ⟨f1, f2, hf, cf⟩ := rof_call 1 (by omega) (by omega)
 obtain ⟨c1, c2, hc, cc⟩ := rof_call (4611686018427387904 + k) (by omega) (by omega)
 obtain ⟨e1, e2, he, ce⟩ := rof_call k (by omega) (by omega)
 obtain ⟨s1, s2, s3⟩ := made_nd n1 n2 d1 d2 k1 k2
 have sc : nl (4611686018427387904 + k).natAbs <= 2 := qai (by omega)
 have sa : nl n.natAbs <= 2 := qai (by omega)
 have sb : nl d.natAbs <= 2 := qai (by omega)
 have s1' : nl (1 : Int).natAbs <= 2 := qai (by omega)
 have sk : nl k.natAbs <= 2 := qai (by omega)
 obtain ⟨D, hD⟩ : ∃ D, D = if d = 0 then 1 else d := ⟨_, rfl⟩
 obtain ⟨g1, g2, hg, hgd, sg⟩ : ∃ g1 g2, IsI D g1 g2 /\ (if d = 0 then g1 = f1 /\ g2 = f2 else g1 = b1 /\ g2 = b2) /\ nl D.natAbs <= 2 := by
  by_cases h : d = 0
  ·rw [if_pos h] at hD; subst hD; exact ⟨f1, f2, hf, by rw [if_pos h]; exact ⟨rfl, rfl⟩, s1'⟩
  ·rw [if_neg h] at hD; subst hD; exact ⟨b1, b2, hb, by rw [if_neg h]; exact ⟨rfl, rfl⟩, sb⟩
 obtain ⟨big, hbig⟩ : ∃ big, big = 4611686018427387904 + k := ⟨_, rfl⟩
 have eN7 : k % 8 = 7 -> madeN n k = n * big * big + k := fun h => by unfold madeN; rw [if_pos h, hbig]
 have eN : ¬ k % 8 = 7 -> madeN n k = n := fun h => by unfold madeN; rw [if_neg h]
 have eD6 : k % 8 = 6 -> madeD d k = D * big * big := fun h => by unfold madeD; rw [if_pos h, hbig, hD]
 have eD : ¬ k % 8 = 6 -> madeD d k = D := fun h => by unfold madeD; rw [if_neg h, hD]
 unfold madeQ
 rw [<- hbig] at hc cc sc
 obtain ⟨i1, i2, hi, ci⟩ := rmul_call ha hc (by omega) (by omega)
 obtain ⟨j1, j2, hj, cj⟩ := rmul_call hi hc (by rw [Int.natAbs_mul]; have := nl_mul n.natAbs big.natAbs; omega) (by omega)
 have sj : nl (n * big * big).natAbs <= 7 := by
  rw [Int.natAbs_mul, Int.natAbs_mul]
  have h1 := nl_mul (n.natAbs * big.natAbs) big.natAbs
  have h2 := nl_mul n.natAbs big.natAbs
  omega
 obtain ⟨l1, l2, hl, cl⟩ := radd_call hj he (by omega) (by omega)
 obtain ⟨m1, m2, hm, cm⟩ := rmul_call hg hc (by omega) (by omega)
 obtain ⟨o1, o2, ho, co⟩ := rmul_call hm hc (by rw [Int.natAbs_mul]; have := nl_mul D.natAbs big.natAbs; omega) (by omega)
 by_cases h7 : k % 8 = 7
 ·have h6 : ¬ k % 8 = 6 := by omega
  rw [eN7 h7] at s1
  rw [eD h6] at s2 s3
  rw [eN7 h7, eD h6]
  obtain ⟨u, w, v, p, hq, cq⟩ := rlowest_call hl hg s3 (by omega) (by omega)
  refine ⟨u, w, v, p, hq, ?_⟩
  clear hq s1 s2 s3 sj sg sk s1' sb sa sc hD hc eN7 eN eD6 eD
  refine callZ ccOk mixed [.val] Tryz.func33 rfl rfl (by kernel_rfl) fun zA zB zC zD zE zF zG zH zI zJ zK zL zM zN zO zP zQ zR zS zT zU zV zX zY zZ za zb zc zd ze zf zg zh zi zj zk zl zm zn zo zp zq zr zs zt zu zw zx zy A L F hS hF => ?_
  have w1 : zA .i64 n = n := by rw [hS.wrap, wrap_i64 (by omega) (by omega)]
  have w2 : zA .i64 d = d := by rw [hS.wrap, wrap_i64 (by omega) (by omega)]
  have w3 : zA .i64 k = k := by rw [hS.wrap, wrap_i64 (by omega) (by omega)]
  have w4 : zA .i64 (zB 4611686018427387904 k) = big := by rw [hS.wrap, hS.add, wrap_i64 (by omega) (by omega), hbig]
  have w5 : zM (zF k 8) 7 = true := by rw [hS.eq, hS.rem, Int.tmod_eq_emod_of_nonneg k1]; exact decide_eq_true h7
  have w6 : zM (zF k 8) 6 = false := by rw [hS.eq, hS.rem, Int.tmod_eq_emod_of_nonneg k1]; exact decide_eq_false h6
  cbv
  rw [w1]
  refine ⟨_, hS.call (ca), ?_⟩
  cbv
  rw [w2]
  refine ⟨_, hS.call (cb), ?_⟩
  cbv
  refine ⟨fun hh => ?_, fun hh => ?_⟩
  all_goals rw [hS.eq] at hh
  ·rw [if_pos (of_decide_eq_true hh)] at hgd
   obtain ⟨rfl, rfl⟩ := hgd
   refine ⟨_, hS.call (cf), ?_⟩
   cbv
   rw [w3, w4]
   refine ⟨_, hS.call (cc), ?_⟩
   cbv
   refine bT (w5) ?_
   refine ⟨_, hS.call (ci), ?_⟩
   cbv
   refine ⟨_, hS.call (cj), ?_⟩
   cbv
   rw [w3]
   refine ⟨_, hS.call (ce), ?_⟩
   cbv
   refine ⟨_, hS.call (cl), ?_⟩
   cbv
   refine bF (w6) ?_
   refine ⟨_, hS.call (cq), ?_⟩
   cbv
   exact hF _ (ResLe.refl _)
  ·rw [if_neg (of_decide_eq_false hh)] at hgd
   obtain ⟨rfl, rfl⟩ := hgd
   rw [w3, w4]
   refine ⟨_, hS.call (cc), ?_⟩
   cbv
   refine bT (w5) ?_
   refine ⟨_, hS.call (ci), ?_⟩
   cbv
   refine ⟨_, hS.call (cj), ?_⟩
   cbv
   rw [w3]
   refine ⟨_, hS.call (ce), ?_⟩
   cbv
   refine ⟨_, hS.call (cl), ?_⟩
   cbv
   refine bF (w6) ?_
   refine ⟨_, hS.call (cq), ?_⟩
   cbv
   exact hF _ (ResLe.refl _)
 ·by_cases h6 : k % 8 = 6
  ·rw [eN h7] at s1
   rw [eD6 h6] at s2 s3
   rw [eN h7, eD6 h6]
   obtain ⟨u, w, v, p, hq, cq⟩ := rlowest_call ha ho s3 (by omega) (by omega)
   refine ⟨u, w, v, p, hq, ?_⟩
   clear hq s1 s2 s3 sj sg sk s1' sb sa sc hD hc eN7 eN eD6 eD
   refine callZ ccOk mixed [.val] Tryz.func33 rfl rfl (by kernel_rfl) fun zA zB zC zD zE zF zG zH zI zJ zK zL zM zN zO zP zQ zR zS zT zU zV zX zY zZ za zb zc zd ze zf zg zh zi zj zk zl zm zn zo zp zq zr zs zt zu zw zx zy A L F hS hF => ?_
   have w1 : zA .i64 n = n := by rw [hS.wrap, wrap_i64 (by omega) (by omega)]
   have w2 : zA .i64 d = d := by rw [hS.wrap, wrap_i64 (by omega) (by omega)]
   have w3 : zA .i64 k = k := by rw [hS.wrap, wrap_i64 (by omega) (by omega)]
   have w4 : zA .i64 (zB 4611686018427387904 k) = big := by rw [hS.wrap, hS.add, wrap_i64 (by omega) (by omega), hbig]
   have w5 : zM (zF k 8) 7 = false := by rw [hS.eq, hS.rem, Int.tmod_eq_emod_of_nonneg k1]; exact decide_eq_false h7
   have w6 : zM (zF k 8) 6 = true := by rw [hS.eq, hS.rem, Int.tmod_eq_emod_of_nonneg k1]; exact decide_eq_true h6
   cbv
   rw [w1]
   refine ⟨_, hS.call (ca), ?_⟩
   cbv
   rw [w2]
   refine ⟨_, hS.call (cb), ?_⟩
   cbv
   refine ⟨fun hh => ?_, fun hh => ?_⟩
   all_goals rw [hS.eq] at hh
   ·rw [if_pos (of_decide_eq_true hh)] at hgd
    obtain ⟨rfl, rfl⟩ := hgd
    refine ⟨_, hS.call (cf), ?_⟩
    cbv
    rw [w3, w4]
    refine ⟨_, hS.call (cc), ?_⟩
    cbv
    refine bF (w5) ?_
    refine bT (w6) ?_
    refine ⟨_, hS.call (cm), ?_⟩
    cbv
    refine ⟨_, hS.call (co), ?_⟩
    cbv
    refine ⟨_, hS.call (cq), ?_⟩
    cbv
    exact hF _ (ResLe.refl _)
   ·rw [if_neg (of_decide_eq_false hh)] at hgd
    obtain ⟨rfl, rfl⟩ := hgd
    rw [w3, w4]
    refine ⟨_, hS.call (cc), ?_⟩
    cbv
    refine bF (w5) ?_
    refine bT (w6) ?_
    refine ⟨_, hS.call (cm), ?_⟩
    cbv
    refine ⟨_, hS.call (co), ?_⟩
    cbv
    refine ⟨_, hS.call (cq), ?_⟩
    cbv
    exact hF _ (ResLe.refl _)
  ·rw [eN h7] at s1
   rw [eD h6] at s2 s3
   rw [eN h7, eD h6]
   obtain ⟨u, w, v, p, hq, cq⟩ := rlowest_call ha hg s3 (by omega) (by omega)
   refine ⟨u, w, v, p, hq, ?_⟩
   clear hq s1 s2 s3 sj sg sk s1' sb sa sc hD hc eN7 eN eD6 eD
   refine callZ ccOk mixed [.val] Tryz.func33 rfl rfl (by kernel_rfl) fun zA zB zC zD zE zF zG zH zI zJ zK zL zM zN zO zP zQ zR zS zT zU zV zX zY zZ za zb zc zd ze zf zg zh zi zj zk zl zm zn zo zp zq zr zs zt zu zw zx zy A L F hS hF => ?_
   have w1 : zA .i64 n = n := by rw [hS.wrap, wrap_i64 (by omega) (by omega)]
   have w2 : zA .i64 d = d := by rw [hS.wrap, wrap_i64 (by omega) (by omega)]
   have w3 : zA .i64 k = k := by rw [hS.wrap, wrap_i64 (by omega) (by omega)]
   have w4 : zA .i64 (zB 4611686018427387904 k) = big := by rw [hS.wrap, hS.add, wrap_i64 (by omega) (by omega), hbig]
   have w5 : zM (zF k 8) 7 = false := by rw [hS.eq, hS.rem, Int.tmod_eq_emod_of_nonneg k1]; exact decide_eq_false h7
   have w6 : zM (zF k 8) 6 = false := by rw [hS.eq, hS.rem, Int.tmod_eq_emod_of_nonneg k1]; exact decide_eq_false h6
   cbv
   rw [w1]
   refine ⟨_, hS.call (ca), ?_⟩
   cbv
   rw [w2]
   refine ⟨_, hS.call (cb), ?_⟩
   cbv
   refine ⟨fun hh => ?_, fun hh => ?_⟩
   all_goals rw [hS.eq] at hh
   ·rw [if_pos (of_decide_eq_true hh)] at hgd
    obtain ⟨rfl, rfl⟩ := hgd
    refine ⟨_, hS.call (cf), ?_⟩
    cbv
    rw [w3, w4]
    refine ⟨_, hS.call (cc), ?_⟩
    cbv
    refine bF (w5) ?_
    refine bF (w6) ?_
    refine ⟨_, hS.call (cq), ?_⟩
    cbv
    exact hF _ (ResLe.refl _)
   ·rw [if_neg (of_decide_eq_false hh)] at hgd
    obtain ⟨rfl, rfl⟩ := hgd
    rw [w3, w4]
    refine ⟨_, hS.call (cc), ?_⟩
    cbv
    refine bF (w5) ?_
    refine bF (w6) ?_
    refine ⟨_, hS.call (cq), ?_⟩
    cbv
    exact hF _ (ResLe.refl _)
open Go Go.Abs Go.Abs.M Go.Proofs
theorem divInt_small {n d : Int} {k : Nat} (hd : d ≠ 0) (h1 : nl n.natAbs <= k) (h2 : nl d.natAbs <= k) : Qs (Rat.divInt n d) k := by
 constructor
 ·rw [<- lowest_num hd]
  have := qbb (Int.natAbs_ediv_le_natAbs n (if d < 0 then -(Int.gcd n d : Int) else (Int.gcd n d : Int)))
  omega
 ·have e := lowest_den (n := n) hd
  have := qbb (Int.natAbs_ediv_le_natAbs d (if d < 0 then -(Int.gcd n d : Int) else (Int.gcd n d : Int)))
  rw [e, Int.natAbs_natCast] at this
  omega
theorem madeQ_small {n d k : Int} (n1 : -128 <= n) (n2 : n < 128) (d1 : -128 <= d) (d2 : d < 128) (k1 : 0 <= k) (k2 : k < 256) : Qs (madeQ n d k) 8 := by
 obtain ⟨h1, h2, h3⟩ := made_nd n1 n2 d1 d2 k1 k2
 exact divInt_small h3 h1 h2
theorem Qs.mono {x : Rat} {a b : Nat} (h : Qs x a) (hab : a <= b) : Qs x b := ⟨Nat.le_trans h.1 hab, Nat.le_trans h.2 hab⟩
open Go Go.Abs Go.Abs.M Go.Proofs
end Go.Proofs.YtdhidmcjglokcaaGreat
end
section
namespace Go.Abs
def Cell.ren (ρ : Nat -> Nat) : Cell -> Cell
 | .t x => .t x
 | .ptr b r c => .ptr (ρ b) r c
 | .tp row c => .tp row c
 | .sl b off len cp => .sl (ρ b) off len cp
 | .mp b => .mp (ρ b)
 | .clo f caps => .clo f (caps.map fun p => (ρ p.1, p.2))
def AV.ren (ρ : Nat -> Nat) : AV -> AV
 | .c x => .c (x.ren ρ)
 | .agg l => .agg (l.map (Cell.ren ρ))
 | .tup l => .tup l
 | .junk => .junk
def AV.noTup : AV -> Prop
 | .tup _ => False
 | _ => True
def Blk.ren (ρ : Nat -> Nat) : Blk -> Blk
 | .var cells => .var (cells.map (Cell.ren ρ))
 | .rows sz l g fz => .rows sz l g fz
 | .map ents => .map ents
 | .old sz l => .old sz l
structure St.LeR (n0 : Nat) (ρ : Nat -> Nat) (s s' : St) : Prop where
 len : s'.tmps.length = s.tmps.length
 tmps : ∀ (i : Nat) (x : AV), s'.tmps[i]? = some x -> x = .junk ∨ x.noTup /\ s.tmps[i]? = some (x.ren ρ)
 heap : ∀ b blk, look s'.heap b = some blk -> look s.heap (ρ b) = some (blk.ren ρ)
 inj : ∀ b b' blk blk', look s'.heap b = some blk -> look s'.heap b' = some blk' -> ρ b = ρ b' -> b = b'
 fix : ∀ b, b < n0 -> ρ b = b
section
variable {β : Nat -> Option Reg} {S : Place} {w : World} {n : Nat} {ρ : Nat -> Nat}
theorem CRep.ren {c : Cell} {v : Value} (h : CRep β S w (c.ren ρ) v) (hb : c.refsLt n = true) : CRep (fun b => if b < n then β (ρ b) else none) S w c v := by
 cases c with
 | t x => cases h with | t h => exact .t h
 | ptr b r c => cases h with | ptr R h => exact .ptr R (by simp only [Cell.refsLt, decide_eq_true_eq] at hb; rw [if_pos hb]; exact h)
 | tp row c => cases h with | tp cb co val h => exact .tp cb co val h
 | sl b off len cp => cases h with | sl R base cap h h1 h2 h3 h4 h5 => exact .sl R base cap (by simp only [Cell.refsLt, decide_eq_true_eq] at hb; rw [if_pos hb]; exact h) h1 h2 h3 h4 h5
 | mp b => cases h with | mp R h => exact .mp R (by simp only [Cell.refsLt, decide_eq_true_eq] at hb; rw [if_pos hb]; exact h)
 | clo f caps =>
  cases h with
  | clo vs h1 h2 =>
   refine .clo vs (by rw [h1, List.length_map]) fun i b r c hi => ?_
   obtain ⟨R, e1, e2⟩ := h2 i (ρ b) r c (by rw [List.getElem?_map, hi]; rfl)
   have := List.all_eq_true.1 hb _ (List.mem_of_getElem? hi)
   exact ⟨R, by rw [if_pos (by simpa using this)]; exact e1, e2⟩
theorem VRep.ren {x : AV} {v : Value} (h : VRep β S w (x.ren ρ) v) (ht : x.noTup) (hb : x.refsLt n = true) : VRep (fun b => if b < n then β (ρ b) else none) S w x v := by
 cases x with
 | c x => cases h with | c h => exact .c (h.ren (by simpa [AV.refsLt] using hb))
 | agg l =>
  cases h with
  | agg vs h1 h2 =>
   refine .agg vs (by rw [h1, List.length_map]) fun i c hi => ?_
   obtain ⟨v, e1, e2⟩ := h2 i (c.ren ρ) (by rw [List.getElem?_map, hi]; rfl)
   simp only [AV.refsLt] at hb
   exact ⟨v, e1, e2.ren (List.all_eq_true.1 hb c (List.mem_of_getElem? hi))⟩
 | tup l => exact ht.elim
 | junk => exact .junk v
theorem Blk.ren_ext {blk : Blk} {R : Reg} : (blk.ren ρ).ext R = blk.ext R := by
 cases blk <;> (funext b o; simp [Blk.ren, Blk.ext])
theorem Blk.ren_wr {blk : Blk} {R : Reg} : (blk.ren ρ).wr R = blk.wr R := by
 cases blk <;> (funext b o; simp [Blk.ren, Blk.wr])
theorem Sat.ren {K : Ctx} {n0 : Nat} {s s' : St} {a : Act} (h : Sat K β S s a w) (hl : s.LeR n0 ρ s') (hb : s'.refsLt = true) (hn : ∀ i R, K.β0 i = some R -> i < n0) (hk : n0 <= s'.heap.length) :
  Sat K (fun b => if b < s'.heap.length then β (ρ b) else none) S s' a w := by
 simp only [St.refsLt, Bool.and_eq_true] at hb
 refine ⟨by rw [hl.len]; exact h.len, h.defers, fun t x ht => ?_, fun b R hR => ?_, fun b blk hbk => ?_, fun b b' blk blk' R R' hne h1 h2 hR hR' => ?_, h.sex, h.sin, h.sub, h.keep, fun i R hi => by
  rw [if_pos (Nat.lt_of_lt_of_le (hn i R hi) hk), hl.fix i (hn i R hi)]; exact h.arg i R hi⟩
 ·rcases hl.tmps t x ht with rfl | ⟨h1, hx⟩
  ·exact .junk _
  ·exact (h.tmps t _ hx).ren h1 (List.all_eq_true.1 hb.1 x (List.mem_of_getElem? ht))
 ·split at hR
  ·assumption
  ·cases hR
 ·obtain ⟨R, e1, e2, e3, e4⟩ := h.blk _ _ (hl.heap b blk hbk)
  have hlt := qax hbk
  rw [Blk.ren_ext] at e3
  rw [Blk.ren_wr] at e4
  refine ⟨R, by rw [if_pos hlt]; exact e1, ?_, e3, e4⟩
  cases blk with
  | var cells =>
   simp only [Blk.ren, BlkOk, List.length_map] at e2
   refine ⟨e2.1, fun j c hj => ?_⟩
   obtain ⟨v, f1, f2⟩ := e2.2 j (c.ren ρ) (by rw [List.getElem?_map, hj]; rfl)
   have hm : some (Blk.var cells) ∈ s'.heap := by
    unfold look at hbk
    cases hx : s'.heap[b]? with
    | none => rw [hx] at hbk; cases hbk
    | some y => rw [hx] at hbk; simp at hbk; subst hbk; exact List.mem_of_getElem? hx
   have := List.all_eq_true.1 hb.2 _ hm
   simp only [Blk.refsLt] at this
   exact ⟨v, f1, f2.ren (List.all_eq_true.1 this c (List.mem_of_getElem? hj))⟩
  | rows sz rows g fz => exact e2
  | map ents => exact e2
  | old sz rows => exact e2
 ·have l1 := qax h1
  have l2 := qax h2
  rw [if_pos l1] at hR
  rw [if_pos l2] at hR'
  have := h.dis (ρ b) (ρ b') _ _ R R' (fun e => hne (hl.inj b b' _ _ h1 h2 e)) (hl.heap _ _ h1) (hl.heap _ _ h2) hR hR'
  rw [Blk.ren_ext, Blk.ren_ext] at this
  exact this
end
theorem ARun.postRen {P : Program} {n0 : Nat} {c : Code} {st : St} {Q : AExit -> St -> Prop} (h : ARun P n0 c st fun e s => Q e s ∨ ∃ ρ s', s.LeR n0 ρ s' /\ s'.refsLt = true /\ n0 <= s'.heap.length /\ Q e s') : ARun P n0 c st Q := fun K hn β S a w hs =>
 wp_mono (h K hn β S a w hs) fun e a' w' ⟨x, s, h1, h2, β', S', h5⟩ => by
  rcases h2 with h2 | ⟨ρ, s', h2, h3, hk, h4⟩
  ·exact ⟨x, s, h1, h2, β', S', h5⟩
  ·exact ⟨x, s', h1, h4, _, S', h5.ren h2 h3 hn hk⟩
theorem LoopP.introR {P : Program} {C : Cfg} {n0 : Nat} {st : St} (hC : CfgOk P C) (hmix : P.follows .mixedOrders = true) {c : Code} {Q : AExit -> St -> Prop} (I : Nat -> St -> Prop) {n : Nat} {s0 : St} (hl : st.Le s0) (hb : s0.refsLt = true) (hk : n0 <= s0.heap.length) (h0 : I n s0)
  (round : ∀ n s, I n s -> CodeK P C n0 c s fun e s => match e with
   | .normal => ∃ ρ s', s.LeR n0 ρ s' /\ s'.refsLt = true /\ n0 <= s'.heap.length /\ ∃ m, m < n /\ I m s'
   | .exit id => Q (.exit id) s
   | .ret => Q .ret s) : LoopP P n0 c st Q := by
 refine ARun.weaken hl hb hk (ARun.loop I (fun n s hI => ARun.postRen ((CodeK.run hC hmix c s _ (round n s hI)).mono fun e s1 h1 => ?_)) h0)
 cases e with
 | normal =>
  obtain ⟨ρ, s', h2, h3, h4, m, h5, h6⟩ := h1
  exact .inr ⟨ρ, s', h2, h3, h4, m, h5, h6⟩
 | exit id => exact .inl h1
 | ret => exact .inl h1
def leTR (ρ : Nat -> Nat) : List AV -> List AV -> Prop
 | [], [] => True
 | x :: xs, y :: ys => (y = .junk ∨ y.noTup /\ x = y.ren ρ) /\ leTR ρ xs ys
 | _, _ => False
def renF : List (Nat × Nat) -> Nat -> Nat
 | [], b => b
 | (x, y) :: l, b => if b = x then y else renF l b
def leHR (ρ : Nat -> Nat) (h : Heap) : Nat -> Heap -> Prop
 | _, [] => True
 | i, y :: ys => (match y with | none => True | some b => look h (ρ i) = some (b.ren ρ)) /\ leHR ρ h (i + 1) ys
def liveR (ρ : Nat -> Nat) : Nat -> Heap -> List Nat
 | _, [] => []
 | i, none :: ys => liveR ρ (i + 1) ys
 | i, some _ :: ys => ρ i :: liveR ρ (i + 1) ys
theorem leTR_spec {ρ : Nat -> Nat} : ∀ {xs ys : List AV}, leTR ρ xs ys -> ys.length = xs.length /\ ∀ (i : Nat) (y : AV), ys[i]? = some y -> y = .junk ∨ y.noTup /\ xs[i]? = some (y.ren ρ)
 | [], [], _ => ⟨rfl, by simp⟩
 | x :: xs, y :: ys, h => by
  obtain ⟨h1, h2⟩ := h
  obtain ⟨h3, h4⟩ := leTR_spec h2
  refine ⟨by simp [h3], fun i z hz => ?_⟩
  cases i with
  | zero =>
   simp at hz; subst hz
   rcases h1 with h | ⟨h, h'⟩
   ·exact .inl h
   ·exact .inr ⟨h, by simp [h']⟩
  | succ i => simpa using h4 i z (by simpa using hz)
theorem leHR_spec {ρ : Nat -> Nat} {h : Heap} : ∀ {ys : Heap} {i : Nat}, leHR ρ h i ys -> ∀ (j : Nat) (b : Blk), look ys j = some b -> look h (ρ (i + j)) = some (b.ren ρ)
 | [], i, _, j, b, hb => by simp [look] at hb
 | y :: ys, i, ⟨h1, h2⟩, j, b, hb => by
  cases j with
  | zero => simp [look] at hb; subst hb; exact h1
  | succ j =>
   have := leHR_spec h2 j b (by simpa [look] using hb)
   rw [show i + (j + 1) = i + 1 + j by omega]; exact this
theorem liveR_mem {ρ : Nat -> Nat} : ∀ {ys : Heap} {i : Nat} (j : Nat) (b : Blk), look ys j = some b -> ρ (i + j) ∈ liveR ρ i ys
 | [], i, j, b, hb => by simp [look] at hb
 | y :: ys, i, j, b, hb => by
  cases j with
  | zero => simp [look] at hb; subst hb; exact .head _
  | succ j =>
   have := liveR_mem (ρ := ρ) (i := i + 1) j b (by simpa [look] using hb)
   rw [show i + (j + 1) = i + 1 + j by omega]
   cases y with
   | none => exact this
   | some y => exact .tail _ this
theorem liveR_inj {ρ : Nat -> Nat} : ∀ {ys : Heap} {i : Nat}, (liveR ρ i ys).Nodup -> ∀ (j j' : Nat) (b b' : Blk), look ys j = some b -> look ys j' = some b' -> ρ (i + j) = ρ (i + j') -> j = j'
 | [], i, _, j, j', b, b', hb, _, _ => by simp [look] at hb
 | y :: ys, i, hn, j, j', b, b', hb, hb', he => by
  have ht : (liveR ρ (i + 1) ys).Nodup := by
   cases y with
   | none => exact hn
   | some y => exact (List.nodup_cons.1 hn).2
  cases j with
  | zero =>
   cases j' with
   | zero => rfl
   | succ j' =>
    simp [look] at hb; subst hb
    have := liveR_mem (ρ := ρ) (i := i + 1) j' b' (by simpa [look] using hb')
    rw [show i + 1 + j' = i + (j' + 1) by omega, <- he] at this
    exact absurd this (List.nodup_cons.1 hn).1
  | succ j =>
   cases j' with
   | zero =>
    simp [look] at hb'; subst hb'
    have := liveR_mem (ρ := ρ) (i := i + 1) j b (by simpa [look] using hb)
    rw [show i + 1 + j = i + (j + 1) by omega, he] at this
    exact absurd this (List.nodup_cons.1 hn).1
   | succ j' =>
    have := liveR_inj ht j j' b b' (by simpa [look] using hb) (by simpa [look] using hb') (by rw [show i + 1 + j = i + (j + 1) by omega, show i + 1 + j' = i + (j' + 1) by omega]; exact he)
    omega
theorem leR_of {n0 : Nat} {s s' : St} (m : List (Nat × Nat)) (h1 : leTR (renF m) s.tmps s'.tmps) (h2 : leHR (renF m) s.heap 0 s'.heap) (h3 : (liveR (renF m) 0 s'.heap).Nodup) (h4 : ∀ p ∈ m, n0 <= p.1) : s.LeR n0 (renF m) s' := by
 obtain ⟨a, b⟩ := leTR_spec h1
 refine ⟨a, b, fun b blk hb => ?_, fun b b' blk blk' hb hb' he => ?_, fun b hb => ?_⟩
 ·have := leHR_spec h2 b blk hb; rwa [Nat.zero_add] at this
 ·exact liveR_inj h3 b b' blk blk' hb hb' (by rw [Nat.zero_add, Nat.zero_add]; exact he)
 ·have : ∀ l : List (Nat × Nat), (∀ p ∈ l, n0 <= p.1) -> renF l b = b := by
   intro l
   induction l with
   | nil => intro _; rfl
   | cons p l ih =>
    intro h
    obtain ⟨x, y⟩ := p
    have := h (x, y) (.head _)
    simp only [renF]
    rw [if_neg (by simp at this; omega)]
    exact ih fun p hp => h p (.tail _ hp)
  exact this m h4
theorem againR {s s' : St} {n0 n k : Nat} {I : Nat -> St -> Prop} (m : List (Nat × Nat)) (h1 : leTR (renF m) s.tmps s'.tmps) (h2 : leHR (renF m) s.heap 0 s'.heap) (h3 : (liveR (renF m) 0 s'.heap).Nodup) (h4 : ∀ p ∈ m, n0 <= p.1)
  (h5 : s'.refsLt = true) (h6 : n0 <= s'.heap.length) (hm : k < n) (hI : I k s') : ∃ ρ s', s.LeR n0 ρ s' /\ s'.refsLt = true /\ n0 <= s'.heap.length /\ ∃ m, m < n /\ I m s' := ⟨_, s', leR_of m h1 h2 h3 h4, h5, h6, k, hm, hI⟩
section
variable {P : Program} {C : Cfg} {n0 : Nat} {zA : IntKind -> Int -> Int} {zB : Int -> Int -> Int} {zC : Int -> Int -> Int} {zD : Int -> Int -> Int} {zE : Int -> Int -> Int} {zF : Int -> Int -> Int} {zG : IntKind -> Int -> Int -> Int} {zH : IntKind -> Int -> Int -> Int} {zI : IntKind -> Int -> Int -> Int} {zJ : IntKind -> Int -> Int -> Int} {zK : IntKind -> Int -> Int -> Int} {zL : IntKind -> Int -> Int -> Int} {zM : Int -> Int -> Bool} {zN : Int -> Int -> Bool} {zO : Int -> Int -> Bool} {zP : Int -> Int -> Bool} {zQ : Bool -> Bool} {zR : Bool -> Bool -> Bool} {zS : Bool -> Bool -> Bool} {zT : Int -> Int -> Int} {zU : Int -> Int -> Int} {zV : Int -> Nat} {zX : Int -> Nat -> Bool} {zY : Nat -> Int} {zZ : Nat -> Int -> Nat} {za : Nat -> Nat -> Bool} {zb : Nat -> Nat -> Nat} {zc : Int -> Int -> Nat} {zd : Int -> Int -> Nat -> Bool} {ze : Nat -> Nat -> Nat -> Bool} {zf : Int -> Int -> Nat -> Bool} {zg : Rows -> Nat} {zh : Rows -> Nat -> Option (List Tree)} {zi : Rows -> Nat -> List Tree -> Rows} {zj : IntKind -> Rows -> Nat -> Bool} {zk : Rows -> Nat -> Int} {zl : IntKind -> Rows -> Nat -> Int -> Rows} {zm : Nat -> Nat -> Rows -> Bool} {zn : Rows -> Nat -> Nat -> Rows} {zo : Rows -> Nat -> Rows -> Rows} {zp : Rows -> Nat -> Rows -> Rows} {zq : Nat -> List Tree -> Rows} {zr : Nat -> Rows -> Bool} {zs : List Bool -> Bool} {zt : List (Value × Tree) -> Value -> Bool} {zu : List (Value × Tree) -> Value -> Bool} {zw : List (Value × Tree) -> Value -> Tree -> List (Value × Tree)} {zx : IntKind -> List Int -> Rows} {zy : (α : Type) -> (Unit -> α) -> α} {A : FuncId -> List Arg -> Res -> Prop} {L : Code -> St -> (AExit -> ST -> Prop) -> Prop}
theorem loopZR (hC : CfgOk P C) (hmix : P.follows .mixedOrders = true) (hS : Std P n0 zA zB zC zD zE zF zG zH zI zJ zK zL zM zN zO zP zQ zR zS zT zU zV zX zY zZ za zb zc zd ze zf zg zh zi zj zk zl zm zn zo zp zq zr zs zt zu zw zx zy A L) {c : Code} {st : St} {Q : AExit -> ST -> Prop} (I : Nat -> St -> Prop) {n : Nat} {s0 : St} (hl : st.Le s0) (hb : s0.refsLt = true) (hk : n0 <= s0.heap.length) (h0 : I n s0)
  (round : ∀ n s, I n s -> CodeKZ (ZI.mk zA zB zC zD zE zF zG zH zI zJ zK zL zM zN zO zP zQ zR zS zT zU zV zX zY zZ za zb zc zd ze zf zg zh zi zj zk zl zm zn zo zp zq zr zs zt zu zw) C A L c (ST.ofSt s) fun e s => match e with
   | .normal => match s.toSt with
    | ⟨t, h⟩ => ∃ ρ s', (St.mk t h).LeR n0 ρ s' /\ s'.refsLt = true /\ n0 <= s'.heap.length /\ ∃ m, m < n /\ I m s'
   | .exit id => Q (.exit id) s
   | .ret => Q .ret s) : L c st Q := by
 rw [hS.z, hS.a, hS.l] at round
 rw [hS.l]
 refine fun hT => LoopP.introR hC hmix I hl hb hk h0 fun n s hI => ?_
 have := codeKZ_std c _ (ST.ofSt_ok s) hT (round n s hI)
 rw [ST.toSt_ofSt] at this
 refine codeK_mono c s this fun e s1 h1 => ?_
 obtain ⟨s', ho, rfl, h2⟩ := h1
 cases e with
 | normal => exact h2
 | exit id => exact ⟨s', ho, rfl, h2⟩
 | ret => exact ⟨s', ho, rfl, h2⟩
end
end Go.Abs
end
section
namespace Go.Proofs.YtdhidmcjglokcaaGreat
open Go Go.Abs Go.Abs.M Go.Proofs
def rtrSt (R : Abs.Rows) (n : Int) : St := mkSt 22 [.c (.t (.lst false R)), .junk, .junk, vi .i64 n] [none]
theorem rtrimU_call (P : List Rat) (hl : P.length <= 1000)
  (hs : ∀ q : Rat, ∃ k : Int, (k = 0 ↔ q = 0) /\ ACall Tryz.prog 53 [.val (.agg (qc q).row)] ⟨[.val (ti .i64 k)], [none]⟩) :
  ACall Tryz.prog 59 [.val (tl (ur P))] ⟨[.val (tl (ur (ptrim P)))], [none]⟩ := by
 obtain ⟨R, hR⟩ : ∃ R, R = ur P := ⟨_, rfl⟩
 obtain ⟨n, hn⟩ : ∃ n, n = P.length := ⟨_, rfl⟩
 have hRl : R.length = n := by rw [hR, ur_len, hn]
 have hget : ∀ i, i < n -> ∃ q : Rat, P.getD i 0 = q /\ ∃ (s t : Bool) (r p : Abs.Rows), (qc q).row = [.v (.bool s), .lst false r, .v (.bool t), .lst false p] /\ R[i]? = some (qc q).row := fun i hi => by
  have h : P[i]? = some P[i] := List.getElem?_eq_getElem (by omega)
  have h2 := qau h
  rw [<- hR] at h2
  exact ⟨_, by rw [List.getD_eq_getElem?_getD, h]; rfl, _, _, _, _, rfl, h2⟩
 have hwd : (R.all fun r => r.length == 4) = true := by
  refine List.all_eq_true.2 fun r hr => ?_
  rw [hR] at hr
  obtain ⟨c, _, rfl⟩ := List.mem_map.1 hr
  rfl
 obtain ⟨T, hT⟩ : ∃ T, T = tlen P P.length := ⟨_, rfl⟩
 obtain ⟨Q, hQ⟩ : ∃ Q, Q = ur (ptrim P) := ⟨_, rfl⟩
 have hend : ∀ k, tlen P k = T -> k <= n -> T = k -> Q = (R.drop 0).take k := fun k _ _ hk => by
  rw [hQ, hR, List.drop_zero, ur_take, <- hk, hT]; rfl
 rw [<- hR, <- hQ]
 rw [<- hn] at hT
 clear hR hQ
 refine callZ ccOk mixed [.val] Tryz.func59 rfl rfl (by kernel_rfl) fun zA zB zC zD zE zF zG zH zI zJ zK zL zM zN zO zP zQ zR zS zT zU zV zX zY zZ za zb zc zd ze zf zg zh zi zj zk zl zm zn zo zp zq zr zs zt zu zw zx zy A L F hS hF => ?_
 have hlx : zg R = n := by rw [hS.len, hRl]
 obtain ⟨N, hN, hN2⟩ : ∃ N : Int, N = n /\ zY (zg R) = N := ⟨_, rfl, by rw [hlx, hS.ofN]⟩
 cbv
 have hN : N = (n : Int) := hN
 refine loopZ ccOk mixed hS (fun (k : Nat) s' => ∃ I : Int, I = k /\ k <= n /\ tlen P k = T /\ s' = rtrSt R I) (n := n) (s0 := rtrSt R N) (qaj ?_ ?_) rfl (Nat.le_refl 1) ?_ ?_
 ·simp [leT, rtrSt, mkSt, vi, vb, hN2]
 ·simp [leH, rtrSt, mkSt]
 ·exact ⟨N, hN, Nat.le_refl _, hT.symm, rfl⟩
 ·rintro k s1 ⟨I, hI, hk, hTk, hs1⟩
  have w1 : zd 0 I (zg R) = true := by rw [hS.cut, hlx]; exact decide_eq_true (by omega)
  have w2 : zr 4 R = true := by rw [hS.wide]; exact hwd
  have w3 : zn R 0 (zV I) = (R.drop 0).take k := by rw [hS.part, hS.nat, hI, Int.toNat_natCast]
  by_cases hk0 : k = 0
  ·have l1 : zO 0 I = false := by rw [hS.lt]; exact decide_eq_false (by omega)
   have hq := hend k hTk hk (by rw [<- hTk, hk0]; rfl)
   subst hs1
   cbv
   refine bF l1 (nd w1 (nd w2 ?_))
   rw [w3, <- hq]
   exact hF _ (ResLe.refl _)
  ·have l1 : zO 0 I = true := by rw [hS.lt]; exact decide_eq_true (by omega)
   obtain ⟨q, hqi, s, t, r, p, hrow, hnth⟩ := hget (k - 1) (by omega)
   obtain ⟨c, hc, cg⟩ := hs q
   obtain ⟨J, hJ, j1⟩ : ∃ J : Int, J = ((k - 1 : Nat) : Int) /\ zA .i64 (zC I 1) = J := ⟨I - 1, by omega, by rw [hS.sub, hS.wrap, wrap_i64 (by omega) (by omega)]⟩
   have g1 : zP 0 J = true := by rw [hS.le]; exact decide_eq_true (by omega)
   have hz : zh R (zV J) = some [.v (.bool s), .lst false r, .v (.bool t), .lst false p] := by rw [hS.nat, hJ, Int.toNat_natCast, hS.nth, hnth, hrow]
   rw [hrow] at cg
   have htl : tlen P k = if q = 0 then tlen P (k - 1) else k := by
    obtain ⟨m, rfl⟩ : ∃ m, k = m + 1 := ⟨k - 1, by omega⟩
    rw [Nat.add_sub_cancel] at hqi
    rw [Nat.add_sub_cancel]
    show (if P.getD m 0 = 0 then tlen P m else m + 1) = _
    rw [hqi]
   by_cases hq0 : q = 0
   ·have e1 : zM c 0 = true := by rw [hS.eq]; exact decide_eq_true (hc.2 hq0)
    rw [if_pos hq0] at htl
    have hkk : k - 1 < k := by omega
    have hnx : ∃ I2 : Int, I2 = ((k - 1 : Nat) : Int) /\ k - 1 <= n /\ tlen P (k - 1) = T /\ rtrSt R J = rtrSt R I2 := ⟨J, hJ, by omega, by rw [<- htl]; exact hTk, rfl⟩
    clear hget hs hend
    subst hs1
    cbv
    refine bT l1 ?_
    rw [j1, hz]
    cbv
    refine nd (g1) ?_
    refine ⟨_, hS.call (cg), ?_⟩
    cbv
    refine bT (e1) ?_
    exact again (s' := rtrSt R J) (m := k - 1) (by simp [leT, rtrSt, mkSt, vi, vb, j1]) (by simp [leH, rtrSt, mkSt]) rfl (Nat.le_refl 1) hkk hnx
   ·have e1 : zM c 0 = false := by rw [hS.eq]; exact decide_eq_false fun h => hq0 (hc.1 h)
    rw [if_neg hq0] at htl
    have hq := hend k hTk hk (by rw [<- hTk, htl])
    clear hget hs hend
    subst hs1
    cbv
    refine bT l1 ?_
    rw [j1, hz]
    cbv
    refine nd (g1) ?_
    refine ⟨_, hS.call (cg), ?_⟩
    cbv
    refine bF (e1) ?_
    refine nd (w1) ?_
    refine nd (w2) ?_
    rw [w3, <- hq]
    exact hF _ (ResLe.refl _)
open Go Go.Abs Go.Abs.M Go.Proofs
structure RW where
 n : Int
 d : Int
 k : Int
structure RW.ok (x : RW) : Prop where
 n1 : -128 <= x.n
 n2 : x.n < 128
 d1 : -128 <= x.d
 d2 : x.d < 128
 k1 : 0 <= x.k
 k2 : x.k < 256
def RW.row (x : RW) : List Tree := [.v (.int .i8 x.n), .v (.int .i8 x.d), .v (.int .u8 x.k)]
def RW.q (x : RW) : Rat := madeQ x.n x.d x.k
def rwrows (xs : List RW) : Abs.Rows := xs.map RW.row
theorem rmadeQ_call (x : RW) (hx : x.ok) : ACall Tryz.prog 33 [.val (.agg x.row)] ⟨[.val (.agg (qc x.q).row)], [none]⟩ := by
 obtain ⟨u, w, v, p, h1, h2⟩ := rmade2_call x.n x.d x.k hx.n1 hx.n2 hx.d1 hx.d2 hx.k1 hx.k2
 rw [qc_row h1] at h2
 exact h2
def rmdSt (R : Abs.Rows) (D : Int) (len : Nat) (r : Abs.Rows) (i : Int) : St := mkSt 29 [.c (.t (.lst false R)), vi .i64 D, .junk, .junk, .junk, .c (.sl 2 0 len false), vi .i64 i] [none, none, some (.rows 4 r true false)]
theorem rmadeU_call (xs : List RW) (hx : ∀ x ∈ xs, x.ok) (D : Int) (hD : 0 <= D) (hD2 : D <= 100) (hlx : xs.length < 9223372036854775808)
  (ht : ∀ P : List Rat, P.length <= 1000 -> ACall Tryz.prog 59 [.val (tl (ur P))] ⟨[.val (tl (ur (ptrim P)))], [none]⟩) :
  ACall Tryz.prog 15 [.val (tl (rwrows xs)), .val (ti .i64 D)] ⟨[.val (tl (ur (ptrim ((xs.take (D.toNat + 1)).map RW.q))))], [none, none]⟩ := by
 obtain ⟨R, hR⟩ : ∃ R, R = rwrows xs := ⟨_, rfl⟩
 obtain ⟨n, hn⟩ : ∃ n, n = xs.length := ⟨_, rfl⟩
 have hRl : R.length = n := by rw [hR, hn]; simp [rwrows]
 have hget : ∀ i, i < n -> ∃ x : RW, x.ok /\ xs[i]? = some x /\ R[i]? = some x.row := fun i hi => by
  have h : xs[i]? = some xs[i] := List.getElem?_eq_getElem (by omega)
  have h2 : (rwrows xs)[i]? = some (xs[i]).row := by simp [rwrows, h]
  rw [<- hR] at h2
  exact ⟨_, hx _ (List.mem_of_getElem? h), h, h2⟩
 rw [<- hR]
 clear hR
 refine callZ ccOk mixed [.val] Tryz.func15 rfl rfl (by kernel_rfl) fun zA zB zC zD zE zF zG zH zI zJ zK zL zM zN zO zP zQ zR zS zT zU zV zX zY zZ za zb zc zd ze zf zg zh zi zj zk zl zm zn zo zp zq zr zs zt zu zw zx zy A L F hS hF => ?_
 have hlx2 : zg R = n := by rw [hS.len, hRl]
 obtain ⟨N, hN, hN2⟩ : ∃ N : Int, N = n /\ zY (zg R) = N := ⟨_, rfl, by rw [hlx2, hS.ofN]⟩
 cbv
 have hN : N = (n : Int) := hN
 refine loopZR ccOk mixed hS (fun (m : Nat) s' => ∃ (i : Nat) (I : Int) (r : Abs.Rows), I = i /\ i + m = 101 /\ i <= n /\ i <= D.toNat + 1 /\ r = ur ((xs.take i).map RW.q) /\ s' = rmdSt R D i r I) (n := 101) (s0 := rmdSt R D 0 [] 0) (qaj ?_ ?_) rfl (by show 2 <= 3; omega) ?_ ?_
 ·simp [leT, rmdSt, mkSt, vi, vb]
 ·simp [leH, rmdSt, mkSt]
 ·exact ⟨0, 0, [], rfl, rfl, by omega, by omega, rfl, rfl⟩
 ·rintro m s1 ⟨i, I, r, hI, him, hin, hiD, hr, hs1⟩
  have l1 : zO I (zY (zg R)) = decide (i < n) := by
   rw [hN2, hS.lt]
   by_cases h : i < n
   ·rw [decide_eq_true h]; exact decide_eq_true (by omega)
   ·rw [decide_eq_false h]; exact decide_eq_false (by omega)
  have l2 : zP I D = decide (i <= D.toNat) := by
   rw [hS.le]
   by_cases h : i <= D.toNat
   ·rw [decide_eq_true h]; exact decide_eq_true (by omega)
   ·rw [decide_eq_false h]; exact decide_eq_false (by omega)
  by_cases hc : i < n /\ i <= D.toNat
  ·rw [decide_eq_true hc.1] at l1
   rw [decide_eq_true hc.2] at l2
   obtain ⟨x, hxo, hxi, hnth⟩ := hget i hc.1
   have cm := rmadeQ_call x hxo
   have g1 : zP 0 I = true := by rw [hS.le]; exact decide_eq_true (by omega)
   have hz : zh R (zV I) = some [.v (.int .i8 x.n), .v (.int .i8 x.d), .v (.int .u8 x.k)] := by rw [hS.nat, hI, Int.toNat_natCast, hS.nth, hnth]; rfl
   obtain ⟨s, t, r1, q1, hrow⟩ : ∃ (s t : Bool) (r1 q1 : Abs.Rows), (qc x.q).row = [.v (.bool s), .lst false r1, .v (.bool t), .lst false q1] := ⟨_, _, _, _, rfl⟩
   rw [hrow] at cm
   unfold RW.row at cm
   have hrl : r.length = i := by rw [hr, ur_len, List.length_map, List.length_take]; omega
   obtain ⟨row, hrw⟩ : ∃ row, row = [Tree.v (.bool s), .lst false r1, .v (.bool t), .lst false q1] := ⟨_, rfl⟩
   have hr4 : row.length = 4 := by rw [hrw]; rfl
   have u0 : zn [row] 0 1 = [row] := by rw [hS.part]; rfl
   have u1 : zm 0 1 [row] = true := by rw [hS.fit]; rfl
   have u2 : zQ (za (zg [row]) 0) = true := by rw [hS.len, hS.neq, hS.not]; rfl
   have u3 : zr 4 [row] = true := by rw [hS.wide]; simp [hr4]
   have u4 : ze i (zg [row]) 64 = true := by rw [hS.len, hS.room]; exact decide_eq_true (by unfold capBytes; simp only [List.length_cons, List.length_nil]; omega)
   have u5 : za (zb 0 i) (zg r) = true := by rw [hS.nadd, hS.neq, hS.len, hrl, Nat.zero_add]; exact decide_eq_true rfl
   have u6 : zb i (zg [row]) = i + 1 := by rw [hS.len, hS.nadd]; rfl
   obtain ⟨r2, hr2⟩ : ∃ r2, r2 = ur ((xs.take (i + 1)).map RW.q) := ⟨_, rfl⟩
   have u7 : zo r 0 [row] = r2 := by
    rw [hS.ext, List.drop_zero, hr, hr2, List.take_add_one, hxi, List.map_append, Option.toList_some, List.map_cons, List.map_nil, ur_app, hrow, hrw]
   obtain ⟨I', hI', i1⟩ : ∃ I' : Int, I' = ((i + 1 : Nat) : Int) /\ zA .i64 (zB I 1) = I' := ⟨I + 1, by omega, by rw [hS.add, hS.wrap, wrap_i64 (by omega) (by omega)]⟩
   have hmm : m - 1 < m := by omega
   have hnx : ∃ (i2 : Nat) (I2 : Int) (r' : Abs.Rows), I2 = i2 /\ i2 + (m - 1) = 101 /\ i2 <= n /\ i2 <= D.toNat + 1 /\ r' = ur ((xs.take i2).map RW.q) /\ rmdSt R D (i + 1) r2 I' = rmdSt R D i2 r' I2 := ⟨i + 1, I', r2, hI', by omega, by omega, by omega, hr2, rfl⟩
   clear hget ht hr hr2 hrl
   subst hs1
   cbv
   refine bT l1 (bT l2 ?_)
   rw [hz]
   cbv
   refine nd (g1) ?_
   refine ⟨_, hS.call (cm), ?_⟩
   cbv
   rw [<- hrw, u0]
   refine nd (u1) ?_
   refine nd (u2) ?_
   refine nd (u3) ?_
   refine nd (u4) ?_
   refine nd (u5) ?_
   refine againR [(2, 6)] (s' := rmdSt R D (i + 1) r2 I') (k := m - 1) ?_ ?_ ?_ ?_ rfl (by show 2 <= 3; omega) hmm hnx
   ·simp [leTR, rmdSt, mkSt, vi, AV.ren, AV.noTup, Cell.ren, renF, i1, u6]
   ·simp [leHR, rmdSt, mkSt, Abs.look, renF, Blk.ren, u7]
   ·simp [liveR, rmdSt, mkSt]
   ·simp
  ·have hend : i = min (D.toNat + 1) n := by omega
   have htk : xs.take i = xs.take (D.toNat + 1) := by
    rw [hend]
    by_cases h : D.toNat + 1 <= n
    ·rw [Nat.min_eq_left h]
    ·rw [Nat.min_eq_right (by omega), List.take_of_length_le (by omega), List.take_of_length_le (by omega)]
   have cT := ht ((xs.take i).map RW.q) (by rw [List.length_map, List.length_take]; omega)
   rw [<- hr, htk] at cT
   have hrl : r.length = i := by rw [hr, ur_len, List.length_map, List.length_take]; omega
   have f1 : zm 0 i r = true := by rw [hS.fit]; exact decide_eq_true (by omega)
   have f2 : zn r 0 i = r := by rw [hS.part, List.drop_zero, List.take_of_length_le (by omega)]
   generalize ur (ptrim ((xs.take (D.toNat + 1)).map RW.q)) = res at *
   clear hget ht hr
   by_cases h1 : i < n
   ·have h2 : ¬ i <= D.toNat := fun h => hc ⟨h1, h⟩
    rw [decide_eq_true h1] at l1
    rw [decide_eq_false h2] at l2
    subst hs1
    cbv
    refine bT l1 (bF l2 (nd f1 ?_))
    rw [f2]
    refine ⟨_, hS.call (cT), ?_⟩
    cbv
    exact hF _ (ResLe.refl _)
   ·rw [decide_eq_false h1] at l1
    subst hs1
    cbv
    refine bF l1 (nd f1 ?_)
    rw [f2]
    refine ⟨_, hS.call (cT), ?_⟩
    cbv
    exact hF _ (ResLe.refl _)
open Go Go.Abs Go.Abs.M Go.Proofs
theorem qsign_call {x : Int} {s t : Bool} {r q : Abs.Rows} (c : Int) (hx : IsI x s r) (hc : c = cmpI x 0) : ACall Tryz.prog 58 [.val (.agg (iT s r ++ iT t q))] ⟨[.val (ti .i64 c)], [none]⟩ := by
 have c1 := isign_call c hx hc
 refine callZ ccOk mixed [.val] Tryz.func58 rfl rfl (by kernel_rfl) fun zA zB zC zD zE zF zG zH zI zJ zK zL zM zN zO zP zQ zR zS zT zU zV zX zY zZ za zb zc zd ze zf zg zh zi zj zk zl zm zn zo zp zq zr zs zt zu zw zx zy A L F hS hF => ?_
 cbv
 refine ⟨_, hS.call (c1), ?_⟩
 cbv
 exact hF _ (ResLe.refl _)
theorem rqsign_call {x : Int} {s t : Bool} {r q : Abs.Rows} (c : Int) (hx : IsI x s r) (hc : c = cmpI x 0) : ACall Tryz.prog 53 [.val (.agg (iT s r ++ iT t q))] ⟨[.val (ti .i64 c)], [none]⟩ := by
 have c1 := rsign_call c hx hc
 refine callZ ccOk mixed [.val] Tryz.func53 rfl rfl (by kernel_rfl) fun zA zB zC zD zE zF zG zH zI zJ zK zL zM zN zO zP zQ zR zS zT zU zV zX zY zZ za zb zc zd ze zf zg zh zi zj zk zl zm zn zo zp zq zr zs zt zu zw zx zy A L F hS hF => ?_
 cbv
 refine ⟨_, hS.call (c1), ?_⟩
 cbv
 exact hF _ (ResLe.refl _)
theorem cmp00 (x : Int) : cmpI x 0 = 0 ↔ x = 0 := by
 unfold cmpI
 by_cases h : x < 0
 ·rw [if_pos h]; omega
 ·rw [if_neg h]; split <;> omega
theorem utrim_call (P : List Rat) (hl : P.length <= 1000) : ACall Tryz.prog 59 [.val (tl (ur P))] ⟨[.val (tl (ur (ptrim P)))], [none]⟩ :=
 rtrimU_call P hl fun q => ⟨cmpI q.num 0, (cmp00 q.num).trans Rat.num_eq_zero, rqsign_call _ (qc_isR q).n rfl⟩
theorem umade_call (xs : List RW) (hx : ∀ x ∈ xs, x.ok) (D : Int) (hD : 0 <= D) (hD2 : D <= 100) (hlx : xs.length < 9223372036854775808) :
  ACall Tryz.prog 15 [.val (tl (rwrows xs)), .val (ti .i64 D)] ⟨[.val (tl (ur (ptrim ((xs.take (D.toNat + 1)).map RW.q))))], [none, none]⟩ :=
 rmadeU_call xs hx D hD hD2 hlx utrim_call
open Go Go.Abs Go.Abs.M Go.Proofs
theorem Qs.neg {x : Rat} {k : Nat} (h : Qs x k) : Qs (-x) k := ⟨by show nl (-x.num).natAbs <= k; rw [Int.natAbs_neg]; exact h.1, h.2⟩
open Go Go.Abs Go.Abs.M Go.Proofs
def qsameSt (s t : Bool) (r q : Abs.Rows) (i : Int) : St := mkSt 38 [.junk, .junk, .c (.ptr 2 0 0), .c (.ptr 3 0 0), .junk, vi .i64 i] [none, none, some (.var [.t (.v (.bool s)), .t (.lst false r)]), some (.var [.t (.v (.bool t)), .t (.lst false q)])]
theorem rqsameI_call {x y : Int} {s t : Bool} {r q : Abs.Rows} (hx : IsI x s r) (hy : IsI y t q) (hx1 : nl x.natAbs <= 2199023255552) : ACall Tryz.prog 86 [.val (.agg (iT s r)), .val (.agg (iT t q))] ⟨[.val (tb (decide (x = y)))], [none, none]⟩ := by
  have hl : r.length = nl x.natAbs := hx.m.len
  have hm : q.length = nl y.natAbs := hy.m.len
  have hne : s ≠ t -> x ≠ y := fun h e => h (by rw [hx.s, hy.s, e])
  have hle : nl x.natAbs ≠ nl y.natAbs -> x ≠ y := fun h e => h (by rw [e])
  have hwe : ∀ i, (dg x.natAbs).getD i 0 ≠ (dg y.natAbs).getD i 0 -> x ≠ y := fun i h e => h (by rw [e])
  have heq : s = t -> nl x.natAbs = nl y.natAbs -> (dg x.natAbs).take (nl x.natAbs) = (dg y.natAbs).take (nl x.natAbs) -> x = y := fun h1 h2 h3 => by
    have e1 : (dg x.natAbs).take (nl x.natAbs) = dg x.natAbs := List.take_of_length_le (Nat.le_refl _)
    have e2 : (dg y.natAbs).take (nl x.natAbs) = dg y.natAbs := List.take_of_length_le (by rw [h2]; exact Nat.le_refl _)
    rw [e1, e2] at h3
    have h4 := congrArg val h3
    rw [qao, qao] at h4
    have h5 := hx.s
    rw [h1, hy.s] at h5
    have h6 : (y < 0) ↔ (x < 0) := by
      constructor
      · intro h; rw [decide_eq_true h] at h5; exact of_decide_eq_true h5.symm
      · intro h; rw [decide_eq_true h] at h5; exact of_decide_eq_true h5
    omega
  have gx : ∀ i : Nat, ZI.std.getI r i = (dg x.natAbs).getD i 0 := fun i => by rw [hx.m, W_getI]
  have gy : ∀ i : Nat, ZI.std.getI q i = (dg y.natAbs).getD i 0 := fun i => by rw [hy.m, W_getI]
  have ix : ∀ i : Nat, i < nl x.natAbs -> ZI.std.isI .u32 r i = true := fun i h => by rw [hx.m, W_isI]; exact decide_eq_true h
  have iy : ∀ i : Nat, i < nl y.natAbs -> ZI.std.isI .u32 q i = true := fun i h => by rw [hy.m, W_isI]; exact decide_eq_true h
  have hstep : ∀ i : Nat, i < nl x.natAbs -> nl x.natAbs = nl y.natAbs -> (dg x.natAbs).take i = (dg y.natAbs).take i -> (dg x.natAbs).getD i 0 = (dg y.natAbs).getD i 0 -> (dg x.natAbs).take (i + 1) = (dg y.natAbs).take (i + 1) := fun i h h' h2 h3 => by
    have a1 : i < (dg x.natAbs).length := h
    have a2 : i < (dg y.natAbs).length := by have : i < nl y.natAbs := by omega
                                             exact this
    rw [List.take_succ_eq_append_getElem a1, List.take_succ_eq_append_getElem a2, h2]
    rw [List.getD_eq_getElem?_getD, List.getD_eq_getElem?_getD, List.getElem?_eq_getElem a1, List.getElem?_eq_getElem a2, Option.getD_some, Option.getD_some] at h3
    rw [h3]
  refine callZ ccOk mixed [.val] Tryz.func86 rfl rfl (by kernel_rfl) fun zA zB zC zD zE zF zG zH zI zJ zK zL zM zN zO zP zQ zR zS zT zU zV zX zY zZ za zb zc zd ze zf zg zh zi zj zk zl zm zn zo zp zq zr zs zt zu zw zx zy A L F hS hF => ?_
  have f0 : x ≠ y -> F ⟨[.val (.c (.v (.bool false)))], [none, none]⟩ := fun h => fin1 hF (by rw [decide_eq_false h]; rfl)
  have f1 : x = y -> F ⟨[.val (.c (.v (.bool true)))], [none, none]⟩ := fun h => fin1 hF (by rw [decide_eq_true h]; rfl)
  have e0 : zN (zY (zg r)) (zY (zg q)) = decide (nl x.natAbs ≠ nl y.natAbs) := by
    rw [hS.ne, hS.len, hS.len, hS.ofN, hS.ofN, hl, hm]
    by_cases h : nl x.natAbs = nl y.natAbs
    · rw [decide_eq_false (show ¬ nl x.natAbs ≠ nl y.natAbs by omega)]; exact decide_eq_false (by omega)
    · rw [decide_eq_true h]; exact decide_eq_true (by omega)
  have hlx : zg r = nl x.natAbs := by rw [hS.len, hl]
  generalize hLx : nl x.natAbs = Lx at *
  cbv
  refine ⟨fun h => f0 ?_, fun h => ⟨fun h' => f0 ?_, fun h' => ?_⟩⟩
  all_goals rw [hS.bne] at h
  · exact hne (by intro e; subst e; simp at h)
  all_goals rw [e0] at h'
  · exact hle (of_decide_eq_true h')
  · have hst : s = t := by cases s <;> cases t <;> first | rfl | (simp at h)
    have hll : Lx = nl y.natAbs := by have := of_decide_eq_false h'; omega
    refine loopZ ccOk mixed hS (fun (k : Nat) s' => ∃ i : Nat, i + k = Lx /\ (dg x.natAbs).take i = (dg y.natAbs).take i /\ s' = qsameSt s t r q (zY i)) (n := Lx) (s0 := qsameSt s t r q (zY 0)) (qaj ?_ ?_) rfl (by show 2 <= 4; omega) ?_ ?_
    · simp [leT, qsameSt, mkSt, vi, hS.ofN]
    · simp [leH, qsameSt, mkSt]
    · exact ⟨0, by omega, rfl, rfl⟩
    · rintro k _ ⟨i, hi, he, rfl⟩
      obtain ⟨i1, hi1⟩ : ∃ i1, i1 = i + 1 := ⟨_, rfl⟩
      have c1 : zO (zY i) (zY (zg r)) = decide (k ≠ 0) := by
        rw [hlx, hS.lt, hS.ofN, hS.ofN]
        by_cases h : k = 0
        · rw [decide_eq_false (show ¬ k ≠ 0 by omega)]; exact decide_eq_false (by omega)
        · rw [decide_eq_true h]; exact decide_eq_true (by omega)
      have c2 : zP 0 (zY i) = true := by rw [hS.le, hS.ofN]; exact decide_eq_true (by omega)
      have c3 : zV (zY i) = i := by rw [hS.nat, hS.ofN]; omega
      have c4 : i < Lx -> zj .u32 r (zV (zY i)) = true := fun h => by rw [c3, hS.isI]; exact ix i h
      have c5 : i < Lx -> zj .u32 q (zV (zY i)) = true := fun h => by rw [c3, hS.isI]; exact iy i (by omega)
      have c6 : zN (zk r (zV (zY i))) (zk q (zV (zY i))) = decide ((dg x.natAbs).getD i 0 ≠ (dg y.natAbs).getD i 0) := by
        rw [c3, hS.ne, hS.getI, hS.getI, gx, gy]
      have c7 : i < Lx -> zA .i64 (zB (zY i) 1) = zY i1 := fun h => by rw [hS.wrap, hS.add, hS.ofN, hS.ofN, wrap_i64 (by omega) (by omega), hi1]; omega
      have nx : i < Lx -> (dg x.natAbs).getD i 0 = (dg y.natAbs).getD i 0 -> (dg x.natAbs).take i1 = (dg y.natAbs).take i1 := fun h h2 => by rw [hi1]; exact hstep i h hll he h2
      have ki : k ≠ 0 -> i < Lx := by omega
      have k1 : k ≠ 0 -> i1 + (k - 1) = Lx /\ k - 1 < k := by omega
      have kz : k = 0 -> x = y := fun h => heq hst hll (by rw [show i = Lx by omega] at he; exact he)
      clear hi hi1 hstep ix iy gx gy
      cbv
      refine ⟨fun h => ?_, fun h => f1 ?_⟩
      all_goals rw [c1] at h
      · have hk := of_decide_eq_true h
        refine nd c2 (nd (c4 (ki hk)) (nd c2 (nd (c5 (ki hk)) ⟨fun h2 => f0 ?_, fun h2 => ?_⟩)))
        all_goals rw [c6] at h2
        · exact hwe i (of_decide_eq_true h2)
        · rw [c7 (ki hk)]
          exact again (s' := qsameSt s t r q (zY i1)) (m := k - 1) (by simp [leT, qsameSt, mkSt, vi]) (by simp [leH, qsameSt, mkSt]) rfl (by show 2 <= 4; omega) (k1 hk).2 ⟨i1, (k1 hk).1, nx (ki hk) (Decidable.not_not.mp (of_decide_eq_false h2)), rfl⟩
      · exact kz (Decidable.not_not.mp (of_decide_eq_false h))
theorem rqsame_call {x y : Rat} {s t s' t' : Bool} {r q r' q' : Abs.Rows} (b : Bool) (hx : IsR x s r t q) (hy : IsR y s' r' t' q') (hb : b = true ↔ x = y) (h1 : Qs x 68719476736) :
  ACall Tryz.prog 41 [.val (.agg (iT s r ++ iT t q)), .val (.agg (iT s' r' ++ iT t' q'))] ⟨[.val (tb b)], [none, none]⟩ := by
 have c1 := rqsameI_call hx.n hy.n (by have := h1.1; omega)
 have c2 := rqsameI_call hx.d hy.d (by rw [Int.natAbs_natCast]; have := h1.2; omega)
 have hne : x.num ≠ y.num -> false = b := fun h => by
  cases b with
  | false => rfl
  | true => exact absurd (by rw [hb.1 rfl]) h
 have hde : x.num = y.num -> decide ((x.den : Int) = y.den) = b := fun h => by
  cases b with
  | false => exact decide_eq_false fun h2 => absurd (hb.2 (Rat.ext h (by omega))) (by simp)
  | true => exact decide_eq_true (by rw [hb.1 rfl])
 by_cases h : x.num = y.num
 ·rw [decide_eq_true h] at c1
  rw [hde h] at c2
  refine callZ ccOk mixed [.val] Tryz.func41 rfl rfl (by kernel_rfl) fun zA zB zC zD zE zF zG zH zI zJ zK zL zM zN zO zP zQ zR zS zT zU zV zX zY zZ za zb zc zd ze zf zg zh zi zj zk zl zm zn zo zp zq zr zs zt zu zw zx zy A L F hS hF => ?_
  cbv
  refine ⟨_, hS.call (c1), ?_⟩
  cbv
  refine bT ((rfl : true = true)) ?_
  refine ⟨_, hS.call (c2), ?_⟩
  cbv
  exact hF _ (ResLe.refl _)
 ·rw [decide_eq_false h] at c1
  have hf := hne h
  subst hf
  refine callZ ccOk mixed [.val] Tryz.func41 rfl rfl (by kernel_rfl) fun zA zB zC zD zE zF zG zH zI zJ zK zL zM zN zO zP zQ zR zS zT zU zV zX zY zZ za zb zc zd ze zf zg zh zi zj zk zl zm zn zo zp zq zr zs zt zu zw zx zy A L F hS hF => ?_
  cbv
  refine ⟨_, hS.call (c1), ?_⟩
  cbv
  refine bF ((rfl : false = false)) ?_
  exact hF _ (ResLe.refl _)
open Go Go.Abs Go.Abs.M Go.Proofs
def rawZ : List Tree := [.v (.bool false), .lst true [], .v (.bool false), .lst true []]
def uzSt (N : Int) (n : Nat) (X : Abs.Rows) (i : Int) : St := mkSt 17 [vi .i64 N, .junk, .junk, .c (.sl 1 0 n false), .junk, .junk, .junk, vi .i64 N, vi .i64 i] [none, some (.rows 4 X true false)]
theorem uzeros_call (n : Nat) (hn : n <= 1000) : ACall Tryz.prog 62 [.val (ti .i64 (n : Int))] ⟨[.own 4 (ur (List.replicate n 0))], [none]⟩ := by
 obtain ⟨N, hN⟩ : ∃ N : Int, N = n := ⟨_, rfl⟩
 rw [<- hN]
 obtain ⟨s, r, v, p, hz, cw⟩ := pWhole_call 0 (by omega) (by omega)
 have hrow := qc_row hz
 rw [show ((0 : Int) : Rat) = 0 from rfl] at hrow
 obtain ⟨T, hT⟩ : ∃ T, T = ur (List.replicate n 0) := ⟨_, rfl⟩
 have hzr : (qc 0).row = [.v (.bool s), .lst false r, .v (.bool v), .lst false p] := hrow.symm
 have hXs : ∀ i, i < n -> ∃ X X' : Abs.Rows, X = ur (List.replicate i 0) ++ List.replicate (n - i) rawZ /\ X' = ur (List.replicate (i + 1) 0) ++ List.replicate (n - (i + 1)) rawZ /\ X[i]? = some rawZ /\ X.set i [.v (.bool s), .lst false r, .v (.bool v), .lst false p] = X' := fun i hi => by
  have hl : (ur (List.replicate i 0)).length = i := by rw [ur_len, List.length_replicate]
  obtain ⟨m, hm⟩ : ∃ m, n - i = m + 1 := ⟨n - i - 1, by omega⟩
  refine ⟨_, _, rfl, rfl, ?_, ?_⟩
  ·rw [List.getElem?_append_right (by omega), hl, Nat.sub_self, hm]; rfl
  ·rw [List.set_append_right _ _ (by omega), hl, Nat.sub_self, hm, show n - (i + 1) = m by omega, List.replicate_succ, List.set_cons_zero, List.replicate_succ' (n := i), ur_app, List.append_assoc, hzr]; rfl
 rw [<- hT]
 refine callZ ccOk mixed [.own 4] Tryz.func62 rfl rfl (by kernel_rfl) fun zA zB zC zD zE zF zG zH zI zJ zK zL zM zN zO zP zQ zR zS zT zU zV zX zY zZ za zb zc zd ze zf zg zh zi zj zk zl zm zn zo zp zq zr zs zt zu zw zx zy A L F hS hF => ?_
 have k0 : zf N N 64 = true := by rw [hS.mkok]; exact decide_eq_true (by unfold capBytes; omega)
 have k1 : zV N = n := by rw [hS.nat]; omega
 have k2 : zq n [.v (.bool false), .lst true [], .v (.bool false), .lst true []] = ur (List.replicate 0 0) ++ List.replicate (n - 0) rawZ := by rw [hS.rep]; rfl
 cbv
 have hN : N = (n : Int) := hN
 refine nd k0 ?_
 refine loopZ ccOk mixed hS (fun (m : Nat) s' => ∃ (i : Nat) (I : Int) (X : Abs.Rows), I = i /\ i + m = n /\ X = ur (List.replicate i 0) ++ List.replicate (n - i) rawZ /\ s' = uzSt N n X I) (n := n) (s0 := uzSt N n (ur (List.replicate 0 0) ++ List.replicate (n - 0) rawZ) 0) (qaj ?_ ?_) rfl (by show 1 <= 2; omega) ?_ ?_
 ·simp [leT, uzSt, mkSt, vi, k1]
 ·simp [leH, uzSt, mkSt, k1, k2]
 ·exact ⟨0, 0, _, rfl, by omega, rfl, rfl⟩
 ·rintro m s1 ⟨i, I, X, hI, him, hX, hs1⟩
  by_cases hi : i < n
  ·obtain ⟨X0, X', e1, e2, e3, e4⟩ := hXs i hi
   rw [<- hX] at e1
   subst e1
   have l1 : zO I N = true := by rw [hS.lt]; exact decide_eq_true (by omega)
   have g1 : zX I n = true := by rw [hS.inb]; exact decide_eq_true (by omega)
   have g2 : zZ 0 I = i := by rw [hS.idx]; omega
   have g3 : zh X0 i = some [.v (.bool false), .lst true [], .v (.bool false), .lst true []] := by rw [hS.nth]; exact e3
   have g4 : zi X0 i [.v (.bool s), .lst false r, .v (.bool v), .lst false p] = X' := by rw [hS.setr]; exact e4
   obtain ⟨I', hI', i1⟩ : ∃ I' : Int, I' = ((i + 1 : Nat) : Int) /\ zA .i64 (zB I 1) = I' := ⟨I + 1, by omega, by rw [hS.add, hS.wrap, wrap_i64 (by omega) (by omega)]⟩
   have hmm : m - 1 < m := by omega
   have hnx : ∃ (i2 : Nat) (I2 : Int) (X2 : Abs.Rows), I2 = i2 /\ i2 + (m - 1) = n /\ X2 = ur (List.replicate i2 0) ++ List.replicate (n - i2) rawZ /\ uzSt N n X' I' = uzSt N n X2 I2 := ⟨i + 1, I', X', hI', by omega, e2, rfl⟩
   clear hXs
   subst hs1
   cbv
   refine bT l1 ?_
   refine ⟨_, hS.call (cw), ?_⟩
   cbv
   refine nd (g1) ?_
   rw [g2, g3]
   cbv
   exact again (s' := uzSt N n X' I') (m := m - 1) (by simp [leT, uzSt, mkSt, vi, i1]) (by simp [leH, uzSt, mkSt, g4]) rfl (by show 1 <= 2; omega) hmm hnx
  ·have l1 : zO I N = false := by rw [hS.lt]; exact decide_eq_false (by omega)
   have hin : i = n := by omega
   have hXT : X = T := by rw [hX, hT, hin, Nat.sub_self]; simp
   have e1 : za n (zg T) = true := by rw [hS.neq, hS.len, hT, ur_len, List.length_replicate]; exact decide_eq_true rfl
   subst hXT
   subst hs1
   cbv
   refine bF l1 (nd e1 ?_)
   exact hF _ (ResLe.refl _)
open Go Go.Abs Go.Abs.M Go.Proofs
open Go Go.Abs Go.Abs.M Go.Proofs
def pshift (P : List Rat) (c : Rat) (B : List Rat) (k : Nat) : List Rat := pacc (P ++ List.replicate (max P.length (B.length + k) - P.length) 0) c B k
open Go Go.Abs Go.Abs.M Go.Proofs
theorem pshift_len (P : List Rat) (c : Rat) (B : List Rat) (k : Nat) : (pshift P c B k).length = max P.length (B.length + k) := by
 unfold pshift pacc
 rw [accL_len, List.length_append, List.length_replicate]
 omega
theorem pshift_get (P : List Rat) (c : Rat) (B : List Rat) (k j : Nat) : (pshift P c B k).getD j 0 = P.getD j 0 + if k <= j then c * B.getD (j - k) 0 else 0 := by
 have hp : ∀ m, (P ++ List.replicate m (0 : Rat)).getD j 0 = P.getD j 0 := fun m => by
  rw [List.getD_eq_getElem?_getD, List.getD_eq_getElem?_getD, List.getElem?_append]
  split
  ·rfl
  ·rename_i h
   rw [List.getElem?_eq_none (by omega : P.length <= j), List.getElem?_replicate]
   split <;> rfl
 unfold pshift pacc
 rw [accL_get _ _ (by rw [List.length_append, List.length_replicate]; omega), hp]
 by_cases h : k <= j
 ·rw [if_pos h]
  by_cases h2 : j < k + B.length
  ·rw [if_pos ⟨h, h2⟩]
  ·rw [if_neg (by omega), List.getD_eq_getElem?_getD, List.getD_eq_getElem?_getD (l := B), List.getElem?_eq_none (by omega : B.length <= j - k)]
   rw [Option.getD_none, Rat.mul_zero, Rat.add_zero]
 ·rw [if_neg (by omega), if_neg h, Rat.add_zero]
theorem Qs.whole {n : Int} {k : Nat} (h : n.natAbs < 4294967296) (hk : 1 <= k) : Qs ((n : Int) : Rat) k :=
 ⟨Nat.le_trans (qai (k := 1) (by simp only [Rat.num_intCast]; omega)) hk, Nat.le_trans (qai (k := 1) (by simp only [Rat.den_intCast]; omega)) hk⟩
open Go Go.Abs Go.Abs.M Go.Proofs
open Go Go.Abs Go.Abs.M Go.Proofs
def pmulL (P B : List Rat) (R : List Rat) : Nat -> List Rat
 | 0 => R
 | i + 1 => pacc (pmulL P B R i) (P.getD i 0) B i
def pmul (P B : List Rat) : List Rat := pmulL P B (List.replicate (P.length + B.length - 1) 0) P.length
theorem pmulL_len (P B R : List Rat) : ∀ i, (pmulL P B R i).length = R.length
 | 0 => rfl
 | i + 1 => by unfold pmulL pacc; rw [accL_len, pmulL_len P B R i]
open Go Go.Abs Go.Abs.M Go.Proofs
def csum (P B : List Rat) (j : Nat) : Nat -> Rat
 | 0 => 0
 | i + 1 => csum P B j i + if i <= j then P.getD i 0 * B.getD (j - i) 0 else 0
theorem pacc_get (R B : List Rat) (c : Rat) (k j : Nat) (h : B.length + k <= R.length) : (pacc R c B k).getD j 0 = R.getD j 0 + if k <= j then c * B.getD (j - k) 0 else 0 := by
 unfold pacc
 rw [accL_get _ _ (by omega)]
 by_cases h1 : k <= j
 ·rw [if_pos h1]
  by_cases h2 : j < k + B.length
  ·rw [if_pos ⟨h1, h2⟩]
  ·rw [if_neg (by omega), List.getD_eq_getElem?_getD (l := B), List.getElem?_eq_none (by omega : B.length <= j - k)]
   rw [Option.getD_none, Rat.mul_zero, Rat.add_zero]
 ·rw [if_neg (by omega), if_neg h1, Rat.add_zero]
theorem pmulL_get {P B R : List Rat} (hl : P.length + B.length <= R.length + 1) (j : Nat) : ∀ i, i <= P.length -> (pmulL P B R i).getD j 0 = R.getD j 0 + csum P B j i
 | 0, _ => by unfold pmulL csum; rw [Rat.add_zero]
 | i + 1, hi => by
  unfold pmulL csum
  rw [pacc_get _ _ _ _ _ (by rw [pmulL_len]; omega), pmulL_get hl j i (by omega), Rat.add_assoc]
open Go Go.Abs Go.Abs.M Go.Proofs
end Go.Proofs.YtdhidmcjglokcaaGreat
end
section
namespace Go.Abs
theorem tlen_beyond (P : List Rat) : ∀ k, P.length <= k -> tlen P k = tlen P P.length
 | 0, h => by rw [show P.length = 0 by omega]
 | k + 1, h => by
  by_cases hk : P.length = k + 1
  ·rw [hk]
  ·unfold tlen
   rw [if_pos (by rw [List.getD_eq_getElem?_getD, List.getElem?_eq_none (by omega)]; rfl), tlen_beyond P k (by omega)]
   cases hP : P.length <;> rfl
theorem tlen_congr {P Q : List Rat} (h : ∀ j, P.getD j 0 = Q.getD j 0) : ∀ k, tlen P k = tlen Q k
 | 0 => rfl
 | k + 1 => by unfold tlen; rw [h k, tlen_congr h k]
theorem ptrim_ext {P Q : List Rat} (h : ∀ j, P.getD j 0 = Q.getD j 0) : ptrim P = ptrim Q := by
 have e : tlen P P.length = tlen Q Q.length := by
  rw [<- tlen_beyond P (max P.length Q.length) (by omega), <- tlen_beyond Q (max P.length Q.length) (by omega)]
  exact tlen_congr h _
 have h1 := tlen_le P P.length
 have h2 := tlen_le Q Q.length
 unfold ptrim
 refine List.ext_getElem? fun i => ?_
 rw [e, List.getElem?_take, List.getElem?_take]
 by_cases hi : i < tlen Q Q.length
 ·rw [if_pos hi, if_pos hi]
  have hj := h i
  rw [List.getD_eq_getElem?_getD, List.getD_eq_getElem?_getD, List.getElem?_eq_getElem (by omega : i < P.length), List.getElem?_eq_getElem (by omega : i < Q.length)] at hj
  rw [List.getElem?_eq_getElem (by omega : i < P.length), List.getElem?_eq_getElem (by omega : i < Q.length)]
  exact congrArg some hj
 ·rw [if_neg hi, if_neg hi]
theorem tlen_zero (P : List Rat) : ∀ k j, tlen P k <= j -> j < k -> P.getD j 0 = 0
 | 0, j, _, h => by omega
 | k + 1, j, h, h2 => by
  unfold tlen at h
  by_cases h0 : P.getD k 0 = 0
  ·rw [if_pos h0] at h
   by_cases hj : j = k
   ·rw [hj]; exact h0
   ·exact tlen_zero P k j h (by omega)
  ·rw [if_neg h0] at h; omega
theorem ptrim_get (P : List Rat) (j : Nat) : (ptrim P).getD j 0 = P.getD j 0 := by
 unfold ptrim
 rw [List.getD_eq_getElem?_getD, List.getElem?_take]
 by_cases h : j < tlen P P.length
 ·rw [if_pos h, List.getD_eq_getElem?_getD]
 ·rw [if_neg h, Option.getD_none]
  by_cases h2 : j < P.length
  ·exact (tlen_zero P _ j (by omega) h2).symm
  ·rw [List.getD_eq_getElem?_getD, List.getElem?_eq_none (by omega)]; rfl
theorem ptrim_idem (P : List Rat) : ptrim (ptrim P) = ptrim P := ptrim_ext (ptrim_get P)
theorem ptrim_len (P : List Rat) : (ptrim P).length <= P.length := by
 unfold ptrim
 rw [List.length_take]; omega
theorem ptrim_mem {P : List Rat} {q : Rat} (h : q ∈ ptrim P) : q ∈ P := List.mem_of_mem_take h
end Go.Abs
end
section
namespace Go.Proofs.YtdhidmcjglokcaaGreat
open Go Go.Abs Go.Abs.M Go.Proofs
def rusSt (X Y : Abs.Rows) (i : Int) : St := mkSt 27 [.c (.t (.lst false X)), .c (.t (.lst false Y)), .junk, .junk, .junk, vi .i64 i] [none, none]
theorem rusame_call (P B : List Rat) (b : Bool) (hb : b = true ↔ P = B) (hl : P.length <= 1000) (hB : B.length <= 1000) (h1 : ∀ q ∈ P, Qs q 68719476736) :
  ACall Tryz.prog 19 [.val (tl (ur P)), .val (tl (ur B))] ⟨[.val (tb b)], [none, none]⟩ := by
 obtain ⟨X, hX⟩ : ∃ Y, Y = ur P := ⟨_, rfl⟩
 obtain ⟨Y, hY⟩ : ∃ Y, Y = ur B := ⟨_, rfl⟩
 obtain ⟨m, hm⟩ : ∃ m, m = P.length := ⟨_, rfl⟩
 obtain ⟨l, hl2⟩ : ∃ m, m = B.length := ⟨_, rfl⟩
 have hXl : X.length = m := by rw [hX, ur_len, hm]
 have hYl : Y.length = l := by rw [hY, ur_len, hl2]
 rw [<- hX, <- hY]
 by_cases hml : m = l
 ·subst hml
  refine callZ ccOk mixed [.val] Tryz.func19 rfl rfl (by kernel_rfl) fun zA zB zC zD zE zF zG zH zI zJ zK zL zM zN zO zP zQ zR zS zT zU zV zX zY zZ za zb zc zd ze zf zg zh zi zj zk zl zm zn zo zp zq zr zs zt zu zw zx zy A L F hS hF => ?_
  have e1 : zN (zY (zg X)) (zY (zg Y)) = false := by rw [hS.ne, hS.ofN, hS.ofN, hS.len, hS.len, hXl, hYl]; exact decide_eq_false (by simp)
  cbv
  refine bF e1 ?_
  refine loopZ ccOk mixed hS (fun (j : Nat) s' => ∃ (i : Nat) (I : Int), I = i /\ i + j = m /\ P.take i = B.take i /\ s' = rusSt X Y I) (n := m) (s0 := rusSt X Y 0) (qaj ?_ ?_) rfl (by show 2 <= 2; omega) ?_ ?_
  ·simp [leT, rusSt, mkSt, vi]
  ·simp [leH, rusSt, mkSt]
  ·exact ⟨0, 0, rfl, by omega, rfl, rfl⟩
  ·rintro j s1 ⟨i, I, hI, hij, hT, hs1⟩
   by_cases hi : i < m
   ·have l1 : zO I (zY (zg X)) = true := by rw [hS.lt, hS.ofN, hS.len, hXl]; exact decide_eq_true (by omega)
    have hPi : P[i]? = some P[i] := List.getElem?_eq_getElem (by omega)
    have hBi : B[i]? = some B[i] := List.getElem?_eq_getElem (by omega)
    obtain ⟨x, hx⟩ : ∃ x, x = P[i] := ⟨_, rfl⟩
    obtain ⟨y, hy⟩ : ∃ x, x = B[i] := ⟨_, rfl⟩
    rw [<- hx] at hPi
    rw [<- hy] at hBi
    have hXi : X[i]? = some (qc x).row := by rw [hX]; exact qau hPi
    have hYi : Y[i]? = some (qc y).row := by rw [hY]; exact qau hBi
    obtain ⟨s2, t2, r2, p2, hrow2, hrx⟩ : ∃ s2 t2 r2 p2, (qc x).row = [.v (.bool s2), .lst false r2, .v (.bool t2), .lst false p2] /\ IsR x s2 r2 t2 p2 := ⟨_, _, _, _, rfl, qc_isR x⟩
    obtain ⟨s3, t3, r3, p3, hrow3, hry⟩ : ∃ s2 t2 r2 p2, (qc y).row = [.v (.bool s2), .lst false r2, .v (.bool t2), .lst false p2] /\ IsR y s2 r2 t2 p2 := ⟨_, _, _, _, rfl, qc_isR y⟩
    rw [hrow2] at hXi
    rw [hrow3] at hYi
    obtain ⟨c, hc⟩ := bool_ex (x = y)
    have cs := rqsame_call c hrx hry hc (h1 _ (List.mem_of_getElem? hPi))
    have j1 : zV I = i := by rw [hS.nat]; omega
    have n0 : zP 0 I = true := by rw [hS.le]; exact decide_eq_true (by omega)
    have j2 : zh X i = some [.v (.bool s2), .lst false r2, .v (.bool t2), .lst false p2] := by rw [hS.nth]; exact hXi
    have j3 : zh Y i = some [.v (.bool s3), .lst false r3, .v (.bool t3), .lst false p3] := by rw [hS.nth]; exact hYi
    obtain ⟨I', hI', i1⟩ : ∃ I' : Int, I' = ((i + 1 : Nat) : Int) /\ zA .i64 (zB I 1) = I' := ⟨I + 1, by omega, by rw [hS.add, hS.wrap, wrap_i64 (by omega) (by omega)]⟩
    have hjj : j - 1 < j := by omega
    have zn1 : zQ true = false := by rw [hS.not]; rfl
    have zn2 : zQ false = true := by rw [hS.not]; rfl
    by_cases hxy : x = y
    ·have hct : c = true := hc.2 hxy
     subst hct
     have hnx : ∃ (i2 : Nat) (I2 : Int), I2 = i2 /\ i2 + (j - 1) = m /\ P.take i2 = B.take i2 /\ rusSt X Y I' = rusSt X Y I2 := ⟨i + 1, I', hI', by omega, by rw [List.take_add_one, List.take_add_one, hT, hPi, hBi, hxy], rfl⟩
     subst hs1
     cbv
     refine bT l1 ?_
     rw [j1, j2]
     cbv
     refine nd (n0) ?_
     rw [j1, j3]
     cbv
     refine nd (n0) ?_
     refine ⟨_, hS.call (cs), ?_⟩
     cbv
     refine bF (zn1) ?_
     exact again (s' := rusSt X Y I') (m := j - 1) (by simp [leT, rusSt, mkSt, vi, i1]) (by simp [leH, rusSt, mkSt]) rfl (by show 2 <= 2; omega) hjj hnx
    ·have hcf : c = false := by cases c with | false => rfl | true => exact absurd (hc.1 rfl) hxy
     have hbf : b = false := by
      cases b with
      | false => rfl
      | true => exact absurd (by have := hb.1 rfl; rw [this, hBi] at hPi; exact (Option.some.inj hPi).symm) hxy
     subst hcf
     subst hbf
     subst hs1
     cbv
     refine bT l1 ?_
     rw [j1, j2]
     cbv
     refine nd (n0) ?_
     rw [j1, j3]
     cbv
     refine nd (n0) ?_
     refine ⟨_, hS.call (cs), ?_⟩
     cbv
     refine bT (zn2) ?_
     exact hF _ (ResLe.refl _)
   ·have l1 : zO I (zY (zg X)) = false := by rw [hS.lt, hS.ofN, hS.len, hXl]; exact decide_eq_false (by omega)
    have hbt : b = true := hb.2 (by rw [<- List.take_length (l := P), <- List.take_length (l := B), <- hm, <- hl2]; rw [show m = i by omega]; exact hT)
    subst hbt
    subst hs1
    cbv
    refine bF l1 ?_
    exact hF _ (ResLe.refl _)
 ·have hbf : b = false := by
   cases b with
   | false => rfl
   | true => exact absurd (by rw [hm, hl2, hb.1 rfl]) hml
  subst hbf
  refine callZ ccOk mixed [.val] Tryz.func19 rfl rfl (by kernel_rfl) fun zA zB zC zD zE zF zG zH zI zJ zK zL zM zN zO zP zQ zR zS zT zU zV zX zY zZ za zb zc zd ze zf zg zh zi zj zk zl zm zn zo zp zq zr zs zt zu zw zx zy A L F hS hF => ?_
  have e1 : zN (zY (zg X)) (zY (zg Y)) = true := by rw [hS.ne, hS.ofN, hS.ofN, hS.len, hS.len, hXl, hYl]; exact decide_eq_true (by omega)
  cbv
  refine bT e1 ?_
  exact hF _ (ResLe.refl _)
end Go.Proofs.YtdhidmcjglokcaaGreat
end
section
namespace Go.Abs
def ev : List Rat -> Rat -> Rat
 | [], _ => 0
 | c :: P, x => c + x * ev P x
theorem ev_app (P Q : List Rat) (x : Rat) : ev (P ++ Q) x = ev P x + x ^ P.length * ev Q x := by
 induction P with
 | nil => simp [ev, Rat.zero_add, Rat.one_mul]
 | cons c P ih =>
  simp only [List.cons_append, ev, List.length_cons, Rat.pow_succ]
  rw [ih]
  grind
theorem ev_zeros (n : Nat) (x : Rat) : ev (List.replicate n 0) x = 0 := by
 induction n with
 | zero => rfl
 | succ n ih => simp only [List.replicate_succ, ev]; rw [ih]; grind
theorem ev_set (l : List Rat) (j : Nat) (d x : Rat) (h : j < l.length) : ev (l.set j d) x = ev l x + (d - l.getD j 0) * x ^ j := by
 induction l generalizing j with
 | nil => simp at h
 | cons c l ih =>
  cases j with
  | zero => simp only [List.set_cons_zero, ev, List.getD_cons_zero, Rat.pow_zero]; grind
  | succ j =>
   simp only [List.set_cons_succ, ev, List.getD_cons_succ, Rat.pow_succ]
   rw [ih j (by simpa using h)]; grind
theorem ev_ext {P Q : List Rat} (h : ∀ j, P.getD j 0 = Q.getD j 0) (x : Rat) : ev P x = ev Q x := by
 induction P generalizing Q with
 | nil =>
  induction Q with
  | nil => rfl
  | cons d Q ih =>
   have h0 := h 0
   simp at h0
   have := ih fun j => by have := h (j + 1); simpa using this
   simp only [ev] at this ⊢
   rw [<- this, <- h0]; grind
 | cons c P ih =>
  cases Q with
  | nil =>
   have h0 := h 0
   simp at h0
   have := ih (Q := []) fun j => by have := h (j + 1); simpa using this
   simp only [ev] at this ⊢
   rw [this, h0]; grind
  | cons d Q =>
   have h0 := h 0
   simp at h0
   have := ih (Q := Q) fun j => by have := h (j + 1); simpa using this
   simp only [ev]
   rw [this, h0]
theorem ev_trim (P : List Rat) (x : Rat) : ev (ptrim P) x = ev P x := ev_ext (ptrim_get P) x
theorem ev_take_succ (B : List Rat) (i : Nat) (x : Rat) (h : i < B.length) : ev (B.take (i + 1)) x = ev (B.take i) x + B.getD i 0 * x ^ i := by
 rw [List.take_add_one, ev_app, List.length_take, Nat.min_eq_left (by omega), List.getD_eq_getElem?_getD, List.getElem?_eq_getElem h]
 simp only [Option.toList_some, ev, Option.getD_some]
 grind
theorem rpow_add (x : Rat) (m : Nat) : ∀ n, x ^ (m + n) = x ^ m * x ^ n
 | 0 => by simp [Rat.mul_one]
 | n + 1 => by rw [<- Nat.add_assoc, Rat.pow_succ, Rat.pow_succ, rpow_add x m n, Rat.mul_assoc]
theorem ev_accL (R : List Rat) (c : Rat) (B : List Rat) (k : Nat) (x : Rat) (h : B.length + k <= R.length) : ∀ i, i <= B.length -> ev (accL R c B k i) x = ev R x + c * x ^ k * ev (B.take i) x
 | 0, _ => by simp [accL, ev, Rat.mul_zero, Rat.add_zero]
 | i + 1, hi => by
  unfold accL
  rw [ev_set _ _ _ _ (by rw [accL_len]; omega), ev_accL R c B k x h i (by omega), ev_take_succ B i x (by omega), show i + k = k + i by omega, rpow_add]
  grind
theorem ev_pacc (R : List Rat) (c : Rat) (B : List Rat) (k : Nat) (x : Rat) (h : B.length + k <= R.length) : ev (pacc R c B k) x = ev R x + c * x ^ k * ev B x := by
 unfold pacc
 rw [ev_accL R c B k x h _ (Nat.le_refl _), List.take_length]
def syn : List Rat -> Rat -> List Rat
 | [], _ => []
 | [_], _ => []
 | _ :: d :: P, r => ev (d :: P) r :: syn (d :: P) r
theorem syn_len : ∀ (P : List Rat) (r : Rat), (syn P r).length = P.length - 1
 | [], _ => rfl
 | [_], _ => rfl
 | c :: d :: P, r => by simp only [syn, List.length_cons]; rw [syn_len (d :: P) r]; simp
theorem syn_ev : ∀ (P : List Rat) (r x : Rat), ev P x = ev P r + (x - r) * ev (syn P r) x
 | [], _, _ => by simp [ev, syn]; grind
 | [_], _, _ => by simp [ev, syn]; grind
 | c :: d :: P, r, x => by
  have ih := syn_ev (d :: P) r x
  have e1 : ev (c :: d :: P) x = c + x * ev (d :: P) x := rfl
  have e2 : ev (c :: d :: P) r = c + r * ev (d :: P) r := rfl
  have e3 : ev (syn (c :: d :: P) r) x = ev (d :: P) r + x * ev (syn (d :: P) r) x := rfl
  rw [e1, e2, e3, ih]
  grind
theorem syn_zero : ∀ (P : List Rat) (r : Rat), ev P r = 0 -> (∀ j, (syn P r).getD j 0 = 0) -> ∀ j, P.getD j 0 = 0
 | [], _, _, _, _ => by simp
 | [c], r, h, _, j => by
  simp [ev] at h
  cases j with
  | zero => simpa [Rat.mul_zero, Rat.add_zero] using h
  | succ j => simp
 | c :: d :: P, r, h, hs, j => by
  have h1 : ev (d :: P) r = 0 := by have := hs 0; simpa [syn] using this
  have ih := syn_zero (d :: P) r h1 fun j => by have := hs (j + 1); simpa [syn] using this
  have h2 : ev (c :: d :: P) r = c + r * ev (d :: P) r := rfl
  cases j with
  | zero => simp; grind
  | succ j => simpa using ih j
theorem ev_zero_aux : ∀ (n : Nat) (P : List Rat) (s : Rat), P.length <= n -> (∀ x, s <= x -> ev P x = 0) -> ∀ j, P.getD j 0 = 0
 | 0, P, s, hl, _, j => by rw [List.length_eq_zero_iff.1 (by omega : P.length = 0)]; rfl
 | n + 1, P, s, hl, h, j => by
  have hs := h s Rat.le_refl
  refine syn_zero P s hs (ev_zero_aux n (syn P s) (s + 1) (by rw [syn_len]; omega) fun x hx => ?_) j
  have h1 := h x (by grind)
  have h2 := syn_ev P s x
  rw [h1, hs] at h2
  have h3 : x - s ≠ 0 := by grind
  have h4 : (x - s) * ev (syn P s) x = 0 := by grind
  rcases Rat.mul_eq_zero.1 h4 with h5 | h5
  ·exact absurd h5 h3
  ·exact h5
theorem ev_zero {P : List Rat} (h : ∀ x, ev P x = 0) (j : Nat) : P.getD j 0 = 0 := ev_zero_aux P.length P 0 (Nat.le_refl _) (fun x _ => h x) j
end Go.Abs
end
section
namespace Go.Proofs.YtdhidmcjglokcaaGreat
open Go Go.Abs Go.Abs.M Go.Proofs
structure PL (f : Rat -> Rat) (n k : Nat) (P : List Rat) : Prop where
 tr : ptrim P = P
 ev : ∀ x, ev P x = f x
 len : P.length <= n
 sz : ∀ q ∈ P, Qs q k
theorem ev_shift (P : List Rat) (c : Rat) (B : List Rat) (k : Nat) (x : Rat) : Abs.ev (pshift P c B k) x = Abs.ev P x + c * x ^ k * Abs.ev B x := by
 unfold pshift
 rw [ev_pacc _ _ _ _ _ (by simp; omega), ev_app, ev_zeros]
 grind
theorem ev_pmulL (P B R : List Rat) (x : Rat) (h : P.length + B.length <= R.length + 1) : ∀ i, i <= P.length -> Abs.ev (pmulL P B R i) x = Abs.ev R x + Abs.ev (P.take i) x * Abs.ev B x
 | 0, _ => by simp [pmulL, Abs.ev, Rat.zero_mul, Rat.add_zero]
 | i + 1, hi => by
  unfold pmulL
  rw [ev_pacc _ _ _ _ _ (by rw [pmulL_len]; omega), ev_pmulL P B R x h i (by omega), ev_take_succ P i x (by omega)]
  grind
theorem ev_pmul (P B : List Rat) (x : Rat) : Abs.ev (pmul P B) x = Abs.ev P x * Abs.ev B x := by
 unfold pmul
 rw [ev_pmulL P B _ x (by simp; omega) _ (Nat.le_refl _), ev_zeros, List.take_length, Rat.zero_add]
theorem ev_inj {P Q : List Rat} (h : ∀ x, Abs.ev P x = Abs.ev Q x) (j : Nat) : P.getD j 0 = Q.getD j 0 := by
 have h0 := ev_zero (P := pshift P (-1) Q 0) (fun x => by rw [ev_shift, h x]; grind) j
 rw [pshift_get, if_pos (Nat.zero_le _), Nat.sub_zero] at h0
 grind
theorem PL.inj {f g : Rat -> Rat} {n k m l : Nat} {P Q : List Rat} (h1 : PL f n k P) (h2 : PL g m l Q) (h : ∀ x, f x = g x) : P = Q := by
 rw [<- h1.tr, <- h2.tr]
 exact ptrim_ext (ev_inj fun x => by rw [h1.ev, h2.ev, h])
theorem PL.mono {f : Rat -> Rat} {n k m l : Nat} {P : List Rat} (h : PL f n k P) (h1 : n <= m) (h2 : k <= l) : PL f m l P :=
 ⟨h.tr, h.ev, Nat.le_trans h.len h1, fun q hq => (h.sz q hq).mono h2⟩
theorem PL.congr {f g : Rat -> Rat} {n k : Nat} {P : List Rat} (h : PL f n k P) (e : ∀ x, f x = g x) : PL g n k P :=
 ⟨h.tr, fun x => by rw [h.ev, e], h.len, h.sz⟩
theorem PL.of_trim {f : Rat -> Rat} {n k : Nat} {P : List Rat} (h1 : ∀ x, Abs.ev P x = f x) (h2 : P.length <= n) (h3 : ∀ q ∈ P, Qs q k) : PL f n k (ptrim P) :=
 ⟨ptrim_idem P, fun x => by rw [ev_trim, h1], Nat.le_trans (ptrim_len P) h2, fun q hq => h3 q (ptrim_mem hq)⟩
theorem PL.nil : PL (fun _ => 0) 0 0 [] := ⟨rfl, fun _ => rfl, Nat.le_refl _, fun q hq => by cases hq⟩
theorem Qs.zero {k : Nat} : 1 <= k -> Qs 0 k := fun h => Qs.whole (n := 0) (by decide) h
theorem pl_same {f g : Rat -> Rat} {n m a b : Nat} {P B : List Rat} (hP : PL f n a P) (hB : PL g m b B) (h : ∀ x, f x = g x) (hn : n <= 1000) (hm : m <= 1000) (hs : a <= 68719476736) :
  ACall Tryz.prog 19 [.val (tl (ur P)), .val (tl (ur B))] ⟨[.val (tb true)], [none, none]⟩ :=
 rusame_call P B true ⟨fun _ => hP.inj hB h, fun _ => rfl⟩ (Nat.le_trans hP.len hn) (Nat.le_trans hB.len hm) fun q hq => (hP.sz q hq).mono hs
theorem PL.cells {f : Rat -> Rat} {n a : Nat} {P : List Rat} (hP : PL f n a P) (h : a <= 68719476736) : ∀ c ∈ P.map qc, c.ok 68719476736 := fun c hc => by
 obtain ⟨q, hq, rfl⟩ := List.mem_map.1 hc
 have := hP.sz q hq
 exact ⟨qay _, qay _, by show nl q.num.natAbs <= 68719476736; have := this.1; omega, by show nl (q.den : Int).natAbs <= 68719476736; rw [Int.natAbs_natCast]; have := this.2; omega⟩
theorem pl_made (xs : List RW) (hx : ∀ x ∈ xs, x.ok) (D : Nat) (hD2 : D <= 100) (hlx : xs.length < 9223372036854775808) :
  ∃ P f, PL f (D + 1) 8 P /\ ACall Tryz.prog 15 [.val (tl (rwrows xs)), .val (ti .i64 (D : Int))] ⟨[.val (tl (ur P))], [none, none]⟩ := by
 refine ⟨_, _, PL.of_trim (P := (xs.take (D + 1)).map RW.q) (fun _ => rfl) (by rw [List.length_map, List.length_take]; omega) (fun q hq => ?_), umade_call xs hx D (by omega) (by omega) hlx⟩
 obtain ⟨x, hxm, rfl⟩ := List.mem_map.1 hq
 have ho := hx x (List.mem_of_mem_take hxm)
 exact madeQ_small ho.n1 ho.n2 ho.d1 ho.d2 ho.k1 ho.k2
theorem csum_top {P B : List Rat} (j : Nat) : ∀ i, i <= j + 1 -> j < i - 1 + B.length -> (∀ k, k + 1 < i -> B.getD (j - k) 0 = 0) -> csum P B j i = if i = 0 then 0 else P.getD (i - 1) 0 * B.getD (j - (i - 1)) 0
 | 0, _, _, _ => rfl
 | i + 1, h1, h2, h3 => by
  unfold csum
  rw [if_pos (by omega), if_neg (by omega), show i + 1 - 1 = i by omega]
  have hz : ∀ k, k <= i -> csum P B j k = 0 := fun k hk => by
   induction k with
   | zero => rfl
   | succ k ih =>
    unfold csum
    rw [ih (by omega), if_pos (by omega), h3 k (by omega)]; grind
  rw [hz i (Nat.le_refl _), Rat.zero_add]
theorem PL.last {f : Rat -> Rat} {n a : Nat} {P : List Rat} (hP : PL f n a P) (h : P ≠ []) : P.getD (P.length - 1) 0 ≠ 0 := by
 have h1 : tlen P P.length = P.length := by
  have := congrArg List.length hP.tr
  unfold ptrim at this
  rw [List.length_take] at this
  have := tlen_le P P.length
  omega
 have h2 : P.length ≠ 0 := fun h0 => h (List.length_eq_zero_iff.1 h0)
 have := tlen_last P P.length (by omega)
 rwa [h1] at this
theorem tlen_top {P : List Rat} (h : P ≠ []) (h0 : P.getD (P.length - 1) 0 ≠ 0) : ptrim P = P := by
 unfold ptrim
 obtain ⟨n, hn⟩ : ∃ n, P.length = n + 1 := ⟨P.length - 1, by have : P.length ≠ 0 := fun h1 => h (List.length_eq_zero_iff.1 h1); omega⟩
 rw [hn] at h0 ⊢
 unfold tlen
 rw [if_neg (by simpa using h0), <- hn, List.take_length]
theorem PL.mul_len {f g e : Rat -> Rat} {n m l a b c : Nat} {P B R : List Rat} (hP : PL f n a P) (hB : PL g m b B) (hR : PL e l c R) (he : ∀ x, e x = f x * g x) (h1 : P ≠ []) (h2 : B ≠ []) : R.length = P.length + B.length - 1 := by
 have l1 : P.length ≠ 0 := fun h => h1 (List.length_eq_zero_iff.1 h)
 have l2 : B.length ≠ 0 := fun h => h2 (List.length_eq_zero_iff.1 h)
 have hl : (pmul P B).length = P.length + B.length - 1 := by unfold pmul; rw [pmulL_len, List.length_replicate]
 have hne : pmul P B ≠ [] := fun h => by rw [h] at hl; simp at hl; omega
 have htop : (pmul P B).getD ((pmul P B).length - 1) 0 = P.getD (P.length - 1) 0 * B.getD (B.length - 1) 0 := by
  rw [hl]
  unfold pmul
  rw [pmulL_get (by simp; omega) _ _ (Nat.le_refl _), csum_top _ _ (by omega) (by omega) (fun k hk => by rw [List.getD_eq_getElem?_getD, List.getElem?_eq_none (by omega)]; rfl), if_neg l1, show P.length + B.length - 1 - 1 - (P.length - 1) = B.length - 1 by omega]
  rw [List.getD_eq_getElem?_getD, List.getElem?_replicate]
  split <;> simp [Rat.zero_add]
 have hnz : (pmul P B).getD ((pmul P B).length - 1) 0 ≠ 0 := by
  rw [htop]
  intro h
  rcases Rat.mul_eq_zero.1 h with h | h
  ·exact hP.last h1 h
  ·exact hB.last h2 h
 have : R = pmul P B := by
  rw [<- hR.tr, <- tlen_top hne hnz]
  exact ptrim_ext (ev_inj fun x => by rw [hR.ev, he, ev_pmul, hP.ev, hB.ev])
 rw [this, hl]
open Go Go.Abs Go.Abs.M Go.Proofs
theorem qrow (x : Rat) : ∃ (s t : Bool) (r p : Abs.Rows), (qc x).row = [.v (.bool s), .lst false r, .v (.bool t), .lst false p] /\ IsR x s r t p := ⟨_, _, _, _, rfl, qc_isR x⟩
theorem qa6 {x y : Rat} {a : Nat} (h1 : Qs x a) (h : x = y) (ha : a <= 68719476736) :
  ACall Tryz.prog 41 [.val (.agg (qc x).row), .val (.agg (qc y).row)] ⟨[.val (tb true)], [none, none]⟩ :=
 rqsame_call true (qc_isR x) (qc_isR y) ⟨fun _ => h, fun _ => rfl⟩ (h1.mono (by omega))
open Go Go.Abs Go.Abs.M Go.Proofs
end Go.Proofs.YtdhidmcjglokcaaGreat
end
section
namespace Go.Abs
def ladd : List Rat -> List Rat -> List Rat
 | [], Q => Q
 | c :: P, [] => c :: P
 | c :: P, d :: Q => (c + d) :: ladd P Q
def lsc (c : Rat) (P : List Rat) : List Rat := P.map (c * ·)
def lmul : List Rat -> List Rat -> List Rat
 | [], _ => []
 | c :: P, B => ladd (lsc c B) (0 :: lmul P B)
theorem ev_ladd : ∀ (P Q : List Rat) (x : Rat), ev (ladd P Q) x = ev P x + ev Q x
 | [], Q, x => by simp [ladd, ev, Rat.zero_add]
 | c :: P, [], x => by simp [ladd, ev, Rat.add_zero]
 | c :: P, d :: Q, x => by simp only [ladd, ev]; rw [ev_ladd P Q x]; grind
theorem ev_lsc (c : Rat) : ∀ (P : List Rat) (x : Rat), ev (lsc c P) x = c * ev P x
 | [], x => by simp [lsc, ev, Rat.mul_zero]
 | d :: P, x => by have := ev_lsc c P x; simp only [lsc, List.map_cons, ev] at this ⊢; rw [this]; grind
theorem ev_lmul : ∀ (P B : List Rat) (x : Rat), ev (lmul P B) x = ev P x * ev B x
 | [], B, x => by simp [lmul, ev, Rat.zero_mul]
 | c :: P, B, x => by
  simp only [lmul]
  rw [ev_ladd, ev_lsc]
  simp only [ev]
  rw [ev_lmul P B x]; grind
end Go.Abs
end
section
namespace Go.Proofs.YtdhidmcjglokcaaGreat
open Go Go.Abs Go.Abs.M Go.Proofs
end Go.Proofs.YtdhidmcjglokcaaGreat
end
section
namespace Go.Abs
theorem nd_of {q : Rat} {n d : Int} (hd : 0 < d) (h : q * (d : Rat) = (n : Rat)) : q.num.natAbs <= n.natAbs /\ (q.den : Int) <= d := by
 have hd0 : (d : Rat) ≠ 0 := fun h0 => by rw [Rat.intCast_eq_zero_iff] at h0; omega
 have hq : Rat.divInt n d = q := by
  rw [Rat.divInt_eq_div, <- h, Rat.div_def, Rat.mul_assoc, Rat.mul_inv_cancel _ hd0, Rat.mul_one]
 obtain ⟨num, den, nz, red⟩ := q
 obtain ⟨m, hm0, h1, h2⟩ := Rat.divInt_num_den (by omega) hq
 have hm : 0 < m := by
  rcases Int.lt_trichotomy m 0 with h3 | h3 | h3
  ·have : (den : Int) * m <= 0 := Int.mul_nonpos_of_nonneg_of_nonpos (by omega) (by omega)
   omega
  ·exact absurd h3 hm0
  ·exact h3
 refine ⟨?_, ?_⟩
 ·show num.natAbs <= n.natAbs
  rw [h1, Int.natAbs_mul]
  exact Nat.le_mul_of_pos_right _ (by omega)
 ·show (den : Int) <= d
  rw [h2]
  have : (den : Int) * 1 <= den * m := Int.mul_le_mul_of_nonneg_left (by omega) (by omega)
  omega
structure CD (M d : Int) (f : Nat -> Rat) : Prop where
 pos : 0 < d
 num : ∀ j, ∃ n : Int, -M <= n /\ n <= M /\ f j * (d : Rat) = (n : Rat)
def CF (s : Nat) (f : Nat -> Rat) : Prop := ∃ d : Int, d <= 2 ^ s /\ CD (2 ^ s) d f
theorem two_pow_mono {s t : Nat} (h : s <= t) : (2 : Int) ^ s <= 2 ^ t := by
 have := Nat.pow_le_pow_right (n := 2) (by omega) h
 exact_mod_cast this
theorem two_pow_pos (s : Nat) : (0 : Int) < 2 ^ s := by
 have := Nat.two_pow_pos s
 exact_mod_cast this
theorem CD.mono {M N d : Int} {f : Nat -> Rat} (h : CD M d f) (hM : M <= N) : CD N d f :=
 ⟨h.pos, fun j => by obtain ⟨n, h1, h2, h3⟩ := h.num j; exact ⟨n, by omega, by omega, h3⟩⟩
theorem CF.mono {s t : Nat} {f : Nat -> Rat} (h : CF s f) (hst : s <= t) : CF t f := by
 obtain ⟨d, h1, h2⟩ := h
 have := two_pow_mono hst
 exact ⟨d, by omega, h2.mono this⟩
theorem CF.congr {s : Nat} {f g : Nat -> Rat} (h : CF s f) (e : ∀ j, f j = g j) : CF s g := by
 have : f = g := funext e
 exact this ▸ h
theorem CF.pick {s : Nat} {f : Nat -> Rat} (h : CF s f) (p : Nat -> Bool) : CF s (fun j => if p j = true then f j else 0) := by
 obtain ⟨d, h1, h2⟩ := h
 have := two_pow_pos s
 refine ⟨d, h1, h2.pos, fun j => ?_⟩
 by_cases hp : p j = true
 ·rw [if_pos hp]; exact h2.num j
 ·rw [if_neg hp]; exact ⟨0, by omega, by omega, by rw [Rat.zero_mul]; rfl⟩
theorem CF.zero (s : Nat) : CF s (fun _ => 0) := by
 have := two_pow_pos s
 exact ⟨1, by omega, by omega, fun j => ⟨0, by omega, by omega, by rw [Rat.zero_mul]; rfl⟩⟩
theorem qat {a b M N : Int} (h1 : -M <= a) (h2 : a <= M) (h3 : -N <= b) (h4 : b <= N) : -(M * N) <= a * b /\ a * b <= M * N := by
 have e1 : 0 <= (M - a) * (N - b) := Int.mul_nonneg (by omega) (by omega)
 have e2 : 0 <= (M + a) * (N + b) := Int.mul_nonneg (by omega) (by omega)
 have e3 : 0 <= (M - a) * (N + b) := Int.mul_nonneg (by omega) (by omega)
 have e4 : 0 <= (M + a) * (N - b) := Int.mul_nonneg (by omega) (by omega)
 constructor <;> grind
theorem CF.add {s t : Nat} {f g : Nat -> Rat} (hf : CF s f) (hg : CF t g) : CF (s + t + 1) (fun j => f j + g j) := by
 obtain ⟨d, h1, h2⟩ := hf
 obtain ⟨e, h3, h4⟩ := hg
 have p1 := two_pow_pos s
 have p2 := two_pow_pos t
 have hd := h2.pos
 have he := h4.pos
 have e1 : (2 : Int) ^ (s + t + 1) = 2 * (2 ^ s * 2 ^ t) := by rw [Int.pow_succ, Int.pow_add]; omega
 rw [CF, e1]
 have b0 := qat (a := d) (b := e) (M := 2 ^ s) (N := 2 ^ t) (by omega) (by omega) (by omega) (by omega)
 have bp : 0 < d * e := Int.mul_pos hd he
 refine ⟨d * e, by omega, bp, fun j => ?_⟩
 obtain ⟨n, n1, n2, n3⟩ := h2.num j
 obtain ⟨m, m1, m2, m3⟩ := h4.num j
 have b1 := qat (a := n) (b := e) (M := 2 ^ s) (N := 2 ^ t) (by omega) (by omega) (by omega) (by omega)
 have b2 := qat (a := d) (b := m) (M := 2 ^ s) (N := 2 ^ t) (by omega) (by omega) (by omega) (by omega)
 refine ⟨n * e + d * m, by omega, by omega, ?_⟩
 rw [Rat.intCast_add, Rat.intCast_mul, Rat.intCast_mul, Rat.intCast_mul, <- n3, <- m3]
 grind
theorem CF.neg {s : Nat} {f : Nat -> Rat} (hf : CF s f) : CF s (fun j => -f j) := by
 obtain ⟨d, h1, h2⟩ := hf
 refine ⟨d, h1, h2.pos, fun j => ?_⟩
 obtain ⟨n, n1, n2, n3⟩ := h2.num j
 refine ⟨-n, by omega, by omega, ?_⟩
 rw [Rat.intCast_neg, <- n3]; grind
theorem CF.whole {n : Int} {s : Nat} (h1 : -2 ^ s <= n) (h2 : n <= 2 ^ s) : CF s (fun _ => (n : Rat)) := by
 have := two_pow_pos s
 exact ⟨1, by omega, by omega, fun j => ⟨n, h1, h2, by show (n : Rat) * 1 = n; rw [Rat.mul_one]⟩⟩
theorem CF.nd {s : Nat} {f : Nat -> Rat} (hf : CF s f) (j : Nat) : ((f j).num.natAbs : Int) <= 2 ^ s /\ ((f j).den : Int) <= 2 ^ s := by
 obtain ⟨d, h1, h2⟩ := hf
 obtain ⟨n, n1, n2, n3⟩ := h2.num j
 obtain ⟨q1, q2⟩ := nd_of h2.pos n3
 exact ⟨by omega, by omega⟩
theorem CF.of_nd {s : Nat} {q : Rat} (h1 : (q.num.natAbs : Int) <= 2 ^ s) (h2 : (q.den : Int) <= 2 ^ s) : CF s (fun _ => q) := by
 have := q.den_pos
 refine ⟨q.den, h2, by omega, fun j => ⟨q.num, by omega, by omega, ?_⟩⟩
 have hd0 : ((q.den : Int) : Rat) ≠ 0 := fun h => by rw [Rat.intCast_eq_zero_iff] at h; omega
 have := Rat.num_divInt_den q
 rw [Rat.divInt_eq_div] at this
 have h3 : (q.num : Rat) / ((q.den : Int) : Rat) * ((q.den : Int) : Rat) = (q.num : Rat) := Rat.div_mul_cancel hd0
 rwa [this] at h3
theorem CF.list {s : Nat} : ∀ (P : List Rat), (∀ q ∈ P, CF s (fun _ => q)) -> CF (P.length * s) (fun j => P.getD j 0)
 | [], _ => (CF.zero _).congr fun j => by simp
 | q :: P, h => by
  have ih := CF.list P fun p hp => h p (List.mem_cons_of_mem _ hp)
  obtain ⟨d, h1, h2⟩ := h q (List.mem_cons_self ..)
  obtain ⟨e, h3, h4⟩ := ih
  obtain ⟨m, m1, m2, m3⟩ := h2.num 0
  have p1 := two_pow_pos s
  have p2 := two_pow_pos (P.length * s)
  have hd := h2.pos
  have he := h4.pos
  have b0 := qat (a := e) (b := d) (M := 2 ^ (P.length * s)) (N := 2 ^ s) (by omega) (by omega) (by omega) (by omega)
  have b1 := qat (a := e) (b := m) (M := 2 ^ (P.length * s)) (N := 2 ^ s) (by omega) (by omega) (by omega) (by omega)
  have bp : 0 < e * d := Int.mul_pos he hd
  rw [List.length_cons, Nat.succ_mul, CF, Int.pow_add]
  refine ⟨e * d, b0.2, bp, fun j => ?_⟩
  cases j with
  | zero =>
   refine ⟨e * m, b1.1, b1.2, ?_⟩
   rw [List.getD_cons_zero, Rat.intCast_mul, Rat.intCast_mul, <- m3]; grind
  | succ j =>
   obtain ⟨n, n1, n2, n3⟩ := h4.num j
   have b2 := qat (a := n) (b := d) (M := 2 ^ (P.length * s)) (N := 2 ^ s) (by omega) (by omega) (by omega) (by omega)
   refine ⟨n * d, b2.1, b2.2, ?_⟩
   rw [List.getD_cons_succ, Rat.intCast_mul, Rat.intCast_mul, <- n3]; grind
def CF2 (s : Nat) (f g : Nat -> Rat) : Prop := ∃ d : Int, d <= 2 ^ s /\ CD (2 ^ s) d f /\ CD (2 ^ s) d g
theorem CF2.mono {s t : Nat} {f g : Nat -> Rat} (h : CF2 s f g) (hst : s <= t) : CF2 t f g := by
 obtain ⟨d, h1, h2, h3⟩ := h
 have := two_pow_mono hst
 exact ⟨d, by omega, h2.mono this, h3.mono this⟩
theorem CF2.left {s : Nat} {f g : Nat -> Rat} (h : CF2 s f g) : CF s f := by obtain ⟨d, h1, h2, h3⟩ := h; exact ⟨d, h1, h2⟩
theorem CF2.right {s : Nat} {f g : Nat -> Rat} (h : CF2 s f g) : CF s g := by obtain ⟨d, h1, h2, h3⟩ := h; exact ⟨d, h1, h3⟩
theorem CF2.round {s t : Nat} {f g b : Nat -> Rat} {v : Rat} {n : Nat} (h : CF2 s f g) (hb : CF t b) (hv : b n * v = 1) (top i : Nat) :
  CF2 (s + t + 1) (fun j => f j + if i <= j then -(f top * v) * b (j - i) else 0) (fun j => if j = i then f top * v else g j) := by
 obtain ⟨d, h1, h2, h3⟩ := h
 obtain ⟨e, h4, h5⟩ := hb
 obtain ⟨m, m1, m2, m3⟩ := h5.num n
 have hd := h2.pos
 have he := h5.pos
 have p1 := two_pow_pos s
 have p2 := two_pow_pos t
 have he0 : (e : Rat) ≠ 0 := fun h => by rw [Rat.intCast_eq_zero_iff] at h; omega
 have hm0 : m ≠ 0 := fun h => by
  rw [h] at m3
  rcases Rat.mul_eq_zero.1 (show b n * (e : Rat) = 0 from m3) with h' | h'
  ·rw [h', Rat.zero_mul] at hv; exact absurd hv (by decide)
  ·exact he0 h'
 have e1 : (2 : Int) ^ (s + t + 1) = 2 * (2 ^ s * 2 ^ t) := by rw [Int.pow_succ, Int.pow_add]; omega
 have e2 : (0 : Int) <= 2 ^ s * 2 ^ t := Int.mul_nonneg (by omega) (by omega)
 have hs : ∃ (w : Int) (y : Nat -> Int), 0 < w /\ w <= 2 ^ t /\ (∀ j, -2 ^ t <= y j /\ y j <= 2 ^ t /\ v * b j * (w : Rat) = (y j : Rat)) /\ ∃ z : Int, -2 ^ t <= z /\ z <= 2 ^ t /\ v * (w : Rat) = (z : Rat) := by
  have hvm : v * (m : Rat) = (e : Rat) := by rw [<- m3]; grind
  have hj : ∀ j, ∃ x : Int, -2 ^ t <= x /\ x <= 2 ^ t /\ v * b j * (m : Rat) = (x : Rat) := fun j => by
   obtain ⟨x, x1, x2, x3⟩ := h5.num j
   refine ⟨x, x1, x2, ?_⟩
   rw [<- x3, <- hvm]; grind
  rcases Int.lt_or_le m 0 with hm | hm
  ·refine ⟨-m, fun j => -(hj j).choose, by omega, by omega, fun j => ?_, -e, by omega, by omega, ?_⟩
   ·obtain ⟨x1, x2, x3⟩ := (hj j).choose_spec
    show -2 ^ t <= -(hj j).choose /\ -(hj j).choose <= 2 ^ t /\ v * b j * ((-m : Int) : Rat) = ((-(hj j).choose : Int) : Rat)
    refine ⟨by omega, by omega, ?_⟩
    rw [Rat.intCast_neg, Rat.intCast_neg, <- x3]; grind
   ·rw [Rat.intCast_neg, Rat.intCast_neg, <- hvm]; grind
  ·exact ⟨m, fun j => (hj j).choose, by omega, by omega, fun j => (hj j).choose_spec, e, by omega, by omega, hvm⟩
 obtain ⟨w, y, w1, w2, hy, z, z1, z2, z3⟩ := hs
 obtain ⟨x, x1, x2, x3⟩ := h2.num top
 have bp : 0 < d * w := Int.mul_pos hd w1
 have b0 := qat (a := d) (b := w) (M := 2 ^ s) (N := 2 ^ t) (by omega) (by omega) (by omega) (by omega)
 rw [CF2, e1]
 refine ⟨d * w, by omega, ⟨bp, fun j => ?_⟩, ⟨bp, fun j => ?_⟩⟩
 ·obtain ⟨a, a1, a2, a3⟩ := h2.num j
  have b1 := qat (a := a) (b := w) a1 a2 (N := 2 ^ t) (by omega) (by omega)
  by_cases hij : i <= j
  ·obtain ⟨y1, y2, y3⟩ := hy (j - i)
   have b2 := qat x1 x2 y1 y2
   refine ⟨a * w - x * y (j - i), by omega, by omega, ?_⟩
   rw [if_pos hij, Rat.intCast_sub, Rat.intCast_mul, Rat.intCast_mul, Rat.intCast_mul, <- a3, <- x3, <- y3]; grind
  ·refine ⟨a * w, by omega, by omega, ?_⟩
   rw [if_neg hij, Rat.intCast_mul, Rat.intCast_mul, <- a3]; grind
 ·by_cases hij : j = i
  ·have b2 := qat x1 x2 z1 z2
   refine ⟨x * z, by omega, by omega, ?_⟩
   rw [if_pos hij, Rat.intCast_mul, Rat.intCast_mul, <- x3, <- z3]; grind
  ·obtain ⟨a, a1, a2, a3⟩ := h3.num j
   have b1 := qat (a := a) (b := w) a1 a2 (N := 2 ^ t) (by omega) (by omega)
   refine ⟨a * w, by omega, by omega, ?_⟩
   rw [if_neg hij, Rat.intCast_mul, Rat.intCast_mul, <- a3]; grind
end Go.Abs
end
section
namespace Go.Proofs.YtdhidmcjglokcaaGreat
open Go Go.Abs Go.Abs.M Go.Proofs
theorem bits_words (s : Nat) : (2 : Int) ^ s < 4294967296 ^ (s / 32 + 1) := by
 obtain ⟨t, ht⟩ : ∃ t, t = 32 * (s / 32 + 1) := ⟨_, rfl⟩
 have h1 : (2 : Nat) ^ s < 2 ^ t := Nat.pow_lt_pow_right (by omega) (by omega)
 have h2 : (2 : Int) ^ s < 2 ^ t := by exact_mod_cast h1
 rw [ht, Int.pow_mul, show ((2 : Int) ^ 32) = 4294967296 from by decide] at h2
 exact h2
theorem int_pow_mono {b : Int} (hb : 1 <= b) {m k : Nat} (h : m <= k) : b ^ m <= b ^ k := by
 induction k with
 | zero => rw [Nat.le_zero.1 h]; omega
 | succ k ih =>
  rcases Nat.lt_or_ge k m with h1 | h1
  ·rw [show m = k + 1 by omega]; omega
  ·have h2 := ih h1
   have h3 : (0 : Int) <= b ^ k := Int.le_of_lt (Int.pow_pos (by omega))
   have h4 : b ^ k * 1 <= b ^ k * b := Int.mul_le_mul_of_nonneg_left hb h3
   rw [Int.pow_succ]; omega
theorem cf_qs {s : Nat} {f : Nat -> Rat} (h : CF s f) (j : Nat) : Qs (f j) (s / 32 + 1) := by
 obtain ⟨h1, h2⟩ := h.nd j
 have := bits_words s
 exact ⟨qai (by omega), qai (by omega)⟩
theorem cf_qsl {s : Nat} {P : List Rat} (h : CF s (fun j => P.getD j 0)) : ∀ q ∈ P, Qs q (s / 32 + 1) := fun q hq => by
 obtain ⟨j, hj⟩ := List.getElem?_of_mem hq
 have := cf_qs h j
 rw [List.getD_eq_getElem?_getD, hj] at this
 exact this
theorem cf_of_qs {k : Nat} {q : Rat} (h : Qs q k) : CF (32 * k) (fun _ => q) := by
 have e : (2 : Int) ^ (32 * k) = 4294967296 ^ k := by rw [Int.pow_mul, show ((2 : Int) ^ 32) = 4294967296 from by decide]
 have hm : ∀ m, nl m <= k -> (m : Int) <= 2 ^ (32 * k) := fun m hm => by
  have h1 := lt_nl m
  have h3 : (4294967296 : Int) ^ nl m <= 4294967296 ^ k := int_pow_mono (by omega) hm
  omega
 exact CF.of_nd (hm _ h.1) (hm _ h.2)
structure PB (f : Rat -> Rat) (n s : Nat) (P : List Rat) : Prop where
 tr : ptrim P = P
 ev : ∀ x, Abs.ev P x = f x
 len : P.length <= n
 cf : CF s (fun j => P.getD j 0)
theorem PB.pl {f : Rat -> Rat} {n s : Nat} {P : List Rat} (h : PB f n s P) : PL f n (s / 32 + 1) P := ⟨h.tr, h.ev, h.len, cf_qsl h.cf⟩
theorem PB.mono {f : Rat -> Rat} {n s m t : Nat} {P : List Rat} (h : PB f n s P) (h1 : n <= m) (h2 : s <= t) : PB f m t P := ⟨h.tr, h.ev, Nat.le_trans h.len h1, h.cf.mono h2⟩
theorem PB.congr {f g : Rat -> Rat} {n s : Nat} {P : List Rat} (h : PB f n s P) (e : ∀ x, f x = g x) : PB g n s P := ⟨h.tr, fun x => by rw [h.ev, e], h.len, h.cf⟩
theorem PB.of_trim {f : Rat -> Rat} {n s : Nat} {P : List Rat} (h1 : ∀ x, Abs.ev P x = f x) (h2 : P.length <= n) (h3 : CF s (fun j => P.getD j 0)) : PB f n s (ptrim P) :=
 ⟨ptrim_idem P, fun x => by rw [ev_trim, h1], Nat.le_trans (ptrim_len P) h2, h3.congr fun j => (ptrim_get P j).symm⟩
theorem PB.of_pl_any {f : Rat -> Rat} {n k : Nat} {P : List Rat} (h : PL f n k P) : PB f n (n * (32 * k)) P :=
 ⟨h.tr, h.ev, h.len, (CF.list P fun q hq => cf_of_qs (h.sz q hq)).mono (Nat.mul_le_mul_right _ h.len)⟩
theorem PB.nil (s : Nat) : PB (fun _ => 0) 0 s [] := ⟨rfl, fun _ => rfl, Nat.le_refl _, (CF.zero s).congr fun j => by simp⟩
theorem PB.inj {f g : Rat -> Rat} {n k m l : Nat} {P Q : List Rat} (h1 : PB f n k P) (h2 : PB g m l Q) (h : ∀ x, f x = g x) : P = Q := h1.pl.inj h2.pl h
open Go Go.Abs Go.Abs.M Go.Proofs
open Go Go.Abs Go.Abs.M Go.Proofs
theorem qs_any : ∀ P : List Rat, ∃ k, ∀ q ∈ P, Qs q k
 | [] => ⟨0, fun q hq => by cases hq⟩
 | p :: P => by
  obtain ⟨k, hk⟩ := qs_any P
  refine ⟨k + nl p.num.natAbs + nl p.den, fun q hq => ?_⟩
  rcases List.mem_cons.1 hq with h | h
  ·subst h; exact ⟨by omega, by omega⟩
  ·exact (hk q h).mono (by omega)
theorem PL.any {P : List Rat} (h : ptrim P = P) : ∃ k, PL (Abs.ev P) P.length k P := by
 obtain ⟨k, hk⟩ := qs_any P
 exact ⟨k, h, fun _ => rfl, Nat.le_refl _, hk⟩
theorem tr_inj {P Q : List Rat} (hP : ptrim P = P) (hQ : ptrim Q = Q) (h : ∀ x, Abs.ev P x = Abs.ev Q x) : P = Q := by
 obtain ⟨k, h1⟩ := PL.any hP
 obtain ⟨l, h2⟩ := PL.any hQ
 exact h1.inj h2 h
theorem tr_nil {P : List Rat} (hP : ptrim P = P) (h : ∀ x, Abs.ev P x = 0) : P = [] := tr_inj hP (Q := []) rfl h
theorem tr_last {P : List Rat} (hP : ptrim P = P) (h : P ≠ []) : P.getD (P.length - 1) 0 ≠ 0 := by
 obtain ⟨k, h1⟩ := PL.any hP
 exact h1.last h
theorem tr_len {P B R : List Rat} (hP : ptrim P = P) (hB : ptrim B = B) (hR : ptrim R = R) (he : ∀ x, Abs.ev R x = Abs.ev P x * Abs.ev B x) (h1 : P ≠ []) (h2 : B ≠ []) : R.length + 1 = P.length + B.length := by
 obtain ⟨k, p1⟩ := PL.any hP
 obtain ⟨l, p2⟩ := PL.any hB
 obtain ⟨m, p3⟩ := PL.any hR
 have := PL.mul_len p1 p2 p3 he h1 h2
 have l1 : P.length ≠ 0 := fun h => h1 (List.length_eq_zero_iff.1 h)
 have l2 : B.length ≠ 0 := fun h => h2 (List.length_eq_zero_iff.1 h)
 omega
theorem div_uniq {B Q R Q' R' : List Rat} (hQ : ptrim Q = Q) (hR : ptrim R = R) (hQ' : ptrim Q' = Q') (hR' : ptrim R' = R') (hB : ptrim B = B) (h1 : R.length < B.length) (h2 : R'.length < B.length)
  (h : ∀ x, Abs.ev Q x * Abs.ev B x + Abs.ev R x = Abs.ev Q' x * Abs.ev B x + Abs.ev R' x) : Q = Q' /\ R = R' := by
 have hB0 : B ≠ [] := fun h0 => by rw [h0] at h1; simp at h1
 have e1 : ∀ x, Abs.ev (ptrim (ladd Q (lsc (-1) Q'))) x * Abs.ev B x = Abs.ev (ptrim (pshift R' (-1) R 0)) x := fun x => by
  rw [ev_trim, ev_trim, ev_ladd, ev_lsc, ev_shift]; have := h x; grind
 have hz : ptrim (ladd Q (lsc (-1) Q')) = [] := by
  rcases Classical.em (ptrim (ladd Q (lsc (-1) Q')) = []) with h0 | h0
  ·exact h0
  ·have := tr_len (ptrim_idem _) hB (ptrim_idem _) (fun x => (e1 x).symm) h0 hB0
   have l1 : (ptrim (ladd Q (lsc (-1) Q'))).length ≠ 0 := fun h => h0 (List.length_eq_zero_iff.1 h)
   have l2 := ptrim_len (pshift R' (-1) R 0)
   rw [pshift_len] at l2
   omega
 have e2 : ∀ x, Abs.ev Q x = Abs.ev Q' x := fun x => by
  have : Abs.ev (ptrim (ladd Q (lsc (-1) Q'))) x = 0 := by rw [hz]; rfl
  rw [ev_trim, ev_ladd, ev_lsc] at this
  grind
 refine ⟨tr_inj hQ hQ' e2, tr_inj hR hR' fun x => ?_⟩
 have := h x
 rw [e2 x] at this
 grind
def Dv (D A : List Rat) : Prop := ∃ H : List Rat, ∀ x, Abs.ev A x = Abs.ev H x * Abs.ev D x
theorem Dv.refl (A : List Rat) : Dv A A := ⟨[1], fun x => by simp only [Abs.ev]; grind⟩
theorem Dv.trans {A B C : List Rat} (h1 : Dv A B) (h2 : Dv B C) : Dv A C := by
 obtain ⟨H, h1⟩ := h1
 obtain ⟨K, h2⟩ := h2
 exact ⟨lmul K H, fun x => by rw [h2, h1, ev_lmul]; grind⟩
theorem Dv.zero {D A : List Rat} (h : ∀ x, Abs.ev A x = 0) : Dv D A := ⟨[], fun x => by rw [h]; simp only [Abs.ev]; grind⟩
theorem Dv.congr {D A D' A' : List Rat} (h : Dv D A) (h1 : ∀ x, Abs.ev D x = Abs.ev D' x) (h2 : ∀ x, Abs.ev A x = Abs.ev A' x) : Dv D' A' := by
 obtain ⟨H, h⟩ := h
 exact ⟨H, fun x => by rw [<- h2, h, h1]⟩
theorem Dv.len {D A : List Rat} (hD : ptrim D = D) (hA : ptrim A = A) (h : Dv D A) (h0 : A ≠ []) : D ≠ [] /\ D.length <= A.length := by
 obtain ⟨H, h⟩ := h
 have hD0 : D ≠ [] := fun h1 => h0 (tr_nil hA fun x => by rw [h, h1]; simp only [Abs.ev]; grind)
 have hH0 : ptrim H ≠ [] := fun h1 => h0 (tr_nil hA fun x => by rw [h, <- ev_trim H, h1]; simp only [Abs.ev]; grind)
 have := tr_len (ptrim_idem H) hD hA (fun x => by rw [h, ev_trim]) hH0 hD0
 have l1 : (ptrim H).length ≠ 0 := fun h => hH0 (List.length_eq_zero_iff.1 h)
 exact ⟨hD0, by omega⟩
theorem Dv.rest {P B Q R : List Rat} (hQ : ptrim Q = Q) (hR : ptrim R = R) (hB : ptrim B = B) (h1 : R.length < B.length) (h : ∀ x, Abs.ev P x = Abs.ev Q x * Abs.ev B x + Abs.ev R x) (hd : Dv B P) : R = [] := by
 obtain ⟨H, hH⟩ := hd
 exact (div_uniq hQ hR (ptrim_idem H) (R' := []) rfl hB h1 (by simp; omega) (fun x => by rw [<- h, hH, ev_trim]; simp only [Abs.ev]; grind)).2
def Mon (P : List Rat) : Prop := P ≠ [] /\ P.getD (P.length - 1) 0 = 1
end Go.Proofs.YtdhidmcjglokcaaGreat
end
