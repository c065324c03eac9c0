/-
  A part of the proof: Cfg37.
-/
import Derived.Test.YtlhbidjdkginkaaM8
import Derived.Test.YtlhbidjdkginkaaProg
set_option maxHeartbeats 0
set_option maxRecDepth 100000
set_option linter.unusedVariables false
set_option linter.unusedSimpArgs false
set_option linter.unusedSectionVars false
section
namespace Go.Proofs.Ytlhbidjdkginkaa
open Go Go.Abs Go.Proofs
def tab : BT TI := (.node 49 ⟨.struct [(0, 36), (3, 32), (12, 48)], 40, 736, [.v (.int .i64 0), .lst true [], .lst true [], .v (.int .i64 0), .lst true [], .v (.int .i64 0), .v (.int .i64 0), .v
 (.int .i64 0), .lst true [], .lst true [], .lst true [], .lst true [], .v (.int .i64 0), .lst true [], .lst true [], .lst true [], .lst true [], .lst true [], .lst true [], .v
 (.int .i64 0), .v (.int .i64 0), .v (.int .i64 0), .v (.int .i64 0), .v (.int .i64 0), .v (.int .i64 0), .v (.int .i64 0), .v (.int .i64 0), .lst true [], .lst true [], .lst true
 [], .lst true [], .lst true [], .lst true [], .lst true [], .lst true [], .lst true [], .lst true [], .lst true [], .lst true [], .lst true []]⟩ (.node 27 ⟨.slice 38, 1, 24, [.lst
 true []]⟩ (.node 11 ⟨.string, 1, 16, [.v (.string ⟨#[]⟩)]⟩ (.node 6 ⟨.int .u8, 1, 1, [.v (.int .u8 0)]⟩ (.node 4 ⟨.bool, 1, 1, [.v (.bool false)]⟩ (.node 3 ⟨.int .i64, 1, 8, [.v
 (.int .i64 0)]⟩ (.node 2 ⟨.int .i64, 1, 8, [.v (.int .i64 0)]⟩ .leaf .leaf) .leaf) (.node 5 ⟨.int .u8, 1, 1, [.v (.int .u8 0)]⟩ .leaf .leaf)) (.node 9 ⟨.string, 1, 16, [.v (.string
 ⟨#[]⟩)]⟩ (.node 8 ⟨.struct [(0, 2), (1, 3), (2, 4), (3, 6)], 4, 24, [.v (.int .i64 0), .v (.int .i64 0), .v (.bool false), .v (.int .u8 0)]⟩ (.node 7 ⟨.struct [(0, 2), (1, 3), (2,
 4), (3, 6)], 4, 24, [.v (.int .i64 0), .v (.int .i64 0), .v (.bool false), .v (.int .u8 0)]⟩ .leaf .leaf) .leaf) (.node 10 ⟨.string, 1, 16, [.v (.string ⟨#[]⟩)]⟩ .leaf .leaf)))
 (.node 19 ⟨.struct [(0, 17)], 1, 8, [.v (.pointer none)]⟩ (.node 14 ⟨.struct [(0, 9), (1, 12)], 2, 24, [.v (.string ⟨#[]⟩), .v (.int .u64 0)]⟩ (.node 13 ⟨.struct [(0, 9), (1, 12)],
 2, 24, [.v (.string ⟨#[]⟩), .v (.int .u64 0)]⟩ (.node 12 ⟨.int .u64, 1, 8, [.v (.int .u64 0)]⟩ .leaf .leaf) .leaf) (.node 18 ⟨.struct [(0, 17)], 1, 8, [.v (.pointer none)]⟩ .leaf
 .leaf)) (.node 25 ⟨.slice 69, 1, 24, [.lst true []]⟩ (.node 24 ⟨.slice 69, 1, 24, [.lst true []]⟩ (.node 21 ⟨.int .i32, 1, 4, [.v (.int .i32 0)]⟩ .leaf .leaf) .leaf) (.node 26
 ⟨.slice 38, 1, 24, [.lst true []]⟩ .leaf .leaf)))) (.node 39 ⟨.slice 66, 1, 24, [.lst true []]⟩ (.node 32 ⟨.struct [(0, 3), (1, 25), (2, 3), (3, 3), (4, 3), (5, 27), (6, 28), (7,
 29), (8, 30)], 9, 152, [.v (.int .i64 0), .lst true [], .v (.int .i64 0), .v (.int .i64 0), .v (.int .i64 0), .lst true [], .lst true [], .lst true [], .lst true []]⟩ (.node 30
 ⟨.slice 157, 1, 24, [.lst true []]⟩ (.node 29 ⟨.slice 3, 1, 24, [.lst true []]⟩ (.node 28 ⟨.slice 25, 1, 24, [.lst true []]⟩ .leaf .leaf) .leaf) (.node 31 ⟨.struct [(0, 3), (1,
 25), (2, 3), (3, 3), (4, 3), (5, 27), (6, 28), (7, 29), (8, 30)], 9, 152, [.v (.int .i64 0), .lst true [], .v (.int .i64 0), .v (.int .i64 0), .v (.int .i64 0), .lst true [], .lst
 true [], .lst true [], .lst true []]⟩ .leaf .leaf)) (.node 37 ⟨.slice 28, 1, 24, [.lst true []]⟩ (.node 36 ⟨.struct [(0, 3), (1, 28), (2, 28)], 3, 56, [.v (.int .i64 0), .lst true
 [], .lst true []]⟩ (.node 35 ⟨.struct [(0, 3), (1, 28), (2, 28)], 3, 56, [.v (.int .i64 0), .lst true [], .lst true []]⟩ .leaf .leaf) .leaf) (.node 38 ⟨.array 8 3, 8, 64, [.v (.int
 .i64 0), .v (.int .i64 0), .v (.int .i64 0), .v (.int .i64 0), .v (.int .i64 0), .v (.int .i64 0), .v (.int .i64 0), .v (.int .i64 0)]⟩ .leaf .leaf))) (.node 44 ⟨.slice 155, 1, 24,
 [.lst true []]⟩ (.node 42 ⟨.struct [(0, 38), (8, 40), (9, 41)], 17, 280, [.v (.int .i64 0), .v (.int .i64 0), .v (.int .i64 0), .v (.int .i64 0), .v (.int .i64 0), .v (.int .i64
 0), .v (.int .i64 0), .v (.int .i64 0), .lst true [], .lst true [], .lst true [], .lst true [], .lst true [], .lst true [], .lst true [], .lst true [], .lst true []]⟩ (.node 41
 ⟨.array 8 40, 8, 192, [.lst true [], .lst true [], .lst true [], .lst true [], .lst true [], .lst true [], .lst true [], .lst true []]⟩ (.node 40 ⟨.slice 66, 1, 24, [.lst true []]⟩
 .leaf .leaf) .leaf) (.node 43 ⟨.struct [(0, 38), (8, 40), (9, 41)], 17, 280, [.v (.int .i64 0), .v (.int .i64 0), .v (.int .i64 0), .v (.int .i64 0), .v (.int .i64 0), .v (.int
 .i64 0), .v (.int .i64 0), .v (.int .i64 0), .lst true [], .lst true [], .lst true [], .lst true [], .lst true [], .lst true [], .lst true [], .lst true [], .lst true []]⟩ .leaf
 .leaf)) (.node 47 ⟨.struct [(0, 3), (1, 28), (2, 28), (3, 27), (4, 37), (5, 37), (6, 37), (7, 43), (24, 44), (25, 45), (26, 46), (27, 30)], 28, 528, [.v (.int .i64 0), .lst true
 [], .lst true [], .lst true [], .lst true [], .lst true [], .lst true [], .v (.int .i64 0), .v (.int .i64 0), .v (.int .i64 0), .v (.int .i64 0), .v (.int .i64 0), .v (.int .i64
 0), .v (.int .i64 0), .v (.int .i64 0), .lst true [], .lst true [], .lst true [], .lst true [], .lst true [], .lst true [], .lst true [], .lst true [], .lst true [], .lst true [],
 .lst true [], .lst true [], .lst true []]⟩ (.node 46 ⟨.slice 160, 1, 24, [.lst true []]⟩ (.node 45 ⟨.slice 159, 1, 24, [.lst true []]⟩ .leaf .leaf) .leaf) (.node 48 ⟨.struct [(0,
 3), (1, 28), (2, 28), (3, 27), (4, 37), (5, 37), (6, 37), (7, 43), (24, 44), (25, 45), (26, 46), (27, 30)], 28, 528, [.v (.int .i64 0), .lst true [], .lst true [], .lst true [],
 .lst true [], .lst true [], .lst true [], .v (.int .i64 0), .v (.int .i64 0), .v (.int .i64 0), .v (.int .i64 0), .v (.int .i64 0), .v (.int .i64 0), .v (.int .i64 0), .v (.int
 .i64 0), .lst true [], .lst true [], .lst true [], .lst true [], .lst true [], .lst true [], .lst true [], .lst true [], .lst true [], .lst true [], .lst true [], .lst true [],
 .lst true []]⟩ .leaf .leaf))))) (.node 138 ⟨.int .u64, 1, 8, [.v (.int .u64 0)]⟩ (.node 69 ⟨.struct [(0, 66), (4, 67)], 12, 128, [.v (.bool false), .lst true [], .v (.bool false),
 .lst true [], .v (.int .i64 0), .v (.int .i64 0), .v (.int .i64 0), .v (.int .i64 0), .v (.int .i64 0), .v (.int .i64 0), .v (.int .i64 0), .v (.int .i64 0)]⟩ (.node 64 ⟨.struct
 [(0, 4), (1, 62)], 2, 32, [.v (.bool false), .lst true []]⟩ (.node 62 ⟨.slice 106, 1, 24, [.lst true []]⟩ (.node 58 ⟨.int .i64, 1, 8, [.v (.int .i64 0)]⟩ (.node 50 ⟨.struct [(0,
 36), (3, 32), (12, 48)], 40, 736, [.v (.int .i64 0), .lst true [], .lst true [], .v (.int .i64 0), .lst true [], .v (.int .i64 0), .v (.int .i64 0), .v (.int .i64 0), .lst true [],
 .lst true [], .lst true [], .lst true [], .v (.int .i64 0), .lst true [], .lst true [], .lst true [], .lst true [], .lst true [], .lst true [], .v (.int .i64 0), .v (.int .i64 0),
 .v (.int .i64 0), .v (.int .i64 0), .v (.int .i64 0), .v (.int .i64 0), .v (.int .i64 0), .v (.int .i64 0), .lst true [], .lst true [], .lst true [], .lst true [], .lst true [],
 .lst true [], .lst true [], .lst true [], .lst true [], .lst true [], .lst true [], .lst true [], .lst true []]⟩ .leaf .leaf) .leaf) (.node 63 ⟨.struct [(0, 4), (1, 62)], 2, 32,
 [.v (.bool false), .lst true []]⟩ .leaf .leaf)) (.node 67 ⟨.array 8 3, 8, 64, [.v (.int .i64 0), .v (.int .i64 0), .v (.int .i64 0), .v (.int .i64 0), .v (.int .i64 0), .v (.int
 .i64 0), .v (.int .i64 0), .v (.int .i64 0)]⟩ (.node 66 ⟨.struct [(0, 64), (2, 64)], 4, 64, [.v (.bool false), .lst true [], .v (.bool false), .lst true []]⟩ (.node 65 ⟨.struct
 [(0, 64), (2, 64)], 4, 64, [.v (.bool false), .lst true [], .v (.bool false), .lst true []]⟩ .leaf .leaf) .leaf) (.node 68 ⟨.struct [(0, 66), (4, 67)], 12, 128, [.v (.bool false),
 .lst true [], .v (.bool false), .lst true [], .v (.int .i64 0), .v (.int .i64 0), .v (.int .i64 0), .v (.int .i64 0), .v (.int .i64 0), .v (.int .i64 0), .v (.int .i64 0), .v (.int
 .i64 0)]⟩ .leaf .leaf))) (.node 106 ⟨.int .u32, 1, 4, [.v (.int .u32 0)]⟩ (.node 97 ⟨.struct [(0, 3), (1, 25), (2, 27)], 3, 56, [.v (.int .i64 0), .lst true [], .lst true []]⟩
 (.node 94 ⟨.int .u64, 1, 8, [.v (.int .u64 0)]⟩ (.node 84 ⟨.map 9 3, 1, 8, [.v (.map none)]⟩ .leaf .leaf) .leaf) (.node 98 ⟨.struct [(0, 3), (1, 25), (2, 27)], 3, 56, [.v (.int
 .i64 0), .lst true [], .lst true []]⟩ .leaf .leaf)) (.node 111 ⟨.struct [(0, 109)], 1, 24, [.lst true []]⟩ (.node 110 ⟨.struct [(0, 109)], 1, 24, [.lst true []]⟩ (.node 109 ⟨.slice
 5, 1, 24, [.lst true []]⟩ .leaf .leaf) .leaf) (.node 134 ⟨.slice 64, 1, 24, [.lst true []]⟩ .leaf .leaf)))) (.node 152 ⟨.struct [(0, 12), (1, 12), (2, 106), (3, 146), (4, 5), (5,
 5), (6, 147), (7, 148), (8, 149), (9, 150), (10, 151)], 11, 48, [.v (.int .u64 0), .v (.int .u64 0), .v (.int .u32 0), .v (.int .u8 0), .v (.int .u8 0), .v (.int .u8 0), .v (.int
 .u8 0), .v .nilFunc, .v (.pointer none), .v (.int .i32 0), .v (.int .i32 0)]⟩ (.node 144 ⟨.struct [(0, 142)], 0, 0, []⟩ (.node 142 ⟨.array 0 16, 0, 0, []⟩ (.node 141 ⟨.struct [(0,
 17), (1, 17), (2, 17), (3, 9)], 4, 40, [.v (.pointer none), .v (.pointer none), .v (.pointer none), .v (.string ⟨#[]⟩)]⟩ (.node 140 ⟨.struct [(0, 17), (1, 17), (2, 17), (3, 9)], 4,
 40, [.v (.pointer none), .v (.pointer none), .v (.pointer none), .v (.string ⟨#[]⟩)]⟩ .leaf .leaf) .leaf) (.node 143 ⟨.struct [(0, 142)], 0, 0, []⟩ .leaf .leaf)) (.node 150 ⟨.int
 .i32, 1, 4, [.v (.int .i32 0)]⟩ (.node 147 ⟨.int .u8, 1, 1, [.v (.int .u8 0)]⟩ (.node 146 ⟨.int .u8, 1, 1, [.v (.int .u8 0)]⟩ .leaf .leaf) .leaf) (.node 151 ⟨.int .i32, 1, 4, [.v
 (.int .i32 0)]⟩ .leaf .leaf))) (.node 157 ⟨.array 8 155, 64, 1024, [.v (.bool false), .lst true [], .v (.bool false), .lst true [], .v (.bool false), .lst true [], .v (.bool
 false), .lst true [], .v (.bool false), .lst true [], .v (.bool false), .lst true [], .v (.bool false), .lst true [], .v (.bool false), .lst true [], .v (.bool false), .lst true
 [], .v (.bool false), .lst true [], .v (.bool false), .lst true [], .v (.bool false), .lst true [], .v (.bool false), .lst true [], .v (.bool false), .lst true [], .v (.bool
 false), .lst true [], .v (.bool false), .lst true [], .v (.bool false), .lst true [], .v (.bool false), .lst true [], .v (.bool false), .lst true [], .v (.bool false), .lst true
 [], .v (.bool false), .lst true [], .v (.bool false), .lst true [], .v (.bool false), .lst true [], .v (.bool false), .lst true [], .v (.bool false), .lst true [], .v (.bool
 false), .lst true [], .v (.bool false), .lst true [], .v (.bool false), .lst true [], .v (.bool false), .lst true [], .v (.bool false), .lst true [], .v (.bool false), .lst true
 [], .v (.bool false), .lst true []]⟩ (.node 155 ⟨.struct [(0, 66), (4, 66)], 8, 128, [.v (.bool false), .lst true [], .v (.bool false), .lst true [], .v (.bool false), .lst true
 [], .v (.bool false), .lst true []]⟩ (.node 154 ⟨.struct [(0, 66), (4, 66)], 8, 128, [.v (.bool false), .lst true [], .v (.bool false), .lst true [], .v (.bool false), .lst true
 [], .v (.bool false), .lst true []]⟩ (.node 153 ⟨.struct [(0, 12), (1, 12), (2, 106), (3, 146), (4, 5), (5, 5), (6, 147), (7, 148), (8, 149), (9, 150), (10, 151)], 11, 48, [.v
 (.int .u64 0), .v (.int .u64 0), .v (.int .u32 0), .v (.int .u8 0), .v (.int .u8 0), .v (.int .u8 0), .v (.int .u8 0), .v .nilFunc, .v (.pointer none), .v (.int .i32 0), .v (.int
 .i32 0)]⟩ .leaf .leaf) .leaf) (.node 156 ⟨.array 8 155, 64, 1024, [.v (.bool false), .lst true [], .v (.bool false), .lst true [], .v (.bool false), .lst true [], .v (.bool false),
 .lst true [], .v (.bool false), .lst true [], .v (.bool false), .lst true [], .v (.bool false), .lst true [], .v (.bool false), .lst true [], .v (.bool false), .lst true [], .v
 (.bool false), .lst true [], .v (.bool false), .lst true [], .v (.bool false), .lst true [], .v (.bool false), .lst true [], .v (.bool false), .lst true [], .v (.bool false), .lst
 true [], .v (.bool false), .lst true [], .v (.bool false), .lst true [], .v (.bool false), .lst true [], .v (.bool false), .lst true [], .v (.bool false), .lst true [], .v (.bool
 false), .lst true [], .v (.bool false), .lst true [], .v (.bool false), .lst true [], .v (.bool false), .lst true [], .v (.bool false), .lst true [], .v (.bool false), .lst true
 [], .v (.bool false), .lst true [], .v (.bool false), .lst true [], .v (.bool false), .lst true [], .v (.bool false), .lst true [], .v (.bool false), .lst true [], .v (.bool
 false), .lst true []]⟩ .leaf .leaf)) (.node 159 ⟨.struct [(0, 66), (4, 25)], 5, 88, [.v (.bool false), .lst true [], .v (.bool false), .lst true [], .lst true []]⟩ (.node 158
 ⟨.struct [(0, 66), (4, 25)], 5, 88, [.v (.bool false), .lst true [], .v (.bool false), .lst true [], .lst true []]⟩ .leaf .leaf) (.node 160 ⟨.array 8 66, 32, 512, [.v (.bool
 false), .lst true [], .v (.bool false), .lst true [], .v (.bool false), .lst true [], .v (.bool false), .lst true [], .v (.bool false), .lst true [], .v (.bool false), .lst true
 [], .v (.bool false), .lst true [], .v (.bool false), .lst true [], .v (.bool false), .lst true [], .v (.bool false), .lst true [], .v (.bool false), .lst true [], .v (.bool
 false), .lst true [], .v (.bool false), .lst true [], .v (.bool false), .lst true [], .v (.bool false), .lst true [], .v (.bool false), .lst true []]⟩ .leaf .leaf))))))
theorem tabB : (tab.all fun i ti => tyB Try.prog i ti) = true := by kernel_rfl
theorem mixed : Try.prog.follows .mixedOrders = true := by kernel_rfl
def mdt : BT (List Abs.Mode) := (.node 56 [.val, .val] (.node 30 [.val, .val] (.node 17 [.val, .val] (.node 11 [.val, .val] (.node 8 [.val, .val] (.node 5 [.val] (.node 3 [.val] .leaf .leaf) (.node 6 [.val] .leaf
 .leaf)) (.node 10 [.val] (.node 9 [.val] .leaf .leaf) .leaf)) (.node 14 [.val, .val] (.node 13 [.val, .val] (.node 12 [.val, .val] .leaf .leaf) .leaf) (.node 16 [.val, .val] (.node
 15 [.val] .leaf .leaf) .leaf))) (.node 24 [.val, .val] (.node 21 [.val] (.node 19 [.val] (.node 18 [.val, .val] .leaf .leaf) (.node 20 [.val] .leaf .leaf)) (.node 23 [.val, .val]
 (.node 22 [.val, .val] .leaf .leaf) .leaf)) (.node 27 [.val, .val] (.node 26 [.val, .val] (.node 25 [.val, .val, .val] .leaf .leaf) .leaf) (.node 29 [.val, .val] (.node 28 [.val,
 .val] .leaf .leaf) .leaf)))) (.node 43 [.val, .val] (.node 37 [.val, .val] (.node 34 [.val, .val] (.node 32 [.val] (.node 31 [.val, .val] .leaf .leaf) (.node 33 [.val] .leaf
 .leaf)) (.node 36 [.val, .val, .val] (.node 35 [.val] .leaf .leaf) .leaf)) (.node 40 [.val, .val] (.node 39 [.val] (.node 38 [.val, .val] .leaf .leaf) .leaf) (.node 42 [.val, .val]
 (.node 41 [.val, .val] .leaf .leaf) .leaf))) (.node 50 [.val, .val] (.node 47 [.val, .val, .val] (.node 45 [.val, .val] (.node 44 [.val, .val] .leaf .leaf) (.node 46 [.val] .leaf
 .leaf)) (.node 49 [.val] (.node 48 [.val, .val] .leaf .leaf) .leaf)) (.node 53 [.val, .val] (.node 52 [.val, .val] (.node 51 [.val, .val] .leaf .leaf) .leaf) (.node 55 [.val]
 (.node 54 [.val, .val] .leaf .leaf) .leaf))))) (.node 82 [.val] (.node 69 [.val, .val] (.node 63 [.val] (.node 60 [.sh 4] (.node 58 [.val, .val] (.node 57 [.val, .val, .val] .leaf
 .leaf) (.node 59 [.val, .val] .leaf .leaf)) (.node 62 [.sh 4] (.node 61 [.sh 4] .leaf .leaf) .leaf)) (.node 66 [.val] (.node 65 [.val, .val] (.node 64 [.val, .val] .leaf .leaf)
 .leaf) (.node 68 [.val] (.node 67 [.val, .val] .leaf .leaf) .leaf))) (.node 76 [.val, .val] (.node 73 [.sh 4] (.node 71 [.sh 4] (.node 70 [.val] .leaf .leaf) (.node 72 [.sh 4]
 .leaf .leaf)) (.node 75 [.sh 4] (.node 74 [.sh 4] .leaf .leaf) .leaf)) (.node 79 [.val, .val] (.node 78 [.val, .val, .val] (.node 77 [.val, .val] .leaf .leaf) .leaf) (.node 81
 [.val, .val] (.node 80 [.val] .leaf .leaf) .leaf)))) (.node 95 [.val] (.node 89 [.sh 4] (.node 86 [.val, .val] (.node 84 [.val, .val] (.node 83 [.val] .leaf .leaf) (.node 85 [.sh
 4] .leaf .leaf)) (.node 88 [.val, .val] (.node 87 [.val] .leaf .leaf) .leaf)) (.node 92 [.val] (.node 91 [.val] (.node 90 [.val] .leaf .leaf) .leaf) (.node 94 [.val] (.node 93
 [.val] .leaf .leaf) .leaf))) (.node 102 [.val] (.node 99 [.val] (.node 97 [.val] (.node 96 [.val] .leaf .leaf) (.node 98 [.val] .leaf .leaf)) (.node 101 [.val] (.node 100 [.val]
 .leaf .leaf) .leaf)) (.node 105 [.val] (.node 104 [.val] (.node 103 [.val] .leaf .leaf) .leaf) (.node 107 [.val] (.node 106 [.val] .leaf .leaf) .leaf))))))
def CC : Cfg := ⟨tab.find, btMd mdt, fun t => false⟩
theorem ccOk : CfgOk Try.prog CC := bt_ok tabB
end Go.Proofs.Ytlhbidjdkginkaa
end
