/-
  Functions of the program, read for the interpreter.
-/
import Derived.Test.YtcgkhjdkachckaaA3
set_option linter.unusedSimpArgs false
set_option linter.unusedVariables false
namespace Go.Pv
def F3 : AFunc := ⟨2,
(.seq
(.region [
⟨some 2, .box 2 3 (.tmp 0), none⟩,
⟨some 4, .mov (.val (.pv (.bool false))), none⟩] [1, 2] [2])
(.seq
(.seq
(.region [
⟨some 9, .call (.val (.func 8 [])) [], none⟩,
⟨some 10, .un .not (.tmp 9), none⟩,
⟨some 11, .mov (.tmp 10), none⟩,
⟨some 12, .load 3 true (.tmp 2), some (11, false)⟩,
⟨some 13, .lit 3 [.pv (.int .i64 0), .pv (.int .i64 0), .tl []] 1 [(0, 3, (.tmp 12))], some (11, false)⟩,
⟨some 14, .call (.val (.func 9 [])) [(.tmp 13)], some (11, false)⟩,
⟨some 15, .un .not (.tmp 14), some (11, false)⟩,
⟨some 16, .pick (.tmp 11) (.val (.pv (.bool true))) (.tmp 15), none⟩] [1, 2, 16] [2])
(.cond (.tmp 16)
(.seq
(.region [
⟨some 17, .call (.val (.func 8 [])) [], none⟩,
⟨some 4, .mov (.tmp 17), none⟩] [4] [])
.ret)
.skip))
(.seq
(.region [
⟨some 19, .load 3 true (.tmp 2), none⟩,
⟨some 20, .mov (.tmp 1), none⟩,
⟨some 21, .call (.val (.func 23 [])) [(.tmp 19), (.tmp 20)], none⟩,
⟨some 18, .mov (.tmp 21), none⟩,
⟨some 22, .ext (.tmp 18) 0, none⟩,
⟨some 23, .ext (.tmp 18) 1, none⟩,
⟨some 5, .mov (.tmp 22), none⟩,
⟨some 6, .mov (.tmp 23), none⟩] [1, 2, 5, 6] [2])
(.seq
(.region [
⟨some 25, .load 3 true (.tmp 2), none⟩,
⟨some 26, .mov (.tmp 1), none⟩,
⟨some 27, .call (.val (.func 24 [])) [(.tmp 25), (.tmp 26)], none⟩,
⟨some 24, .mov (.tmp 27), none⟩,
⟨some 28, .ext (.tmp 24) 0, none⟩,
⟨some 29, .ext (.tmp 24) 1, none⟩,
⟨some 7, .mov (.tmp 28), none⟩,
⟨some 8, .mov (.tmp 29), none⟩] [5, 6, 7, 8] [])
(.seq
(.region [
⟨some 30, .mov (.tmp 5), none⟩,
⟨some 31, .mov (.tmp 7), none⟩,
⟨some 32, .bin .eql (.tmp 30) (.tmp 31), none⟩,
⟨some 33, .mov (.tmp 32), none⟩,
⟨some 34, .mov (.tmp 6), some (33, true)⟩,
⟨some 35, .mov (.tmp 8), some (33, true)⟩,
⟨some 36, .bin .eql (.tmp 34) (.tmp 35), some (33, true)⟩,
⟨some 37, .pick (.tmp 33) (.tmp 36) (.val (.pv (.bool false))), none⟩,
⟨some 4, .mov (.tmp 37), none⟩] [4] [])
.ret))))),
[.tmp 4], false, false⟩
def F8 : AFunc := ⟨0,
(.seq
(.region [
⟨some 0, .mov (.val (.pv (.bool false))), none⟩] [] [])
(.seq
(.region [
⟨some 18, .call (.val (.func 28 [])) [], none⟩,
⟨some 19, .call (.val (.func 28 [])) [], none⟩,
⟨some 1, .alloc 1 [.pv (.int .i64 0), .pv (.int .i64 0), .tl []], none⟩,
⟨some 2, .alloc 2 [.pv (.int .i64 0), .pv (.int .i64 0), .tl []], none⟩,
⟨none, .store 3 (.tmp 1) (.tmp 18), none⟩,
⟨none, .store 3 (.tmp 2) (.tmp 19), none⟩] [1, 2] [1, 2])
(.seq
(.region [
⟨some 20, .fld 2 (.tmp 2), none⟩,
⟨some 21, .load 1 false (.tmp 20), none⟩,
⟨some 22, .sl 4 (.tmp 21) none (some (.val (.pv (.int .i64 3)))) none, none⟩,
⟨some 23, .fld 2 (.tmp 2), none⟩,
⟨none, .store 1 (.tmp 23) (.tmp 22), none⟩] [1, 2] [1, 2])
(.seq
(.region [
⟨some 25, .load 3 true (.tmp 1), none⟩,
⟨some 26, .call (.val (.func 10 [])) [(.tmp 25)], none⟩,
⟨some 24, .mov (.tmp 26), none⟩,
⟨some 27, .ext (.tmp 24) 0, none⟩,
⟨some 28, .ext (.tmp 24) 1, none⟩,
⟨some 3, .mov (.tmp 27), none⟩,
⟨some 4, .mov (.tmp 28), none⟩] [1, 2, 3, 4] [1, 2])
(.seq
(.region [
⟨some 30, .load 3 true (.tmp 1), none⟩,
⟨some 31, .call (.val (.func 12 [])) [(.tmp 30)], none⟩,
⟨some 29, .mov (.tmp 31), none⟩,
⟨some 32, .ext (.tmp 29) 0, none⟩,
⟨some 33, .ext (.tmp 29) 1, none⟩,
⟨some 5, .alloc 5 [.pv (.int .i64 0), .pv (.int .i64 0), .tl []], none⟩,
⟨none, .store 3 (.tmp 5) (.tmp 32), none⟩,
⟨some 6, .mov (.tmp 33), none⟩] [1, 2, 3, 4, 5, 6] [1, 2, 5])
(.seq
(.region [
⟨some 35, .load 3 true (.tmp 1), none⟩,
⟨some 36, .call (.val (.func 23 [])) [(.tmp 35), (.val (.pv (.int .i64 2)))], none⟩,
⟨some 34, .mov (.tmp 36), none⟩,
⟨some 37, .ext (.tmp 34) 0, none⟩,
⟨some 38, .ext (.tmp 34) 1, none⟩,
⟨some 7, .mov (.tmp 37), none⟩,
⟨some 8, .mov (.tmp 38), none⟩] [1, 2, 3, 4, 5, 6, 7, 8] [1, 2, 5])
(.seq
(.region [
⟨some 40, .load 3 true (.tmp 2), none⟩,
⟨some 41, .load 3 true (.tmp 1), none⟩,
⟨some 42, .call (.val (.func 18 [])) [(.tmp 40), (.tmp 41)], none⟩,
⟨some 39, .mov (.tmp 42), none⟩,
⟨some 43, .ext (.tmp 39) 0, none⟩,
⟨some 44, .ext (.tmp 39) 1, none⟩,
⟨some 9, .mov (.tmp 43), none⟩,
⟨some 10, .mov (.tmp 44), none⟩] [1, 2, 3, 4, 5, 6, 7, 8, 9, 10] [1, 2, 5])
(.seq
(.region [
⟨some 46, .load 3 true (.tmp 2), none⟩,
⟨some 47, .load 3 true (.tmp 1), none⟩,
⟨some 48, .call (.val (.func 20 [])) [(.tmp 46), (.tmp 47)], none⟩,
⟨some 45, .mov (.tmp 48), none⟩,
⟨some 49, .ext (.tmp 45) 0, none⟩,
⟨some 50, .ext (.tmp 45) 1, none⟩,
⟨some 51, .ext (.tmp 45) 2, none⟩,
⟨some 11, .mov (.tmp 49), none⟩,
⟨some 12, .mov (.tmp 50), none⟩,
⟨some 13, .mov (.tmp 51), none⟩] [1, 3, 4, 5, 6, 7, 8, 9, 10, 11, 12, 13] [1, 5])
(.seq
(.region [
⟨some 53, .load 3 true (.tmp 1), none⟩,
⟨some 54, .load 3 true (.tmp 5), none⟩,
⟨some 55, .call (.val (.func 16 [])) [(.tmp 53), (.tmp 54)], none⟩,
⟨some 52, .mov (.tmp 55), none⟩,
⟨some 56, .ext (.tmp 52) 0, none⟩,
⟨some 57, .ext (.tmp 52) 1, none⟩,
⟨some 14, .mov (.tmp 56), none⟩,
⟨some 15, .mov (.tmp 57), none⟩] [3, 4, 5, 6, 7, 8, 9, 10, 11, 12, 13, 14, 15] [5])
(.seq
(.region [
⟨some 58, .build [.pv (.int .i64 0), .pv (.bool false), .pv (.int .i64 0), .pv (.int .i64 0)] [(0, 1, (.val (.pv (.int .i64 0)))), (2, 1, (.val (.pv (.int .i64 1)))), (3, 1, (.val (.pv (.int .i64 1))))], none⟩,
⟨some 59, .build [.pv (.int .i64 0), .pv (.bool false), .pv (.int .i64 0), .pv (.int .i64 0)] [(0, 1, (.val (.pv (.int .i64 0)))), (2, 1, (.val (.pv (.int .i64 2)))), (3, 1, (.val (.pv (.int .i64 1))))], none⟩,
⟨some 60, .build [.pv (.int .i64 0), .pv (.bool false), .pv (.int .i64 0), .pv (.int .i64 0)] [(0, 1, (.val (.pv (.int .i64 1)))), (1, 1, (.val (.pv (.bool true)))), (2, 1, (.val (.pv (.int .i64 3)))), (3, 1, (.val (.pv (.int .i64 2))))], none⟩,
⟨some 61, .lit 4 [.pv (.int .i64 0), .pv (.bool false), .pv (.int .i64 0), .pv (.int .i64 0)] 3 [(0, 4, (.tmp 58)), (4, 4, (.tmp 59)), (8, 4, (.tmp 60))], none⟩,
⟨some 62, .build [.pv (.int .i64 0), .pv (.int .i64 0), .tl []] [(0, 1, (.val (.pv (.int .i64 3)))), (2, 1, (.tmp 61))], none⟩,
⟨some 16, .alloc 16 [.pv (.int .i64 0), .pv (.int .i64 0), .tl []], none⟩,
⟨none, .store 3 (.tmp 16) (.tmp 62), none⟩] [3, 4, 5, 6, 7, 8, 9, 10, 11, 12, 13, 14, 15, 16] [5, 16])
(.seq
(.region [
⟨some 63, .mov (.tmp 4), none⟩,
⟨some 64, .bin .eql (.tmp 63) (.val (.pv (.int .i64 0))), none⟩,
⟨some 65, .mov (.tmp 64), none⟩,
⟨some 66, .mov (.tmp 6), some (65, true)⟩,
⟨some 67, .bin .eql (.tmp 66) (.val (.pv (.int .i64 0))), some (65, true)⟩,
⟨some 68, .pick (.tmp 65) (.tmp 67) (.val (.pv (.bool false))), none⟩,
⟨some 69, .mov (.tmp 68), none⟩,
⟨some 70, .mov (.tmp 8), some (69, true)⟩,
⟨some 71, .bin .eql (.tmp 70) (.val (.pv (.int .i64 0))), some (69, true)⟩,
⟨some 72, .pick (.tmp 69) (.tmp 71) (.val (.pv (.bool false))), none⟩,
⟨some 73, .mov (.tmp 72), none⟩,
⟨some 74, .mov (.tmp 10), some (73, true)⟩,
⟨some 75, .bin .eql (.tmp 74) (.val (.pv (.int .i64 0))), some (73, true)⟩,
⟨some 76, .pick (.tmp 73) (.tmp 75) (.val (.pv (.bool false))), none⟩,
⟨some 77, .mov (.tmp 76), none⟩,
⟨some 78, .mov (.tmp 13), some (77, true)⟩,
⟨some 79, .bin .eql (.tmp 78) (.val (.pv (.int .i64 0))), some (77, true)⟩,
⟨some 80, .pick (.tmp 77) (.tmp 79) (.val (.pv (.bool false))), none⟩,
⟨some 81, .mov (.tmp 80), none⟩,
⟨some 82, .mov (.tmp 15), some (81, true)⟩,
⟨some 83, .bin .eql (.tmp 82) (.val (.pv (.int .i64 0))), some (81, true)⟩,
⟨some 84, .pick (.tmp 81) (.tmp 83) (.val (.pv (.bool false))), none⟩,
⟨some 17, .mov (.tmp 84), none⟩] [3, 5, 7, 9, 11, 12, 14, 16, 17] [5, 16])
(.seq
(.region [
⟨some 85, .mov (.tmp 17), none⟩,
⟨some 86, .mov (.tmp 85), none⟩,
⟨some 87, .mov (.tmp 3), some (86, true)⟩,
⟨some 88, .lit 1 [.pv (.int .i64 0)] 4 [(0, 1, (.val (.pv (.int .i64 0)))), (1, 1, (.val (.pv (.int .i64 1)))), (2, 1, (.val (.pv (.int .i64 1)))), (3, 1, (.val (.pv (.int .i64 3))))], some (86, true)⟩,
⟨some 89, .call (.val (.func 14 [])) [(.tmp 87), (.tmp 88)], some (86, true)⟩,
⟨some 90, .pick (.tmp 86) (.tmp 89) (.val (.pv (.bool false))), none⟩,
⟨some 91, .mov (.tmp 90), none⟩,
⟨some 92, .load 3 true (.tmp 5), some (91, true)⟩,
⟨some 93, .load 3 true (.tmp 16), some (91, true)⟩,
⟨some 94, .call (.val (.func 15 [])) [(.tmp 92), (.tmp 93)], some (91, true)⟩,
⟨some 95, .pick (.tmp 91) (.tmp 94) (.val (.pv (.bool false))), none⟩,
⟨some 96, .mov (.tmp 95), none⟩,
⟨some 97, .mov (.tmp 7), some (96, true)⟩,
⟨some 98, .bin .eql (.tmp 97) (.val (.pv (.int .i64 2))), some (96, true)⟩,
⟨some 99, .pick (.tmp 96) (.tmp 98) (.val (.pv (.bool false))), none⟩,
⟨some 100, .mov (.tmp 99), none⟩,
⟨some 101, .mov (.tmp 9), some (100, true)⟩,
⟨some 102, .pick (.tmp 100) (.tmp 101) (.val (.pv (.bool false))), none⟩,
⟨some 103, .mov (.tmp 102), none⟩,
⟨some 104, .mov (.tmp 11), some (103, true)⟩,
⟨some 105, .build [.pv (.bool false), .pv (.int .i64 0)] [(1, 1, (.val (.pv (.int .i64 2))))], some (103, true)⟩,
⟨some 106, .build [.pv (.bool false), .pv (.int .i64 0)] [(0, 1, (.val (.pv (.bool true)))), (1, 1, (.val (.pv (.int .i64 3))))], some (103, true)⟩,
⟨some 107, .lit 2 [.pv (.bool false), .pv (.int .i64 0)] 2 [(0, 2, (.tmp 105)), (2, 2, (.tmp 106))], some (103, true)⟩,
⟨some 108, .call (.val (.func 22 [])) [(.tmp 104), (.tmp 107)], some (103, true)⟩,
⟨some 109, .pick (.tmp 103) (.tmp 108) (.val (.pv (.bool false))), none⟩,
⟨some 110, .mov (.tmp 109), none⟩,
⟨some 111, .mov (.tmp 12), some (110, true)⟩,
⟨some 112, .bin .eql (.tmp 111) (.val (.pv (.int .i64 1))), some (110, true)⟩,
⟨some 113, .pick (.tmp 110) (.tmp 112) (.val (.pv (.bool false))), none⟩,
⟨some 114, .mov (.tmp 113), none⟩,
⟨some 115, .mov (.tmp 14), some (114, true)⟩,
⟨some 116, .pick (.tmp 114) (.tmp 115) (.val (.pv (.bool false))), none⟩,
⟨some 0, .mov (.tmp 116), none⟩] [0] [])
.ret)))))))))))),
[.tmp 0], false, false⟩
def F9 : AFunc := ⟨1,
(.seq
(.region [
⟨some 2, .mov (.val (.pv (.bool false))), none⟩] [0] [])
(.seq
(.seq
(.region [
⟨some 5, .mov (.tmp 0), none⟩,
⟨some 6, .len 0 (.tmp 5), none⟩,
⟨some 7, .mov (.val (.pv (.int .i64 0))), none⟩] [5, 6, 7] [])
(.block 0
(.loop
(.mask [5, 6, 7] []
(.seq
(.region [
⟨some 8, .bin .lss (.tmp 7) (.tmp 6), none⟩] [5, 6, 7, 8] [])
(.seq
(.cond (.tmp 8)
.skip
(.exit 0))
(.seq
(.block 1
(.seq
(.region [
⟨some 9, .idx 3 (.tmp 5) (.tmp 7), none⟩,
⟨some 10, .load 3 true (.tmp 9), none⟩,
⟨some 4, .alloc 4 [.pv (.int .i64 0), .pv (.int .i64 0), .tl []], none⟩,
⟨none, .store 3 (.tmp 4) (.tmp 10), none⟩] [4, 5, 6, 7] [4])
(.seq
(.region [
⟨some 11, .fld 2 (.tmp 4), none⟩,
⟨some 12, .load 1 false (.tmp 11), none⟩,
⟨some 13, .len 0 (.tmp 12), none⟩,
⟨some 14, .bin .gtr (.tmp 13) (.val (.pv (.int .i64 110))), none⟩] [5, 6, 7, 14] [])
(.cond (.tmp 14)
(.seq
(.region [
⟨some 2, .mov (.val (.pv (.bool false))), none⟩] [2] [])
.ret)
.skip))))
(.region [
⟨some 15, .bin .add (.tmp 7) (.val (.pv (.int .i64 1))), none⟩,
⟨some 7, .mov (.tmp 15), none⟩] [5, 6, 7] []))))))))
(.seq
(.region [
⟨some 2, .mov (.val (.pv (.bool true))), none⟩] [2] [])
.ret))),
[.tmp 2], false, false⟩
def F10 : AFunc := ⟨1,
(.seq
(.region [
⟨some 1, .box 1 3 (.tmp 0), none⟩,
⟨some 2, .mov (.val (.tl [])), none⟩,
⟨some 3, .mov (.val (.pv (.int .i64 0))), none⟩] [1] [1])
(.seq
(.seq
(.region [
⟨some 5, .load 3 true (.tmp 1), none⟩,
⟨some 6, .call (.val (.func 29 [])) [(.tmp 5)], none⟩,
⟨some 4, .mov (.tmp 6), none⟩] [1, 4] [1])
(.seq
(.region [
⟨some 7, .mov (.tmp 4), none⟩,
⟨some 8, .bin .neq (.tmp 7) (.val (.pv (.int .i64 0))), none⟩] [1, 4, 8] [1])
(.cond (.tmp 8)
(.seq
(.region [
⟨some 9, .mov (.tmp 4), none⟩,
⟨some 2, .mov (.val (.tl [])), none⟩,
⟨some 3, .mov (.tmp 9), none⟩] [2, 3] [])
.ret)
.skip)))
(.seq
(.region [
⟨some 10, .load 3 true (.tmp 1), none⟩,
⟨some 11, .call (.val (.func 30 [])) [(.tmp 10)], none⟩,
⟨some 2, .mov (.tmp 11), none⟩,
⟨some 3, .mov (.val (.pv (.int .i64 0))), none⟩] [2, 3] [])
.ret))),
[.tmp 2, .tmp 3], false, false⟩
def F12 : AFunc := ⟨1,
(.seq
(.region [
⟨some 1, .box 1 3 (.tmp 0), none⟩,
⟨some 2, .alloc 2 [.pv (.int .i64 0), .pv (.int .i64 0), .tl []], none⟩,
⟨some 3, .mov (.val (.pv (.int .i64 0))), none⟩] [1, 2] [1, 2])
(.seq
(.region [
⟨some 10, .load 3 true (.tmp 1), none⟩,
⟨some 11, .call (.val (.func 10 [])) [(.tmp 10)], none⟩,
⟨some 9, .mov (.tmp 11), none⟩,
⟨some 12, .ext (.tmp 9) 0, none⟩,
⟨some 13, .ext (.tmp 9) 1, none⟩,
⟨some 4, .mov (.tmp 12), none⟩,
⟨some 5, .mov (.tmp 13), none⟩] [1, 2, 4, 5] [1, 2])
(.seq
(.seq
(.region [
⟨some 14, .mov (.tmp 5), none⟩,
⟨some 15, .bin .neq (.tmp 14) (.val (.pv (.int .i64 0))), none⟩] [1, 2, 4, 5, 15] [1, 2])
(.cond (.tmp 15)
(.seq
(.region [
⟨some 16, .build [.pv (.int .i64 0), .pv (.int .i64 0), .tl []] [], none⟩,
⟨some 17, .mov (.tmp 5), none⟩,
⟨none, .store 3 (.tmp 2) (.tmp 16), none⟩,
⟨some 3, .mov (.tmp 17), none⟩] [2, 3] [2])
.ret)
.skip))
(.seq
(.draw [
(⟨some 18, .fld 0 (.tmp 1), none⟩, []),
(⟨some 19, .load 1 false (.tmp 18), none⟩, []),
(⟨some 20, .mov (.tmp 4), none⟩, []),
(⟨some 21, .fld 1 (.tmp 1), none⟩, []),
(⟨some 22, .load 1 false (.tmp 21), none⟩, []),
(⟨some 23, .idx 1 (.tmp 20) (.tmp 22), none⟩, []),
(⟨some 24, .load 1 false (.tmp 23), none⟩, []),
(⟨some 25, .build [.pv (.int .i64 0), .pv (.int .i64 0), .tl []] [(0, 1, (.tmp 19)), (1, 1, (.tmp 24))], none⟩, []),
(⟨some 6, .alloc 6 [.pv (.int .i64 0), .pv (.int .i64 0), .tl []], none⟩, [1, 4, 5, 6]),
(⟨none, .store 3 (.tmp 6) (.tmp 25), none⟩, [])] [1, 2, 4, 6] [1, 2, 6])
(.seq
(.seq
(.region [
⟨some 26, .fld 2 (.tmp 1), none⟩,
⟨some 27, .load 1 false (.tmp 26), none⟩,
⟨some 28, .len 0 (.tmp 27), none⟩,
⟨some 29, .mov (.val (.pv (.int .i64 0))), none⟩] [2, 4, 6, 27, 28, 29] [2, 6])
(.block 0
(.loop
(.mask [2, 4, 6, 27, 28, 29] [2, 6]
(.seq
(.region [
⟨some 30, .bin .lss (.tmp 29) (.tmp 28), none⟩] [2, 4, 6, 27, 28, 29, 30] [2, 6])
(.seq
(.cond (.tmp 30)
.skip
(.exit 0))
(.seq
(.block 1
(.seq
(.region [
⟨some 31, .idx 4 (.tmp 27) (.tmp 29), none⟩,
⟨some 32, .load 4 true (.tmp 31), none⟩,
⟨some 8, .alloc 8 [.pv (.int .i64 0), .pv (.bool false), .pv (.int .i64 0), .pv (.int .i64 0)], none⟩,
⟨none, .store 4 (.tmp 8) (.tmp 32), none⟩] [2, 4, 6, 8, 27, 28, 29] [2, 6, 8])
(.seq
(.draw [
(⟨some 33, .mov (.tmp 4), none⟩, []),
(⟨some 34, .fld 0 (.tmp 8), none⟩, []),
(⟨some 35, .load 1 false (.tmp 34), none⟩, []),
(⟨some 36, .idx 1 (.tmp 33) (.tmp 35), none⟩, []),
(⟨some 37, .load 1 false (.tmp 36), none⟩, []),
(⟨some 38, .fld 0 (.tmp 8), none⟩, []),
(⟨some 39, .load 1 false (.tmp 38), none⟩, []),
(⟨some 40, .bin .eql (.tmp 37) (.tmp 39), none⟩, [])] [2, 4, 6, 8, 27, 28, 29, 40] [2, 6, 8])
(.cond (.tmp 40)
(.seq
(.region [
⟨some 41, .mov (.tmp 4), none⟩,
⟨some 42, .fld 3 (.tmp 8), none⟩,
⟨some 43, .load 1 false (.tmp 42), none⟩,
⟨some 44, .idx 1 (.tmp 41) (.tmp 43), none⟩,
⟨some 45, .load 1 false (.tmp 44), none⟩,
⟨some 46, .fld 3 (.tmp 8), none⟩,
⟨none, .store 1 (.tmp 46) (.tmp 45), none⟩] [2, 4, 6, 8, 27, 28, 29] [2, 6, 8])
(.region [
⟨some 47, .fld 2 (.tmp 6), none⟩,
⟨some 48, .load 1 false (.tmp 47), none⟩,
⟨some 49, .load 4 true (.tmp 8), none⟩,
⟨some 50, .lit 4 [.pv (.int .i64 0), .pv (.bool false), .pv (.int .i64 0), .pv (.int .i64 0)] 1 [(0, 4, (.tmp 49))], none⟩,
⟨some 51, .app 4 (.tmp 48) (.tmp 50), none⟩,
⟨some 52, .fld 2 (.tmp 6), none⟩,
⟨none, .store 1 (.tmp 52) (.tmp 51), none⟩] [2, 4, 6, 27, 28, 29] [2, 6]))
.skip))))
(.region [
⟨some 53, .bin .add (.tmp 29) (.val (.pv (.int .i64 1))), none⟩,
⟨some 29, .mov (.tmp 53), none⟩] [2, 4, 6, 27, 28, 29] [2, 6]))))))))
(.seq
(.region [
⟨some 54, .load 3 true (.tmp 6), none⟩,
⟨some 55, .call (.val (.func 32 [])) [(.tmp 54)], none⟩,
⟨some 56, .ext (.tmp 55) 0, none⟩,
⟨some 57, .ext (.tmp 55) 1, none⟩,
⟨none, .store 3 (.tmp 2) (.tmp 56), none⟩,
⟨some 3, .mov (.tmp 57), none⟩] [2, 3] [2])
.ret)))))),
[.cell 2 3 true, .tmp 3], false, false⟩
def F14 : AFunc := ⟨2,
(.seq
(.region [
⟨some 4, .mov (.val (.pv (.bool false))), none⟩] [0, 1] [])
(.seq
(.seq
(.region [
⟨some 6, .mov (.tmp 0), none⟩,
⟨some 7, .len 0 (.tmp 6), none⟩,
⟨some 8, .mov (.tmp 1), none⟩,
⟨some 9, .len 0 (.tmp 8), none⟩,
⟨some 10, .bin .neq (.tmp 7) (.tmp 9), none⟩] [0, 1, 10] [])
(.cond (.tmp 10)
(.seq
(.region [
⟨some 4, .mov (.val (.pv (.bool false))), none⟩] [4] [])
.ret)
.skip))
(.seq
(.seq
(.region [
⟨some 11, .mov (.tmp 0), none⟩,
⟨some 12, .len 0 (.tmp 11), none⟩,
⟨some 13, .mov (.val (.pv (.int .i64 0))), none⟩] [0, 1, 12, 13] [])
(.block 0
(.loop
(.mask [0, 1, 12, 13] []
(.seq
(.region [
⟨some 14, .bin .lss (.tmp 13) (.tmp 12), none⟩] [0, 1, 12, 13, 14] [])
(.seq
(.cond (.tmp 14)
.skip
(.exit 0))
(.seq
(.block 1
(.seq
(.region [
⟨some 15, .mov (.tmp 13), none⟩,
⟨some 5, .mov (.tmp 15), none⟩] [0, 1, 5, 12, 13] [])
(.seq
(.draw [
(⟨some 16, .mov (.tmp 0), none⟩, []),
(⟨some 17, .mov (.tmp 5), none⟩, []),
(⟨some 18, .idx 1 (.tmp 16) (.tmp 17), none⟩, []),
(⟨some 19, .load 1 false (.tmp 18), none⟩, []),
(⟨some 20, .mov (.tmp 1), none⟩, []),
(⟨some 21, .mov (.tmp 5), none⟩, []),
(⟨some 22, .idx 1 (.tmp 20) (.tmp 21), none⟩, []),
(⟨some 23, .load 1 false (.tmp 22), none⟩, []),
(⟨some 24, .bin .neq (.tmp 19) (.tmp 23), none⟩, [])] [0, 1, 12, 13, 24] [])
(.cond (.tmp 24)
(.seq
(.region [
⟨some 4, .mov (.val (.pv (.bool false))), none⟩] [4] [])
.ret)
.skip))))
(.region [
⟨some 25, .bin .add (.tmp 13) (.val (.pv (.int .i64 1))), none⟩,
⟨some 13, .mov (.tmp 25), none⟩] [0, 1, 12, 13] []))))))))
(.seq
(.region [
⟨some 4, .mov (.val (.pv (.bool true))), none⟩] [4] [])
.ret)))),
[.tmp 4], false, false⟩
def F15 : AFunc := ⟨2,
(.seq
(.region [
⟨some 2, .box 2 3 (.tmp 0), none⟩,
⟨some 3, .box 3 3 (.tmp 1), none⟩,
⟨some 4, .mov (.val (.pv (.bool false))), none⟩] [2, 3] [2, 3])
(.seq
(.seq
(.region [
⟨some 6, .fld 0 (.tmp 2), none⟩,
⟨some 7, .load 1 false (.tmp 6), none⟩,
⟨some 8, .fld 0 (.tmp 3), none⟩,
⟨some 9, .load 1 false (.tmp 8), none⟩,
⟨some 10, .bin .neq (.tmp 7) (.tmp 9), none⟩,
⟨some 11, .mov (.tmp 10), none⟩,
⟨some 12, .fld 1 (.tmp 2), some (11, false)⟩,
⟨some 13, .load 1 false (.tmp 12), some (11, false)⟩,
⟨some 14, .fld 1 (.tmp 3), some (11, false)⟩,
⟨some 15, .load 1 false (.tmp 14), some (11, false)⟩,
⟨some 16, .bin .neq (.tmp 13) (.tmp 15), some (11, false)⟩,
⟨some 17, .pick (.tmp 11) (.val (.pv (.bool true))) (.tmp 16), none⟩,
⟨some 18, .mov (.tmp 17), none⟩,
⟨some 19, .fld 2 (.tmp 2), some (18, false)⟩,
⟨some 20, .load 1 false (.tmp 19), some (18, false)⟩,
⟨some 21, .len 0 (.tmp 20), some (18, false)⟩,
⟨some 22, .fld 2 (.tmp 3), some (18, false)⟩,
⟨some 23, .load 1 false (.tmp 22), some (18, false)⟩,
⟨some 24, .len 0 (.tmp 23), some (18, false)⟩,
⟨some 25, .bin .neq (.tmp 21) (.tmp 24), some (18, false)⟩,
⟨some 26, .pick (.tmp 18) (.val (.pv (.bool true))) (.tmp 25), none⟩] [2, 3, 26] [2, 3])
(.cond (.tmp 26)
(.seq
(.region [
⟨some 4, .mov (.val (.pv (.bool false))), none⟩] [4] [])
.ret)
.skip))
(.seq
(.seq
(.region [
⟨some 5, .mov (.val (.pv (.int .i64 0))), none⟩] [2, 3, 5] [2, 3])
(.block 0
(.loop
(.mask [2, 3, 5] [2, 3]
(.seq
(.seq
(.region [
⟨some 27, .mov (.tmp 5), none⟩,
⟨some 28, .fld 2 (.tmp 2), none⟩,
⟨some 29, .load 1 false (.tmp 28), none⟩,
⟨some 30, .len 0 (.tmp 29), none⟩,
⟨some 31, .bin .lss (.tmp 27) (.tmp 30), none⟩] [2, 3, 5, 31] [2, 3])
(.cond (.tmp 31)
.skip
(.exit 0)))
(.seq
(.block 1
(.seq
(.draw [
(⟨some 34, .fld 2 (.tmp 2), none⟩, []),
(⟨some 35, .load 1 false (.tmp 34), none⟩, []),
(⟨some 36, .mov (.tmp 5), none⟩, []),
(⟨some 37, .idx 4 (.tmp 35) (.tmp 36), none⟩, []),
(⟨some 38, .load 4 true (.tmp 37), none⟩, []),
(⟨some 39, .fld 2 (.tmp 3), none⟩, []),
(⟨some 40, .load 1 false (.tmp 39), none⟩, []),
(⟨some 41, .mov (.tmp 5), none⟩, []),
(⟨some 42, .idx 4 (.tmp 40) (.tmp 41), none⟩, []),
(⟨some 43, .load 4 true (.tmp 42), none⟩, []),
(⟨some 44, .eqa true [1, 0, 1, 1] true (.tmp 38) (.tmp 43), none⟩, [])] [2, 3, 5, 44] [2, 3])
(.cond (.tmp 44)
(.seq
(.region [
⟨some 4, .mov (.val (.pv (.bool false))), none⟩] [4] [])
.ret)
.skip)))
(.region [
⟨some 32, .mov (.tmp 5), none⟩,
⟨some 33, .bin .add (.tmp 32) (.val (.pv (.int .i64 1))), none⟩,
⟨some 5, .mov (.tmp 33), none⟩] [2, 3, 5] [2, 3])))))))
(.seq
(.region [
⟨some 4, .mov (.val (.pv (.bool true))), none⟩] [4] [])
.ret)))),
[.tmp 4], false, false⟩
def F16 : AFunc := ⟨2,
(.seq
(.region [
⟨some 2, .box 2 3 (.tmp 0), none⟩,
⟨some 3, .box 3 3 (.tmp 1), none⟩,
⟨some 4, .mov (.val (.pv (.bool false))), none⟩,
⟨some 5, .mov (.val (.pv (.int .i64 0))), none⟩] [2, 3] [2, 3])
(.seq
(.seq
(.region [
⟨some 10, .load 3 true (.tmp 2), none⟩,
⟨some 11, .load 3 true (.tmp 3), none⟩,
⟨some 12, .call (.val (.func 34 [])) [(.tmp 10), (.tmp 11)], none⟩,
⟨some 6, .mov (.tmp 12), none⟩] [2, 3, 6] [2, 3])
(.seq
(.region [
⟨some 13, .mov (.tmp 6), none⟩,
⟨some 14, .bin .neq (.tmp 13) (.val (.pv (.int .i64 0))), none⟩] [2, 3, 6, 14] [2, 3])
(.cond (.tmp 14)
(.seq
(.region [
⟨some 15, .mov (.tmp 6), none⟩,
⟨some 4, .mov (.val (.pv (.bool false))), none⟩,
⟨some 5, .mov (.tmp 15), none⟩] [4, 5] [])
.ret)
.skip)))
(.seq
(.region [
⟨some 17, .load 3 true (.tmp 2), none⟩,
⟨some 18, .load 3 true (.tmp 3), none⟩,
⟨some 19, .call (.val (.func 35 [])) [(.tmp 17), (.tmp 18), (.val (.pv (.bool false)))], none⟩,
⟨some 16, .mov (.tmp 19), none⟩,
⟨some 20, .ext (.tmp 16) 0, none⟩,
⟨some 21, .ext (.tmp 16) 1, none⟩,
⟨some 22, .ext (.tmp 16) 2, none⟩,
⟨some 7, .mov (.tmp 20), none⟩,
⟨some 8, .mov (.tmp 21), none⟩,
⟨some 9, .mov (.tmp 22), none⟩] [9] [])
(.seq
(.region [
⟨some 23, .mov (.tmp 9), none⟩,
⟨some 24, .un .not (.tmp 23), none⟩,
⟨some 4, .mov (.tmp 24), none⟩,
⟨some 5, .mov (.val (.pv (.int .i64 0))), none⟩] [4, 5] [])
.ret)))),
[.tmp 4, .tmp 5], false, false⟩
def F18 : AFunc := ⟨2,
(.seq
(.region [
⟨some 2, .box 2 3 (.tmp 0), none⟩,
⟨some 3, .box 3 3 (.tmp 1), none⟩,
⟨some 4, .mov (.val (.pv (.bool false))), none⟩,
⟨some 5, .mov (.val (.pv (.int .i64 0))), none⟩] [2, 3] [2, 3])
(.seq
(.seq
(.region [
⟨some 10, .load 3 true (.tmp 2), none⟩,
⟨some 11, .load 3 true (.tmp 3), none⟩,
⟨some 12, .call (.val (.func 34 [])) [(.tmp 10), (.tmp 11)], none⟩,
⟨some 6, .mov (.tmp 12), none⟩] [2, 3, 6] [2, 3])
(.seq
(.region [
⟨some 13, .mov (.tmp 6), none⟩,
⟨some 14, .bin .neq (.tmp 13) (.val (.pv (.int .i64 0))), none⟩] [2, 3, 6, 14] [2, 3])
(.cond (.tmp 14)
(.seq
(.region [
⟨some 15, .mov (.tmp 6), none⟩,
⟨some 4, .mov (.val (.pv (.bool false))), none⟩,
⟨some 5, .mov (.tmp 15), none⟩] [4, 5] [])
.ret)
.skip)))
(.seq
(.region [
⟨some 17, .load 3 true (.tmp 2), none⟩,
⟨some 18, .load 3 true (.tmp 3), none⟩,
⟨some 19, .call (.val (.func 35 [])) [(.tmp 17), (.tmp 18), (.val (.pv (.bool true)))], none⟩,
⟨some 16, .mov (.tmp 19), none⟩,
⟨some 20, .ext (.tmp 16) 0, none⟩,
⟨some 21, .ext (.tmp 16) 1, none⟩,
⟨some 22, .ext (.tmp 16) 2, none⟩,
⟨some 7, .mov (.tmp 20), none⟩,
⟨some 8, .mov (.tmp 21), none⟩,
⟨some 9, .mov (.tmp 22), none⟩] [9] [])
(.seq
(.region [
⟨some 23, .mov (.tmp 9), none⟩,
⟨some 24, .un .not (.tmp 23), none⟩,
⟨some 4, .mov (.tmp 24), none⟩,
⟨some 5, .mov (.val (.pv (.int .i64 0))), none⟩] [4, 5] [])
.ret)))),
[.tmp 4, .tmp 5], false, false⟩
def F20 : AFunc := ⟨2,
(.seq
(.region [
⟨some 2, .box 2 3 (.tmp 0), none⟩,
⟨some 3, .box 3 3 (.tmp 1), none⟩,
⟨some 4, .mov (.val (.tl [])), none⟩,
⟨some 5, .mov (.val (.pv (.int .i64 0))), none⟩,
⟨some 6, .mov (.val (.pv (.int .i64 0))), none⟩] [2, 3] [2, 3])
(.seq
(.seq
(.region [
⟨some 11, .load 3 true (.tmp 2), none⟩,
⟨some 12, .load 3 true (.tmp 3), none⟩,
⟨some 13, .call (.val (.func 34 [])) [(.tmp 11), (.tmp 12)], none⟩,
⟨some 7, .mov (.tmp 13), none⟩] [2, 3, 7] [2, 3])
(.seq
(.region [
⟨some 14, .mov (.tmp 7), none⟩,
⟨some 15, .bin .neq (.tmp 14) (.val (.pv (.int .i64 0))), none⟩] [2, 3, 7, 15] [2, 3])
(.cond (.tmp 15)
(.seq
(.region [
⟨some 16, .mov (.tmp 7), none⟩,
⟨some 4, .mov (.val (.tl [])), none⟩,
⟨some 5, .mov (.val (.pv (.int .i64 0))), none⟩,
⟨some 6, .mov (.tmp 16), none⟩] [4, 5, 6] [])
.ret)
.skip)))
(.seq
(.region [
⟨some 18, .load 3 true (.tmp 2), none⟩,
⟨some 19, .load 3 true (.tmp 3), none⟩,
⟨some 20, .call (.val (.func 35 [])) [(.tmp 18), (.tmp 19), (.val (.pv (.bool false)))], none⟩,
⟨some 17, .mov (.tmp 20), none⟩,
⟨some 21, .ext (.tmp 17) 0, none⟩,
⟨some 22, .ext (.tmp 17) 1, none⟩,
⟨some 23, .ext (.tmp 17) 2, none⟩,
⟨some 8, .mov (.tmp 21), none⟩,
⟨some 9, .mov (.tmp 22), none⟩,
⟨some 10, .mov (.tmp 23), none⟩] [8, 9, 10] [])
(.seq
(.seq
(.region [
⟨some 24, .mov (.tmp 10), none⟩,
⟨some 25, .un .not (.tmp 24), none⟩] [8, 9, 25] [])
(.cond (.tmp 25)
(.seq
(.region [
⟨some 4, .mov (.val (.tl [])), none⟩,
⟨some 5, .mov (.val (.pv (.int .i64 0))), none⟩,
⟨some 6, .mov (.val (.pv (.int .i64 15))), none⟩] [4, 5, 6] [])
.ret)
.skip))
(.seq
(.region [
⟨some 26, .mov (.tmp 8), none⟩,
⟨some 27, .mov (.tmp 9), none⟩,
⟨some 4, .mov (.tmp 26), none⟩,
⟨some 5, .mov (.tmp 27), none⟩,
⟨some 6, .mov (.val (.pv (.int .i64 0))), none⟩] [4, 5, 6] [])
.ret))))),
[.tmp 4, .tmp 5, .tmp 6], false, false⟩
def F22 : AFunc := ⟨2,
(.seq
(.region [
⟨some 4, .mov (.val (.pv (.bool false))), none⟩] [0, 1] [])
(.seq
(.seq
(.region [
⟨some 6, .mov (.tmp 0), none⟩,
⟨some 7, .len 0 (.tmp 6), none⟩,
⟨some 8, .mov (.tmp 1), none⟩,
⟨some 9, .len 0 (.tmp 8), none⟩,
⟨some 10, .bin .neq (.tmp 7) (.tmp 9), none⟩] [0, 1, 10] [])
(.cond (.tmp 10)
(.seq
(.region [
⟨some 4, .mov (.val (.pv (.bool false))), none⟩] [4] [])
.ret)
.skip))
(.seq
(.seq
(.region [
⟨some 5, .mov (.val (.pv (.int .i64 0))), none⟩] [0, 1, 5] [])
(.block 0
(.loop
(.mask [0, 1, 5] []
(.seq
(.seq
(.region [
⟨some 11, .mov (.tmp 5), none⟩,
⟨some 12, .mov (.tmp 0), none⟩,
⟨some 13, .len 0 (.tmp 12), none⟩,
⟨some 14, .bin .lss (.tmp 11) (.tmp 13), none⟩] [0, 1, 5, 14] [])
(.cond (.tmp 14)
.skip
(.exit 0)))
(.seq
(.block 1
(.seq
(.draw [
(⟨some 17, .mov (.tmp 0), none⟩, []),
(⟨some 18, .mov (.tmp 5), none⟩, []),
(⟨some 19, .idx 2 (.tmp 17) (.tmp 18), none⟩, []),
(⟨some 20, .load 2 true (.tmp 19), none⟩, []),
(⟨some 21, .mov (.tmp 1), none⟩, []),
(⟨some 22, .mov (.tmp 5), none⟩, []),
(⟨some 23, .idx 2 (.tmp 21) (.tmp 22), none⟩, []),
(⟨some 24, .load 2 true (.tmp 23), none⟩, []),
(⟨some 25, .eqa true [0, 1] true (.tmp 20) (.tmp 24), none⟩, [])] [0, 1, 5, 25] [])
(.cond (.tmp 25)
(.seq
(.region [
⟨some 4, .mov (.val (.pv (.bool false))), none⟩] [4] [])
.ret)
.skip)))
(.region [
⟨some 15, .mov (.tmp 5), none⟩,
⟨some 16, .bin .add (.tmp 15) (.val (.pv (.int .i64 1))), none⟩,
⟨some 5, .mov (.tmp 16), none⟩] [0, 1, 5] [])))))))
(.seq
(.region [
⟨some 4, .mov (.val (.pv (.bool true))), none⟩] [4] [])
.ret)))),
[.tmp 4], false, false⟩
def F23 : AFunc := ⟨2,
(.seq
(.region [
⟨some 2, .box 2 3 (.tmp 0), none⟩,
⟨some 4, .mov (.val (.pv (.int .i64 0))), none⟩,
⟨some 5, .mov (.val (.pv (.int .i64 0))), none⟩] [1, 2] [2])
(.seq
(.seq
(.region [
⟨some 12, .load 3 true (.tmp 2), none⟩,
⟨some 13, .call (.val (.func 29 [])) [(.tmp 12)], none⟩,
⟨some 6, .mov (.tmp 13), none⟩] [1, 2, 6] [2])
(.seq
(.region [
⟨some 14, .mov (.tmp 6), none⟩,
⟨some 15, .bin .neq (.tmp 14) (.val (.pv (.int .i64 0))), none⟩] [1, 2, 6, 15] [2])
(.cond (.tmp 15)
(.seq
(.region [
⟨some 16, .mov (.tmp 6), none⟩,
⟨some 4, .mov (.val (.pv (.int .i64 0))), none⟩,
⟨some 5, .mov (.tmp 16), none⟩] [4, 5] [])
.ret)
.skip)))
(.seq
(.seq
(.region [
⟨some 17, .mov (.tmp 1), none⟩,
⟨some 18, .bin .lss (.tmp 17) (.val (.pv (.int .i64 0))), none⟩,
⟨some 19, .mov (.tmp 18), none⟩,
⟨some 20, .mov (.tmp 1), some (19, false)⟩,
⟨some 21, .bin .gtr (.tmp 20) (.val (.pv (.int .i64 1000))), some (19, false)⟩,
⟨some 22, .pick (.tmp 19) (.val (.pv (.bool true))) (.tmp 21), none⟩] [1, 2, 22] [2])
(.cond (.tmp 22)
(.seq
(.region [
⟨some 4, .mov (.val (.pv (.int .i64 0))), none⟩,
⟨some 5, .mov (.val (.pv (.int .i64 7))), none⟩] [4, 5] [])
.ret)
.skip))
(.seq
(.region [
⟨some 23, .fld 0 (.tmp 2), none⟩,
⟨some 24, .load 1 false (.tmp 23), none⟩,
⟨some 25, .make 1 [.pv (.int .i64 0)] (.tmp 24) (.tmp 24), none⟩,
⟨some 7, .mov (.tmp 25), none⟩] [1, 2, 7] [2])
(.seq
(.seq
(.region [
⟨some 26, .mov (.tmp 7), none⟩,
⟨some 27, .len 0 (.tmp 26), none⟩,
⟨some 28, .mov (.val (.pv (.int .i64 0))), none⟩] [1, 2, 7, 27, 28] [2])
(.block 0
(.loop
(.mask [1, 2, 7, 27, 28] [2]
(.seq
(.region [
⟨some 29, .bin .lss (.tmp 28) (.tmp 27), none⟩] [1, 2, 7, 27, 28, 29] [2])
(.seq
(.cond (.tmp 29)
.skip
(.exit 0))
(.seq
(.block 1
(.seq
(.region [
⟨some 30, .mov (.tmp 28), none⟩,
⟨some 8, .mov (.tmp 30), none⟩] [1, 2, 7, 8, 27, 28] [2])
(.region [
⟨some 31, .mov (.tmp 7), none⟩,
⟨some 32, .mov (.tmp 8), none⟩,
⟨some 33, .idx 1 (.tmp 31) (.tmp 32), none⟩,
⟨none, .store 1 (.tmp 33) (.val (.pv (.int .i64 1))), none⟩] [1, 2, 7, 27, 28] [2])))
(.region [
⟨some 34, .bin .add (.tmp 28) (.val (.pv (.int .i64 1))), none⟩,
⟨some 28, .mov (.tmp 34), none⟩] [1, 2, 7, 27, 28] [2]))))))))
(.seq
(.seq
(.region [
⟨some 35, .mov (.tmp 1), none⟩,
⟨some 36, .mov (.val (.pv (.int .i64 0))), none⟩] [2, 7, 35, 36] [2])
(.block 2
(.loop
(.mask [2, 7, 35, 36] [2]
(.seq
(.region [
⟨some 37, .bin .lss (.tmp 36) (.tmp 35), none⟩] [2, 7, 35, 36, 37] [2])
(.seq
(.cond (.tmp 37)
.skip
(.exit 2))
(.seq
(.block 3
(.seq
(.region [
⟨some 38, .fld 0 (.tmp 2), none⟩,
⟨some 39, .load 1 false (.tmp 38), none⟩,
⟨some 40, .make 1 [.pv (.int .i64 0)] (.tmp 39) (.tmp 39), none⟩,
⟨some 9, .mov (.tmp 40), none⟩] [2, 7, 9, 35, 36] [2])
(.seq
(.seq
(.region [
⟨some 41, .fld 2 (.tmp 2), none⟩,
⟨some 42, .load 1 false (.tmp 41), none⟩,
⟨some 43, .len 0 (.tmp 42), none⟩,
⟨some 44, .mov (.val (.pv (.int .i64 0))), none⟩] [2, 7, 9, 35, 36, 42, 43, 44] [2])
(.block 4
(.loop
(.mask [2, 7, 9, 35, 36, 42, 43, 44] [2]
(.seq
(.region [
⟨some 45, .bin .lss (.tmp 44) (.tmp 43), none⟩] [2, 7, 9, 35, 36, 42, 43, 44, 45] [2])
(.seq
(.cond (.tmp 45)
.skip
(.exit 4))
(.seq
(.block 5
(.seq
(.region [
⟨some 46, .idx 4 (.tmp 42) (.tmp 44), none⟩,
⟨some 47, .load 4 true (.tmp 46), none⟩,
⟨some 11, .alloc 11 [.pv (.int .i64 0), .pv (.bool false), .pv (.int .i64 0), .pv (.int .i64 0)], none⟩,
⟨none, .store 4 (.tmp 11) (.tmp 47), none⟩] [2, 7, 9, 11, 35, 36, 42, 43, 44] [2, 11])
(.draw [
(⟨some 48, .mov (.tmp 9), none⟩, []),
(⟨some 49, .fld 0 (.tmp 11), none⟩, []),
(⟨some 50, .load 1 false (.tmp 49), none⟩, []),
(⟨some 51, .mov (.tmp 9), none⟩, []),
(⟨some 52, .fld 0 (.tmp 11), none⟩, []),
(⟨some 53, .load 1 false (.tmp 52), none⟩, []),
(⟨some 54, .idx 1 (.tmp 51) (.tmp 53), none⟩, []),
(⟨some 55, .load 1 false (.tmp 54), none⟩, []),
(⟨some 56, .mov (.tmp 7), none⟩, []),
(⟨some 57, .fld 3 (.tmp 11), none⟩, []),
(⟨some 58, .load 1 false (.tmp 57), none⟩, []),
(⟨some 59, .idx 1 (.tmp 56) (.tmp 58), none⟩, []),
(⟨some 60, .load 1 false (.tmp 59), none⟩, []),
(⟨some 61, .bin .add (.tmp 55) (.tmp 60), none⟩, []),
(⟨some 62, .minmax false [(.val (.pv (.int .i64 1000000000000001))), (.tmp 61)], none⟩, []),
(⟨some 63, .idx 1 (.tmp 48) (.tmp 50), none⟩, []),
(⟨none, .store 1 (.tmp 63) (.tmp 62), none⟩, [])] [2, 7, 9, 35, 36, 42, 43, 44] [2])))
(.region [
⟨some 64, .bin .add (.tmp 44) (.val (.pv (.int .i64 1))), none⟩,
⟨some 44, .mov (.tmp 64), none⟩] [2, 7, 9, 35, 36, 42, 43, 44] [2]))))))))
(.region [
⟨some 65, .mov (.tmp 9), none⟩,
⟨some 7, .mov (.tmp 65), none⟩] [2, 7, 35, 36] [2]))))
(.region [
⟨some 66, .bin .add (.tmp 36) (.val (.pv (.int .i64 1))), none⟩,
⟨some 36, .mov (.tmp 66), none⟩] [2, 7, 35, 36] [2]))))))))
(.seq
(.seq
(.region [
⟨some 67, .mov (.tmp 7), none⟩,
⟨some 68, .fld 1 (.tmp 2), none⟩,
⟨some 69, .load 1 false (.tmp 68), none⟩,
⟨some 70, .idx 1 (.tmp 67) (.tmp 69), none⟩,
⟨some 71, .load 1 false (.tmp 70), none⟩,
⟨some 72, .bin .gtr (.tmp 71) (.val (.pv (.int .i64 1000000000000000))), none⟩] [2, 7, 72] [2])
(.cond (.tmp 72)
(.seq
(.region [
⟨some 4, .mov (.val (.pv (.int .i64 0))), none⟩,
⟨some 5, .mov (.val (.pv (.int .i64 3))), none⟩] [4, 5] [])
.ret)
.skip))
(.seq
(.region [
⟨some 73, .mov (.tmp 7), none⟩,
⟨some 74, .fld 1 (.tmp 2), none⟩,
⟨some 75, .load 1 false (.tmp 74), none⟩,
⟨some 76, .idx 1 (.tmp 73) (.tmp 75), none⟩,
⟨some 77, .load 1 false (.tmp 76), none⟩,
⟨some 4, .mov (.tmp 77), none⟩,
⟨some 5, .mov (.val (.pv (.int .i64 0))), none⟩] [4, 5] [])
.ret)))))))),
[.tmp 4, .tmp 5], false, false⟩
def F24 : AFunc := ⟨2,
(.seq
(.region [
⟨some 2, .box 2 3 (.tmp 0), none⟩,
⟨some 4, .mov (.val (.pv (.int .i64 0))), none⟩,
⟨some 5, .mov (.val (.pv (.int .i64 0))), none⟩] [1, 2] [2])
(.seq
(.seq
(.region [
⟨some 13, .load 3 true (.tmp 2), none⟩,
⟨some 14, .call (.val (.func 26 [])) [(.tmp 13)], none⟩,
⟨some 6, .mov (.tmp 14), none⟩] [1, 2, 6] [2])
(.seq
(.region [
⟨some 15, .mov (.tmp 6), none⟩,
⟨some 16, .bin .neq (.tmp 15) (.val (.pv (.int .i64 0))), none⟩] [1, 2, 6, 16] [2])
(.cond (.tmp 16)
(.seq
(.region [
⟨some 17, .mov (.tmp 6), none⟩,
⟨some 4, .mov (.val (.pv (.int .i64 0))), none⟩,
⟨some 5, .mov (.tmp 17), none⟩] [4, 5] [])
.ret)
.skip)))
(.seq
(.seq
(.region [
⟨some 18, .mov (.tmp 1), none⟩,
⟨some 19, .bin .lss (.tmp 18) (.val (.pv (.int .i64 0))), none⟩,
⟨some 20, .mov (.tmp 19), none⟩,
⟨some 21, .mov (.tmp 1), some (20, false)⟩,
⟨some 22, .bin .gtr (.tmp 21) (.val (.pv (.int .i64 1000))), some (20, false)⟩,
⟨some 23, .pick (.tmp 20) (.val (.pv (.bool true))) (.tmp 22), none⟩] [1, 2, 23] [2])
(.cond (.tmp 23)
(.seq
(.region [
⟨some 4, .mov (.val (.pv (.int .i64 0))), none⟩,
⟨some 5, .mov (.val (.pv (.int .i64 7))), none⟩] [4, 5] [])
.ret)
.skip))
(.seq
(.region [
⟨some 24, .fld 0 (.tmp 2), none⟩,
⟨some 25, .load 1 false (.tmp 24), none⟩,
⟨some 26, .make 1 [.pv (.int .i64 0)] (.tmp 25) (.tmp 25), none⟩,
⟨some 7, .mov (.tmp 26), none⟩] [1, 2, 7] [2])
(.seq
(.seq
(.region [
⟨some 8, .mov (.val (.pv (.int .i64 0))), none⟩] [1, 2, 7, 8] [2])
(.block 0
(.loop
(.mask [1, 2, 7, 8] [2]
(.seq
(.seq
(.region [
⟨some 27, .mov (.tmp 8), none⟩,
⟨some 28, .fld 0 (.tmp 2), none⟩,
⟨some 29, .load 1 false (.tmp 28), none⟩,
⟨some 30, .bin .lss (.tmp 27) (.tmp 29), none⟩] [1, 2, 7, 8, 30] [2])
(.cond (.tmp 30)
.skip
(.exit 0)))
(.seq
(.block 1
(.region [
⟨some 33, .mov (.tmp 7), none⟩,
⟨some 34, .mov (.tmp 8), none⟩,
⟨some 35, .idx 1 (.tmp 33) (.tmp 34), none⟩,
⟨none, .store 1 (.tmp 35) (.val (.pv (.int .i64 1))), none⟩] [1, 2, 7, 8] [2]))
(.region [
⟨some 31, .mov (.tmp 8), none⟩,
⟨some 32, .bin .add (.tmp 31) (.val (.pv (.int .i64 1))), none⟩,
⟨some 8, .mov (.tmp 32), none⟩] [1, 2, 7, 8] [2])))))))
(.seq
(.seq
(.region [
⟨some 9, .mov (.val (.pv (.int .i64 0))), none⟩] [1, 2, 7, 9] [2])
(.block 2
(.loop
(.mask [1, 2, 7, 9] [2]
(.seq
(.seq
(.region [
⟨some 36, .mov (.tmp 9), none⟩,
⟨some 37, .mov (.tmp 1), none⟩,
⟨some 38, .bin .lss (.tmp 36) (.tmp 37), none⟩] [1, 2, 7, 9, 38] [2])
(.cond (.tmp 38)
.skip
(.exit 2)))
(.seq
(.block 3
(.seq
(.region [
⟨some 41, .fld 0 (.tmp 2), none⟩,
⟨some 42, .load 1 false (.tmp 41), none⟩,
⟨some 43, .make 1 [.pv (.int .i64 0)] (.tmp 42) (.tmp 42), none⟩,
⟨some 10, .mov (.tmp 43), none⟩] [1, 2, 7, 9, 10] [2])
(.seq
(.seq
(.region [
⟨some 11, .mov (.val (.pv (.int .i64 0))), none⟩] [1, 2, 7, 9, 10, 11] [2])
(.block 4
(.loop
(.mask [1, 2, 7, 9, 10, 11] [2]
(.seq
(.seq
(.region [
⟨some 44, .mov (.tmp 11), none⟩,
⟨some 45, .fld 2 (.tmp 2), none⟩,
⟨some 46, .load 1 false (.tmp 45), none⟩,
⟨some 47, .len 0 (.tmp 46), none⟩,
⟨some 48, .bin .lss (.tmp 44) (.tmp 47), none⟩] [1, 2, 7, 9, 10, 11, 48] [2])
(.cond (.tmp 48)
.skip
(.exit 4)))
(.seq
(.block 5
(.seq
(.region [
⟨some 51, .fld 2 (.tmp 2), none⟩,
⟨some 52, .load 1 false (.tmp 51), none⟩,
⟨some 53, .mov (.tmp 11), none⟩,
⟨some 54, .idx 4 (.tmp 52) (.tmp 53), none⟩,
⟨some 55, .load 4 true (.tmp 54), none⟩,
⟨some 12, .alloc 12 [.pv (.int .i64 0), .pv (.bool false), .pv (.int .i64 0), .pv (.int .i64 0)], none⟩,
⟨none, .store 4 (.tmp 12) (.tmp 55), none⟩] [1, 2, 7, 9, 10, 11, 12] [2, 12])
(.draw [
(⟨some 56, .mov (.tmp 10), none⟩, []),
(⟨some 57, .fld 0 (.tmp 12), none⟩, []),
(⟨some 58, .load 1 false (.tmp 57), none⟩, []),
(⟨some 59, .mov (.tmp 10), none⟩, []),
(⟨some 60, .fld 0 (.tmp 12), none⟩, []),
(⟨some 61, .load 1 false (.tmp 60), none⟩, []),
(⟨some 62, .idx 1 (.tmp 59) (.tmp 61), none⟩, []),
(⟨some 63, .load 1 false (.tmp 62), none⟩, []),
(⟨some 64, .mov (.tmp 7), none⟩, []),
(⟨some 65, .fld 3 (.tmp 12), none⟩, []),
(⟨some 66, .load 1 false (.tmp 65), none⟩, []),
(⟨some 67, .idx 1 (.tmp 64) (.tmp 66), none⟩, []),
(⟨some 68, .load 1 false (.tmp 67), none⟩, []),
(⟨some 69, .bin .add (.tmp 63) (.tmp 68), none⟩, []),
(⟨some 70, .minmax false [(.tmp 69), (.val (.pv (.int .i64 1000000000000001)))], none⟩, []),
(⟨some 71, .idx 1 (.tmp 56) (.tmp 58), none⟩, []),
(⟨none, .store 1 (.tmp 71) (.tmp 70), none⟩, [])] [1, 2, 7, 9, 10, 11] [2])))
(.region [
⟨some 49, .mov (.tmp 11), none⟩,
⟨some 50, .bin .add (.tmp 49) (.val (.pv (.int .i64 1))), none⟩,
⟨some 11, .mov (.tmp 50), none⟩] [1, 2, 7, 9, 10, 11] [2])))))))
(.region [
⟨some 72, .mov (.tmp 10), none⟩,
⟨some 7, .mov (.tmp 72), none⟩] [1, 2, 7, 9] [2]))))
(.region [
⟨some 39, .mov (.tmp 9), none⟩,
⟨some 40, .bin .add (.tmp 39) (.val (.pv (.int .i64 1))), none⟩,
⟨some 9, .mov (.tmp 40), none⟩] [1, 2, 7, 9] [2])))))))
(.seq
(.seq
(.region [
⟨some 73, .mov (.tmp 7), none⟩,
⟨some 74, .fld 1 (.tmp 2), none⟩,
⟨some 75, .load 1 false (.tmp 74), none⟩,
⟨some 76, .idx 1 (.tmp 73) (.tmp 75), none⟩,
⟨some 77, .load 1 false (.tmp 76), none⟩,
⟨some 78, .bin .gtr (.tmp 77) (.val (.pv (.int .i64 1000000000000000))), none⟩] [2, 7, 78] [2])
(.cond (.tmp 78)
(.seq
(.region [
⟨some 4, .mov (.val (.pv (.int .i64 0))), none⟩,
⟨some 5, .mov (.val (.pv (.int .i64 3))), none⟩] [4, 5] [])
.ret)
.skip))
(.seq
(.region [
⟨some 79, .mov (.tmp 7), none⟩,
⟨some 80, .fld 1 (.tmp 2), none⟩,
⟨some 81, .load 1 false (.tmp 80), none⟩,
⟨some 82, .idx 1 (.tmp 79) (.tmp 81), none⟩,
⟨some 83, .load 1 false (.tmp 82), none⟩,
⟨some 4, .mov (.tmp 83), none⟩,
⟨some 5, .mov (.val (.pv (.int .i64 0))), none⟩] [4, 5] [])
.ret)))))))),
[.tmp 4, .tmp 5], false, false⟩
def F26 : AFunc := ⟨1,
(.seq
(.region [
⟨some 1, .box 1 3 (.tmp 0), none⟩,
⟨some 2, .mov (.val (.pv (.int .i64 0))), none⟩] [1] [1])
(.seq
(.seq
(.region [
⟨some 5, .fld 0 (.tmp 1), none⟩,
⟨some 6, .load 1 false (.tmp 5), none⟩,
⟨some 7, .bin .gtr (.tmp 6) (.val (.pv (.int .i64 12))), none⟩,
⟨some 8, .mov (.tmp 7), none⟩,
⟨some 9, .fld 2 (.tmp 1), some (8, false)⟩,
⟨some 10, .load 1 false (.tmp 9), some (8, false)⟩,
⟨some 11, .len 0 (.tmp 10), some (8, false)⟩,
⟨some 12, .bin .gtr (.tmp 11) (.val (.pv (.int .i64 100))), some (8, false)⟩,
⟨some 13, .pick (.tmp 8) (.val (.pv (.bool true))) (.tmp 12), none⟩] [1, 13] [1])
(.cond (.tmp 13)
(.seq
(.region [
⟨some 2, .mov (.val (.pv (.int .i64 3))), none⟩] [2] [])
.ret)
.skip))
(.seq
(.seq
(.region [
⟨some 14, .fld 0 (.tmp 1), none⟩,
⟨some 15, .load 1 false (.tmp 14), none⟩,
⟨some 16, .bin .lss (.tmp 15) (.val (.pv (.int .i64 1))), none⟩,
⟨some 17, .mov (.tmp 16), none⟩,
⟨some 18, .fld 1 (.tmp 1), some (17, false)⟩,
⟨some 19, .load 1 false (.tmp 18), some (17, false)⟩,
⟨some 20, .bin .lss (.tmp 19) (.val (.pv (.int .i64 0))), some (17, false)⟩,
⟨some 21, .pick (.tmp 17) (.val (.pv (.bool true))) (.tmp 20), none⟩,
⟨some 22, .mov (.tmp 21), none⟩,
⟨some 23, .fld 1 (.tmp 1), some (22, false)⟩,
⟨some 24, .load 1 false (.tmp 23), some (22, false)⟩,
⟨some 25, .fld 0 (.tmp 1), some (22, false)⟩,
⟨some 26, .load 1 false (.tmp 25), some (22, false)⟩,
⟨some 27, .bin .geq (.tmp 24) (.tmp 26), some (22, false)⟩,
⟨some 28, .pick (.tmp 22) (.val (.pv (.bool true))) (.tmp 27), none⟩] [1, 28] [1])
(.cond (.tmp 28)
(.seq
(.region [
⟨some 2, .mov (.val (.pv (.int .i64 1))), none⟩] [2] [])
.ret)
.skip))
(.seq
(.seq
(.region [
⟨some 3, .mov (.val (.pv (.int .i64 0))), none⟩] [1, 3] [1])
(.block 0
(.loop
(.mask [1, 3] [1]
(.seq
(.seq
(.region [
⟨some 29, .mov (.tmp 3), none⟩,
⟨some 30, .fld 2 (.tmp 1), none⟩,
⟨some 31, .load 1 false (.tmp 30), none⟩,
⟨some 32, .len 0 (.tmp 31), none⟩,
⟨some 33, .bin .lss (.tmp 29) (.tmp 32), none⟩] [1, 3, 33] [1])
(.cond (.tmp 33)
.skip
(.exit 0)))
(.seq
(.block 1
(.seq
(.region [
⟨some 36, .fld 2 (.tmp 1), none⟩,
⟨some 37, .load 1 false (.tmp 36), none⟩,
⟨some 38, .mov (.tmp 3), none⟩,
⟨some 39, .idx 4 (.tmp 37) (.tmp 38), none⟩,
⟨some 40, .load 4 true (.tmp 39), none⟩,
⟨some 4, .alloc 4 [.pv (.int .i64 0), .pv (.bool false), .pv (.int .i64 0), .pv (.int .i64 0)], none⟩,
⟨none, .store 4 (.tmp 4) (.tmp 40), none⟩] [1, 3, 4] [1, 4])
(.seq
(.seq
(.region [
⟨some 41, .fld 0 (.tmp 4), none⟩,
⟨some 42, .load 1 false (.tmp 41), none⟩,
⟨some 43, .bin .lss (.tmp 42) (.val (.pv (.int .i64 0))), none⟩,
⟨some 44, .mov (.tmp 43), none⟩,
⟨some 45, .fld 0 (.tmp 4), some (44, false)⟩,
⟨some 46, .load 1 false (.tmp 45), some (44, false)⟩,
⟨some 47, .fld 0 (.tmp 1), some (44, false)⟩,
⟨some 48, .load 1 false (.tmp 47), some (44, false)⟩,
⟨some 49, .bin .geq (.tmp 46) (.tmp 48), some (44, false)⟩,
⟨some 50, .pick (.tmp 44) (.val (.pv (.bool true))) (.tmp 49), none⟩,
⟨some 51, .mov (.tmp 50), none⟩,
⟨some 52, .fld 3 (.tmp 4), some (51, false)⟩,
⟨some 53, .load 1 false (.tmp 52), some (51, false)⟩,
⟨some 54, .bin .lss (.tmp 53) (.val (.pv (.int .i64 0))), some (51, false)⟩,
⟨some 55, .pick (.tmp 51) (.val (.pv (.bool true))) (.tmp 54), none⟩,
⟨some 56, .mov (.tmp 55), none⟩,
⟨some 57, .fld 3 (.tmp 4), some (56, false)⟩,
⟨some 58, .load 1 false (.tmp 57), some (56, false)⟩,
⟨some 59, .fld 0 (.tmp 1), some (56, false)⟩,
⟨some 60, .load 1 false (.tmp 59), some (56, false)⟩,
⟨some 61, .bin .geq (.tmp 58) (.tmp 60), some (56, false)⟩,
⟨some 62, .pick (.tmp 56) (.val (.pv (.bool true))) (.tmp 61), none⟩,
⟨some 63, .mov (.tmp 62), none⟩,
⟨some 64, .fld 2 (.tmp 4), some (63, false)⟩,
⟨some 65, .load 1 false (.tmp 64), some (63, false)⟩,
⟨some 66, .bin .lss (.tmp 65) (.val (.pv (.int .i64 1))), some (63, false)⟩,
⟨some 67, .pick (.tmp 63) (.val (.pv (.bool true))) (.tmp 66), none⟩,
⟨some 68, .mov (.tmp 67), none⟩,
⟨some 69, .fld 2 (.tmp 4), some (68, false)⟩,
⟨some 70, .load 1 false (.tmp 69), some (68, false)⟩,
⟨some 71, .bin .gtr (.tmp 70) (.val (.pv (.int .i64 1000))), some (68, false)⟩,
⟨some 72, .pick (.tmp 68) (.val (.pv (.bool true))) (.tmp 71), none⟩] [1, 3, 4, 72] [1, 4])
(.cond (.tmp 72)
(.seq
(.region [
⟨some 2, .mov (.val (.pv (.int .i64 1))), none⟩] [2] [])
.ret)
.skip))
(.seq
(.draw [
(⟨some 73, .mov (.tmp 3), none⟩, []),
(⟨some 74, .bin .gtr (.tmp 73) (.val (.pv (.int .i64 0))), none⟩, []),
(⟨some 75, .mov (.tmp 74), none⟩, []),
(⟨some 76, .fld 2 (.tmp 1), some (75, true)⟩, []),
(⟨some 77, .load 1 false (.tmp 76), some (75, true)⟩, []),
(⟨some 78, .mov (.tmp 3), some (75, true)⟩, []),
(⟨some 79, .bin .sub (.tmp 78) (.val (.pv (.int .i64 1))), some (75, true)⟩, []),
(⟨some 80, .idx 4 (.tmp 77) (.tmp 79), some (75, true)⟩, []),
(⟨some 81, .load 4 true (.tmp 80), some (75, true)⟩, []),
(⟨some 82, .load 4 true (.tmp 4), some (75, true)⟩, []),
(⟨some 83, .call (.val (.func 44 [])) [(.tmp 81), (.tmp 82)], some (75, true)⟩, []),
(⟨some 84, .un .not (.tmp 83), some (75, true)⟩, []),
(⟨some 85, .pick (.tmp 75) (.tmp 84) (.val (.pv (.bool false))), none⟩, [])] [1, 3, 85] [1])
(.cond (.tmp 85)
(.seq
(.region [
⟨some 2, .mov (.val (.pv (.int .i64 1))), none⟩] [2] [])
.ret)
.skip)))))
(.region [
⟨some 34, .mov (.tmp 3), none⟩,
⟨some 35, .bin .add (.tmp 34) (.val (.pv (.int .i64 1))), none⟩,
⟨some 3, .mov (.tmp 35), none⟩] [1, 3] [1])))))))
(.seq
(.region [
⟨some 2, .mov (.val (.pv (.int .i64 0))), none⟩] [2] [])
.ret))))),
[.tmp 2], false, false⟩
def F28 : AFunc := ⟨0,
(.seq
(.region [
⟨some 0, .alloc 0 [.pv (.int .i64 0), .pv (.int .i64 0), .tl []], none⟩] [0] [0])
(.seq
(.region [
⟨some 1, .build [.pv (.int .i64 0), .pv (.bool false), .pv (.int .i64 0), .pv (.int .i64 0)] [(0, 1, (.val (.pv (.int .i64 0)))), (2, 1, (.val (.pv (.int .i64 1)))), (3, 1, (.val (.pv (.int .i64 1))))], none⟩,
⟨some 2, .build [.pv (.int .i64 0), .pv (.bool false), .pv (.int .i64 0), .pv (.int .i64 0)] [(0, 1, (.val (.pv (.int .i64 0)))), (2, 1, (.val (.pv (.int .i64 2)))), (3, 1, (.val (.pv (.int .i64 2))))], none⟩,
⟨some 3, .build [.pv (.int .i64 0), .pv (.bool false), .pv (.int .i64 0), .pv (.int .i64 0)] [(0, 1, (.val (.pv (.int .i64 1)))), (1, 1, (.val (.pv (.bool true)))), (2, 1, (.val (.pv (.int .i64 3)))), (3, 1, (.val (.pv (.int .i64 3))))], none⟩,
⟨some 4, .build [.pv (.int .i64 0), .pv (.bool false), .pv (.int .i64 0), .pv (.int .i64 0)] [(0, 1, (.val (.pv (.int .i64 2)))), (1, 1, (.val (.pv (.bool true)))), (2, 1, (.val (.pv (.int .i64 3)))), (3, 1, (.val (.pv (.int .i64 3))))], none⟩,
⟨some 5, .lit 4 [.pv (.int .i64 0), .pv (.bool false), .pv (.int .i64 0), .pv (.int .i64 0)] 4 [(0, 4, (.tmp 1)), (4, 4, (.tmp 2)), (8, 4, (.tmp 3)), (12, 4, (.tmp 4))], none⟩,
⟨some 6, .build [.pv (.int .i64 0), .pv (.int .i64 0), .tl []] [(0, 1, (.val (.pv (.int .i64 4)))), (2, 1, (.tmp 5))], none⟩,
⟨none, .store 3 (.tmp 0) (.tmp 6), none⟩] [0] [0])
.ret)),
[.cell 0 3 true], false, false⟩
def F29 : AFunc := ⟨1,
(.seq
(.region [
⟨some 1, .box 1 3 (.tmp 0), none⟩,
⟨some 2, .mov (.val (.pv (.int .i64 0))), none⟩] [1] [1])
(.seq
(.seq
(.region [
⟨some 6, .fld 0 (.tmp 1), none⟩,
⟨some 7, .load 1 false (.tmp 6), none⟩,
⟨some 8, .bin .gtr (.tmp 7) (.val (.pv (.int .i64 12))), none⟩,
⟨some 9, .mov (.tmp 8), none⟩,
⟨some 10, .fld 2 (.tmp 1), some (9, false)⟩,
⟨some 11, .load 1 false (.tmp 10), some (9, false)⟩,
⟨some 12, .len 0 (.tmp 11), some (9, false)⟩,
⟨some 13, .bin .gtr (.tmp 12) (.val (.pv (.int .i64 100))), some (9, false)⟩,
⟨some 14, .pick (.tmp 9) (.val (.pv (.bool true))) (.tmp 13), none⟩] [1, 14] [1])
(.cond (.tmp 14)
(.seq
(.region [
⟨some 2, .mov (.val (.pv (.int .i64 3))), none⟩] [2] [])
.ret)
.skip))
(.seq
(.region [
⟨some 15, .clos 46 [(.tmp 1)], none⟩,
⟨some 3, .mov (.tmp 15), none⟩] [1, 3] [1])
(.seq
(.seq
(.region [
⟨some 16, .mov (.tmp 3), none⟩,
⟨some 17, .fld 1 (.tmp 1), none⟩,
⟨some 18, .load 1 false (.tmp 17), none⟩,
⟨some 19, .call (.tmp 16) [(.tmp 18)], none⟩,
⟨some 20, .un .not (.tmp 19), none⟩] [1, 3, 20] [1])
(.cond (.tmp 20)
(.seq
(.region [
⟨some 2, .mov (.val (.pv (.int .i64 1))), none⟩] [2] [])
.ret)
.skip))
(.seq
(.seq
(.region [
⟨some 21, .fld 2 (.tmp 1), none⟩,
⟨some 22, .load 1 false (.tmp 21), none⟩,
⟨some 23, .len 0 (.tmp 22), none⟩,
⟨some 24, .mov (.val (.pv (.int .i64 0))), none⟩] [1, 3, 22, 23, 24] [1])
(.block 0
(.loop
(.mask [1, 3, 22, 23, 24] [1]
(.seq
(.region [
⟨some 25, .bin .lss (.tmp 24) (.tmp 23), none⟩] [1, 3, 22, 23, 24, 25] [1])
(.seq
(.cond (.tmp 25)
.skip
(.exit 0))
(.seq
(.block 1
(.seq
(.region [
⟨some 26, .mov (.tmp 24), none⟩,
⟨some 27, .idx 4 (.tmp 22) (.tmp 24), none⟩,
⟨some 28, .load 4 true (.tmp 27), none⟩,
⟨some 5, .alloc 5 [.pv (.int .i64 0), .pv (.bool false), .pv (.int .i64 0), .pv (.int .i64 0)], none⟩,
⟨some 4, .mov (.tmp 26), none⟩,
⟨none, .store 4 (.tmp 5) (.tmp 28), none⟩] [1, 3, 4, 5, 22, 23, 24] [1, 5])
(.seq
(.draw [
(⟨some 29, .mov (.tmp 3), none⟩, []),
(⟨some 30, .fld 0 (.tmp 5), none⟩, []),
(⟨some 31, .load 1 false (.tmp 30), none⟩, []),
(⟨some 32, .call (.tmp 29) [(.tmp 31)], none⟩, []),
(⟨some 33, .un .not (.tmp 32), none⟩, []),
(⟨some 34, .mov (.tmp 33), none⟩, []),
(⟨some 35, .mov (.tmp 3), some (34, false)⟩, []),
(⟨some 36, .fld 3 (.tmp 5), some (34, false)⟩, []),
(⟨some 37, .load 1 false (.tmp 36), some (34, false)⟩, []),
(⟨some 38, .call (.tmp 35) [(.tmp 37)], some (34, false)⟩, []),
(⟨some 39, .un .not (.tmp 38), some (34, false)⟩, []),
(⟨some 40, .pick (.tmp 34) (.val (.pv (.bool true))) (.tmp 39), none⟩, []),
(⟨some 41, .mov (.tmp 40), none⟩, []),
(⟨some 42, .fld 2 (.tmp 5), some (41, false)⟩, []),
(⟨some 43, .load 1 false (.tmp 42), some (41, false)⟩, []),
(⟨some 44, .bin .lss (.tmp 43) (.val (.pv (.int .i64 1))), some (41, false)⟩, []),
(⟨some 45, .pick (.tmp 41) (.val (.pv (.bool true))) (.tmp 44), none⟩, []),
(⟨some 46, .mov (.tmp 45), none⟩, []),
(⟨some 47, .fld 2 (.tmp 5), some (46, false)⟩, []),
(⟨some 48, .load 1 false (.tmp 47), some (46, false)⟩, []),
(⟨some 49, .bin .gtr (.tmp 48) (.val (.pv (.int .i64 1000))), some (46, false)⟩, []),
(⟨some 50, .pick (.tmp 46) (.val (.pv (.bool true))) (.tmp 49), none⟩, []),
(⟨some 51, .mov (.tmp 50), none⟩, []),
(⟨some 52, .mov (.tmp 4), some (51, false)⟩, []),
(⟨some 53, .bin .gtr (.tmp 52) (.val (.pv (.int .i64 0))), some (51, false)⟩, []),
(⟨some 54, .mov (.tmp 53), some (51, false)⟩, []),
(⟨some 55, .fld 2 (.tmp 1), some (54, true)⟩, []),
(⟨some 56, .load 1 false (.tmp 55), some (54, true)⟩, []),
(⟨some 57, .mov (.tmp 4), some (54, true)⟩, []),
(⟨some 58, .bin .sub (.tmp 57) (.val (.pv (.int .i64 1))), some (54, true)⟩, []),
(⟨some 59, .idx 4 (.tmp 56) (.tmp 58), some (54, true)⟩, []),
(⟨some 60, .load 4 true (.tmp 59), some (54, true)⟩, []),
(⟨some 61, .load 4 true (.tmp 5), some (54, true)⟩, []),
(⟨some 62, .call (.val (.func 47 [])) [(.tmp 60), (.tmp 61)], some (54, true)⟩, []),
(⟨some 63, .bin .geq (.tmp 62) (.val (.pv (.int .i64 0))), some (54, true)⟩, []),
(⟨some 64, .pick (.tmp 54) (.tmp 63) (.val (.pv (.bool false))), some (51, false)⟩, []),
(⟨some 65, .pick (.tmp 51) (.val (.pv (.bool true))) (.tmp 64), none⟩, [])] [1, 3, 22, 23, 24, 65] [1])
(.cond (.tmp 65)
(.seq
(.region [
⟨some 2, .mov (.val (.pv (.int .i64 1))), none⟩] [2] [])
.ret)
.skip))))
(.region [
⟨some 66, .bin .add (.tmp 24) (.val (.pv (.int .i64 1))), none⟩,
⟨some 24, .mov (.tmp 66), none⟩] [1, 3, 22, 23, 24] [1]))))))))
(.seq
(.region [
⟨some 2, .mov (.val (.pv (.int .i64 0))), none⟩] [2] [])
.ret)))))),
[.tmp 2], false, false⟩
def F30 : AFunc := ⟨1,
(.seq
(.region [
⟨some 1, .box 1 3 (.tmp 0), none⟩,
⟨some 2, .mov (.val (.tl [])), none⟩] [1] [1])
(.seq
(.region [
⟨some 7, .fld 0 (.tmp 1), none⟩,
⟨some 8, .load 1 false (.tmp 7), none⟩,
⟨some 9, .make 1 [.pv (.int .i64 0)] (.tmp 8) (.tmp 8), none⟩,
⟨some 3, .mov (.tmp 9), none⟩] [1, 3] [1])
(.block 0
(.loop
(.mask [1, 3] [1]
(.block 1
(.seq
(.region [
⟨some 10, .fld 0 (.tmp 1), none⟩,
⟨some 11, .load 1 false (.tmp 10), none⟩,
⟨some 12, .make 1 [.pv (.int .i64 0)] (.tmp 11) (.tmp 11), none⟩,
⟨some 4, .mov (.tmp 12), none⟩] [1, 3, 4] [1])
(.seq
(.seq
(.region [
⟨some 13, .mov (.tmp 4), none⟩,
⟨some 14, .len 0 (.tmp 13), none⟩,
⟨some 15, .mov (.val (.pv (.int .i64 0))), none⟩] [1, 3, 4, 14, 15] [1])
(.block 2
(.loop
(.mask [1, 3, 4, 14, 15] [1]
(.seq
(.region [
⟨some 16, .bin .lss (.tmp 15) (.tmp 14), none⟩] [1, 3, 4, 14, 15, 16] [1])
(.seq
(.cond (.tmp 16)
.skip
(.exit 2))
(.seq
(.block 3
(.seq
(.region [
⟨some 17, .mov (.tmp 15), none⟩,
⟨some 5, .mov (.tmp 17), none⟩] [1, 3, 4, 5, 14, 15] [1])
(.seq
(.region [
⟨some 18, .mov (.tmp 4), none⟩,
⟨some 19, .mov (.tmp 5), none⟩,
⟨some 20, .mov (.tmp 5), none⟩,
⟨some 21, .idx 1 (.tmp 18) (.tmp 19), none⟩,
⟨none, .store 1 (.tmp 21) (.tmp 20), none⟩] [1, 3, 4, 5, 14, 15] [1])
(.seq
(.region [
⟨some 22, .mov (.tmp 5), none⟩,
⟨some 23, .mov (.val (.pv (.int .i64 0))), none⟩] [1, 3, 4, 5, 14, 15, 22, 23] [1])
(.block 4
(.loop
(.mask [1, 3, 4, 5, 14, 15, 22, 23] [1]
(.seq
(.region [
⟨some 24, .bin .lss (.tmp 23) (.tmp 22), none⟩] [1, 3, 4, 5, 14, 15, 22, 23, 24] [1])
(.seq
(.cond (.tmp 24)
.skip
(.exit 4))
(.seq
(.block 5
(.seq
(.region [
⟨some 25, .mov (.tmp 23), none⟩,
⟨some 6, .mov (.tmp 25), none⟩] [1, 3, 4, 5, 6, 14, 15, 22, 23] [1])
(.seq
(.draw [
(⟨some 26, .mov (.tmp 3), none⟩, []),
(⟨some 27, .mov (.tmp 6), none⟩, []),
(⟨some 28, .idx 1 (.tmp 26) (.tmp 27), none⟩, []),
(⟨some 29, .load 1 false (.tmp 28), none⟩, []),
(⟨some 30, .mov (.tmp 3), none⟩, []),
(⟨some 31, .mov (.tmp 5), none⟩, []),
(⟨some 32, .idx 1 (.tmp 30) (.tmp 31), none⟩, []),
(⟨some 33, .load 1 false (.tmp 32), none⟩, []),
(⟨some 34, .bin .eql (.tmp 29) (.tmp 33), none⟩, []),
(⟨some 35, .mov (.tmp 34), none⟩, []),
(⟨some 36, .load 3 true (.tmp 1), some (35, true)⟩, []),
(⟨some 37, .mov (.tmp 6), some (35, true)⟩, []),
(⟨some 38, .mov (.tmp 3), some (35, true)⟩, []),
(⟨some 39, .call (.val (.func 49 [])) [(.tmp 36), (.tmp 37), (.tmp 38)], some (35, true)⟩, []),
(⟨some 40, .load 3 true (.tmp 1), some (35, true)⟩, [13]),
(⟨some 41, .mov (.tmp 5), some (35, true)⟩, []),
(⟨some 42, .mov (.tmp 3), some (35, true)⟩, []),
(⟨some 43, .call (.val (.func 49 [])) [(.tmp 40), (.tmp 41), (.tmp 42)], some (35, true)⟩, []),
(⟨some 44, .call (.val (.func 48 [])) [(.tmp 39), (.tmp 43)], some (35, true)⟩, []),
(⟨some 45, .pick (.tmp 35) (.tmp 44) (.val (.pv (.bool false))), none⟩, [])] [1, 3, 4, 5, 6, 14, 15, 22, 23, 45] [1])
(.cond (.tmp 45)
(.seq
(.region [
⟨some 46, .mov (.tmp 4), none⟩,
⟨some 47, .mov (.tmp 5), none⟩,
⟨some 48, .mov (.tmp 6), none⟩,
⟨some 49, .idx 1 (.tmp 46) (.tmp 47), none⟩,
⟨none, .store 1 (.tmp 49) (.tmp 48), none⟩] [1, 3, 4, 14, 15] [1])
(.exit 4))
.skip))))
(.region [
⟨some 50, .bin .add (.tmp 23) (.val (.pv (.int .i64 1))), none⟩,
⟨some 23, .mov (.tmp 50), none⟩] [1, 3, 4, 5, 14, 15, 22, 23] [1])))))))))))
(.region [
⟨some 51, .bin .add (.tmp 15) (.val (.pv (.int .i64 1))), none⟩,
⟨some 15, .mov (.tmp 51), none⟩] [1, 3, 4, 14, 15] [1]))))))))
(.seq
(.seq
(.region [
⟨some 52, .mov (.tmp 4), none⟩,
⟨some 53, .mov (.tmp 3), none⟩,
⟨some 54, .call (.val (.func 14 [])) [(.tmp 52), (.tmp 53)], none⟩] [1, 3, 4, 54] [1])
(.cond (.tmp 54)
(.seq
(.region [
⟨some 55, .mov (.tmp 3), none⟩,
⟨some 2, .mov (.tmp 55), none⟩] [2] [])
.ret)
.skip))
(.region [
⟨some 56, .mov (.tmp 4), none⟩,
⟨some 3, .mov (.tmp 56), none⟩] [1, 3] [1])))))))))),
[.tmp 2], false, false⟩
def F32 : AFunc := ⟨1,
(.seq
(.region [
⟨some 1, .box 1 3 (.tmp 0), none⟩,
⟨some 2, .alloc 2 [.pv (.int .i64 0), .pv (.int .i64 0), .tl []], none⟩,
⟨some 3, .mov (.val (.pv (.int .i64 0))), none⟩] [1, 2] [1, 2])
(.seq
(.seq
(.region [
⟨some 10, .load 3 true (.tmp 1), none⟩,
⟨some 11, .call (.val (.func 29 [])) [(.tmp 10)], none⟩,
⟨some 4, .mov (.tmp 11), none⟩] [1, 2, 4] [1, 2])
(.seq
(.region [
⟨some 12, .mov (.tmp 4), none⟩,
⟨some 13, .bin .neq (.tmp 12) (.val (.pv (.int .i64 0))), none⟩] [1, 2, 4, 13] [1, 2])
(.cond (.tmp 13)
(.seq
(.region [
⟨some 14, .build [.pv (.int .i64 0), .pv (.int .i64 0), .tl []] [], none⟩,
⟨some 15, .mov (.tmp 4), none⟩,
⟨none, .store 3 (.tmp 2) (.tmp 14), none⟩,
⟨some 3, .mov (.tmp 15), none⟩] [2, 3] [2])
.ret)
.skip)))
(.seq
(.region [
⟨some 17, .load 3 true (.tmp 1), none⟩,
⟨some 18, .call (.val (.func 50 [])) [(.tmp 17)], none⟩,
⟨some 16, .mov (.tmp 18), none⟩,
⟨some 19, .ext (.tmp 16) 0, none⟩,
⟨some 20, .ext (.tmp 16) 1, none⟩,
⟨some 5, .mov (.tmp 19), none⟩,
⟨some 6, .mov (.tmp 20), none⟩] [1, 2, 5, 6] [1, 2])
(.seq
(.region [
⟨some 21, .mov (.tmp 5), none⟩,
⟨some 22, .len 0 (.tmp 21), none⟩,
⟨some 23, .build [.pv (.int .i64 0), .pv (.int .i64 0), .tl []] [(0, 1, (.tmp 22))], none⟩,
⟨some 7, .alloc 7 [.pv (.int .i64 0), .pv (.int .i64 0), .tl []], none⟩,
⟨none, .store 3 (.tmp 7) (.tmp 23), none⟩] [1, 2, 6, 7] [1, 2, 7])
(.seq
(.seq
(.region [
⟨some 24, .fld 2 (.tmp 1), none⟩,
⟨some 25, .load 1 false (.tmp 24), none⟩,
⟨some 26, .len 0 (.tmp 25), none⟩,
⟨some 27, .mov (.val (.pv (.int .i64 0))), none⟩] [2, 6, 7, 25, 26, 27] [2, 7])
(.block 0
(.loop
(.mask [2, 6, 7, 25, 26, 27] [2, 7]
(.seq
(.region [
⟨some 28, .bin .lss (.tmp 27) (.tmp 26), none⟩] [2, 6, 7, 25, 26, 27, 28] [2, 7])
(.seq
(.cond (.tmp 28)
.skip
(.exit 0))
(.seq
(.block 1
(.seq
(.region [
⟨some 29, .idx 4 (.tmp 25) (.tmp 27), none⟩,
⟨some 30, .load 4 true (.tmp 29), none⟩,
⟨some 9, .alloc 9 [.pv (.int .i64 0), .pv (.bool false), .pv (.int .i64 0), .pv (.int .i64 0)], none⟩,
⟨none, .store 4 (.tmp 9) (.tmp 30), none⟩] [2, 6, 7, 9, 25, 26, 27] [2, 7, 9])
(.seq
(.region [
⟨some 31, .mov (.tmp 6), none⟩,
⟨some 32, .fld 0 (.tmp 9), none⟩,
⟨some 33, .load 1 false (.tmp 32), none⟩,
⟨some 34, .idx 1 (.tmp 31) (.tmp 33), none⟩,
⟨some 35, .load 1 false (.tmp 34), none⟩,
⟨some 36, .bin .geq (.tmp 35) (.val (.pv (.int .i64 0))), none⟩] [2, 6, 7, 9, 25, 26, 27, 36] [2, 7, 9])
(.cond (.tmp 36)
(.seq
(.draw [
(⟨some 37, .mov (.tmp 6), none⟩, []),
(⟨some 38, .fld 0 (.tmp 9), none⟩, []),
(⟨some 39, .load 1 false (.tmp 38), none⟩, []),
(⟨some 40, .idx 1 (.tmp 37) (.tmp 39), none⟩, []),
(⟨some 41, .load 1 false (.tmp 40), none⟩, []),
(⟨some 42, .mov (.tmp 6), none⟩, []),
(⟨some 43, .fld 3 (.tmp 9), none⟩, []),
(⟨some 44, .load 1 false (.tmp 43), none⟩, []),
(⟨some 45, .idx 1 (.tmp 42) (.tmp 44), none⟩, []),
(⟨some 46, .load 1 false (.tmp 45), none⟩, []),
(⟨some 47, .fld 0 (.tmp 9), none⟩, []),
(⟨none, .store 1 (.tmp 47) (.tmp 41), none⟩, [8, 9]),
(⟨some 48, .fld 3 (.tmp 9), none⟩, []),
(⟨none, .store 1 (.tmp 48) (.tmp 46), none⟩, [])] [2, 6, 7, 9, 25, 26, 27] [2, 7, 9])
(.region [
⟨some 49, .fld 2 (.tmp 7), none⟩,
⟨some 50, .load 1 false (.tmp 49), none⟩,
⟨some 51, .load 4 true (.tmp 9), none⟩,
⟨some 52, .lit 4 [.pv (.int .i64 0), .pv (.bool false), .pv (.int .i64 0), .pv (.int .i64 0)] 1 [(0, 4, (.tmp 51))], none⟩,
⟨some 53, .app 4 (.tmp 50) (.tmp 52), none⟩,
⟨some 54, .fld 2 (.tmp 7), none⟩,
⟨none, .store 1 (.tmp 54) (.tmp 53), none⟩] [2, 6, 7, 25, 26, 27] [2, 7]))
.skip))))
(.region [
⟨some 55, .bin .add (.tmp 27) (.val (.pv (.int .i64 1))), none⟩,
⟨some 27, .mov (.tmp 55), none⟩] [2, 6, 7, 25, 26, 27] [2, 7]))))))))
(.seq
(.region [
⟨some 56, .fld 2 (.tmp 7), none⟩,
⟨some 57, .load 1 false (.tmp 56), none⟩,
⟨some 58, .call (.val (.func 51 [])) [(.tmp 57), (.val (.func 47 []))], none⟩] [2, 7] [2, 7])
(.seq
(.region [
⟨some 59, .load 3 true (.tmp 7), none⟩,
⟨none, .store 3 (.tmp 2) (.tmp 59), none⟩,
⟨some 3, .mov (.val (.pv (.int .i64 0))), none⟩] [2, 3] [2])
.ret))))))),
[.cell 2 3 true, .tmp 3], false, false⟩
def F34 : AFunc := ⟨2,
(.seq
(.region [
⟨some 2, .box 2 3 (.tmp 0), none⟩,
⟨some 3, .box 3 3 (.tmp 1), none⟩,
⟨some 4, .mov (.val (.pv (.int .i64 0))), none⟩] [2, 3] [2, 3])
(.seq
(.seq
(.region [
⟨some 6, .load 3 true (.tmp 2), none⟩,
⟨some 7, .call (.val (.func 29 [])) [(.tmp 6)], none⟩,
⟨some 5, .mov (.tmp 7), none⟩] [3, 5] [3])
(.seq
(.region [
⟨some 8, .mov (.tmp 5), none⟩,
⟨some 9, .bin .neq (.tmp 8) (.val (.pv (.int .i64 0))), none⟩] [3, 5, 9] [3])
(.cond (.tmp 9)
(.seq
(.region [
⟨some 10, .mov (.tmp 5), none⟩,
⟨some 4, .mov (.tmp 10), none⟩] [4] [])
.ret)
.skip)))
(.seq
(.region [
⟨some 11, .load 3 true (.tmp 3), none⟩,
⟨some 12, .call (.val (.func 29 [])) [(.tmp 11)], none⟩,
⟨some 4, .mov (.tmp 12), none⟩] [4] [])
.ret))),
[.tmp 4], false, false⟩
def F35 : AFunc := ⟨3,
(.seq
(.region [
⟨some 3, .box 3 3 (.tmp 0), none⟩,
⟨some 4, .box 4 3 (.tmp 1), none⟩,
⟨some 6, .mov (.val (.tl [])), none⟩,
⟨some 7, .mov (.val (.pv (.int .i64 0))), none⟩,
⟨some 8, .mov (.val (.pv (.bool false))), none⟩] [2, 3, 4] [3, 4])
(.seq
(.region [
⟨some 21, .fld 1 (.tmp 3), none⟩,
⟨some 22, .load 1 false (.tmp 21), none⟩,
⟨some 23, .fld 1 (.tmp 4), none⟩,
⟨some 24, .load 1 false (.tmp 23), none⟩,
⟨some 25, .build [.pv (.int .i64 0), .pv (.int .i64 0), .tl []] [(0, 1, (.tmp 22)), (1, 1, (.tmp 24)), (2, 1, (.val (.tl [])))], none⟩,
⟨some 26, .lit 3 [.pv (.int .i64 0), .pv (.int .i64 0), .tl []] 1 [(0, 3, (.tmp 25))], none⟩,
⟨some 9, .mov (.tmp 26), none⟩] [2, 3, 4, 9] [3, 4])
(.seq
(.region [
⟨some 27, .mkmap, none⟩,
⟨some 28, .fld 1 (.tmp 3), none⟩,
⟨some 29, .load 1 false (.tmp 28), none⟩,
⟨some 30, .fld 1 (.tmp 4), none⟩,
⟨some 31, .load 1 false (.tmp 30), none⟩,
⟨some 32, .build [.pv (.int .i64 0), .pv (.int .i64 0)] [(0, 1, (.tmp 29)), (1, 1, (.tmp 31))], none⟩,
⟨none, .upd true [1, 1] (.tmp 27) (.tmp 32) (.val (.pv (.bool true))), none⟩,
⟨some 33, .mov (.tmp 27), none⟩,
⟨some 10, .mov (.tmp 33), none⟩] [2, 3, 4, 9, 10] [3, 4])
(.seq
(.block 0
(.loop
(.mask [2, 3, 4, 9, 10] [3, 4]
(.seq
(.seq
(.region [
⟨some 34, .mov (.tmp 9), none⟩,
⟨some 35, .len 0 (.tmp 34), none⟩,
⟨some 36, .bin .gtr (.tmp 35) (.val (.pv (.int .i64 0))), none⟩] [2, 3, 4, 9, 10, 36] [3, 4])
(.cond (.tmp 36)
.skip
(.exit 0)))
(.block 1
(.seq
(.region [
⟨some 37, .mov (.tmp 9), none⟩,
⟨some 38, .idx 3 (.tmp 37) (.val (.pv (.int .i64 0))), none⟩,
⟨some 39, .load 3 true (.tmp 38), none⟩,
⟨some 11, .alloc 11 [.pv (.int .i64 0), .pv (.int .i64 0), .tl []], none⟩,
⟨none, .store 3 (.tmp 11) (.tmp 39), none⟩] [2, 3, 4, 9, 10, 11] [3, 4, 11])
(.seq
(.region [
⟨some 40, .mov (.tmp 9), none⟩,
⟨some 41, .sl 3 (.tmp 40) (some (.val (.pv (.int .i64 1)))) none none, none⟩,
⟨some 9, .mov (.tmp 41), none⟩] [2, 3, 4, 9, 10, 11] [3, 4, 11])
(.seq
(.draw [
(⟨some 42, .load 3 true (.tmp 3), none⟩, []),
(⟨some 43, .fld 0 (.tmp 11), none⟩, []),
(⟨some 44, .load 1 false (.tmp 43), none⟩, []),
(⟨some 45, .call (.val (.func 54 [])) [(.tmp 42), (.tmp 44)], none⟩, []),
(⟨some 46, .load 3 true (.tmp 4), none⟩, [3]),
(⟨some 47, .fld 1 (.tmp 11), none⟩, []),
(⟨some 48, .load 1 false (.tmp 47), none⟩, [3]),
(⟨some 49, .call (.val (.func 54 [])) [(.tmp 46), (.tmp 48)], none⟩, []),
(⟨some 12, .mov (.tmp 45), none⟩, []),
(⟨some 13, .mov (.tmp 49), none⟩, [])] [2, 3, 4, 9, 10, 11, 12, 13] [3, 4, 11])
(.seq
(.seq
(.region [
⟨some 14, .mov (.val (.pv (.int .i64 0))), none⟩,
⟨some 15, .mov (.val (.pv (.int .i64 0))), none⟩] [2, 3, 4, 9, 10, 11, 12, 13, 14, 15] [3, 4, 11])
(.block 2
(.loop
(.mask [2, 3, 4, 9, 10, 11, 12, 13, 14, 15] [3, 4, 11]
(.seq
(.seq
(.region [
⟨some 50, .mov (.tmp 14), none⟩,
⟨some 51, .mov (.tmp 12), none⟩,
⟨some 52, .len 0 (.tmp 51), none⟩,
⟨some 53, .bin .lss (.tmp 50) (.tmp 52), none⟩,
⟨some 54, .mov (.tmp 53), none⟩,
⟨some 55, .mov (.tmp 15), some (54, false)⟩,
⟨some 56, .mov (.tmp 13), some (54, false)⟩,
⟨some 57, .len 0 (.tmp 56), some (54, false)⟩,
⟨some 58, .bin .lss (.tmp 55) (.tmp 57), some (54, false)⟩,
⟨some 59, .pick (.tmp 54) (.val (.pv (.bool true))) (.tmp 58), none⟩] [2, 3, 4, 9, 10, 11, 12, 13, 14, 15, 59] [3, 4, 11])
(.cond (.tmp 59)
.skip
(.exit 2)))
(.block 3
(.block 4
(.seq
(.draw [
(⟨some 65, .mov (.tmp 15), none⟩, []),
(⟨some 66, .mov (.tmp 13), none⟩, []),
(⟨some 67, .len 0 (.tmp 66), none⟩, []),
(⟨some 68, .bin .eql (.tmp 65) (.tmp 67), none⟩, []),
(⟨some 69, .mov (.tmp 68), none⟩, []),
(⟨some 70, .mov (.tmp 14), some (69, false)⟩, []),
(⟨some 71, .mov (.tmp 12), some (69, false)⟩, []),
(⟨some 72, .len 0 (.tmp 71), some (69, false)⟩, []),
(⟨some 73, .bin .lss (.tmp 70) (.tmp 72), some (69, false)⟩, []),
(⟨some 74, .mov (.tmp 73), some (69, false)⟩, []),
(⟨some 75, .mov (.tmp 12), some (74, true)⟩, []),
(⟨some 76, .mov (.tmp 14), some (74, true)⟩, []),
(⟨some 77, .idx 4 (.tmp 75) (.tmp 76), some (74, true)⟩, []),
(⟨some 78, .load 4 true (.tmp 77), some (74, true)⟩, []),
(⟨some 79, .mov (.tmp 13), some (74, true)⟩, []),
(⟨some 80, .mov (.tmp 15), some (74, true)⟩, []),
(⟨some 81, .idx 4 (.tmp 79) (.tmp 80), some (74, true)⟩, []),
(⟨some 82, .load 4 true (.tmp 81), some (74, true)⟩, []),
(⟨some 83, .call (.val (.func 55 [])) [(.tmp 78), (.tmp 82)], some (74, true)⟩, []),
(⟨some 84, .pick (.tmp 74) (.tmp 83) (.val (.pv (.bool false))), some (69, false)⟩, []),
(⟨some 85, .pick (.tmp 69) (.val (.pv (.bool true))) (.tmp 84), none⟩, []),
(⟨some 64, .mov (.tmp 85), none⟩, [])] [2, 3, 4, 9, 10, 11, 12, 13, 14, 15, 64] [3, 4, 11])
(.cond (.tmp 64)
(.seq
(.draw [
(⟨some 86, .fld 2 (.tmp 11), none⟩, []),
(⟨some 87, .load 1 false (.tmp 86), none⟩, []),
(⟨some 88, .mov (.tmp 12), none⟩, []),
(⟨some 89, .mov (.tmp 14), none⟩, []),
(⟨some 90, .idx 4 (.tmp 88) (.tmp 89), none⟩, []),
(⟨some 91, .load 4 true (.tmp 90), none⟩, []),
(⟨some 92, .call (.val (.func 56 [])) [(.tmp 91)], none⟩, [1]),
(⟨some 93, .lit 2 [.pv (.bool false), .pv (.int .i64 0)] 1 [(0, 2, (.tmp 92))], none⟩, [1]),
(⟨some 94, .app 2 (.tmp 87) (.tmp 93), none⟩, []),
(⟨some 6, .mov (.tmp 94), none⟩, []),
(⟨some 7, .mov (.val (.pv (.int .i64 0))), none⟩, []),
(⟨some 8, .mov (.val (.pv (.bool true))), none⟩, [])] [6, 7, 8] [])
.ret)
(.seq
(.draw [
(⟨some 96, .mov (.tmp 14), none⟩, []),
(⟨some 97, .mov (.tmp 12), none⟩, []),
(⟨some 98, .len 0 (.tmp 97), none⟩, []),
(⟨some 99, .bin .eql (.tmp 96) (.tmp 98), none⟩, []),
(⟨some 100, .mov (.tmp 99), none⟩, []),
(⟨some 101, .mov (.tmp 13), some (100, false)⟩, []),
(⟨some 102, .mov (.tmp 15), some (100, false)⟩, []),
(⟨some 103, .idx 4 (.tmp 101) (.tmp 102), some (100, false)⟩, []),
(⟨some 104, .load 4 true (.tmp 103), some (100, false)⟩, []),
(⟨some 105, .mov (.tmp 12), some (100, false)⟩, []),
(⟨some 106, .mov (.tmp 14), some (100, false)⟩, []),
(⟨some 107, .idx 4 (.tmp 105) (.tmp 106), some (100, false)⟩, []),
(⟨some 108, .load 4 true (.tmp 107), some (100, false)⟩, []),
(⟨some 109, .call (.val (.func 55 [])) [(.tmp 104), (.tmp 108)], some (100, false)⟩, []),
(⟨some 110, .pick (.tmp 100) (.val (.pv (.bool true))) (.tmp 109), none⟩, []),
(⟨some 95, .mov (.tmp 110), none⟩, [])] [2, 3, 4, 9, 10, 11, 12, 13, 14, 15, 95] [3, 4, 11])
(.cond (.tmp 95)
(.seq
(.seq
(.region [
⟨some 111, .mov (.tmp 2), none⟩,
⟨some 112, .un .not (.tmp 111), none⟩] [2, 3, 4, 9, 10, 11, 12, 13, 14, 15, 112] [3, 4, 11])
(.cond (.tmp 112)
(.seq
(.draw [
(⟨some 113, .fld 2 (.tmp 11), none⟩, []),
(⟨some 114, .load 1 false (.tmp 113), none⟩, []),
(⟨some 115, .mov (.tmp 13), none⟩, []),
(⟨some 116, .mov (.tmp 15), none⟩, []),
(⟨some 117, .idx 4 (.tmp 115) (.tmp 116), none⟩, []),
(⟨some 118, .load 4 true (.tmp 117), none⟩, []),
(⟨some 119, .call (.val (.func 56 [])) [(.tmp 118)], none⟩, [1]),
(⟨some 120, .lit 2 [.pv (.bool false), .pv (.int .i64 0)] 1 [(0, 2, (.tmp 119))], none⟩, [1]),
(⟨some 121, .app 2 (.tmp 114) (.tmp 120), none⟩, []),
(⟨some 6, .mov (.tmp 121), none⟩, []),
(⟨some 7, .mov (.val (.pv (.int .i64 1))), none⟩, []),
(⟨some 8, .mov (.val (.pv (.bool true))), none⟩, [])] [6, 7, 8] [])
.ret)
.skip))
(.region [
⟨some 122, .mov (.tmp 15), none⟩,
⟨some 123, .bin .add (.tmp 122) (.val (.pv (.int .i64 1))), none⟩,
⟨some 15, .mov (.tmp 123), none⟩] [2, 3, 4, 9, 10, 11, 12, 13, 14, 15] [3, 4, 11]))
(.region [
⟨some 60, .mov (.tmp 14), none⟩,
⟨some 61, .bin .add (.tmp 60) (.val (.pv (.int .i64 1))), none⟩,
⟨some 62, .mov (.tmp 15), none⟩,
⟨some 63, .bin .add (.tmp 62) (.val (.pv (.int .i64 1))), none⟩,
⟨some 14, .mov (.tmp 61), none⟩,
⟨some 15, .mov (.tmp 63), none⟩] [2, 3, 4, 9, 10, 11, 12, 13, 14, 15] [3, 4, 11]))))))))))))
(.seq
(.region [
⟨some 124, .mov (.tmp 12), none⟩,
⟨some 125, .len 0 (.tmp 124), none⟩,
⟨some 126, .mov (.val (.pv (.int .i64 0))), none⟩] [2, 3, 4, 9, 10, 11, 124, 125, 126] [3, 4, 11])
(.block 5
(.loop
(.mask [2, 3, 4, 9, 10, 11, 124, 125, 126] [3, 4, 11]
(.seq
(.region [
⟨some 127, .bin .lss (.tmp 126) (.tmp 125), none⟩] [2, 3, 4, 9, 10, 11, 124, 125, 126, 127] [3, 4, 11])
(.seq
(.cond (.tmp 127)
.skip
(.exit 5))
(.seq
(.block 6
(.seq
(.region [
⟨some 128, .idx 4 (.tmp 124) (.tmp 126), none⟩,
⟨some 129, .load 4 true (.tmp 128), none⟩,
⟨some 17, .alloc 17 [.pv (.int .i64 0), .pv (.bool false), .pv (.int .i64 0), .pv (.int .i64 0)], none⟩,
⟨none, .store 4 (.tmp 17) (.tmp 129), none⟩] [2, 3, 4, 9, 10, 11, 17, 124, 125, 126] [3, 4, 11, 17])
(.seq
(.region [
⟨some 131, .load 3 true (.tmp 4), none⟩,
⟨some 132, .fld 1 (.tmp 11), none⟩,
⟨some 133, .load 1 false (.tmp 132), none⟩,
⟨some 134, .fld 1 (.tmp 17), none⟩,
⟨some 135, .load 1 false (.tmp 134), none⟩,
⟨some 136, .fld 2 (.tmp 17), none⟩,
⟨some 137, .load 1 false (.tmp 136), none⟩,
⟨some 138, .call (.val (.func 45 [])) [(.tmp 131), (.tmp 133), (.tmp 135), (.tmp 137)], none⟩,
⟨some 130, .mov (.tmp 138), none⟩,
⟨some 139, .ext (.tmp 130) 0, none⟩,
⟨some 140, .ext (.tmp 130) 1, none⟩,
⟨some 18, .mov (.tmp 139), none⟩,
⟨some 19, .mov (.tmp 140), none⟩] [2, 3, 4, 9, 10, 11, 17, 18, 19, 124, 125, 126] [3, 4, 11, 17])
(.seq
(.region [
⟨some 141, .fld 3 (.tmp 17), none⟩,
⟨some 142, .load 1 false (.tmp 141), none⟩,
⟨some 143, .mov (.tmp 18), none⟩,
⟨some 144, .build [.pv (.int .i64 0), .pv (.int .i64 0)] [(0, 1, (.tmp 142)), (1, 1, (.tmp 143))], none⟩,
⟨some 20, .alloc 20 [.pv (.int .i64 0), .pv (.int .i64 0)], none⟩,
⟨none, .store 2 (.tmp 20) (.tmp 144), none⟩] [2, 3, 4, 9, 10, 11, 17, 18, 19, 20, 124, 125, 126] [3, 4, 11, 17, 20])
(.seq
(.region [
⟨some 145, .mov (.tmp 19), none⟩,
⟨some 146, .mov (.tmp 145), none⟩,
⟨some 147, .mov (.tmp 10), some (146, true)⟩,
⟨some 148, .load 2 true (.tmp 20), some (146, true)⟩,
⟨some 149, .look true [1, 1] (.pv (.bool false)) (.tmp 147) (.tmp 148) false, some (146, true)⟩,
⟨some 150, .un .not (.tmp 149), some (146, true)⟩,
⟨some 151, .pick (.tmp 146) (.tmp 150) (.val (.pv (.bool false))), none⟩] [2, 3, 4, 9, 10, 11, 17, 18, 20, 124, 125, 126, 151] [3, 4, 11, 17, 20])
(.cond (.tmp 151)
(.seq
(.region [
⟨some 152, .mov (.tmp 10), none⟩,
⟨some 153, .load 2 true (.tmp 20), none⟩,
⟨none, .upd true [1, 1] (.tmp 152) (.tmp 153) (.val (.pv (.bool true))), none⟩] [2, 3, 4, 9, 10, 11, 17, 18, 124, 125, 126] [3, 4, 11, 17])
(.draw [
(⟨some 154, .mov (.tmp 9), none⟩, []),
(⟨some 155, .fld 3 (.tmp 17), none⟩, []),
(⟨some 156, .load 1 false (.tmp 155), none⟩, []),
(⟨some 157, .mov (.tmp 18), none⟩, []),
(⟨some 158, .fld 2 (.tmp 11), none⟩, []),
(⟨some 159, .load 1 false (.tmp 158), none⟩, []),
(⟨some 160, .call (.val (.func 57 [])) [(.tmp 159)], none⟩, [2]),
(⟨some 161, .load 4 true (.tmp 17), none⟩, [6]),
(⟨some 162, .call (.val (.func 56 [])) [(.tmp 161)], none⟩, [2]),
(⟨some 163, .lit 2 [.pv (.bool false), .pv (.int .i64 0)] 1 [(0, 2, (.tmp 162))], none⟩, [2]),
(⟨some 164, .app 2 (.tmp 160) (.tmp 163), none⟩, [2]),
(⟨some 165, .build [.pv (.int .i64 0), .pv (.int .i64 0), .tl []] [(0, 1, (.tmp 156)), (1, 1, (.tmp 157)), (2, 1, (.tmp 164))], none⟩, []),
(⟨some 166, .lit 3 [.pv (.int .i64 0), .pv (.int .i64 0), .tl []] 1 [(0, 3, (.tmp 165))], none⟩, []),
(⟨some 167, .app 3 (.tmp 154) (.tmp 166), none⟩, []),
(⟨some 9, .mov (.tmp 167), none⟩, [])] [2, 3, 4, 9, 10, 11, 124, 125, 126] [3, 4, 11]))
.skip))))))
(.region [
⟨some 168, .bin .add (.tmp 126) (.val (.pv (.int .i64 1))), none⟩,
⟨some 126, .mov (.tmp 168), none⟩] [2, 3, 4, 9, 10, 11, 124, 125, 126] [3, 4, 11])))))))))))))))))
(.seq
(.region [
⟨some 6, .mov (.val (.tl [])), none⟩,
⟨some 7, .mov (.val (.pv (.int .i64 0))), none⟩,
⟨some 8, .mov (.val (.pv (.bool false))), none⟩] [6, 7, 8] [])
.ret))))),
[.tmp 6, .tmp 7, .tmp 8], false, false⟩
def F44 : AFunc := ⟨2,
(.seq
(.region [
⟨some 2, .box 2 4 (.tmp 0), none⟩,
⟨some 3, .box 3 4 (.tmp 1), none⟩,
⟨some 4, .mov (.val (.pv (.bool false))), none⟩] [2, 3] [2, 3])
(.seq
(.seq
(.region [
⟨some 5, .fld 0 (.tmp 2), none⟩,
⟨some 6, .load 1 false (.tmp 5), none⟩,
⟨some 7, .fld 0 (.tmp 3), none⟩,
⟨some 8, .load 1 false (.tmp 7), none⟩,
⟨some 9, .bin .neq (.tmp 6) (.tmp 8), none⟩] [2, 3, 9] [2, 3])
(.cond (.tmp 9)
(.seq
(.region [
⟨some 10, .fld 0 (.tmp 2), none⟩,
⟨some 11, .load 1 false (.tmp 10), none⟩,
⟨some 12, .fld 0 (.tmp 3), none⟩,
⟨some 13, .load 1 false (.tmp 12), none⟩,
⟨some 14, .bin .lss (.tmp 11) (.tmp 13), none⟩,
⟨some 4, .mov (.tmp 14), none⟩] [4] [])
.ret)
.skip))
(.seq
(.seq
(.region [
⟨some 15, .fld 1 (.tmp 2), none⟩,
⟨some 16, .load 1 false (.tmp 15), none⟩,
⟨some 17, .fld 1 (.tmp 3), none⟩,
⟨some 18, .load 1 false (.tmp 17), none⟩,
⟨some 19, .eqa false [0] true (.tmp 16) (.tmp 18), none⟩] [2, 3, 19] [2, 3])
(.cond (.tmp 19)
(.seq
(.region [
⟨some 20, .fld 1 (.tmp 3), none⟩,
⟨some 21, .load 1 false (.tmp 20), none⟩,
⟨some 4, .mov (.tmp 21), none⟩] [4] [])
.ret)
.skip))
(.seq
(.region [
⟨some 22, .fld 2 (.tmp 2), none⟩,
⟨some 23, .load 1 false (.tmp 22), none⟩,
⟨some 24, .fld 2 (.tmp 3), none⟩,
⟨some 25, .load 1 false (.tmp 24), none⟩,
⟨some 26, .bin .lss (.tmp 23) (.tmp 25), none⟩,
⟨some 4, .mov (.tmp 26), none⟩] [4] [])
.ret)))),
[.tmp 4], false, false⟩
def F45 : AFunc := ⟨4,
(.seq
(.region [
⟨some 4, .box 4 3 (.tmp 0), none⟩,
⟨some 8, .mov (.val (.pv (.int .i64 0))), none⟩,
⟨some 9, .mov (.val (.pv (.bool false))), none⟩] [1, 2, 3, 4] [4])
(.seq
(.seq
(.region [
⟨some 12, .fld 2 (.tmp 4), none⟩,
⟨some 13, .load 1 false (.tmp 12), none⟩,
⟨some 14, .len 0 (.tmp 13), none⟩,
⟨some 15, .mov (.val (.pv (.int .i64 0))), none⟩] [1, 2, 3, 13, 14, 15] [])
(.block 0
(.loop
(.mask [1, 2, 3, 13, 14, 15] []
(.seq
(.region [
⟨some 16, .bin .lss (.tmp 15) (.tmp 14), none⟩] [1, 2, 3, 13, 14, 15, 16] [])
(.seq
(.cond (.tmp 16)
.skip
(.exit 0))
(.seq
(.block 1
(.seq
(.region [
⟨some 17, .idx 4 (.tmp 13) (.tmp 15), none⟩,
⟨some 18, .load 4 true (.tmp 17), none⟩,
⟨some 11, .alloc 11 [.pv (.int .i64 0), .pv (.bool false), .pv (.int .i64 0), .pv (.int .i64 0)], none⟩,
⟨none, .store 4 (.tmp 11) (.tmp 18), none⟩] [1, 2, 3, 11, 13, 14, 15] [11])
(.seq
(.region [
⟨some 19, .fld 0 (.tmp 11), none⟩,
⟨some 20, .load 1 false (.tmp 19), none⟩,
⟨some 21, .mov (.tmp 1), none⟩,
⟨some 22, .bin .eql (.tmp 20) (.tmp 21), none⟩,
⟨some 23, .mov (.tmp 22), none⟩,
⟨some 24, .fld 1 (.tmp 11), some (23, true)⟩,
⟨some 25, .load 1 false (.tmp 24), some (23, true)⟩,
⟨some 26, .mov (.tmp 2), some (23, true)⟩,
⟨some 27, .eqa false [0] false (.tmp 25) (.tmp 26), some (23, true)⟩,
⟨some 28, .pick (.tmp 23) (.tmp 27) (.val (.pv (.bool false))), none⟩,
⟨some 29, .mov (.tmp 28), none⟩,
⟨some 30, .fld 2 (.tmp 11), some (29, true)⟩,
⟨some 31, .load 1 false (.tmp 30), some (29, true)⟩,
⟨some 32, .mov (.tmp 3), some (29, true)⟩,
⟨some 33, .bin .eql (.tmp 31) (.tmp 32), some (29, true)⟩,
⟨some 34, .pick (.tmp 29) (.tmp 33) (.val (.pv (.bool false))), none⟩] [1, 2, 3, 11, 13, 14, 15, 34] [11])
(.cond (.tmp 34)
(.seq
(.region [
⟨some 35, .fld 3 (.tmp 11), none⟩,
⟨some 36, .load 1 false (.tmp 35), none⟩,
⟨some 8, .mov (.tmp 36), none⟩,
⟨some 9, .mov (.val (.pv (.bool true))), none⟩] [8, 9] [])
.ret)
.skip))))
(.region [
⟨some 37, .bin .add (.tmp 15) (.val (.pv (.int .i64 1))), none⟩,
⟨some 15, .mov (.tmp 37), none⟩] [1, 2, 3, 13, 14, 15] []))))))))
(.seq
(.region [
⟨some 8, .mov (.val (.pv (.int .i64 0))), none⟩,
⟨some 9, .mov (.val (.pv (.bool false))), none⟩] [8, 9] [])
.ret))),
[.tmp 8, .tmp 9], false, false⟩
def F46 : AFunc := ⟨2,
(.seq
(.region [
⟨some 3, .mov (.val (.pv (.bool false))), none⟩] [0, 1] [])
(.seq
(.region [
⟨some 4, .mov (.tmp 0), none⟩,
⟨some 5, .bin .geq (.tmp 4) (.val (.pv (.int .i64 0))), none⟩,
⟨some 6, .mov (.tmp 5), none⟩,
⟨some 7, .mov (.tmp 0), some (6, true)⟩,
⟨some 8, .fld 0 (.tmp 1), some (6, true)⟩,
⟨some 9, .load 1 false (.tmp 8), some (6, true)⟩,
⟨some 10, .bin .lss (.tmp 7) (.tmp 9), some (6, true)⟩,
⟨some 11, .pick (.tmp 6) (.tmp 10) (.val (.pv (.bool false))), none⟩,
⟨some 3, .mov (.tmp 11), none⟩] [3] [])
.ret)),
[.tmp 3], false, false⟩
def F47 : AFunc := ⟨2,
(.seq
(.region [
⟨some 2, .box 2 4 (.tmp 0), none⟩,
⟨some 3, .box 3 4 (.tmp 1), none⟩,
⟨some 4, .mov (.val (.pv (.int .i64 0))), none⟩] [2, 3] [2, 3])
(.seq
(.region [
⟨some 5, .mov (.val (.func 58 [])), none⟩] [2, 3, 5] [2, 3])
(.seq
(.draw [
(⟨some 6, .fld 0 (.tmp 2), none⟩, []),
(⟨some 7, .load 1 false (.tmp 6), none⟩, []),
(⟨some 8, .fld 0 (.tmp 3), none⟩, []),
(⟨some 9, .load 1 false (.tmp 8), none⟩, []),
(⟨some 10, .call (.val (.func 60 [])) [(.tmp 7), (.tmp 9)], none⟩, []),
(⟨some 11, .mov (.tmp 5), none⟩, []),
(⟨some 12, .load 4 true (.tmp 2), none⟩, [4]),
(⟨some 13, .call (.tmp 11) [(.tmp 12)], none⟩, []),
(⟨some 14, .mov (.tmp 5), none⟩, []),
(⟨some 15, .load 4 true (.tmp 3), none⟩, [4, 7]),
(⟨some 16, .call (.tmp 14) [(.tmp 15)], none⟩, []),
(⟨some 17, .call (.val (.func 60 [])) [(.tmp 13), (.tmp 16)], none⟩, []),
(⟨some 18, .fld 2 (.tmp 2), none⟩, []),
(⟨some 19, .load 1 false (.tmp 18), none⟩, [4, 7, 10, 11]),
(⟨some 20, .fld 2 (.tmp 3), none⟩, []),
(⟨some 21, .load 1 false (.tmp 20), none⟩, [4, 7, 10, 11]),
(⟨some 22, .call (.val (.func 60 [])) [(.tmp 19), (.tmp 21)], none⟩, []),
(⟨some 23, .lit 1 [.pv (.int .i64 0)] 3 [(0, 1, (.tmp 10)), (1, 1, (.tmp 17)), (2, 1, (.tmp 22))], none⟩, []),
(⟨some 24, .call (.val (.func 59 [])) [(.tmp 23)], none⟩, []),
(⟨some 4, .mov (.tmp 24), none⟩, [])] [4] [])
.ret))),
[.tmp 4], false, false⟩
def F48 : AFunc := ⟨2,
(.seq
(.region [
⟨some 4, .mov (.val (.pv (.bool false))), none⟩] [0, 1] [])
(.seq
(.seq
(.region [
⟨some 6, .mov (.tmp 0), none⟩,
⟨some 7, .len 0 (.tmp 6), none⟩,
⟨some 8, .mov (.tmp 1), none⟩,
⟨some 9, .len 0 (.tmp 8), none⟩,
⟨some 10, .bin .neq (.tmp 7) (.tmp 9), none⟩] [0, 1, 10] [])
(.cond (.tmp 10)
(.seq
(.region [
⟨some 4, .mov (.val (.pv (.bool false))), none⟩] [4] [])
.ret)
.skip))
(.seq
(.seq
(.region [
⟨some 11, .mov (.tmp 0), none⟩,
⟨some 12, .len 0 (.tmp 11), none⟩,
⟨some 13, .mov (.val (.pv (.int .i64 0))), none⟩] [0, 1, 12, 13] [])
(.block 0
(.loop
(.mask [0, 1, 12, 13] []
(.seq
(.region [
⟨some 14, .bin .lss (.tmp 13) (.tmp 12), none⟩] [0, 1, 12, 13, 14] [])
(.seq
(.cond (.tmp 14)
.skip
(.exit 0))
(.seq
(.block 1
(.seq
(.region [
⟨some 15, .mov (.tmp 13), none⟩,
⟨some 5, .mov (.tmp 15), none⟩] [0, 1, 5, 12, 13] [])
(.seq
(.draw [
(⟨some 16, .mov (.tmp 0), none⟩, []),
(⟨some 17, .mov (.tmp 5), none⟩, []),
(⟨some 18, .idx 3 (.tmp 16) (.tmp 17), none⟩, []),
(⟨some 19, .load 3 true (.tmp 18), none⟩, []),
(⟨some 20, .mov (.tmp 1), none⟩, []),
(⟨some 21, .mov (.tmp 5), none⟩, []),
(⟨some 22, .idx 3 (.tmp 20) (.tmp 21), none⟩, []),
(⟨some 23, .load 3 true (.tmp 22), none⟩, []),
(⟨some 24, .eqa true [0, 1, 1] true (.tmp 19) (.tmp 23), none⟩, [])] [0, 1, 12, 13, 24] [])
(.cond (.tmp 24)
(.seq
(.region [
⟨some 4, .mov (.val (.pv (.bool false))), none⟩] [4] [])
.ret)
.skip))))
(.region [
⟨some 25, .bin .add (.tmp 13) (.val (.pv (.int .i64 1))), none⟩,
⟨some 13, .mov (.tmp 25), none⟩] [0, 1, 12, 13] []))))))))
(.seq
(.region [
⟨some 4, .mov (.val (.pv (.bool true))), none⟩] [4] [])
.ret)))),
[.tmp 4], false, false⟩
def F49 : AFunc := ⟨3,
(.seq
(.region [
⟨some 3, .box 3 3 (.tmp 0), none⟩,
⟨some 6, .mov (.val (.tl [])), none⟩] [1, 2, 3] [3])
(.seq
(.region [
⟨some 7, .mov (.val (.tl [])), none⟩] [1, 2, 3, 7] [3])
(.seq
(.seq
(.region [
⟨some 10, .fld 2 (.tmp 3), none⟩,
⟨some 11, .load 1 false (.tmp 10), none⟩,
⟨some 12, .len 0 (.tmp 11), none⟩,
⟨some 13, .mov (.val (.pv (.int .i64 0))), none⟩] [1, 2, 7, 11, 12, 13] [])
(.block 0
(.loop
(.mask [1, 2, 7, 11, 12, 13] []
(.seq
(.region [
⟨some 14, .bin .lss (.tmp 13) (.tmp 12), none⟩] [1, 2, 7, 11, 12, 13, 14] [])
(.seq
(.cond (.tmp 14)
.skip
(.exit 0))
(.seq
(.block 1
(.seq
(.region [
⟨some 15, .idx 4 (.tmp 11) (.tmp 13), none⟩,
⟨some 16, .load 4 true (.tmp 15), none⟩,
⟨some 9, .alloc 9 [.pv (.int .i64 0), .pv (.bool false), .pv (.int .i64 0), .pv (.int .i64 0)], none⟩,
⟨none, .store 4 (.tmp 9) (.tmp 16), none⟩] [1, 2, 7, 9, 11, 12, 13] [9])
(.seq
(.region [
⟨some 17, .fld 0 (.tmp 9), none⟩,
⟨some 18, .load 1 false (.tmp 17), none⟩,
⟨some 19, .mov (.tmp 1), none⟩,
⟨some 20, .bin .eql (.tmp 18) (.tmp 19), none⟩] [1, 2, 7, 9, 11, 12, 13, 20] [9])
(.cond (.tmp 20)
(.draw [
(⟨some 21, .mov (.tmp 7), none⟩, []),
(⟨some 22, .fld 1 (.tmp 9), none⟩, []),
(⟨some 23, .load 1 false (.tmp 22), none⟩, []),
(⟨some 24, .fld 2 (.tmp 9), none⟩, []),
(⟨some 25, .load 1 false (.tmp 24), none⟩, []),
(⟨some 26, .build [.pv (.bool false), .pv (.int .i64 0)] [(0, 1, (.tmp 23)), (1, 1, (.tmp 25))], none⟩, []),
(⟨some 27, .mov (.tmp 2), none⟩, []),
(⟨some 28, .fld 3 (.tmp 9), none⟩, []),
(⟨some 29, .load 1 false (.tmp 28), none⟩, []),
(⟨some 30, .idx 1 (.tmp 27) (.tmp 29), none⟩, []),
(⟨some 31, .load 1 false (.tmp 30), none⟩, []),
(⟨some 32, .build [.pv (.bool false), .pv (.int .i64 0), .pv (.int .i64 0)] [(0, 2, (.tmp 26)), (2, 1, (.tmp 31))], none⟩, []),
(⟨some 33, .lit 3 [.pv (.bool false), .pv (.int .i64 0), .pv (.int .i64 0)] 1 [(0, 3, (.tmp 32))], none⟩, []),
(⟨some 34, .app 3 (.tmp 21) (.tmp 33), none⟩, []),
(⟨some 7, .mov (.tmp 34), none⟩, [])] [1, 2, 7, 11, 12, 13] [])
.skip))))
(.region [
⟨some 35, .bin .add (.tmp 13) (.val (.pv (.int .i64 1))), none⟩,
⟨some 13, .mov (.tmp 35), none⟩] [1, 2, 7, 11, 12, 13] []))))))))
(.seq
(.region [
⟨some 36, .mov (.tmp 7), none⟩,
⟨some 6, .mov (.tmp 36), none⟩] [6] [])
.ret)))),
[.tmp 6], false, false⟩
def F50 : AFunc := ⟨1,
(.seq
(.region [
⟨some 1, .box 1 3 (.tmp 0), none⟩,
⟨some 2, .mov (.val (.tl [])), none⟩,
⟨some 3, .mov (.val (.tl [])), none⟩] [1] [1])
(.seq
(.region [
⟨some 10, .fld 0 (.tmp 1), none⟩,
⟨some 11, .load 1 false (.tmp 10), none⟩,
⟨some 12, .make 1 [.pv (.int .i64 0)] (.tmp 11) (.tmp 11), none⟩,
⟨some 4, .mov (.tmp 12), none⟩] [1, 4] [1])
(.seq
(.seq
(.region [
⟨some 13, .mov (.tmp 4), none⟩,
⟨some 14, .len 0 (.tmp 13), none⟩,
⟨some 15, .mov (.val (.pv (.int .i64 0))), none⟩] [1, 4, 14, 15] [1])
(.block 0
(.loop
(.mask [1, 4, 14, 15] [1]
(.seq
(.region [
⟨some 16, .bin .lss (.tmp 15) (.tmp 14), none⟩] [1, 4, 14, 15, 16] [1])
(.seq
(.cond (.tmp 16)
.skip
(.exit 0))
(.seq
(.block 1
(.seq
(.region [
⟨some 17, .mov (.tmp 15), none⟩,
⟨some 5, .mov (.tmp 17), none⟩] [1, 4, 5, 14, 15] [1])
(.region [
⟨some 18, .mov (.tmp 4), none⟩,
⟨some 19, .mov (.tmp 5), none⟩,
⟨some 20, .idx 1 (.tmp 18) (.tmp 19), none⟩,
⟨none, .store 1 (.tmp 20) (.val (.pv (.int .i64 (-1)))), none⟩] [1, 4, 14, 15] [1])))
(.region [
⟨some 21, .bin .add (.tmp 15) (.val (.pv (.int .i64 1))), none⟩,
⟨some 15, .mov (.tmp 21), none⟩] [1, 4, 14, 15] [1]))))))))
(.seq
(.region [
⟨some 22, .fld 1 (.tmp 1), none⟩,
⟨some 23, .load 1 false (.tmp 22), none⟩,
⟨some 24, .lit 1 [.pv (.int .i64 0)] 1 [(0, 1, (.tmp 23))], none⟩,
⟨some 6, .mov (.tmp 24), none⟩] [1, 4, 6] [1])
(.seq
(.region [
⟨some 25, .mov (.tmp 4), none⟩,
⟨some 26, .fld 1 (.tmp 1), none⟩,
⟨some 27, .load 1 false (.tmp 26), none⟩,
⟨some 28, .idx 1 (.tmp 25) (.tmp 27), none⟩,
⟨none, .store 1 (.tmp 28) (.val (.pv (.int .i64 0))), none⟩] [1, 4, 6] [1])
(.seq
(.seq
(.region [
⟨some 7, .mov (.val (.pv (.int .i64 0))), none⟩] [1, 4, 6, 7] [1])
(.block 2
(.loop
(.mask [1, 4, 6, 7] [1]
(.seq
(.seq
(.region [
⟨some 29, .mov (.tmp 7), none⟩,
⟨some 30, .mov (.tmp 6), none⟩,
⟨some 31, .len 0 (.tmp 30), none⟩,
⟨some 32, .bin .lss (.tmp 29) (.tmp 31), none⟩] [1, 4, 6, 7, 32] [1])
(.cond (.tmp 32)
.skip
(.exit 2)))
(.seq
(.block 3
(.seq
(.region [
⟨some 35, .fld 2 (.tmp 1), none⟩,
⟨some 36, .load 1 false (.tmp 35), none⟩,
⟨some 37, .len 0 (.tmp 36), none⟩,
⟨some 38, .mov (.val (.pv (.int .i64 0))), none⟩] [1, 4, 6, 7, 36, 37, 38] [1])
(.block 4
(.loop
(.mask [1, 4, 6, 7, 36, 37, 38] [1]
(.seq
(.region [
⟨some 39, .bin .lss (.tmp 38) (.tmp 37), none⟩] [1, 4, 6, 7, 36, 37, 38, 39] [1])
(.seq
(.cond (.tmp 39)
.skip
(.exit 4))
(.seq
(.block 5
(.seq
(.region [
⟨some 40, .idx 4 (.tmp 36) (.tmp 38), none⟩,
⟨some 41, .load 4 true (.tmp 40), none⟩,
⟨some 9, .alloc 9 [.pv (.int .i64 0), .pv (.bool false), .pv (.int .i64 0), .pv (.int .i64 0)], none⟩,
⟨none, .store 4 (.tmp 9) (.tmp 41), none⟩] [1, 4, 6, 7, 9, 36, 37, 38] [1, 9])
(.seq
(.draw [
(⟨some 42, .fld 0 (.tmp 9), none⟩, []),
(⟨some 43, .load 1 false (.tmp 42), none⟩, []),
(⟨some 44, .mov (.tmp 6), none⟩, []),
(⟨some 45, .mov (.tmp 7), none⟩, []),
(⟨some 46, .idx 1 (.tmp 44) (.tmp 45), none⟩, []),
(⟨some 47, .load 1 false (.tmp 46), none⟩, []),
(⟨some 48, .bin .eql (.tmp 43) (.tmp 47), none⟩, []),
(⟨some 49, .mov (.tmp 48), none⟩, []),
(⟨some 50, .mov (.tmp 4), some (49, true)⟩, []),
(⟨some 51, .fld 3 (.tmp 9), some (49, true)⟩, []),
(⟨some 52, .load 1 false (.tmp 51), some (49, true)⟩, []),
(⟨some 53, .idx 1 (.tmp 50) (.tmp 52), some (49, true)⟩, []),
(⟨some 54, .load 1 false (.tmp 53), some (49, true)⟩, []),
(⟨some 55, .bin .lss (.tmp 54) (.val (.pv (.int .i64 0))), some (49, true)⟩, []),
(⟨some 56, .pick (.tmp 49) (.tmp 55) (.val (.pv (.bool false))), none⟩, [])] [1, 4, 6, 7, 9, 36, 37, 38, 56] [1, 9])
(.cond (.tmp 56)
(.seq
(.region [
⟨some 57, .mov (.tmp 4), none⟩,
⟨some 58, .fld 3 (.tmp 9), none⟩,
⟨some 59, .load 1 false (.tmp 58), none⟩,
⟨some 60, .mov (.tmp 6), none⟩,
⟨some 61, .len 0 (.tmp 60), none⟩,
⟨some 62, .idx 1 (.tmp 57) (.tmp 59), none⟩,
⟨none, .store 1 (.tmp 62) (.tmp 61), none⟩] [1, 4, 6, 7, 9, 36, 37, 38] [1, 9])
(.region [
⟨some 63, .mov (.tmp 6), none⟩,
⟨some 64, .fld 3 (.tmp 9), none⟩,
⟨some 65, .load 1 false (.tmp 64), none⟩,
⟨some 66, .lit 1 [.pv (.int .i64 0)] 1 [(0, 1, (.tmp 65))], none⟩,
⟨some 67, .app 1 (.tmp 63) (.tmp 66), none⟩,
⟨some 6, .mov (.tmp 67), none⟩] [1, 4, 6, 7, 36, 37, 38] [1]))
.skip))))
(.region [
⟨some 68, .bin .add (.tmp 38) (.val (.pv (.int .i64 1))), none⟩,
⟨some 38, .mov (.tmp 68), none⟩] [1, 4, 6, 7, 36, 37, 38] [1])))))))))
(.region [
⟨some 33, .mov (.tmp 7), none⟩,
⟨some 34, .bin .add (.tmp 33) (.val (.pv (.int .i64 1))), none⟩,
⟨some 7, .mov (.tmp 34), none⟩] [1, 4, 6, 7] [1])))))))
(.seq
(.region [
⟨some 69, .mov (.tmp 6), none⟩,
⟨some 70, .mov (.tmp 4), none⟩,
⟨some 2, .mov (.tmp 69), none⟩,
⟨some 3, .mov (.tmp 70), none⟩] [2, 3] [])
.ret))))))),
[.tmp 2, .tmp 3], false, false⟩
def F54 : AFunc := ⟨2,
(.seq
(.region [
⟨some 2, .box 2 3 (.tmp 0), none⟩,
⟨some 3, .box 3 1 (.tmp 1), none⟩,
⟨some 4, .mov (.val (.tl [])), none⟩] [2, 3] [2, 3])
(.seq
(.region [
⟨some 5, .fld 2 (.tmp 2), none⟩,
⟨some 6, .load 1 false (.tmp 5), none⟩,
⟨some 7, .call (.val (.func 64 [])) [(.tmp 6)], none⟩,
⟨some 8, .clos 65 [(.tmp 3)], none⟩,
⟨some 9, .call (.val (.func 63 [])) [(.tmp 7), (.tmp 8)], none⟩,
⟨some 4, .mov (.tmp 9), none⟩] [4] [])
.ret)),
[.tmp 4], false, false⟩
def F55 : AFunc := ⟨2,
(.seq
(.region [
⟨some 2, .box 2 4 (.tmp 0), none⟩,
⟨some 3, .box 3 4 (.tmp 1), none⟩,
⟨some 4, .mov (.val (.pv (.bool false))), none⟩] [2, 3] [2, 3])
(.seq
(.seq
(.region [
⟨some 5, .fld 1 (.tmp 2), none⟩,
⟨some 6, .load 1 false (.tmp 5), none⟩,
⟨some 7, .fld 1 (.tmp 3), none⟩,
⟨some 8, .load 1 false (.tmp 7), none⟩,
⟨some 9, .eqa false [0] true (.tmp 6) (.tmp 8), none⟩] [2, 3, 9] [2, 3])
(.cond (.tmp 9)
(.seq
(.region [
⟨some 10, .fld 1 (.tmp 3), none⟩,
⟨some 11, .load 1 false (.tmp 10), none⟩,
⟨some 4, .mov (.tmp 11), none⟩] [4] [])
.ret)
.skip))
(.seq
(.region [
⟨some 12, .fld 2 (.tmp 2), none⟩,
⟨some 13, .load 1 false (.tmp 12), none⟩,
⟨some 14, .fld 2 (.tmp 3), none⟩,
⟨some 15, .load 1 false (.tmp 14), none⟩,
⟨some 16, .bin .lss (.tmp 13) (.tmp 15), none⟩,
⟨some 4, .mov (.tmp 16), none⟩] [4] [])
.ret))),
[.tmp 4], false, false⟩
def F56 : AFunc := ⟨1,
(.seq
(.region [
⟨some 1, .box 1 4 (.tmp 0), none⟩,
⟨some 2, .alloc 2 [.pv (.bool false), .pv (.int .i64 0)], none⟩] [1, 2] [1, 2])
(.seq
(.region [
⟨some 3, .fld 1 (.tmp 1), none⟩,
⟨some 4, .load 1 false (.tmp 3), none⟩,
⟨some 5, .fld 2 (.tmp 1), none⟩,
⟨some 6, .load 1 false (.tmp 5), none⟩,
⟨some 7, .build [.pv (.bool false), .pv (.int .i64 0)] [(0, 1, (.tmp 4)), (1, 1, (.tmp 6))], none⟩,
⟨none, .store 2 (.tmp 2) (.tmp 7), none⟩] [2] [2])
.ret)),
[.cell 2 2 true], false, false⟩
def F58 : AFunc := ⟨1,
(.seq
(.region [
⟨some 1, .box 1 4 (.tmp 0), none⟩,
⟨some 2, .mov (.val (.pv (.int .i64 0))), none⟩] [1] [1])
(.seq
(.seq
(.region [
⟨some 3, .fld 1 (.tmp 1), none⟩,
⟨some 4, .load 1 false (.tmp 3), none⟩] [4] [])
(.cond (.tmp 4)
(.seq
(.region [
⟨some 2, .mov (.val (.pv (.int .i64 1))), none⟩] [2] [])
.ret)
.skip))
(.seq
(.region [
⟨some 2, .mov (.val (.pv (.int .i64 0))), none⟩] [2] [])
.ret))),
[.tmp 2], false, false⟩
def F59 : AFunc := ⟨1,
(.seq
(.region [
⟨some 2, .mov (.val (.pv (.int .i64 0))), none⟩] [0] [])
(.seq
(.region [
⟨some 3, .mov (.val (.pv (.int .i64 0))), none⟩] [0, 3] [])
(.seq
(.seq
(.region [
⟨some 6, .mov (.tmp 0), none⟩,
⟨some 7, .len 0 (.tmp 6), none⟩,
⟨some 8, .mov (.val (.pv (.int .i64 0))), none⟩] [3, 6, 7, 8] [])
(.block 0
(.loop
(.mask [3, 6, 7, 8] []
(.seq
(.region [
⟨some 9, .bin .lss (.tmp 8) (.tmp 7), none⟩] [3, 6, 7, 8, 9] [])
(.seq
(.cond (.tmp 9)
.skip
(.exit 0))
(.seq
(.block 1
(.seq
(.region [
⟨some 10, .idx 1 (.tmp 6) (.tmp 8), none⟩,
⟨some 11, .load 1 false (.tmp 10), none⟩,
⟨some 5, .mov (.tmp 11), none⟩] [3, 5, 6, 7, 8] [])
(.seq
(.region [
⟨some 12, .mov (.tmp 5), none⟩,
⟨some 13, .mov (.tmp 3), none⟩,
⟨some 14, .bin .neq (.tmp 12) (.tmp 13), none⟩] [3, 5, 6, 7, 8, 14] [])
(.cond (.tmp 14)
(.seq
(.region [
⟨some 15, .mov (.tmp 5), none⟩,
⟨some 2, .mov (.tmp 15), none⟩] [2] [])
.ret)
.skip))))
(.region [
⟨some 16, .bin .add (.tmp 8) (.val (.pv (.int .i64 1))), none⟩,
⟨some 8, .mov (.tmp 16), none⟩] [3, 6, 7, 8] []))))))))
(.seq
(.region [
⟨some 17, .mov (.tmp 3), none⟩,
⟨some 2, .mov (.tmp 17), none⟩] [2] [])
.ret)))),
[.tmp 2], false, false⟩
def F60 : AFunc := ⟨2,
(.seq
(.region [
⟨some 4, .mov (.val (.pv (.int .i64 0))), none⟩] [0, 1] [])
(.seq
(.region [
⟨some 7, .mov (.tmp 0), none⟩,
⟨some 8, .call (.val (.func 66 [])) [(.tmp 7)], none⟩,
⟨some 5, .mov (.tmp 8), none⟩] [0, 1, 5] [])
(.seq
(.region [
⟨some 9, .mov (.tmp 1), none⟩,
⟨some 10, .call (.val (.func 66 [])) [(.tmp 9)], none⟩,
⟨some 6, .mov (.tmp 10), none⟩] [0, 1, 5, 6] [])
(.seq
(.seq
(.region [
⟨some 11, .mov (.tmp 5), none⟩] [0, 1, 6, 11] [])
(.cond (.tmp 11)
(.seq
(.seq
(.region [
⟨some 12, .mov (.tmp 6), none⟩] [12] [])
(.cond (.tmp 12)
(.seq
(.region [
⟨some 4, .mov (.val (.pv (.int .i64 0))), none⟩] [4] [])
.ret)
.skip))
(.seq
(.region [
⟨some 4, .mov (.val (.pv (.int .i64 (-1)))), none⟩] [4] [])
.ret))
.skip))
(.seq
(.seq
(.region [
⟨some 13, .mov (.tmp 6), none⟩] [0, 1, 13] [])
(.cond (.tmp 13)
(.seq
(.region [
⟨some 4, .mov (.val (.pv (.int .i64 1))), none⟩] [4] [])
.ret)
.skip))
(.seq
(.seq
(.region [
⟨some 14, .mov (.tmp 0), none⟩,
⟨some 15, .mov (.tmp 1), none⟩,
⟨some 16, .bin .lss (.tmp 14) (.tmp 15), none⟩] [0, 1, 16] [])
(.cond (.tmp 16)
(.seq
(.region [
⟨some 4, .mov (.val (.pv (.int .i64 (-1)))), none⟩] [4] [])
.ret)
.skip))
(.seq
(.seq
(.region [
⟨some 17, .mov (.tmp 0), none⟩,
⟨some 18, .mov (.tmp 1), none⟩,
⟨some 19, .bin .gtr (.tmp 17) (.tmp 18), none⟩] [19] [])
(.cond (.tmp 19)
(.seq
(.region [
⟨some 4, .mov (.val (.pv (.int .i64 1))), none⟩] [4] [])
.ret)
.skip))
(.seq
(.region [
⟨some 4, .mov (.val (.pv (.int .i64 0))), none⟩] [4] [])
.ret)))))))),
[.tmp 4], false, false⟩
def F63 : AFunc := ⟨2,
(.seq
(.region [
⟨some 4, .mov (.val (.tl [])), none⟩] [0, 1] [])
(.seq
(.region [
⟨some 8, .mov (.tmp 0), none⟩,
⟨some 9, .mov (.tmp 1), none⟩,
⟨some 10, .call (.val (.func 77 [])) [(.tmp 8), (.tmp 9)], none⟩,
⟨some 5, .mov (.tmp 10), none⟩] [0, 1, 5] [])
(.seq
(.seq
(.region [
⟨some 11, .mov (.tmp 5), none⟩,
⟨some 12, .bin .eql (.tmp 11) (.val (.pv (.int .i64 (-1)))), none⟩] [0, 1, 5, 12] [])
(.cond (.tmp 12)
(.seq
(.region [
⟨some 13, .mov (.tmp 0), none⟩,
⟨some 4, .mov (.tmp 13), none⟩] [4] [])
.ret)
.skip))
(.seq
(.seq
(.region [
⟨some 14, .mov (.tmp 5), none⟩,
⟨some 15, .bin .add (.tmp 14) (.val (.pv (.int .i64 1))), none⟩,
⟨some 6, .mov (.tmp 15), none⟩] [0, 1, 5, 6] [])
(.block 0
(.loop
(.mask [0, 1, 5, 6] []
(.seq
(.seq
(.region [
⟨some 16, .mov (.tmp 6), none⟩,
⟨some 17, .mov (.tmp 0), none⟩,
⟨some 18, .len 0 (.tmp 17), none⟩,
⟨some 19, .bin .lss (.tmp 16) (.tmp 18), none⟩] [0, 1, 5, 6, 19] [])
(.cond (.tmp 19)
.skip
(.exit 0)))
(.seq
(.block 1
(.seq
(.region [
⟨some 22, .mov (.tmp 0), none⟩,
⟨some 23, .mov (.tmp 6), none⟩,
⟨some 24, .idx 4 (.tmp 22) (.tmp 23), none⟩,
⟨some 25, .load 4 true (.tmp 24), none⟩,
⟨some 7, .alloc 7 [.pv (.int .i64 0), .pv (.bool false), .pv (.int .i64 0), .pv (.int .i64 0)], none⟩,
⟨none, .store 4 (.tmp 7) (.tmp 25), none⟩] [0, 1, 5, 6, 7] [7])
(.seq
(.region [
⟨some 26, .mov (.tmp 1), none⟩,
⟨some 27, .load 4 true (.tmp 7), none⟩,
⟨some 28, .call (.tmp 26) [(.tmp 27)], none⟩,
⟨some 29, .un .not (.tmp 28), none⟩] [0, 1, 5, 6, 7, 29] [7])
(.cond (.tmp 29)
(.seq
(.region [
⟨some 30, .mov (.tmp 0), none⟩,
⟨some 31, .mov (.tmp 5), none⟩,
⟨some 32, .load 4 true (.tmp 7), none⟩,
⟨some 33, .idx 4 (.tmp 30) (.tmp 31), none⟩,
⟨none, .store 4 (.tmp 33) (.tmp 32), none⟩] [0, 1, 5, 6] [])
(.region [
⟨some 34, .mov (.tmp 5), none⟩,
⟨some 35, .bin .add (.tmp 34) (.val (.pv (.int .i64 1))), none⟩,
⟨some 5, .mov (.tmp 35), none⟩] [0, 1, 5, 6] []))
.skip))))
(.region [
⟨some 20, .mov (.tmp 6), none⟩,
⟨some 21, .bin .add (.tmp 20) (.val (.pv (.int .i64 1))), none⟩,
⟨some 6, .mov (.tmp 21), none⟩] [0, 1, 5, 6] [])))))))
(.seq
(.region [
⟨some 36, .mov (.tmp 0), none⟩,
⟨some 37, .mov (.tmp 5), none⟩,
⟨some 38, .sl 4 (.tmp 36) (some (.tmp 37)) none none, none⟩,
⟨none, .clr 4 [.pv (.int .i64 0), .pv (.bool false), .pv (.int .i64 0), .pv (.int .i64 0)] (.tmp 38), none⟩] [0, 5] [])
(.seq
(.region [
⟨some 39, .mov (.tmp 0), none⟩,
⟨some 40, .mov (.tmp 5), none⟩,
⟨some 41, .sl 4 (.tmp 39) none (some (.tmp 40)) none, none⟩,
⟨some 4, .mov (.tmp 41), none⟩] [4] [])
.ret)))))),
[.tmp 4], true, true⟩
def F65 : AFunc := ⟨2,
(.seq
(.region [
⟨some 2, .box 2 4 (.tmp 0), none⟩,
⟨some 3, .mov (.val (.pv (.bool false))), none⟩] [1, 2] [2])
(.seq
(.region [
⟨some 4, .fld 0 (.tmp 2), none⟩,
⟨some 5, .load 1 false (.tmp 4), none⟩,
⟨some 6, .load 1 false (.tmp 1), none⟩,
⟨some 7, .bin .neq (.tmp 5) (.tmp 6), none⟩,
⟨some 3, .mov (.tmp 7), none⟩] [3] [])
.ret)),
[.tmp 3], false, false⟩
def F66 : AFunc := ⟨1,
(.seq
(.region [
⟨some 2, .mov (.val (.pv (.bool false))), none⟩] [0] [])
(.seq
(.region [
⟨some 3, .mov (.tmp 0), none⟩,
⟨some 4, .mov (.tmp 0), none⟩,
⟨some 5, .bin .neq (.tmp 3) (.tmp 4), none⟩,
⟨some 2, .mov (.tmp 5), none⟩] [2] [])
.ret)),
[.tmp 2], false, false⟩
def F77 : AFunc := ⟨2,
(.seq
(.region [
⟨some 4, .mov (.val (.pv (.int .i64 0))), none⟩] [0, 1] [])
(.seq
(.seq
(.region [
⟨some 6, .mov (.tmp 0), none⟩,
⟨some 7, .len 0 (.tmp 6), none⟩,
⟨some 8, .mov (.val (.pv (.int .i64 0))), none⟩] [0, 1, 7, 8] [])
(.block 0
(.loop
(.mask [0, 1, 7, 8] []
(.seq
(.region [
⟨some 9, .bin .lss (.tmp 8) (.tmp 7), none⟩] [0, 1, 7, 8, 9] [])
(.seq
(.cond (.tmp 9)
.skip
(.exit 0))
(.seq
(.block 1
(.seq
(.region [
⟨some 10, .mov (.tmp 8), none⟩,
⟨some 5, .mov (.tmp 10), none⟩] [0, 1, 5, 7, 8] [])
(.seq
(.region [
⟨some 11, .mov (.tmp 1), none⟩,
⟨some 12, .mov (.tmp 0), none⟩,
⟨some 13, .mov (.tmp 5), none⟩,
⟨some 14, .idx 4 (.tmp 12) (.tmp 13), none⟩,
⟨some 15, .load 4 true (.tmp 14), none⟩,
⟨some 16, .call (.tmp 11) [(.tmp 15)], none⟩] [0, 1, 5, 7, 8, 16] [])
(.cond (.tmp 16)
(.seq
(.region [
⟨some 17, .mov (.tmp 5), none⟩,
⟨some 4, .mov (.tmp 17), none⟩] [4] [])
.ret)
.skip))))
(.region [
⟨some 18, .bin .add (.tmp 8) (.val (.pv (.int .i64 1))), none⟩,
⟨some 8, .mov (.tmp 18), none⟩] [0, 1, 7, 8] []))))))))
(.seq
(.region [
⟨some 4, .mov (.val (.pv (.int .i64 (-1)))), none⟩] [4] [])
.ret))),
[.tmp 4], false, false⟩
end Go.Pv
