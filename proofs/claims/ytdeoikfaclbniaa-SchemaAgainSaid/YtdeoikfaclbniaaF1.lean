/-
  Functions of the program, read for the interpreter.
-/
import Derived.Test.YtdeoikfaclbniaaA3
namespace Go.Pv
def F94 : AFunc := ⟨2,
(.seq
(.region [
⟨some 4, .mov (.val (.pv (.bool false))), none⟩] [0, 1] [])
(.seq
(.seq
(.region [
⟨some 6, .mov (.tmp 0), none⟩,
⟨some 7, .len 0 (.tmp 6), none⟩,
⟨some 8, .mov (.tmp 1), none⟩,
⟨some 9, .len 0 (.tmp 8), none⟩,
⟨some 10, .bin .neq (.tmp 7) (.tmp 9), none⟩] [0, 1, 10] [])
(.cond (.tmp 10)
(.seq
(.region [
⟨some 4, .mov (.val (.pv (.bool false))), none⟩] [4] [])
.ret)
.skip))
(.seq
(.seq
(.region [
⟨some 5, .mov (.val (.pv (.int .i64 0))), none⟩] [0, 1, 5] [])
(.block 0
(.loop
(.mask [0, 1, 5] []
(.seq
(.seq
(.region [
⟨some 11, .mov (.tmp 5), none⟩,
⟨some 12, .mov (.tmp 0), none⟩,
⟨some 13, .len 0 (.tmp 12), none⟩,
⟨some 14, .bin .lss (.tmp 11) (.tmp 13), none⟩] [0, 1, 5, 14] [])
(.cond (.tmp 14)
.skip
(.exit 0)))
(.seq
(.block 1
(.seq
(.draw [
(⟨some 17, .mov (.tmp 0), none⟩, []),
(⟨some 18, .mov (.tmp 5), none⟩, []),
(⟨some 19, .idx 1 (.tmp 17) (.tmp 18), none⟩, []),
(⟨some 20, .load 1 false (.tmp 19), none⟩, []),
(⟨some 21, .mov (.tmp 1), none⟩, []),
(⟨some 22, .mov (.tmp 5), none⟩, []),
(⟨some 23, .idx 1 (.tmp 21) (.tmp 22), none⟩, []),
(⟨some 24, .load 1 false (.tmp 23), none⟩, []),
(⟨some 25, .bin .neq (.tmp 20) (.tmp 24), none⟩, [])] [0, 1, 5, 25] [])
(.cond (.tmp 25)
(.seq
(.region [
⟨some 4, .mov (.val (.pv (.bool false))), none⟩] [4] [])
.ret)
.skip)))
(.region [
⟨some 15, .mov (.tmp 5), none⟩,
⟨some 16, .bin .add (.tmp 15) (.val (.pv (.int .i64 1))), none⟩,
⟨some 5, .mov (.tmp 16), none⟩] [0, 1, 5] [])))))))
(.seq
(.region [
⟨some 4, .mov (.val (.pv (.bool true))), none⟩] [4] [])
.ret)))),
[.tmp 4], false, false⟩
def F110 : AFunc := ⟨2,
(.seq
(.region [
⟨some 4, .mov (.val (.pv (.bool false))), none⟩] [0, 1] [])
(.seq
(.region [
⟨some 5, .mov (.tmp 0), none⟩,
⟨some 6, .mov (.tmp 1), none⟩,
⟨some 7, .call (.val (.func 118 [])) [(.tmp 5), (.tmp 6)], none⟩,
⟨some 8, .bin .geq (.tmp 7) (.val (.pv (.int .i64 0))), none⟩,
⟨some 4, .mov (.tmp 8), none⟩] [4] [])
.ret)),
[.tmp 4], false, false⟩
def F118 : AFunc := ⟨2,
(.seq
(.region [
⟨some 4, .mov (.val (.pv (.int .i64 0))), none⟩] [0, 1] [])
(.seq
(.seq
(.region [
⟨some 6, .mov (.tmp 0), none⟩,
⟨some 7, .len 0 (.tmp 6), none⟩,
⟨some 8, .mov (.val (.pv (.int .i64 0))), none⟩] [0, 1, 7, 8] [])
(.block 0
(.loop
(.mask [0, 1, 7, 8] []
(.seq
(.region [
⟨some 9, .bin .lss (.tmp 8) (.tmp 7), none⟩] [0, 1, 7, 8, 9] [])
(.seq
(.cond (.tmp 9)
.skip
(.exit 0))
(.seq
(.block 1
(.seq
(.region [
⟨some 10, .mov (.tmp 8), none⟩,
⟨some 5, .mov (.tmp 10), none⟩] [0, 1, 5, 7, 8] [])
(.seq
(.region [
⟨some 11, .mov (.tmp 1), none⟩,
⟨some 12, .mov (.tmp 0), none⟩,
⟨some 13, .mov (.tmp 5), none⟩,
⟨some 14, .idx 1 (.tmp 12) (.tmp 13), none⟩,
⟨some 15, .load 1 false (.tmp 14), none⟩,
⟨some 16, .bin .eql (.tmp 11) (.tmp 15), none⟩] [0, 1, 5, 7, 8, 16] [])
(.cond (.tmp 16)
(.seq
(.region [
⟨some 17, .mov (.tmp 5), none⟩,
⟨some 4, .mov (.tmp 17), none⟩] [4] [])
.ret)
.skip))))
(.region [
⟨some 18, .bin .add (.tmp 8) (.val (.pv (.int .i64 1))), none⟩,
⟨some 8, .mov (.tmp 18), none⟩] [0, 1, 7, 8] []))))))))
(.seq
(.region [
⟨some 4, .mov (.val (.pv (.int .i64 (-1)))), none⟩] [4] [])
.ret))),
[.tmp 4], false, false⟩
def F264 : AFunc := ⟨2,
(.seq
(.region [
⟨some 2, .box 2 1 (.tmp 0), none⟩,
⟨some 4, .mov (.val (.pv (.bool false))), none⟩] [1, 2] [2])
(.seq
(.region [
⟨some 16, .load 1 true (.tmp 2), none⟩,
⟨some 17, .call (.val (.func 279 [])) [(.tmp 16)], none⟩,
⟨some 15, .mov (.tmp 17), none⟩,
⟨some 18, .ext (.tmp 15) 0, none⟩,
⟨some 19, .ext (.tmp 15) 1, none⟩,
⟨some 5, .alloc 5 [.tl []], none⟩,
⟨none, .store 1 (.tmp 5) (.tmp 18), none⟩,
⟨some 6, .mov (.tmp 19), none⟩] [1, 5, 6] [5])
(.seq
(.seq
(.region [
⟨some 20, .call (.val (.func 265 [])) [], none⟩,
⟨some 21, .un .not (.tmp 20), none⟩,
⟨some 22, .mov (.tmp 21), none⟩,
⟨some 23, .mov (.tmp 6), some (22, false)⟩,
⟨some 24, .un .not (.tmp 23), some (22, false)⟩,
⟨some 25, .pick (.tmp 22) (.val (.pv (.bool true))) (.tmp 24), none⟩] [1, 5, 25] [5])
(.cond (.tmp 25)
(.seq
(.region [
⟨some 26, .call (.val (.func 265 [])) [], none⟩,
⟨some 4, .mov (.tmp 26), none⟩] [4] [])
.ret)
.skip))
(.seq
(.region [
⟨some 27, .mov (.tmp 1), none⟩,
⟨some 28, .conv .i64 (.tmp 27), none⟩,
⟨some 29, .fld 0 (.tmp 5), none⟩,
⟨some 30, .load 1 false (.tmp 29), none⟩,
⟨some 31, .len 0 (.tmp 30), none⟩,
⟨some 32, .bin .rem (.tmp 28) (.tmp 31), none⟩,
⟨some 7, .mov (.tmp 32), none⟩] [5, 7] [5])
(.seq
(.region [
⟨some 34, .load 1 true (.tmp 5), none⟩,
⟨some 35, .mov (.tmp 7), none⟩,
⟨some 36, .call (.val (.func 275 [])) [(.tmp 34), (.tmp 35)], none⟩,
⟨some 33, .mov (.tmp 36), none⟩,
⟨some 37, .ext (.tmp 33) 0, none⟩,
⟨some 38, .ext (.tmp 33) 1, none⟩,
⟨some 39, .ext (.tmp 33) 2, none⟩,
⟨some 8, .alloc 8 [.tl []], none⟩,
⟨none, .store 1 (.tmp 8) (.tmp 37), none⟩,
⟨some 9, .mov (.tmp 38), none⟩,
⟨some 10, .mov (.tmp 39), none⟩] [5, 7, 8, 9, 10] [5, 8])
(.seq
(.seq
(.region [
⟨some 40, .load 1 true (.tmp 5), none⟩,
⟨some 41, .call (.val (.func 267 [])) [(.tmp 40)], none⟩,
⟨some 42, .bin .neq (.tmp 41) (.val (.pv (.int .i64 0))), none⟩,
⟨some 43, .mov (.tmp 42), none⟩,
⟨some 44, .mov (.tmp 10), some (43, false)⟩,
⟨some 45, .bin .neq (.tmp 44) (.val (.pv (.int .i64 0))), some (43, false)⟩,
⟨some 46, .pick (.tmp 43) (.val (.pv (.bool true))) (.tmp 45), none⟩,
⟨some 47, .mov (.tmp 46), none⟩,
⟨some 48, .mov (.tmp 9), some (47, false)⟩,
⟨some 49, .len 0 (.tmp 48), some (47, false)⟩,
⟨some 50, .fld 0 (.tmp 5), some (47, false)⟩,
⟨some 51, .load 1 false (.tmp 50), some (47, false)⟩,
⟨some 52, .len 0 (.tmp 51), some (47, false)⟩,
⟨some 53, .bin .neq (.tmp 49) (.tmp 52), some (47, false)⟩,
⟨some 54, .pick (.tmp 47) (.val (.pv (.bool true))) (.tmp 53), none⟩,
⟨some 55, .mov (.tmp 54), none⟩,
⟨some 56, .mov (.tmp 9), some (55, false)⟩,
⟨some 57, .mov (.tmp 7), some (55, false)⟩,
⟨some 58, .idx 1 (.tmp 56) (.tmp 57), some (55, false)⟩,
⟨some 59, .load 1 false (.tmp 58), some (55, false)⟩,
⟨some 60, .bin .lss (.tmp 59) (.val (.pv (.int .i64 0))), some (55, false)⟩,
⟨some 61, .pick (.tmp 55) (.val (.pv (.bool true))) (.tmp 60), none⟩,
⟨some 62, .mov (.tmp 61), none⟩,
⟨some 63, .load 1 true (.tmp 8), some (62, false)⟩,
⟨some 64, .call (.val (.func 267 [])) [(.tmp 63)], some (62, false)⟩,
⟨some 65, .bin .neq (.tmp 64) (.val (.pv (.int .i64 0))), some (62, false)⟩,
⟨some 66, .pick (.tmp 62) (.val (.pv (.bool true))) (.tmp 65), none⟩] [7, 8, 9, 66] [8])
(.cond (.tmp 66)
(.seq
(.region [
⟨some 4, .mov (.val (.pv (.bool false))), none⟩] [4] [])
.ret)
.skip))
(.seq
(.draw [
(⟨some 68, .load 1 true (.tmp 8), none⟩, []),
(⟨some 69, .mov (.tmp 9), none⟩, []),
(⟨some 70, .mov (.tmp 7), none⟩, []),
(⟨some 71, .idx 1 (.tmp 69) (.tmp 70), none⟩, []),
(⟨some 72, .load 1 false (.tmp 71), none⟩, []),
(⟨some 73, .call (.val (.func 275 [])) [(.tmp 68), (.tmp 72)], none⟩, []),
(⟨some 67, .mov (.tmp 73), none⟩, []),
(⟨some 74, .ext (.tmp 67) 0, none⟩, []),
(⟨some 75, .ext (.tmp 67) 1, none⟩, []),
(⟨some 76, .ext (.tmp 67) 2, none⟩, []),
(⟨some 11, .alloc 11 [.tl []], none⟩, [0, 3, 4, 5]),
(⟨none, .store 1 (.tmp 11) (.tmp 74), none⟩, []),
(⟨some 12, .mov (.tmp 75), none⟩, []),
(⟨some 13, .mov (.tmp 76), none⟩, [])] [8, 11, 12, 13] [8, 11])
(.seq
(.seq
(.region [
⟨some 77, .mov (.tmp 12), none⟩,
⟨some 78, .len 0 (.tmp 77), none⟩,
⟨some 79, .mov (.val (.pv (.int .i64 0))), none⟩] [8, 11, 12, 13, 78, 79] [8, 11])
(.block 0
(.loop
(.mask [8, 11, 12, 13, 78, 79] [8, 11]
(.seq
(.region [
⟨some 80, .bin .lss (.tmp 79) (.tmp 78), none⟩] [8, 11, 12, 13, 78, 79, 80] [8, 11])
(.seq
(.cond (.tmp 80)
.skip
(.exit 0))
(.seq
(.block 1
(.seq
(.region [
⟨some 81, .mov (.tmp 79), none⟩,
⟨some 14, .mov (.tmp 81), none⟩] [8, 11, 12, 13, 14, 78, 79] [8, 11])
(.seq
(.region [
⟨some 82, .mov (.tmp 12), none⟩,
⟨some 83, .mov (.tmp 14), none⟩,
⟨some 84, .idx 1 (.tmp 82) (.tmp 83), none⟩,
⟨some 85, .load 1 false (.tmp 84), none⟩,
⟨some 86, .mov (.tmp 14), none⟩,
⟨some 87, .bin .neq (.tmp 85) (.tmp 86), none⟩] [8, 11, 12, 13, 78, 79, 87] [8, 11])
(.cond (.tmp 87)
(.seq
(.region [
⟨some 4, .mov (.val (.pv (.bool false))), none⟩] [4] [])
.ret)
.skip))))
(.region [
⟨some 88, .bin .add (.tmp 79) (.val (.pv (.int .i64 1))), none⟩,
⟨some 79, .mov (.tmp 88), none⟩] [8, 11, 12, 13, 78, 79] [8, 11]))))))))
(.seq
(.region [
⟨some 89, .mov (.tmp 13), none⟩,
⟨some 90, .bin .eql (.tmp 89) (.val (.pv (.int .i64 0))), none⟩,
⟨some 91, .mov (.tmp 90), none⟩,
⟨some 92, .mov (.tmp 12), some (91, true)⟩,
⟨some 93, .len 0 (.tmp 92), some (91, true)⟩,
⟨some 94, .fld 0 (.tmp 8), some (91, true)⟩,
⟨some 95, .load 1 false (.tmp 94), some (91, true)⟩,
⟨some 96, .len 0 (.tmp 95), some (91, true)⟩,
⟨some 97, .bin .eql (.tmp 93) (.tmp 96), some (91, true)⟩,
⟨some 98, .pick (.tmp 91) (.tmp 97) (.val (.pv (.bool false))), none⟩,
⟨some 99, .mov (.tmp 98), none⟩,
⟨some 100, .load 1 true (.tmp 8), some (99, true)⟩,
⟨some 101, .load 1 true (.tmp 11), some (99, true)⟩,
⟨some 102, .call (.val (.func 277 [])) [(.tmp 100), (.tmp 101)], some (99, true)⟩,
⟨some 103, .pick (.tmp 99) (.tmp 102) (.val (.pv (.bool false))), none⟩,
⟨some 4, .mov (.tmp 103), none⟩] [4] [])
.ret))))))))),
[.tmp 4], false, false⟩
def F265 : AFunc := ⟨0,
(.seq
(.region [
⟨some 0, .mov (.val (.pv (.bool false))), none⟩] [] [])
(.seq
(.region [
⟨some 13, .call (.val (.func 280 [])) [], none⟩,
⟨some 14, .call (.val (.func 271 [])) [(.tmp 13), (.val (.pv (.int .i64 0)))], none⟩,
⟨some 12, .mov (.tmp 14), none⟩,
⟨some 15, .ext (.tmp 12) 0, none⟩,
⟨some 16, .ext (.tmp 12) 1, none⟩,
⟨some 1, .mov (.tmp 15), none⟩,
⟨some 2, .mov (.tmp 16), none⟩] [1, 2] [])
(.seq
(.region [
⟨some 18, .call (.val (.func 280 [])) [], none⟩,
⟨some 19, .call (.val (.func 273 [])) [(.tmp 18), (.val (.pv (.int .i64 0)))], none⟩,
⟨some 17, .mov (.tmp 19), none⟩,
⟨some 20, .ext (.tmp 17) 0, none⟩,
⟨some 21, .ext (.tmp 17) 1, none⟩,
⟨some 3, .mov (.tmp 20), none⟩,
⟨some 4, .mov (.tmp 21), none⟩] [1, 2, 3, 4] [])
(.seq
(.region [
⟨some 23, .call (.val (.func 280 [])) [], none⟩,
⟨some 24, .call (.val (.func 275 [])) [(.tmp 23), (.val (.pv (.int .i64 1)))], none⟩,
⟨some 22, .mov (.tmp 24), none⟩,
⟨some 25, .ext (.tmp 22) 0, none⟩,
⟨some 26, .ext (.tmp 22) 1, none⟩,
⟨some 27, .ext (.tmp 22) 2, none⟩,
⟨some 5, .alloc 5 [.tl []], none⟩,
⟨none, .store 1 (.tmp 5) (.tmp 25), none⟩,
⟨some 6, .mov (.tmp 26), none⟩,
⟨some 7, .mov (.tmp 27), none⟩] [1, 2, 3, 4, 5, 6, 7] [5])
(.seq
(.region [
⟨some 29, .call (.val (.func 280 [])) [], none⟩,
⟨some 30, .call (.val (.func 269 [])) [(.tmp 29), (.val (.pv (.str ⟨#[78, 111, 100, 101]⟩)))], none⟩,
⟨some 28, .mov (.tmp 30), none⟩,
⟨some 31, .ext (.tmp 28) 0, none⟩,
⟨some 32, .ext (.tmp 28) 1, none⟩,
⟨some 8, .mov (.tmp 31), none⟩,
⟨some 9, .mov (.tmp 32), none⟩] [1, 2, 3, 4, 5, 6, 7, 8, 9] [5])
(.seq
(.region [
⟨some 34, .call (.val (.func 280 [])) [], none⟩,
⟨some 35, .part 0 1 false (.tmp 34), none⟩,
⟨some 36, .idx 10 (.tmp 35) (.val (.pv (.int .i64 0))), none⟩,
⟨some 37, .load 10 true (.tmp 36), none⟩,
⟨some 38, .call (.val (.func 281 [])) [(.tmp 37), (.val (.pv (.int .i64 2)))], none⟩,
⟨some 33, .mov (.tmp 38), none⟩,
⟨some 39, .ext (.tmp 33) 0, none⟩,
⟨some 40, .ext (.tmp 33) 1, none⟩,
⟨some 10, .mov (.tmp 39), none⟩,
⟨some 11, .mov (.tmp 40), none⟩] [1, 2, 3, 4, 5, 6, 7, 8, 9, 10, 11] [5])
(.seq
(.seq
(.region [
⟨some 41, .call (.val (.func 280 [])) [], none⟩,
⟨some 42, .call (.val (.func 267 [])) [(.tmp 41)], none⟩,
⟨some 43, .bin .neq (.tmp 42) (.val (.pv (.int .i64 0))), none⟩,
⟨some 44, .mov (.tmp 43), none⟩,
⟨some 45, .mov (.tmp 2), some (44, false)⟩,
⟨some 46, .bin .neq (.tmp 45) (.val (.pv (.int .i64 0))), some (44, false)⟩,
⟨some 47, .pick (.tmp 44) (.val (.pv (.bool true))) (.tmp 46), none⟩,
⟨some 48, .mov (.tmp 47), none⟩,
⟨some 49, .mov (.tmp 1), some (48, false)⟩,
⟨some 50, .lit 1 [.pv (.int .i64 0)] 2 [(0, 1, (.val (.pv (.int .i64 1)))), (1, 1, (.val (.pv (.int .i64 2))))], some (48, false)⟩,
⟨some 51, .call (.val (.func 94 [])) [(.tmp 49), (.tmp 50)], some (48, false)⟩,
⟨some 52, .un .not (.tmp 51), some (48, false)⟩,
⟨some 53, .pick (.tmp 48) (.val (.pv (.bool true))) (.tmp 52), none⟩,
⟨some 54, .mov (.tmp 53), none⟩,
⟨some 55, .mov (.tmp 4), some (54, false)⟩,
⟨some 56, .bin .neq (.tmp 55) (.val (.pv (.int .i64 0))), some (54, false)⟩,
⟨some 57, .pick (.tmp 54) (.val (.pv (.bool true))) (.tmp 56), none⟩,
⟨some 58, .mov (.tmp 57), none⟩,
⟨some 59, .mov (.tmp 3), some (58, false)⟩,
⟨some 60, .lit 1 [.pv (.int .i64 0)] 3 [(0, 1, (.val (.pv (.int .i64 0)))), (1, 1, (.val (.pv (.int .i64 1)))), (2, 1, (.val (.pv (.int .i64 2))))], some (58, false)⟩,
⟨some 61, .call (.val (.func 94 [])) [(.tmp 59), (.tmp 60)], some (58, false)⟩,
⟨some 62, .un .not (.tmp 61), some (58, false)⟩,
⟨some 63, .pick (.tmp 58) (.val (.pv (.bool true))) (.tmp 62), none⟩,
⟨some 64, .mov (.tmp 63), none⟩,
⟨some 65, .mov (.tmp 8), some (64, false)⟩,
⟨some 66, .bin .neq (.tmp 65) (.val (.pv (.int .i64 0))), some (64, false)⟩,
⟨some 67, .pick (.tmp 64) (.val (.pv (.bool true))) (.tmp 66), none⟩,
⟨some 68, .mov (.tmp 67), none⟩,
⟨some 69, .mov (.tmp 9), some (68, false)⟩,
⟨some 70, .bin .neq (.tmp 69) (.val (.pv (.int .i64 0))), some (68, false)⟩,
⟨some 71, .pick (.tmp 68) (.val (.pv (.bool true))) (.tmp 70), none⟩,
⟨some 72, .mov (.tmp 71), none⟩,
⟨some 73, .mov (.tmp 10), some (72, false)⟩,
⟨some 74, .bin .neq (.tmp 73) (.val (.pv (.int .i64 1))), some (72, false)⟩,
⟨some 75, .pick (.tmp 72) (.val (.pv (.bool true))) (.tmp 74), none⟩,
⟨some 76, .mov (.tmp 75), none⟩,
⟨some 77, .mov (.tmp 11), some (76, false)⟩,
⟨some 78, .un .not (.tmp 77), some (76, false)⟩,
⟨some 79, .pick (.tmp 76) (.val (.pv (.bool true))) (.tmp 78), none⟩] [5, 6, 7, 79] [5])
(.cond (.tmp 79)
(.seq
(.region [
⟨some 0, .mov (.val (.pv (.bool false))), none⟩] [0] [])
.ret)
.skip))
(.seq
(.draw [
(⟨some 80, .mov (.tmp 7), none⟩, []),
(⟨some 81, .bin .eql (.tmp 80) (.val (.pv (.int .i64 0))), none⟩, []),
(⟨some 82, .mov (.tmp 81), none⟩, []),
(⟨some 83, .mov (.tmp 6), some (82, true)⟩, []),
(⟨some 84, .lit 1 [.pv (.int .i64 0)] 3 [(0, 1, (.val (.pv (.int .i64 (-1))))), (1, 1, (.val (.pv (.int .i64 0)))), (2, 1, (.val (.pv (.int .i64 (-1)))))], some (82, true)⟩, []),
(⟨some 85, .call (.val (.func 94 [])) [(.tmp 83), (.tmp 84)], some (82, true)⟩, []),
(⟨some 86, .pick (.tmp 82) (.tmp 85) (.val (.pv (.bool false))), none⟩, []),
(⟨some 87, .mov (.tmp 86), none⟩, []),
(⟨some 88, .load 1 true (.tmp 5), some (87, true)⟩, []),
(⟨some 89, .build [.pv (.int .i64 0), .pv (.str ⟨#[]⟩), .pv (.int .i64 0), .pv (.int .i64 0), .pv (.int .i64 0), .tl [], .tl [], .pv (.int .i64 0), .pv (.int .i64 0), .pv (.bool false)] [(0, 1, (.val (.pv (.int .i64 2)))), (3, 1, (.val (.pv (.int .i64 9))))], some (87, true)⟩, []),
(⟨some 90, .lit 10 [.pv (.int .i64 0), .pv (.str ⟨#[]⟩), .pv (.int .i64 0), .pv (.int .i64 0), .pv (.int .i64 0), .tl [], .tl [], .pv (.int .i64 0), .pv (.int .i64 0), .pv (.bool false)] 1 [(0, 10, (.tmp 89))], some (87, true)⟩, [8]),
(⟨some 91, .build [.tl []] [(0, 1, (.tmp 90))], some (87, true)⟩, []),
(⟨some 92, .call (.val (.func 278 [])) [(.tmp 88), (.tmp 91)], some (87, true)⟩, []),
(⟨some 93, .pick (.tmp 87) (.tmp 92) (.val (.pv (.bool false))), none⟩, []),
(⟨some 94, .mov (.tmp 93), none⟩, []),
(⟨some 95, .load 1 true (.tmp 5), some (94, true)⟩, []),
(⟨some 96, .call (.val (.func 280 [])) [], some (94, true)⟩, [15]),
(⟨some 97, .call (.val (.func 278 [])) [(.tmp 95), (.tmp 96)], some (94, true)⟩, []),
(⟨some 98, .un .not (.tmp 97), some (94, true)⟩, []),
(⟨some 99, .pick (.tmp 94) (.tmp 98) (.val (.pv (.bool false))), none⟩, []),
(⟨some 0, .mov (.tmp 99), none⟩, [])] [0] [])
.ret)))))))),
[.tmp 0], false, false⟩
def F267 : AFunc := ⟨1,
(.seq
(.region [
⟨some 1, .box 1 1 (.tmp 0), none⟩,
⟨some 2, .mov (.val (.pv (.int .i64 0))), none⟩] [1] [1])
(.seq
(.seq
(.region [
⟨some 8, .fld 0 (.tmp 1), none⟩,
⟨some 9, .load 1 false (.tmp 8), none⟩,
⟨some 10, .len 0 (.tmp 9), none⟩,
⟨some 11, .bin .gtr (.tmp 10) (.val (.pv (.int .i64 32))), none⟩] [1, 11] [1])
(.cond (.tmp 11)
(.seq
(.region [
⟨some 2, .mov (.val (.pv (.int .i64 3))), none⟩] [2] [])
.ret)
.skip))
(.seq
(.region [
⟨some 12, .mkmap, none⟩,
⟨some 3, .mov (.tmp 12), none⟩] [1, 3] [1])
(.seq
(.seq
(.region [
⟨some 13, .fld 0 (.tmp 1), none⟩,
⟨some 14, .load 1 false (.tmp 13), none⟩,
⟨some 15, .len 0 (.tmp 14), none⟩,
⟨some 16, .mov (.val (.pv (.int .i64 0))), none⟩] [1, 3, 14, 15, 16] [1])
(.block 0
(.loop
(.mask [1, 3, 14, 15, 16] [1]
(.seq
(.region [
⟨some 17, .bin .lss (.tmp 16) (.tmp 15), none⟩] [1, 3, 14, 15, 16, 17] [1])
(.seq
(.cond (.tmp 17)
.skip
(.exit 0))
(.seq
(.block 1
(.seq
(.region [
⟨some 18, .idx 10 (.tmp 14) (.tmp 16), none⟩,
⟨some 19, .load 10 true (.tmp 18), none⟩,
⟨some 5, .alloc 5 [.pv (.int .i64 0), .pv (.str ⟨#[]⟩), .pv (.int .i64 0), .pv (.int .i64 0), .pv (.int .i64 0), .tl [], .tl [], .pv (.int .i64 0), .pv (.int .i64 0), .pv (.bool false)], none⟩,
⟨none, .store 10 (.tmp 5) (.tmp 19), none⟩] [1, 3, 5, 14, 15, 16] [1, 5])
(.seq
(.seq
(.region [
⟨some 20, .load 10 true (.tmp 5), none⟩,
⟨some 21, .call (.val (.func 283 [])) [(.tmp 20)], none⟩,
⟨some 22, .un .not (.tmp 21), none⟩,
⟨some 23, .mov (.tmp 22), none⟩,
⟨some 24, .fld 1 (.tmp 5), some (23, false)⟩,
⟨some 25, .load 1 false (.tmp 24), some (23, false)⟩,
⟨some 26, .bin .neq (.tmp 25) (.val (.pv (.str ⟨#[]⟩))), some (23, false)⟩,
⟨some 27, .mov (.tmp 26), some (23, false)⟩,
⟨some 28, .mov (.tmp 3), some (27, true)⟩,
⟨some 29, .fld 1 (.tmp 5), some (27, true)⟩,
⟨some 30, .load 1 false (.tmp 29), some (27, true)⟩,
⟨some 31, .look false [2] (.pv (.bool false)) (.tmp 28) (.tmp 30) false, some (27, true)⟩,
⟨some 32, .pick (.tmp 27) (.tmp 31) (.val (.pv (.bool false))), some (23, false)⟩,
⟨some 33, .pick (.tmp 23) (.val (.pv (.bool true))) (.tmp 32), none⟩] [1, 3, 5, 14, 15, 16, 33] [1, 5])
(.cond (.tmp 33)
(.seq
(.region [
⟨some 2, .mov (.val (.pv (.int .i64 1))), none⟩] [2] [])
.ret)
.skip))
(.seq
(.region [
⟨some 34, .mov (.tmp 3), none⟩,
⟨some 35, .fld 1 (.tmp 5), none⟩,
⟨some 36, .load 1 false (.tmp 35), none⟩,
⟨none, .upd false [2] (.tmp 34) (.tmp 36) (.val (.pv (.bool true))), none⟩] [1, 3, 5, 14, 15, 16] [1, 5])
(.seq
(.seq
(.region [
⟨some 37, .load 10 true (.tmp 5), none⟩,
⟨some 38, .call (.val (.func 284 [])) [(.tmp 37)], none⟩,
⟨some 39, .len 0 (.tmp 38), none⟩,
⟨some 40, .mov (.val (.pv (.int .i64 0))), none⟩] [1, 3, 5, 14, 15, 16, 38, 39, 40] [1, 5])
(.block 2
(.loop
(.mask [1, 3, 5, 14, 15, 16, 38, 39, 40] [1, 5]
(.seq
(.region [
⟨some 41, .bin .lss (.tmp 40) (.tmp 39), none⟩] [1, 3, 5, 14, 15, 16, 38, 39, 40, 41] [1, 5])
(.seq
(.cond (.tmp 41)
.skip
(.exit 2))
(.seq
(.block 3
(.seq
(.region [
⟨some 42, .idx 1 (.tmp 38) (.tmp 40), none⟩,
⟨some 43, .load 1 false (.tmp 42), none⟩,
⟨some 7, .mov (.tmp 43), none⟩] [1, 3, 5, 7, 14, 15, 16, 38, 39, 40] [1, 5])
(.seq
(.region [
⟨some 44, .mov (.tmp 7), none⟩,
⟨some 45, .bin .lss (.tmp 44) (.val (.pv (.int .i64 0))), none⟩,
⟨some 46, .mov (.tmp 45), none⟩,
⟨some 47, .mov (.tmp 7), some (46, false)⟩,
⟨some 48, .fld 0 (.tmp 1), some (46, false)⟩,
⟨some 49, .load 1 false (.tmp 48), some (46, false)⟩,
⟨some 50, .len 0 (.tmp 49), some (46, false)⟩,
⟨some 51, .bin .geq (.tmp 47) (.tmp 50), some (46, false)⟩,
⟨some 52, .pick (.tmp 46) (.val (.pv (.bool true))) (.tmp 51), none⟩] [1, 3, 5, 14, 15, 16, 38, 39, 40, 52] [1, 5])
(.cond (.tmp 52)
(.seq
(.region [
⟨some 2, .mov (.val (.pv (.int .i64 4))), none⟩] [2] [])
.ret)
.skip))))
(.region [
⟨some 53, .bin .add (.tmp 40) (.val (.pv (.int .i64 1))), none⟩,
⟨some 40, .mov (.tmp 53), none⟩] [1, 3, 5, 14, 15, 16, 38, 39, 40] [1, 5]))))))))
(.seq
(.region [
⟨some 54, .fld 0 (.tmp 5), none⟩,
⟨some 55, .load 1 false (.tmp 54), none⟩,
⟨some 56, .bin .eql (.tmp 55) (.val (.pv (.int .i64 8))), none⟩,
⟨some 57, .mov (.tmp 56), none⟩,
⟨some 58, .fld 0 (.tmp 1), some (57, true)⟩,
⟨some 59, .load 1 false (.tmp 58), some (57, true)⟩,
⟨some 60, .fld 7 (.tmp 5), some (57, true)⟩,
⟨some 61, .load 1 false (.tmp 60), some (57, true)⟩,
⟨some 62, .idx 10 (.tmp 59) (.tmp 61), some (57, true)⟩,
⟨some 63, .fld 0 (.tmp 62), some (57, true)⟩,
⟨some 64, .load 1 false (.tmp 63), some (57, true)⟩,
⟨some 65, .bin .lss (.tmp 64) (.val (.pv (.int .i64 1))), some (57, true)⟩,
⟨some 66, .mov (.tmp 65), some (57, true)⟩,
⟨some 67, .fld 0 (.tmp 1), some (66, false)⟩,
⟨some 68, .load 1 false (.tmp 67), some (66, false)⟩,
⟨some 69, .fld 7 (.tmp 5), some (66, false)⟩,
⟨some 70, .load 1 false (.tmp 69), some (66, false)⟩,
⟨some 71, .idx 10 (.tmp 68) (.tmp 70), some (66, false)⟩,
⟨some 72, .fld 0 (.tmp 71), some (66, false)⟩,
⟨some 73, .load 1 false (.tmp 72), some (66, false)⟩,
⟨some 74, .bin .gtr (.tmp 73) (.val (.pv (.int .i64 4))), some (66, false)⟩,
⟨some 75, .pick (.tmp 66) (.val (.pv (.bool true))) (.tmp 74), some (57, true)⟩,
⟨some 76, .pick (.tmp 57) (.tmp 75) (.val (.pv (.bool false))), none⟩] [1, 3, 14, 15, 16, 76] [1])
(.cond (.tmp 76)
(.seq
(.region [
⟨some 2, .mov (.val (.pv (.int .i64 1))), none⟩] [2] [])
.ret)
.skip)))))))
(.region [
⟨some 77, .bin .add (.tmp 16) (.val (.pv (.int .i64 1))), none⟩,
⟨some 16, .mov (.tmp 77), none⟩] [1, 3, 14, 15, 16] [1]))))))))
(.seq
(.region [
⟨some 2, .mov (.val (.pv (.int .i64 0))), none⟩] [2] [])
.ret))))),
[.tmp 2], false, false⟩
def F269 : AFunc := ⟨2,
(.seq
(.region [
⟨some 2, .box 2 1 (.tmp 0), none⟩,
⟨some 3, .box 3 1 (.tmp 1), none⟩,
⟨some 4, .mov (.val (.pv (.int .i64 0))), none⟩,
⟨some 5, .mov (.val (.pv (.int .i64 0))), none⟩] [2, 3] [2, 3])
(.seq
(.region [
⟨some 7, .fld 0 (.tmp 2), none⟩,
⟨some 8, .load 1 false (.tmp 7), none⟩,
⟨some 9, .clos 290 [(.tmp 3)], none⟩,
⟨some 10, .call (.val (.func 289 [])) [(.tmp 8), (.tmp 9)], none⟩,
⟨some 6, .mov (.tmp 10), none⟩] [6] [])
(.seq
(.seq
(.region [
⟨some 11, .mov (.tmp 6), none⟩,
⟨some 12, .bin .lss (.tmp 11) (.val (.pv (.int .i64 0))), none⟩] [6, 12] [])
(.cond (.tmp 12)
(.seq
(.region [
⟨some 4, .mov (.val (.pv (.int .i64 0))), none⟩,
⟨some 5, .mov (.val (.pv (.int .i64 4))), none⟩] [4, 5] [])
.ret)
.skip))
(.seq
(.region [
⟨some 13, .mov (.tmp 6), none⟩,
⟨some 4, .mov (.tmp 13), none⟩,
⟨some 5, .mov (.val (.pv (.int .i64 0))), none⟩] [4, 5] [])
.ret)))),
[.tmp 4, .tmp 5], false, false⟩
def F271 : AFunc := ⟨2,
(.seq
(.region [
⟨some 2, .box 2 1 (.tmp 0), none⟩,
⟨some 4, .mov (.val (.tl [])), none⟩,
⟨some 5, .mov (.val (.pv (.int .i64 0))), none⟩] [1, 2] [2])
(.seq
(.seq
(.region [
⟨some 10, .load 1 true (.tmp 2), none⟩,
⟨some 11, .mov (.tmp 1), none⟩,
⟨some 12, .call (.val (.func 291 [])) [(.tmp 10), (.tmp 11)], none⟩,
⟨some 6, .mov (.tmp 12), none⟩] [1, 2, 6] [2])
(.seq
(.region [
⟨some 13, .mov (.tmp 6), none⟩,
⟨some 14, .bin .neq (.tmp 13) (.val (.pv (.int .i64 0))), none⟩] [1, 2, 6, 14] [2])
(.cond (.tmp 14)
(.seq
(.region [
⟨some 15, .mov (.tmp 6), none⟩,
⟨some 4, .mov (.val (.tl [])), none⟩,
⟨some 5, .mov (.tmp 15), none⟩] [4, 5] [])
.ret)
.skip)))
(.seq
(.region [
⟨some 7, .mov (.val (.tl [])), none⟩] [1, 2, 7] [2])
(.seq
(.seq
(.region [
⟨some 16, .fld 0 (.tmp 2), none⟩,
⟨some 17, .load 1 false (.tmp 16), none⟩,
⟨some 18, .mov (.tmp 1), none⟩,
⟨some 19, .idx 10 (.tmp 17) (.tmp 18), none⟩,
⟨some 20, .load 10 true (.tmp 19), none⟩,
⟨some 21, .call (.val (.func 284 [])) [(.tmp 20)], none⟩,
⟨some 22, .len 0 (.tmp 21), none⟩,
⟨some 23, .mov (.val (.pv (.int .i64 0))), none⟩] [7, 21, 22, 23] [])
(.block 0
(.loop
(.mask [7, 21, 22, 23] []
(.seq
(.region [
⟨some 24, .bin .lss (.tmp 23) (.tmp 22), none⟩] [7, 21, 22, 23, 24] [])
(.seq
(.cond (.tmp 24)
.skip
(.exit 0))
(.seq
(.block 1
(.seq
(.region [
⟨some 25, .idx 1 (.tmp 21) (.tmp 23), none⟩,
⟨some 26, .load 1 false (.tmp 25), none⟩,
⟨some 9, .mov (.tmp 26), none⟩] [7, 9, 21, 22, 23] [])
(.seq
(.region [
⟨some 27, .mov (.tmp 7), none⟩,
⟨some 28, .mov (.tmp 9), none⟩,
⟨some 29, .call (.val (.func 110 [])) [(.tmp 27), (.tmp 28)], none⟩,
⟨some 30, .un .not (.tmp 29), none⟩] [7, 9, 21, 22, 23, 30] [])
(.cond (.tmp 30)
(.region [
⟨some 31, .mov (.tmp 7), none⟩,
⟨some 32, .mov (.tmp 9), none⟩,
⟨some 33, .lit 1 [.pv (.int .i64 0)] 1 [(0, 1, (.tmp 32))], none⟩,
⟨some 34, .app 1 (.tmp 31) (.tmp 33), none⟩,
⟨some 7, .mov (.tmp 34), none⟩] [7, 21, 22, 23] [])
.skip))))
(.region [
⟨some 35, .bin .add (.tmp 23) (.val (.pv (.int .i64 1))), none⟩,
⟨some 23, .mov (.tmp 35), none⟩] [7, 21, 22, 23] []))))))))
(.seq
(.region [
⟨some 36, .mov (.tmp 7), none⟩,
⟨some 4, .mov (.tmp 36), none⟩,
⟨some 5, .mov (.val (.pv (.int .i64 0))), none⟩] [4, 5] [])
.ret))))),
[.tmp 4, .tmp 5], false, false⟩
def F273 : AFunc := ⟨2,
(.seq
(.region [
⟨some 2, .box 2 1 (.tmp 0), none⟩,
⟨some 4, .mov (.val (.tl [])), none⟩,
⟨some 5, .mov (.val (.pv (.int .i64 0))), none⟩] [1, 2] [2])
(.seq
(.seq
(.region [
⟨some 11, .load 1 true (.tmp 2), none⟩,
⟨some 12, .mov (.tmp 1), none⟩,
⟨some 13, .call (.val (.func 291 [])) [(.tmp 11), (.tmp 12)], none⟩,
⟨some 6, .mov (.tmp 13), none⟩] [1, 2, 6] [2])
(.seq
(.region [
⟨some 14, .mov (.tmp 6), none⟩,
⟨some 15, .bin .neq (.tmp 14) (.val (.pv (.int .i64 0))), none⟩] [1, 2, 6, 15] [2])
(.cond (.tmp 15)
(.seq
(.region [
⟨some 16, .mov (.tmp 6), none⟩,
⟨some 4, .mov (.val (.tl [])), none⟩,
⟨some 5, .mov (.tmp 16), none⟩] [4, 5] [])
.ret)
.skip)))
(.seq
(.region [
⟨some 17, .mov (.tmp 1), none⟩,
⟨some 18, .lit 1 [.pv (.int .i64 0)] 1 [(0, 1, (.tmp 17))], none⟩,
⟨some 7, .mov (.tmp 18), none⟩] [2, 7] [2])
(.seq
(.seq
(.region [
⟨some 8, .mov (.val (.pv (.int .i64 0))), none⟩] [2, 7, 8] [2])
(.block 0
(.loop
(.mask [2, 7, 8] [2]
(.seq
(.seq
(.region [
⟨some 19, .mov (.tmp 8), none⟩,
⟨some 20, .mov (.tmp 7), none⟩,
⟨some 21, .len 0 (.tmp 20), none⟩,
⟨some 22, .bin .lss (.tmp 19) (.tmp 21), none⟩] [2, 7, 8, 22] [2])
(.cond (.tmp 22)
.skip
(.exit 0)))
(.seq
(.block 1
(.seq
(.draw [
(⟨some 25, .fld 0 (.tmp 2), none⟩, []),
(⟨some 26, .load 1 false (.tmp 25), none⟩, []),
(⟨some 27, .mov (.tmp 7), none⟩, []),
(⟨some 28, .mov (.tmp 8), none⟩, []),
(⟨some 29, .idx 1 (.tmp 27) (.tmp 28), none⟩, []),
(⟨some 30, .load 1 false (.tmp 29), none⟩, []),
(⟨some 31, .idx 10 (.tmp 26) (.tmp 30), none⟩, []),
(⟨some 32, .load 10 true (.tmp 31), none⟩, []),
(⟨some 33, .call (.val (.func 284 [])) [(.tmp 32)], none⟩, []),
(⟨some 34, .len 0 (.tmp 33), none⟩, []),
(⟨some 35, .mov (.val (.pv (.int .i64 0))), none⟩, [])] [2, 7, 8, 33, 34, 35] [2])
(.block 2
(.loop
(.mask [2, 7, 8, 33, 34, 35] [2]
(.seq
(.region [
⟨some 36, .bin .lss (.tmp 35) (.tmp 34), none⟩] [2, 7, 8, 33, 34, 35, 36] [2])
(.seq
(.cond (.tmp 36)
.skip
(.exit 2))
(.seq
(.block 3
(.seq
(.region [
⟨some 37, .idx 1 (.tmp 33) (.tmp 35), none⟩,
⟨some 38, .load 1 false (.tmp 37), none⟩,
⟨some 10, .mov (.tmp 38), none⟩] [2, 7, 8, 10, 33, 34, 35] [2])
(.seq
(.region [
⟨some 39, .mov (.tmp 7), none⟩,
⟨some 40, .mov (.tmp 10), none⟩,
⟨some 41, .call (.val (.func 110 [])) [(.tmp 39), (.tmp 40)], none⟩,
⟨some 42, .un .not (.tmp 41), none⟩] [2, 7, 8, 10, 33, 34, 35, 42] [2])
(.cond (.tmp 42)
(.region [
⟨some 43, .mov (.tmp 7), none⟩,
⟨some 44, .mov (.tmp 10), none⟩,
⟨some 45, .lit 1 [.pv (.int .i64 0)] 1 [(0, 1, (.tmp 44))], none⟩,
⟨some 46, .app 1 (.tmp 43) (.tmp 45), none⟩,
⟨some 7, .mov (.tmp 46), none⟩] [2, 7, 8, 33, 34, 35] [2])
.skip))))
(.region [
⟨some 47, .bin .add (.tmp 35) (.val (.pv (.int .i64 1))), none⟩,
⟨some 35, .mov (.tmp 47), none⟩] [2, 7, 8, 33, 34, 35] [2])))))))))
(.region [
⟨some 23, .mov (.tmp 8), none⟩,
⟨some 24, .bin .add (.tmp 23) (.val (.pv (.int .i64 1))), none⟩,
⟨some 8, .mov (.tmp 24), none⟩] [2, 7, 8] [2])))))))
(.seq
(.region [
⟨some 48, .mov (.tmp 7), none⟩,
⟨some 49, .call (.val (.func 103 [])) [(.tmp 48)], none⟩] [7] [])
(.seq
(.region [
⟨some 50, .mov (.tmp 7), none⟩,
⟨some 4, .mov (.tmp 50), none⟩,
⟨some 5, .mov (.val (.pv (.int .i64 0))), none⟩] [4, 5] [])
.ret)))))),
[.tmp 4, .tmp 5], false, false⟩
def F275 : AFunc := ⟨2,
(.seq
(.region [
⟨some 2, .box 2 1 (.tmp 0), none⟩,
⟨some 4, .alloc 4 [.tl []], none⟩,
⟨some 5, .mov (.val (.tl [])), none⟩,
⟨some 6, .mov (.val (.pv (.int .i64 0))), none⟩] [1, 2, 4] [2, 4])
(.seq
(.region [
⟨some 17, .load 1 true (.tmp 2), none⟩,
⟨some 18, .mov (.tmp 1), none⟩,
⟨some 19, .call (.val (.func 273 [])) [(.tmp 17), (.tmp 18)], none⟩,
⟨some 16, .mov (.tmp 19), none⟩,
⟨some 20, .ext (.tmp 16) 0, none⟩,
⟨some 21, .ext (.tmp 16) 1, none⟩,
⟨some 7, .mov (.tmp 20), none⟩,
⟨some 8, .mov (.tmp 21), none⟩] [2, 4, 7, 8] [2, 4])
(.seq
(.seq
(.region [
⟨some 22, .mov (.tmp 8), none⟩,
⟨some 23, .bin .neq (.tmp 22) (.val (.pv (.int .i64 0))), none⟩] [2, 4, 7, 8, 23] [2, 4])
(.cond (.tmp 23)
(.seq
(.region [
⟨some 24, .build [.tl []] [], none⟩,
⟨some 25, .mov (.tmp 8), none⟩,
⟨none, .store 1 (.tmp 4) (.tmp 24), none⟩,
⟨some 5, .mov (.val (.tl [])), none⟩,
⟨some 6, .mov (.tmp 25), none⟩] [4, 5, 6] [4])
.ret)
.skip))
(.seq
(.region [
⟨some 26, .fld 0 (.tmp 2), none⟩,
⟨some 27, .load 1 false (.tmp 26), none⟩,
⟨some 28, .len 0 (.tmp 27), none⟩,
⟨some 29, .make 1 [.pv (.int .i64 0)] (.tmp 28) (.tmp 28), none⟩,
⟨some 9, .mov (.tmp 29), none⟩] [2, 4, 7, 9] [2, 4])
(.seq
(.seq
(.region [
⟨some 30, .mov (.tmp 9), none⟩,
⟨some 31, .len 0 (.tmp 30), none⟩,
⟨some 32, .mov (.val (.pv (.int .i64 0))), none⟩] [2, 4, 7, 9, 31, 32] [2, 4])
(.block 0
(.loop
(.mask [2, 4, 7, 9, 31, 32] [2, 4]
(.seq
(.region [
⟨some 33, .bin .lss (.tmp 32) (.tmp 31), none⟩] [2, 4, 7, 9, 31, 32, 33] [2, 4])
(.seq
(.cond (.tmp 33)
.skip
(.exit 0))
(.seq
(.block 1
(.seq
(.region [
⟨some 34, .mov (.tmp 32), none⟩,
⟨some 10, .mov (.tmp 34), none⟩] [2, 4, 7, 9, 10, 31, 32] [2, 4])
(.region [
⟨some 35, .mov (.tmp 9), none⟩,
⟨some 36, .mov (.tmp 10), none⟩,
⟨some 37, .mov (.tmp 7), none⟩,
⟨some 38, .mov (.tmp 10), none⟩,
⟨some 39, .call (.val (.func 118 [])) [(.tmp 37), (.tmp 38)], none⟩,
⟨some 40, .idx 1 (.tmp 35) (.tmp 36), none⟩,
⟨none, .store 1 (.tmp 40) (.tmp 39), none⟩] [2, 4, 7, 9, 31, 32] [2, 4])))
(.region [
⟨some 41, .bin .add (.tmp 32) (.val (.pv (.int .i64 1))), none⟩,
⟨some 32, .mov (.tmp 41), none⟩] [2, 4, 7, 9, 31, 32] [2, 4]))))))))
(.seq
(.region [
⟨some 11, .alloc 11 [.tl []], none⟩] [2, 4, 7, 9, 11] [2, 4, 11])
(.seq
(.seq
(.region [
⟨some 42, .mov (.tmp 7), none⟩,
⟨some 43, .len 0 (.tmp 42), none⟩,
⟨some 44, .mov (.val (.pv (.int .i64 0))), none⟩] [2, 4, 9, 11, 42, 43, 44] [2, 4, 11])
(.block 2
(.loop
(.mask [2, 4, 9, 11, 42, 43, 44] [2, 4, 11]
(.seq
(.region [
⟨some 45, .bin .lss (.tmp 44) (.tmp 43), none⟩] [2, 4, 9, 11, 42, 43, 44, 45] [2, 4, 11])
(.seq
(.cond (.tmp 45)
.skip
(.exit 2))
(.seq
(.block 3
(.seq
(.region [
⟨some 46, .idx 1 (.tmp 42) (.tmp 44), none⟩,
⟨some 47, .load 1 false (.tmp 46), none⟩,
⟨some 13, .mov (.tmp 47), none⟩] [2, 4, 9, 11, 13, 42, 43, 44] [2, 4, 11])
(.seq
(.region [
⟨some 48, .fld 0 (.tmp 2), none⟩,
⟨some 49, .load 1 false (.tmp 48), none⟩,
⟨some 50, .mov (.tmp 13), none⟩,
⟨some 51, .idx 10 (.tmp 49) (.tmp 50), none⟩,
⟨some 52, .load 10 true (.tmp 51), none⟩,
⟨some 53, .call (.val (.func 294 [])) [(.tmp 52)], none⟩,
⟨some 14, .alloc 14 [.pv (.int .i64 0), .pv (.str ⟨#[]⟩), .pv (.int .i64 0), .pv (.int .i64 0), .pv (.int .i64 0), .tl [], .tl [], .pv (.int .i64 0), .pv (.int .i64 0), .pv (.bool false)], none⟩,
⟨none, .store 10 (.tmp 14) (.tmp 53), none⟩] [2, 4, 9, 11, 14, 42, 43, 44] [2, 4, 11, 14])
(.seq
(.seq
(.region [
⟨some 54, .fld 6 (.tmp 14), none⟩,
⟨some 55, .load 1 false (.tmp 54), none⟩,
⟨some 56, .len 0 (.tmp 55), none⟩,
⟨some 57, .mov (.val (.pv (.int .i64 0))), none⟩] [2, 4, 9, 11, 14, 42, 43, 44, 56, 57] [2, 4, 11, 14])
(.block 4
(.loop
(.mask [2, 4, 9, 11, 14, 42, 43, 44, 56, 57] [2, 4, 11, 14]
(.seq
(.region [
⟨some 58, .bin .lss (.tmp 57) (.tmp 56), none⟩] [2, 4, 9, 11, 14, 42, 43, 44, 56, 57, 58] [2, 4, 11, 14])
(.seq
(.cond (.tmp 58)
.skip
(.exit 4))
(.seq
(.block 5
(.seq
(.region [
⟨some 59, .mov (.tmp 57), none⟩,
⟨some 15, .mov (.tmp 59), none⟩] [2, 4, 9, 11, 14, 15, 42, 43, 44, 56, 57] [2, 4, 11, 14])
(.draw [
(⟨some 60, .fld 6 (.tmp 14), none⟩, []),
(⟨some 61, .load 1 false (.tmp 60), none⟩, []),
(⟨some 62, .mov (.tmp 15), none⟩, []),
(⟨some 63, .mov (.tmp 9), none⟩, []),
(⟨some 64, .fld 6 (.tmp 14), none⟩, []),
(⟨some 65, .load 1 false (.tmp 64), none⟩, []),
(⟨some 66, .mov (.tmp 15), none⟩, []),
(⟨some 67, .idx 13 (.tmp 65) (.tmp 66), none⟩, []),
(⟨some 68, .fld 2 (.tmp 67), none⟩, []),
(⟨some 69, .load 1 false (.tmp 68), none⟩, []),
(⟨some 70, .idx 1 (.tmp 63) (.tmp 69), none⟩, []),
(⟨some 71, .load 1 false (.tmp 70), none⟩, []),
(⟨some 72, .idx 13 (.tmp 61) (.tmp 62), none⟩, []),
(⟨some 73, .fld 2 (.tmp 72), none⟩, []),
(⟨none, .store 1 (.tmp 73) (.tmp 71), none⟩, [])] [2, 4, 9, 11, 14, 42, 43, 44, 56, 57] [2, 4, 11, 14])))
(.region [
⟨some 74, .bin .add (.tmp 57) (.val (.pv (.int .i64 1))), none⟩,
⟨some 57, .mov (.tmp 74), none⟩] [2, 4, 9, 11, 14, 42, 43, 44, 56, 57] [2, 4, 11, 14]))))))))
(.seq
(.seq
(.region [
⟨some 75, .fld 0 (.tmp 14), none⟩,
⟨some 76, .load 1 false (.tmp 75), none⟩,
⟨some 77, .bin .eql (.tmp 76) (.val (.pv (.int .i64 8))), none⟩] [2, 4, 9, 11, 14, 42, 43, 44, 77] [2, 4, 11, 14])
(.cond (.tmp 77)
(.region [
⟨some 78, .mov (.tmp 9), none⟩,
⟨some 79, .fld 7 (.tmp 14), none⟩,
⟨some 80, .load 1 false (.tmp 79), none⟩,
⟨some 81, .idx 1 (.tmp 78) (.tmp 80), none⟩,
⟨some 82, .load 1 false (.tmp 81), none⟩,
⟨some 83, .fld 7 (.tmp 14), none⟩,
⟨none, .store 1 (.tmp 83) (.tmp 82), none⟩] [2, 4, 9, 11, 14, 42, 43, 44] [2, 4, 11, 14])
.skip))
(.seq
(.seq
(.region [
⟨some 84, .fld 0 (.tmp 14), none⟩,
⟨some 85, .load 1 false (.tmp 84), none⟩,
⟨some 86, .bin .geq (.tmp 85) (.val (.pv (.int .i64 7))), none⟩] [2, 4, 9, 11, 14, 42, 43, 44, 86] [2, 4, 11, 14])
(.cond (.tmp 86)
(.region [
⟨some 87, .mov (.tmp 9), none⟩,
⟨some 88, .fld 8 (.tmp 14), none⟩,
⟨some 89, .load 1 false (.tmp 88), none⟩,
⟨some 90, .idx 1 (.tmp 87) (.tmp 89), none⟩,
⟨some 91, .load 1 false (.tmp 90), none⟩,
⟨some 92, .fld 8 (.tmp 14), none⟩,
⟨none, .store 1 (.tmp 92) (.tmp 91), none⟩] [2, 4, 9, 11, 14, 42, 43, 44] [2, 4, 11, 14])
.skip))
(.region [
⟨some 93, .fld 0 (.tmp 11), none⟩,
⟨some 94, .load 1 false (.tmp 93), none⟩,
⟨some 95, .load 10 true (.tmp 14), none⟩,
⟨some 96, .lit 10 [.pv (.int .i64 0), .pv (.str ⟨#[]⟩), .pv (.int .i64 0), .pv (.int .i64 0), .pv (.int .i64 0), .tl [], .tl [], .pv (.int .i64 0), .pv (.int .i64 0), .pv (.bool false)] 1 [(0, 10, (.tmp 95))], none⟩,
⟨some 97, .app 10 (.tmp 94) (.tmp 96), none⟩,
⟨some 98, .fld 0 (.tmp 11), none⟩,
⟨none, .store 1 (.tmp 98) (.tmp 97), none⟩] [2, 4, 9, 11, 42, 43, 44] [2, 4, 11])))))))
(.region [
⟨some 99, .bin .add (.tmp 44) (.val (.pv (.int .i64 1))), none⟩,
⟨some 44, .mov (.tmp 99), none⟩] [2, 4, 9, 11, 42, 43, 44] [2, 4, 11]))))))))
(.seq
(.region [
⟨some 100, .load 1 true (.tmp 11), none⟩,
⟨some 101, .mov (.tmp 9), none⟩,
⟨none, .store 1 (.tmp 4) (.tmp 100), none⟩,
⟨some 5, .mov (.tmp 101), none⟩,
⟨some 6, .mov (.val (.pv (.int .i64 0))), none⟩] [4, 5, 6] [4])
.ret)))))))),
[.cell 4 1 true, .tmp 5, .tmp 6], false, false⟩
def F277 : AFunc := ⟨2,
(.seq
(.region [
⟨some 2, .box 2 1 (.tmp 0), none⟩,
⟨some 3, .box 3 1 (.tmp 1), none⟩,
⟨some 4, .mov (.val (.pv (.bool false))), none⟩] [2, 3] [2, 3])
(.seq
(.seq
(.region [
⟨some 6, .fld 0 (.tmp 2), none⟩,
⟨some 7, .load 1 false (.tmp 6), none⟩,
⟨some 8, .len 0 (.tmp 7), none⟩,
⟨some 9, .fld 0 (.tmp 3), none⟩,
⟨some 10, .load 1 false (.tmp 9), none⟩,
⟨some 11, .len 0 (.tmp 10), none⟩,
⟨some 12, .bin .neq (.tmp 8) (.tmp 11), none⟩] [2, 3, 12] [2, 3])
(.cond (.tmp 12)
(.seq
(.region [
⟨some 4, .mov (.val (.pv (.bool false))), none⟩] [4] [])
.ret)
.skip))
(.seq
(.seq
(.region [
⟨some 5, .mov (.val (.pv (.int .i64 0))), none⟩] [2, 3, 5] [2, 3])
(.block 0
(.loop
(.mask [2, 3, 5] [2, 3]
(.seq
(.seq
(.region [
⟨some 13, .mov (.tmp 5), none⟩,
⟨some 14, .fld 0 (.tmp 2), none⟩,
⟨some 15, .load 1 false (.tmp 14), none⟩,
⟨some 16, .len 0 (.tmp 15), none⟩,
⟨some 17, .bin .lss (.tmp 13) (.tmp 16), none⟩] [2, 3, 5, 17] [2, 3])
(.cond (.tmp 17)
.skip
(.exit 0)))
(.seq
(.block 1
(.seq
(.draw [
(⟨some 20, .fld 0 (.tmp 2), none⟩, []),
(⟨some 21, .load 1 false (.tmp 20), none⟩, []),
(⟨some 22, .mov (.tmp 5), none⟩, []),
(⟨some 23, .idx 10 (.tmp 21) (.tmp 22), none⟩, []),
(⟨some 24, .load 10 true (.tmp 23), none⟩, []),
(⟨some 25, .fld 0 (.tmp 3), none⟩, []),
(⟨some 26, .load 1 false (.tmp 25), none⟩, []),
(⟨some 27, .mov (.tmp 5), none⟩, []),
(⟨some 28, .idx 10 (.tmp 26) (.tmp 27), none⟩, []),
(⟨some 29, .load 10 true (.tmp 28), none⟩, []),
(⟨some 30, .call (.val (.func 295 [])) [(.tmp 24), (.tmp 29)], none⟩, []),
(⟨some 31, .un .not (.tmp 30), none⟩, [])] [2, 3, 5, 31] [2, 3])
(.cond (.tmp 31)
(.seq
(.region [
⟨some 4, .mov (.val (.pv (.bool false))), none⟩] [4] [])
.ret)
.skip)))
(.region [
⟨some 18, .mov (.tmp 5), none⟩,
⟨some 19, .bin .add (.tmp 18) (.val (.pv (.int .i64 1))), none⟩,
⟨some 5, .mov (.tmp 19), none⟩] [2, 3, 5] [2, 3])))))))
(.seq
(.region [
⟨some 4, .mov (.val (.pv (.bool true))), none⟩] [4] [])
.ret)))),
[.tmp 4], false, false⟩
def F278 : AFunc := ⟨2,
(.seq
(.region [
⟨some 2, .box 2 1 (.tmp 0), none⟩,
⟨some 3, .box 3 1 (.tmp 1), none⟩,
⟨some 4, .mov (.val (.pv (.bool false))), none⟩] [2, 3] [2, 3])
(.seq
(.region [
⟨some 5, .fld 0 (.tmp 2), none⟩,
⟨some 6, .load 1 false (.tmp 5), none⟩,
⟨some 7, .fld 0 (.tmp 3), none⟩,
⟨some 8, .load 1 false (.tmp 7), none⟩,
⟨some 9, .call (.val (.func 296 [])) [(.tmp 6), (.tmp 8), (.val (.func 297 []))], none⟩,
⟨some 4, .mov (.tmp 9), none⟩] [4] [])
.ret)),
[.tmp 4], false, false⟩
def F279 : AFunc := ⟨1,
(.seq
(.region [
⟨some 1, .box 1 1 (.tmp 0), none⟩,
⟨some 2, .alloc 2 [.tl []], none⟩,
⟨some 3, .mov (.val (.pv (.bool false))), none⟩] [1, 2] [1, 2])
(.seq
(.region [
⟨some 11, .fld 0 (.tmp 1), none⟩,
⟨some 12, .load 1 false (.tmp 11), none⟩,
⟨some 13, .len 0 (.tmp 12), none⟩,
⟨some 4, .mov (.tmp 13), none⟩] [1, 2, 4] [1, 2])
(.seq
(.seq
(.region [
⟨some 14, .mov (.tmp 4), none⟩,
⟨some 15, .bin .lss (.tmp 14) (.val (.pv (.int .i64 1))), none⟩,
⟨some 16, .mov (.tmp 15), none⟩,
⟨some 17, .mov (.tmp 4), some (16, false)⟩,
⟨some 18, .bin .gtr (.tmp 17) (.val (.pv (.int .i64 5))), some (16, false)⟩,
⟨some 19, .pick (.tmp 16) (.val (.pv (.bool true))) (.tmp 18), none⟩] [1, 2, 4, 19] [1, 2])
(.cond (.tmp 19)
(.seq
(.region [
⟨some 20, .build [.tl []] [], none⟩,
⟨none, .store 1 (.tmp 2) (.tmp 20), none⟩,
⟨some 3, .mov (.val (.pv (.bool false))), none⟩] [2, 3] [2])
.ret)
.skip))
(.seq
(.region [
⟨some 5, .alloc 5 [.tl []], none⟩] [1, 2, 4, 5] [1, 2, 5])
(.seq
(.seq
(.region [
⟨some 6, .mov (.val (.pv (.int .i64 0))), none⟩] [1, 2, 4, 5, 6] [1, 2, 5])
(.block 0
(.loop
(.mask [1, 2, 4, 5, 6] [1, 2, 5]
(.seq
(.seq
(.region [
⟨some 21, .mov (.tmp 6), none⟩,
⟨some 22, .mov (.tmp 4), none⟩,
⟨some 23, .bin .lss (.tmp 21) (.tmp 22), none⟩] [1, 2, 4, 5, 6, 23] [1, 2, 5])
(.cond (.tmp 23)
.skip
(.exit 0)))
(.seq
(.block 1
(.seq
(.region [
⟨some 26, .fld 0 (.tmp 1), none⟩,
⟨some 27, .load 1 false (.tmp 26), none⟩,
⟨some 28, .mov (.tmp 6), none⟩,
⟨some 29, .idx 5 (.tmp 27) (.tmp 28), none⟩,
⟨some 30, .load 5 true (.tmp 29), none⟩,
⟨some 7, .alloc 7 [.pv (.int .u8 0), .pv (.int .u8 0), .pv (.int .u8 0), .pv (.int .u8 0), .tl []], none⟩,
⟨none, .store 5 (.tmp 7) (.tmp 30), none⟩] [1, 2, 4, 5, 6, 7] [1, 2, 5, 7])
(.seq
(.region [
⟨some 31, .load 1 true (.tmp 1), none⟩,
⟨some 32, .mov (.tmp 6), none⟩,
⟨some 33, .call (.val (.func 298 [])) [(.tmp 31), (.tmp 32)], none⟩,
⟨some 34, .build [.pv (.int .i64 0), .pv (.str ⟨#[]⟩), .pv (.int .i64 0), .pv (.int .i64 0), .pv (.int .i64 0), .tl [], .tl [], .pv (.int .i64 0), .pv (.int .i64 0), .pv (.bool false)] [(0, 1, (.tmp 33))], none⟩,
⟨some 8, .alloc 8 [.pv (.int .i64 0), .pv (.str ⟨#[]⟩), .pv (.int .i64 0), .pv (.int .i64 0), .pv (.int .i64 0), .tl [], .tl [], .pv (.int .i64 0), .pv (.int .i64 0), .pv (.bool false)], none⟩,
⟨none, .store 10 (.tmp 8) (.tmp 34), none⟩] [1, 2, 4, 5, 6, 7, 8] [1, 2, 5, 7, 8])
(.seq
(.seq
(.region [
⟨some 35, .fld 0 (.tmp 8), none⟩,
⟨some 36, .load 1 false (.tmp 35), none⟩,
⟨some 37, .call (.val (.func 286 [])) [(.tmp 36)], none⟩] [1, 2, 4, 5, 6, 7, 8, 37] [1, 2, 5, 7, 8])
(.cond (.tmp 37)
(.region [
⟨some 38, .mov (.tmp 6), none⟩,
⟨some 39, .bin .add (.val (.pv (.int .i64 65))) (.tmp 38), none⟩,
⟨some 40, .conv .i32 (.tmp 39), none⟩,
⟨some 41, .convs (.tmp 40), none⟩,
⟨some 42, .fld 1 (.tmp 8), none⟩,
⟨none, .store 1 (.tmp 42) (.tmp 41), none⟩] [1, 2, 4, 5, 6, 7, 8] [1, 2, 5, 7, 8])
.skip))
(.seq
(.seq
(.region [
⟨some 43, .fld 0 (.tmp 8), none⟩,
⟨some 44, .load 1 false (.tmp 43), none⟩] [1, 2, 4, 5, 6, 7, 8, 44] [1, 2, 5, 7, 8])
(.block 2
(.seq
(.region [
⟨some 46, .bin .eql (.tmp 44) (.val (.pv (.int .i64 2))), none⟩,
⟨some 45, .mov (.tmp 46), none⟩] [1, 2, 4, 5, 6, 7, 8, 44, 45] [1, 2, 5, 7, 8])
(.cond (.tmp 45)
(.draw [
(⟨some 47, .load 5 true (.tmp 7), none⟩, []),
(⟨some 48, .call (.val (.func 299 [])) [(.tmp 47)], none⟩, []),
(⟨some 49, .load 5 true (.tmp 7), none⟩, [1]),
(⟨some 50, .call (.val (.func 300 [])) [(.tmp 49)], none⟩, []),
(⟨some 51, .fld 2 (.tmp 8), none⟩, []),
(⟨none, .store 1 (.tmp 51) (.tmp 48), none⟩, []),
(⟨some 52, .fld 3 (.tmp 8), none⟩, []),
(⟨none, .store 1 (.tmp 52) (.tmp 50), none⟩, [])] [1, 2, 4, 5, 6, 8] [1, 2, 5, 8])
(.seq
(.region [
⟨some 54, .bin .eql (.tmp 44) (.val (.pv (.int .i64 3))), none⟩,
⟨some 53, .mov (.tmp 54), none⟩] [1, 2, 4, 5, 6, 7, 8, 44, 53] [1, 2, 5, 7, 8])
(.cond (.tmp 53)
(.region [
⟨some 55, .fld 1 (.tmp 7), none⟩,
⟨some 56, .load 1 false (.tmp 55), none⟩,
⟨some 57, .bin .rem (.tmp 56) (.val (.pv (.int .u8 4))), none⟩,
⟨some 58, .conv .i64 (.tmp 57), none⟩,
⟨some 59, .fld 4 (.tmp 8), none⟩,
⟨none, .store 1 (.tmp 59) (.tmp 58), none⟩] [1, 2, 4, 5, 6, 8] [1, 2, 5, 8])
(.seq
(.region [
⟨some 61, .bin .eql (.tmp 44) (.val (.pv (.int .i64 4))), none⟩,
⟨some 60, .mov (.tmp 61), none⟩] [1, 2, 4, 5, 6, 7, 8, 44, 60] [1, 2, 5, 7, 8])
(.cond (.tmp 60)
(.seq
(.region [
⟨some 62, .fld 2 (.tmp 7), none⟩,
⟨some 63, .load 1 false (.tmp 62), none⟩,
⟨some 64, .bin .rem (.tmp 63) (.val (.pv (.int .u8 2))), none⟩,
⟨some 65, .bin .eql (.tmp 64) (.val (.pv (.int .u8 1))), none⟩,
⟨some 66, .fld 9 (.tmp 8), none⟩,
⟨none, .store 1 (.tmp 66) (.tmp 65), none⟩] [1, 2, 4, 5, 6, 7, 8] [1, 2, 5, 7, 8])
(.seq
(.region [
⟨some 67, .load 5 true (.tmp 7), none⟩,
⟨some 68, .call (.val (.func 301 [])) [(.tmp 67)], none⟩,
⟨some 9, .mov (.tmp 68), none⟩] [1, 2, 4, 5, 6, 8, 9] [1, 2, 5, 8])
(.seq
(.region [
⟨some 10, .mov (.val (.pv (.int .i64 0))), none⟩] [1, 2, 4, 5, 6, 8, 9, 10] [1, 2, 5, 8])
(.block 3
(.loop
(.mask [1, 2, 4, 5, 6, 8, 9, 10] [1, 2, 5, 8]
(.seq
(.seq
(.region [
⟨some 69, .mov (.tmp 10), none⟩,
⟨some 70, .mov (.tmp 9), none⟩,
⟨some 71, .len 0 (.tmp 70), none⟩,
⟨some 72, .bin .lss (.tmp 69) (.tmp 71), none⟩] [1, 2, 4, 5, 6, 8, 9, 10, 72] [1, 2, 5, 8])
(.cond (.tmp 72)
.skip
(.exit 3)))
(.seq
(.block 4
(.draw [
(⟨some 75, .fld 5 (.tmp 8), none⟩, []),
(⟨some 76, .load 1 false (.tmp 75), none⟩, []),
(⟨some 77, .mov (.tmp 9), none⟩, []),
(⟨some 78, .mov (.tmp 10), none⟩, []),
(⟨some 79, .idx 1 (.tmp 77) (.tmp 78), none⟩, []),
(⟨some 80, .load 1 false (.tmp 79), none⟩, []),
(⟨some 81, .mov (.tmp 9), none⟩, []),
(⟨some 82, .mov (.tmp 10), none⟩, []),
(⟨some 83, .idx 1 (.tmp 81) (.tmp 82), none⟩, []),
(⟨some 84, .load 1 false (.tmp 83), none⟩, []),
(⟨some 85, .bin .add (.val (.pv (.int .i64 97))) (.tmp 84), none⟩, []),
(⟨some 86, .conv .i32 (.tmp 85), none⟩, []),
(⟨some 87, .convs (.tmp 86), none⟩, []),
(⟨some 88, .bin .add (.val (.pv (.str ⟨#[115]⟩))) (.tmp 87), none⟩, []),
(⟨some 89, .build [.pv (.int .i64 0), .pv (.str ⟨#[]⟩)] [(0, 1, (.tmp 80)), (1, 1, (.tmp 88))], none⟩, []),
(⟨some 90, .lit 2 [.pv (.int .i64 0), .pv (.str ⟨#[]⟩)] 1 [(0, 2, (.tmp 89))], none⟩, [1]),
(⟨some 91, .app 2 (.tmp 76) (.tmp 90), none⟩, []),
(⟨some 92, .fld 5 (.tmp 8), none⟩, []),
(⟨none, .store 1 (.tmp 92) (.tmp 91), none⟩, [])] [1, 2, 4, 5, 6, 8, 9, 10] [1, 2, 5, 8]))
(.region [
⟨some 73, .mov (.tmp 10), none⟩,
⟨some 74, .bin .add (.tmp 73) (.val (.pv (.int .i64 1))), none⟩,
⟨some 10, .mov (.tmp 74), none⟩] [1, 2, 4, 5, 6, 8, 9, 10] [1, 2, 5, 8])))))))))
(.seq
(.region [
⟨some 94, .bin .eql (.tmp 44) (.val (.pv (.int .i64 5))), none⟩,
⟨some 93, .mov (.tmp 94), none⟩] [1, 2, 4, 5, 6, 7, 8, 44, 93] [1, 2, 5, 7, 8])
(.cond (.tmp 93)
(.region [
⟨some 95, .load 1 true (.tmp 1), none⟩,
⟨some 96, .mov (.tmp 6), none⟩,
⟨some 97, .call (.val (.func 302 [])) [(.tmp 95), (.tmp 96), (.val (.pv (.bool true)))], none⟩,
⟨some 98, .fld 6 (.tmp 8), none⟩,
⟨none, .store 1 (.tmp 98) (.tmp 97), none⟩] [1, 2, 4, 5, 6, 8] [1, 2, 5, 8])
(.seq
(.region [
⟨some 100, .bin .eql (.tmp 44) (.val (.pv (.int .i64 6))), none⟩,
⟨some 99, .mov (.tmp 100), none⟩] [1, 2, 4, 5, 6, 7, 8, 44, 99] [1, 2, 5, 7, 8])
(.cond (.tmp 99)
(.seq
(.region [
⟨some 101, .fld 2 (.tmp 7), none⟩,
⟨some 102, .load 1 false (.tmp 101), none⟩,
⟨some 103, .bin .rem (.tmp 102) (.val (.pv (.int .u8 2))), none⟩,
⟨some 104, .bin .eql (.tmp 103) (.val (.pv (.int .u8 1))), none⟩,
⟨some 105, .fld 9 (.tmp 8), none⟩,
⟨none, .store 1 (.tmp 105) (.tmp 104), none⟩] [1, 2, 4, 5, 6, 8] [1, 2, 5, 8])
(.seq
(.region [
⟨some 106, .load 1 true (.tmp 1), none⟩,
⟨some 107, .mov (.tmp 6), none⟩,
⟨some 108, .call (.val (.func 302 [])) [(.tmp 106), (.tmp 107), (.val (.pv (.bool false)))], none⟩,
⟨some 109, .fld 6 (.tmp 8), none⟩,
⟨none, .store 1 (.tmp 109) (.tmp 108), none⟩] [1, 2, 4, 5, 6, 8] [1, 2, 5, 8])
(.seq
(.region [
⟨some 110, .fld 6 (.tmp 8), none⟩,
⟨some 111, .load 1 false (.tmp 110), none⟩,
⟨some 112, .len 0 (.tmp 111), none⟩,
⟨some 113, .bin .eql (.tmp 112) (.val (.pv (.int .i64 0))), none⟩] [1, 2, 4, 5, 6, 8, 113] [1, 2, 5, 8])
(.cond (.tmp 113)
(.region [
⟨some 114, .fld 1 (.tmp 8), none⟩,
⟨some 115, .load 1 false (.tmp 114), none⟩,
⟨some 116, .build [.pv (.int .i64 0), .pv (.str ⟨#[]⟩), .pv (.int .i64 0), .pv (.int .i64 0), .pv (.int .i64 0), .tl [], .tl [], .pv (.int .i64 0), .pv (.int .i64 0), .pv (.bool false)] [(0, 1, (.val (.pv (.int .i64 5)))), (1, 1, (.tmp 115))], none⟩,
⟨none, .store 10 (.tmp 8) (.tmp 116), none⟩] [1, 2, 4, 5, 6, 8] [1, 2, 5, 8])
.skip))))
(.seq
(.region [
⟨some 118, .bin .eql (.tmp 44) (.val (.pv (.int .i64 7))), none⟩,
⟨some 117, .mov (.tmp 118), none⟩] [1, 2, 4, 5, 6, 7, 8, 44, 117] [1, 2, 5, 7, 8])
(.cond (.tmp 117)
(.draw [
(⟨some 119, .fld 1 (.tmp 7), none⟩, []),
(⟨some 120, .load 1 false (.tmp 119), none⟩, []),
(⟨some 121, .bin .rem (.tmp 120) (.val (.pv (.int .u8 4))), none⟩, []),
(⟨some 122, .conv .i64 (.tmp 121), none⟩, []),
(⟨some 123, .fld 3 (.tmp 7), none⟩, []),
(⟨some 124, .load 1 false (.tmp 123), none⟩, []),
(⟨some 125, .conv .i64 (.tmp 124), none⟩, []),
(⟨some 126, .mov (.tmp 4), none⟩, []),
(⟨some 127, .bin .rem (.tmp 125) (.tmp 126), none⟩, []),
(⟨some 128, .fld 4 (.tmp 8), none⟩, []),
(⟨none, .store 1 (.tmp 128) (.tmp 122), none⟩, [5]),
(⟨some 129, .fld 8 (.tmp 8), none⟩, []),
(⟨none, .store 1 (.tmp 129) (.tmp 127), none⟩, [])] [1, 2, 4, 5, 6, 8] [1, 2, 5, 8])
(.seq
(.region [
⟨some 131, .bin .eql (.tmp 44) (.val (.pv (.int .i64 8))), none⟩,
⟨some 130, .mov (.tmp 131), none⟩] [1, 2, 4, 5, 6, 7, 8, 44, 130] [1, 2, 5, 7, 8])
(.cond (.tmp 130)
(.seq
(.draw [
(⟨some 132, .fld 1 (.tmp 7), none⟩, []),
(⟨some 133, .load 1 false (.tmp 132), none⟩, []),
(⟨some 134, .bin .rem (.tmp 133) (.val (.pv (.int .u8 4))), none⟩, []),
(⟨some 135, .conv .i64 (.tmp 134), none⟩, []),
(⟨some 136, .load 1 true (.tmp 1), none⟩, []),
(⟨some 137, .fld 2 (.tmp 7), none⟩, []),
(⟨some 138, .load 1 false (.tmp 137), none⟩, []),
(⟨some 139, .call (.val (.func 303 [])) [(.tmp 136), (.tmp 138)], none⟩, [1]),
(⟨some 140, .fld 3 (.tmp 7), none⟩, []),
(⟨some 141, .load 1 false (.tmp 140), none⟩, [7]),
(⟨some 142, .conv .i64 (.tmp 141), none⟩, []),
(⟨some 143, .mov (.tmp 4), none⟩, []),
(⟨some 144, .bin .rem (.tmp 142) (.tmp 143), none⟩, []),
(⟨some 145, .fld 4 (.tmp 8), none⟩, []),
(⟨none, .store 1 (.tmp 145) (.tmp 135), none⟩, [9]),
(⟨some 146, .fld 7 (.tmp 8), none⟩, []),
(⟨none, .store 1 (.tmp 146) (.tmp 139), none⟩, [9]),
(⟨some 147, .fld 8 (.tmp 8), none⟩, []),
(⟨none, .store 1 (.tmp 147) (.tmp 144), none⟩, [])] [1, 2, 4, 5, 6, 8] [1, 2, 5, 8])
(.seq
(.region [
⟨some 148, .fld 7 (.tmp 8), none⟩,
⟨some 149, .load 1 false (.tmp 148), none⟩,
⟨some 150, .bin .lss (.tmp 149) (.val (.pv (.int .i64 0))), none⟩] [1, 2, 4, 5, 6, 8, 150] [1, 2, 5, 8])
(.cond (.tmp 150)
(.region [
⟨some 151, .fld 4 (.tmp 8), none⟩,
⟨some 152, .load 1 false (.tmp 151), none⟩,
⟨some 153, .fld 8 (.tmp 8), none⟩,
⟨some 154, .load 1 false (.tmp 153), none⟩,
⟨some 155, .build [.pv (.int .i64 0), .pv (.str ⟨#[]⟩), .pv (.int .i64 0), .pv (.int .i64 0), .pv (.int .i64 0), .tl [], .tl [], .pv (.int .i64 0), .pv (.int .i64 0), .pv (.bool false)] [(0, 1, (.val (.pv (.int .i64 7)))), (4, 1, (.tmp 152)), (8, 1, (.tmp 154))], none⟩,
⟨none, .store 10 (.tmp 8) (.tmp 155), none⟩] [1, 2, 4, 5, 6, 8] [1, 2, 5, 8])
.skip)))
(.seq
(.region [
⟨some 157, .bin .eql (.tmp 44) (.val (.pv (.int .i64 9))), none⟩,
⟨some 156, .mov (.tmp 157), none⟩] [1, 2, 4, 5, 6, 7, 8, 156] [1, 2, 5, 7, 8])
(.cond (.tmp 156)
(.region [
⟨some 158, .fld 3 (.tmp 7), none⟩,
⟨some 159, .load 1 false (.tmp 158), none⟩,
⟨some 160, .conv .i64 (.tmp 159), none⟩,
⟨some 161, .mov (.tmp 4), none⟩,
⟨some 162, .bin .rem (.tmp 160) (.tmp 161), none⟩,
⟨some 163, .fld 8 (.tmp 8), none⟩,
⟨none, .store 1 (.tmp 163) (.tmp 162), none⟩] [1, 2, 4, 5, 6, 8] [1, 2, 5, 8])
.skip))))))))))))))))))
(.region [
⟨some 164, .fld 0 (.tmp 5), none⟩,
⟨some 165, .load 1 false (.tmp 164), none⟩,
⟨some 166, .load 10 true (.tmp 8), none⟩,
⟨some 167, .lit 10 [.pv (.int .i64 0), .pv (.str ⟨#[]⟩), .pv (.int .i64 0), .pv (.int .i64 0), .pv (.int .i64 0), .tl [], .tl [], .pv (.int .i64 0), .pv (.int .i64 0), .pv (.bool false)] 1 [(0, 10, (.tmp 166))], none⟩,
⟨some 168, .app 10 (.tmp 165) (.tmp 167), none⟩,
⟨some 169, .fld 0 (.tmp 5), none⟩,
⟨none, .store 1 (.tmp 169) (.tmp 168), none⟩] [1, 2, 4, 5, 6] [1, 2, 5]))))))
(.region [
⟨some 24, .mov (.tmp 6), none⟩,
⟨some 25, .bin .add (.tmp 24) (.val (.pv (.int .i64 1))), none⟩,
⟨some 6, .mov (.tmp 25), none⟩] [1, 2, 4, 5, 6] [1, 2, 5])))))))
(.seq
(.region [
⟨some 170, .load 1 true (.tmp 5), none⟩,
⟨none, .store 1 (.tmp 2) (.tmp 170), none⟩,
⟨some 3, .mov (.val (.pv (.bool true))), none⟩] [2, 3] [2])
.ret)))))),
[.cell 2 1 true, .tmp 3], false, false⟩
def F280 : AFunc := ⟨0,
(.seq
(.region [
⟨some 0, .alloc 0 [.tl []], none⟩] [0] [0])
(.seq
(.region [
⟨some 2, .build [.pv (.int .i64 0), .pv (.str ⟨#[]⟩), .pv (.int .i64 0), .pv (.bool false), .pv (.bool false), .pv (.int .i64 0), .pv (.bool false), .pv (.int .i64 0), .pv (.str ⟨#[]⟩), .pv (.int .i64 0), .tl [], .tl [], .tl []] [(0, 1, (.val (.pv (.int .i64 1)))), (1, 1, (.val (.pv (.str ⟨#[118, 97, 108, 117, 101]⟩)))), (2, 1, (.val (.pv (.int .i64 1))))], none⟩,
⟨some 3, .build [.pv (.int .i64 0), .pv (.str ⟨#[]⟩), .pv (.int .i64 0), .pv (.bool false), .pv (.bool false), .pv (.int .i64 0), .pv (.bool false), .pv (.int .i64 0), .pv (.str ⟨#[]⟩), .pv (.int .i64 0), .tl [], .tl [], .tl []] [(0, 1, (.val (.pv (.int .i64 2)))), (1, 1, (.val (.pv (.str ⟨#[110, 101, 120, 116]⟩)))), (2, 1, (.val (.pv (.int .i64 2))))], none⟩,
⟨some 4, .lit 13 [.pv (.int .i64 0), .pv (.str ⟨#[]⟩), .pv (.int .i64 0), .pv (.bool false), .pv (.bool false), .pv (.int .i64 0), .pv (.bool false), .pv (.int .i64 0), .pv (.str ⟨#[]⟩), .pv (.int .i64 0), .tl [], .tl [], .tl []] 2 [(0, 13, (.tmp 2)), (13, 13, (.tmp 3))], none⟩,
⟨some 5, .build [.pv (.int .i64 0), .pv (.str ⟨#[]⟩), .pv (.int .i64 0), .pv (.int .i64 0), .pv (.int .i64 0), .tl [], .tl [], .pv (.int .i64 0), .pv (.int .i64 0), .pv (.bool false)] [(0, 1, (.val (.pv (.int .i64 5)))), (1, 1, (.val (.pv (.str ⟨#[78, 111, 100, 101]⟩)))), (6, 1, (.tmp 4))], none⟩,
⟨some 1, .alloc 1 [.pv (.int .i64 0), .pv (.str ⟨#[]⟩), .pv (.int .i64 0), .pv (.int .i64 0), .pv (.int .i64 0), .tl [], .tl [], .pv (.int .i64 0), .pv (.int .i64 0), .pv (.bool false)], none⟩,
⟨none, .store 10 (.tmp 1) (.tmp 5), none⟩] [0, 1] [0, 1])
(.seq
(.region [
⟨some 6, .load 10 true (.tmp 1), none⟩,
⟨some 7, .build [.pv (.int .i64 0), .pv (.str ⟨#[]⟩), .pv (.int .i64 0), .pv (.int .i64 0), .pv (.int .i64 0), .tl [], .tl [], .pv (.int .i64 0), .pv (.int .i64 0), .pv (.bool false)] [(0, 1, (.val (.pv (.int .i64 2)))), (3, 1, (.val (.pv (.int .i64 9))))], none⟩,
⟨some 8, .build [.pv (.int .i64 0), .pv (.str ⟨#[]⟩), .pv (.int .i64 0), .pv (.int .i64 0), .pv (.int .i64 0), .tl [], .tl [], .pv (.int .i64 0), .pv (.int .i64 0), .pv (.bool false)] [(0, 1, (.val (.pv (.int .i64 9))))], none⟩,
⟨some 9, .lit 10 [.pv (.int .i64 0), .pv (.str ⟨#[]⟩), .pv (.int .i64 0), .pv (.int .i64 0), .pv (.int .i64 0), .tl [], .tl [], .pv (.int .i64 0), .pv (.int .i64 0), .pv (.bool false)] 3 [(0, 10, (.tmp 6)), (10, 10, (.tmp 7)), (20, 10, (.tmp 8))], none⟩,
⟨some 10, .build [.tl []] [(0, 1, (.tmp 9))], none⟩,
⟨none, .store 1 (.tmp 0) (.tmp 10), none⟩] [0] [0])
.ret))),
[.cell 0 1 true], false, false⟩
def F281 : AFunc := ⟨2,
(.seq
(.region [
⟨some 2, .box 2 10 (.tmp 0), none⟩,
⟨some 3, .box 3 1 (.tmp 1), none⟩,
⟨some 4, .mov (.val (.pv (.int .i64 0))), none⟩,
⟨some 5, .mov (.val (.pv (.bool false))), none⟩] [2, 3] [2, 3])
(.seq
(.region [
⟨some 7, .fld 6 (.tmp 2), none⟩,
⟨some 8, .load 1 false (.tmp 7), none⟩,
⟨some 9, .clos 305 [(.tmp 3)], none⟩,
⟨some 10, .call (.val (.func 304 [])) [(.tmp 8), (.tmp 9)], none⟩,
⟨some 6, .mov (.tmp 10), none⟩] [6] [])
(.seq
(.region [
⟨some 11, .mov (.tmp 6), none⟩,
⟨some 12, .minmax true [(.tmp 11), (.val (.pv (.int .i64 0)))], none⟩,
⟨some 13, .mov (.tmp 6), none⟩,
⟨some 14, .bin .geq (.tmp 13) (.val (.pv (.int .i64 0))), none⟩,
⟨some 4, .mov (.tmp 12), none⟩,
⟨some 5, .mov (.tmp 14), none⟩] [4, 5] [])
.ret))),
[.tmp 4, .tmp 5], false, false⟩
def F283 : AFunc := ⟨1,
(.seq
(.region [
⟨some 1, .box 1 10 (.tmp 0), none⟩,
⟨some 2, .mov (.val (.pv (.bool false))), none⟩] [1] [1])
(.seq
(.region [
⟨some 5, .load 10 true (.tmp 1), none⟩,
⟨some 3, .alloc 3 [.pv (.int .i64 0), .pv (.str ⟨#[]⟩), .pv (.int .i64 0), .pv (.int .i64 0), .pv (.int .i64 0), .tl [], .tl [], .pv (.int .i64 0), .pv (.int .i64 0), .pv (.bool false)], none⟩,
⟨none, .store 10 (.tmp 3) (.tmp 5), none⟩] [1, 3] [1, 3])
(.seq
(.region [
⟨some 6, .fld 0 (.tmp 3), none⟩,
⟨none, .store 1 (.tmp 6) (.val (.pv (.int .i64 0))), none⟩] [1, 3] [1, 3])
(.seq
(.region [
⟨some 4, .mov (.val (.pv (.bool true))), none⟩] [1, 3, 4] [1, 3])
(.seq
(.seq
(.region [
⟨some 7, .fld 0 (.tmp 1), none⟩,
⟨some 8, .load 1 false (.tmp 7), none⟩] [1, 3, 4, 8] [1, 3])
(.block 0
(.seq
(.region [
⟨some 10, .bin .eql (.tmp 8) (.val (.pv (.int .i64 1))), none⟩,
⟨some 9, .mov (.tmp 10), none⟩] [1, 3, 4, 8, 9] [1, 3])
(.cond (.tmp 9)
.skip
(.seq
(.region [
⟨some 12, .bin .eql (.tmp 8) (.val (.pv (.int .i64 2))), none⟩,
⟨some 11, .mov (.tmp 12), none⟩] [1, 3, 4, 8, 11] [1, 3])
(.cond (.tmp 11)
(.seq
(.region [
⟨some 13, .fld 2 (.tmp 1), none⟩,
⟨some 14, .load 1 false (.tmp 13), none⟩,
⟨some 15, .fld 3 (.tmp 1), none⟩,
⟨some 16, .load 1 false (.tmp 15), none⟩,
⟨some 17, .bin .leq (.tmp 14) (.tmp 16), none⟩,
⟨some 4, .mov (.tmp 17), none⟩] [3, 4] [3])
(.region [
⟨some 18, .fld 2 (.tmp 3), none⟩,
⟨none, .store 1 (.tmp 18) (.val (.pv (.int .i64 0))), none⟩,
⟨some 19, .fld 3 (.tmp 3), none⟩,
⟨none, .store 1 (.tmp 19) (.val (.pv (.int .i64 0))), none⟩] [3, 4] [3]))
(.seq
(.region [
⟨some 21, .bin .eql (.tmp 8) (.val (.pv (.int .i64 3))), none⟩,
⟨some 20, .mov (.tmp 21), none⟩] [1, 3, 4, 8, 20] [1, 3])
(.cond (.tmp 20)
(.seq
(.region [
⟨some 22, .fld 4 (.tmp 1), none⟩,
⟨some 23, .load 1 false (.tmp 22), none⟩,
⟨some 24, .bin .geq (.tmp 23) (.val (.pv (.int .i64 0))), none⟩,
⟨some 25, .mov (.tmp 24), none⟩,
⟨some 26, .fld 4 (.tmp 1), some (25, true)⟩,
⟨some 27, .load 1 false (.tmp 26), some (25, true)⟩,
⟨some 28, .bin .leq (.tmp 27) (.val (.pv (.int .i64 200))), some (25, true)⟩,
⟨some 29, .pick (.tmp 25) (.tmp 28) (.val (.pv (.bool false))), none⟩,
⟨some 4, .mov (.tmp 29), none⟩] [3, 4] [3])
(.region [
⟨some 30, .fld 4 (.tmp 3), none⟩,
⟨none, .store 1 (.tmp 30) (.val (.pv (.int .i64 0))), none⟩] [3, 4] [3]))
(.seq
(.region [
⟨some 32, .bin .eql (.tmp 8) (.val (.pv (.int .i64 4))), none⟩,
⟨some 31, .mov (.tmp 32), none⟩] [1, 3, 4, 8, 31] [1, 3])
(.cond (.tmp 31)
(.seq
(.region [
⟨some 33, .fld 1 (.tmp 1), none⟩,
⟨some 34, .load 1 false (.tmp 33), none⟩,
⟨some 35, .call (.val (.func 306 [])) [(.tmp 34)], none⟩,
⟨some 36, .mov (.tmp 35), none⟩,
⟨some 37, .fld 5 (.tmp 1), some (36, true)⟩,
⟨some 38, .load 1 false (.tmp 37), some (36, true)⟩,
⟨some 39, .call (.val (.func 307 [])) [(.tmp 38)], some (36, true)⟩,
⟨some 40, .pick (.tmp 36) (.tmp 39) (.val (.pv (.bool false))), none⟩,
⟨some 4, .mov (.tmp 40), none⟩] [3, 4] [3])
(.region [
⟨some 41, .fld 1 (.tmp 3), none⟩,
⟨none, .store 1 (.tmp 41) (.val (.pv (.str ⟨#[]⟩))), none⟩,
⟨some 42, .fld 5 (.tmp 3), none⟩,
⟨none, .store 1 (.tmp 42) (.val (.tl [])), none⟩,
⟨some 43, .fld 9 (.tmp 3), none⟩,
⟨none, .store 1 (.tmp 43) (.val (.pv (.bool false))), none⟩] [3, 4] [3]))
(.seq
(.seq
(.region [
⟨some 45, .bin .eql (.tmp 8) (.val (.pv (.int .i64 5))), none⟩,
⟨some 44, .mov (.tmp 45), none⟩] [1, 3, 4, 8, 44] [1, 3])
(.cond (.tmp 44)
.skip
(.region [
⟨some 46, .bin .eql (.tmp 8) (.val (.pv (.int .i64 6))), none⟩,
⟨some 44, .mov (.tmp 46), none⟩] [1, 3, 4, 8, 44] [1, 3])))
(.cond (.tmp 44)
(.seq
(.region [
⟨some 47, .fld 1 (.tmp 1), none⟩,
⟨some 48, .load 1 false (.tmp 47), none⟩,
⟨some 49, .call (.val (.func 306 [])) [(.tmp 48)], none⟩,
⟨some 50, .mov (.tmp 49), none⟩,
⟨some 51, .load 10 true (.tmp 1), some (50, true)⟩,
⟨some 52, .call (.val (.func 308 [])) [(.tmp 51)], some (50, true)⟩,
⟨some 53, .pick (.tmp 50) (.tmp 52) (.val (.pv (.bool false))), none⟩,
⟨some 4, .mov (.tmp 53), none⟩] [1, 3, 4] [1, 3])
(.seq
(.region [
⟨some 54, .fld 1 (.tmp 3), none⟩,
⟨none, .store 1 (.tmp 54) (.val (.pv (.str ⟨#[]⟩))), none⟩,
⟨some 55, .fld 6 (.tmp 3), none⟩,
⟨none, .store 1 (.tmp 55) (.val (.tl [])), none⟩] [1, 3, 4] [1, 3])
(.region [
⟨some 56, .fld 9 (.tmp 1), none⟩,
⟨some 57, .load 1 false (.tmp 56), none⟩,
⟨some 58, .mov (.tmp 57), none⟩,
⟨some 59, .fld 0 (.tmp 1), some (58, true)⟩,
⟨some 60, .load 1 false (.tmp 59), some (58, true)⟩,
⟨some 61, .bin .eql (.tmp 60) (.val (.pv (.int .i64 5))), some (58, true)⟩,
⟨some 62, .pick (.tmp 58) (.tmp 61) (.val (.pv (.bool false))), none⟩,
⟨some 63, .fld 9 (.tmp 3), none⟩,
⟨none, .store 1 (.tmp 63) (.tmp 62), none⟩] [3, 4] [3])))
(.seq
(.seq
(.region [
⟨some 65, .bin .eql (.tmp 8) (.val (.pv (.int .i64 7))), none⟩,
⟨some 64, .mov (.tmp 65), none⟩] [1, 3, 4, 8, 64] [1, 3])
(.cond (.tmp 64)
.skip
(.region [
⟨some 66, .bin .eql (.tmp 8) (.val (.pv (.int .i64 8))), none⟩,
⟨some 64, .mov (.tmp 66), none⟩] [1, 3, 4, 8, 64] [1, 3])))
(.cond (.tmp 64)
(.seq
(.region [
⟨some 67, .fld 4 (.tmp 1), none⟩,
⟨some 68, .load 1 false (.tmp 67), none⟩,
⟨some 69, .bin .geq (.tmp 68) (.val (.pv (.int .i64 0))), none⟩,
⟨some 70, .mov (.tmp 69), none⟩,
⟨some 71, .fld 4 (.tmp 1), some (70, true)⟩,
⟨some 72, .load 1 false (.tmp 71), some (70, true)⟩,
⟨some 73, .bin .leq (.tmp 72) (.val (.pv (.int .i64 50))), some (70, true)⟩,
⟨some 74, .pick (.tmp 70) (.tmp 73) (.val (.pv (.bool false))), none⟩,
⟨some 4, .mov (.tmp 74), none⟩] [1, 3, 4] [1, 3])
(.seq
(.region [
⟨some 75, .fld 4 (.tmp 3), none⟩,
⟨none, .store 1 (.tmp 75) (.val (.pv (.int .i64 0))), none⟩,
⟨some 76, .fld 8 (.tmp 3), none⟩,
⟨none, .store 1 (.tmp 76) (.val (.pv (.int .i64 0))), none⟩] [1, 3, 4] [1, 3])
(.seq
(.region [
⟨some 77, .fld 0 (.tmp 1), none⟩,
⟨some 78, .load 1 false (.tmp 77), none⟩,
⟨some 79, .bin .eql (.tmp 78) (.val (.pv (.int .i64 8))), none⟩] [3, 4, 79] [3])
(.cond (.tmp 79)
(.region [
⟨some 80, .fld 7 (.tmp 3), none⟩,
⟨none, .store 1 (.tmp 80) (.val (.pv (.int .i64 0))), none⟩] [3, 4] [3])
.skip))))
(.seq
(.region [
⟨some 82, .bin .eql (.tmp 8) (.val (.pv (.int .i64 9))), none⟩,
⟨some 81, .mov (.tmp 82), none⟩] [3, 4, 81] [3])
(.cond (.tmp 81)
(.region [
⟨some 83, .fld 8 (.tmp 3), none⟩,
⟨none, .store 1 (.tmp 83) (.val (.pv (.int .i64 0))), none⟩] [3, 4] [3])
(.seq
(.region [
⟨some 2, .mov (.val (.pv (.bool false))), none⟩] [2] [])
.ret)))))))))))))))))
(.seq
(.region [
⟨some 84, .mov (.tmp 4), none⟩,
⟨some 85, .mov (.tmp 84), none⟩,
⟨some 86, .load 10 true (.tmp 3), some (85, true)⟩,
⟨some 87, .build [.pv (.int .i64 0), .pv (.str ⟨#[]⟩), .pv (.int .i64 0), .pv (.int .i64 0), .pv (.int .i64 0), .tl [], .tl [], .pv (.int .i64 0), .pv (.int .i64 0), .pv (.bool false)] [], some (85, true)⟩,
⟨some 88, .call (.val (.func 297 [])) [(.tmp 86), (.tmp 87)], some (85, true)⟩,
⟨some 89, .pick (.tmp 85) (.tmp 88) (.val (.pv (.bool false))), none⟩,
⟨some 2, .mov (.tmp 89), none⟩] [2] [])
.ret)))))),
[.tmp 2], false, false⟩
def F284 : AFunc := ⟨1,
(.seq
(.region [
⟨some 1, .box 1 10 (.tmp 0), none⟩,
⟨some 2, .mov (.val (.tl [])), none⟩] [1] [1])
(.seq
(.region [
⟨some 3, .mov (.val (.tl [])), none⟩] [1, 3] [1])
(.seq
(.seq
(.region [
⟨some 6, .fld 6 (.tmp 1), none⟩,
⟨some 7, .load 1 false (.tmp 6), none⟩,
⟨some 8, .len 0 (.tmp 7), none⟩,
⟨some 9, .mov (.val (.pv (.int .i64 0))), none⟩] [1, 3, 7, 8, 9] [1])
(.block 0
(.loop
(.mask [1, 3, 7, 8, 9] [1]
(.seq
(.region [
⟨some 10, .bin .lss (.tmp 9) (.tmp 8), none⟩] [1, 3, 7, 8, 9, 10] [1])
(.seq
(.cond (.tmp 10)
.skip
(.exit 0))
(.seq
(.block 1
(.seq
(.region [
⟨some 11, .idx 13 (.tmp 7) (.tmp 9), none⟩,
⟨some 12, .load 13 true (.tmp 11), none⟩,
⟨some 5, .alloc 5 [.pv (.int .i64 0), .pv (.str ⟨#[]⟩), .pv (.int .i64 0), .pv (.bool false), .pv (.bool false), .pv (.int .i64 0), .pv (.bool false), .pv (.int .i64 0), .pv (.str ⟨#[]⟩), .pv (.int .i64 0), .tl [], .tl [], .tl []], none⟩,
⟨none, .store 13 (.tmp 5) (.tmp 12), none⟩] [1, 3, 5, 7, 8, 9] [1, 5])
(.region [
⟨some 13, .mov (.tmp 3), none⟩,
⟨some 14, .fld 2 (.tmp 5), none⟩,
⟨some 15, .load 1 false (.tmp 14), none⟩,
⟨some 16, .lit 1 [.pv (.int .i64 0)] 1 [(0, 1, (.tmp 15))], none⟩,
⟨some 17, .app 1 (.tmp 13) (.tmp 16), none⟩,
⟨some 3, .mov (.tmp 17), none⟩] [1, 3, 7, 8, 9] [1])))
(.region [
⟨some 18, .bin .add (.tmp 9) (.val (.pv (.int .i64 1))), none⟩,
⟨some 9, .mov (.tmp 18), none⟩] [1, 3, 7, 8, 9] [1]))))))))
(.seq
(.seq
(.region [
⟨some 19, .fld 0 (.tmp 1), none⟩,
⟨some 20, .load 1 false (.tmp 19), none⟩,
⟨some 21, .bin .eql (.tmp 20) (.val (.pv (.int .i64 8))), none⟩] [1, 3, 21] [1])
(.cond (.tmp 21)
(.region [
⟨some 22, .mov (.tmp 3), none⟩,
⟨some 23, .fld 7 (.tmp 1), none⟩,
⟨some 24, .load 1 false (.tmp 23), none⟩,
⟨some 25, .lit 1 [.pv (.int .i64 0)] 1 [(0, 1, (.tmp 24))], none⟩,
⟨some 26, .app 1 (.tmp 22) (.tmp 25), none⟩,
⟨some 3, .mov (.tmp 26), none⟩] [1, 3] [1])
.skip))
(.seq
(.seq
(.region [
⟨some 27, .fld 0 (.tmp 1), none⟩,
⟨some 28, .load 1 false (.tmp 27), none⟩,
⟨some 29, .bin .geq (.tmp 28) (.val (.pv (.int .i64 7))), none⟩] [1, 3, 29] [1])
(.cond (.tmp 29)
(.region [
⟨some 30, .mov (.tmp 3), none⟩,
⟨some 31, .fld 8 (.tmp 1), none⟩,
⟨some 32, .load 1 false (.tmp 31), none⟩,
⟨some 33, .lit 1 [.pv (.int .i64 0)] 1 [(0, 1, (.tmp 32))], none⟩,
⟨some 34, .app 1 (.tmp 30) (.tmp 33), none⟩,
⟨some 3, .mov (.tmp 34), none⟩] [3] [])
.skip))
(.seq
(.region [
⟨some 35, .mov (.tmp 3), none⟩,
⟨some 2, .mov (.tmp 35), none⟩] [2] [])
.ret)))))),
[.tmp 2], false, false⟩
def F286 : AFunc := ⟨1,
(.seq
(.region [
⟨some 2, .mov (.val (.pv (.bool false))), none⟩] [0] [])
(.seq
(.region [
⟨some 3, .mov (.tmp 0), none⟩,
⟨some 4, .bin .eql (.tmp 3) (.val (.pv (.int .i64 4))), none⟩,
⟨some 5, .mov (.tmp 4), none⟩,
⟨some 6, .mov (.tmp 0), some (5, false)⟩,
⟨some 7, .bin .eql (.tmp 6) (.val (.pv (.int .i64 5))), some (5, false)⟩,
⟨some 8, .pick (.tmp 5) (.val (.pv (.bool true))) (.tmp 7), none⟩,
⟨some 9, .mov (.tmp 8), none⟩,
⟨some 10, .mov (.tmp 0), some (9, false)⟩,
⟨some 11, .bin .eql (.tmp 10) (.val (.pv (.int .i64 6))), some (9, false)⟩,
⟨some 12, .pick (.tmp 9) (.val (.pv (.bool true))) (.tmp 11), none⟩,
⟨some 2, .mov (.tmp 12), none⟩] [2] [])
.ret)),
[.tmp 2], false, false⟩
def F288 : AFunc := ⟨1,
(.seq
(.region [
⟨some 2, .mov (.val (.pv (.bool false))), none⟩] [0] [])
(.seq
(.region [
⟨some 3, .mov (.tmp 0), none⟩,
⟨some 4, .bin .geq (.tmp 3) (.val (.pv (.int .i64 1))), none⟩,
⟨some 5, .mov (.tmp 4), none⟩,
⟨some 6, .mov (.tmp 0), some (5, true)⟩,
⟨some 7, .bin .leq (.tmp 6) (.val (.pv (.int .i64 4))), some (5, true)⟩,
⟨some 8, .pick (.tmp 5) (.tmp 7) (.val (.pv (.bool false))), none⟩,
⟨some 2, .mov (.tmp 8), none⟩] [2] [])
.ret)),
[.tmp 2], false, false⟩
def F289 : AFunc := ⟨2,
(.seq
(.region [
⟨some 4, .mov (.val (.pv (.int .i64 0))), none⟩] [0, 1] [])
(.seq
(.seq
(.region [
⟨some 6, .mov (.tmp 0), none⟩,
⟨some 7, .len 0 (.tmp 6), none⟩,
⟨some 8, .mov (.val (.pv (.int .i64 0))), none⟩] [0, 1, 7, 8] [])
(.block 0
(.loop
(.mask [0, 1, 7, 8] []
(.seq
(.region [
⟨some 9, .bin .lss (.tmp 8) (.tmp 7), none⟩] [0, 1, 7, 8, 9] [])
(.seq
(.cond (.tmp 9)
.skip
(.exit 0))
(.seq
(.block 1
(.seq
(.region [
⟨some 10, .mov (.tmp 8), none⟩,
⟨some 5, .mov (.tmp 10), none⟩] [0, 1, 5, 7, 8] [])
(.seq
(.region [
⟨some 11, .mov (.tmp 1), none⟩,
⟨some 12, .mov (.tmp 0), none⟩,
⟨some 13, .mov (.tmp 5), none⟩,
⟨some 14, .idx 10 (.tmp 12) (.tmp 13), none⟩,
⟨some 15, .load 10 true (.tmp 14), none⟩,
⟨some 16, .call (.tmp 11) [(.tmp 15)], none⟩] [0, 1, 5, 7, 8, 16] [])
(.cond (.tmp 16)
(.seq
(.region [
⟨some 17, .mov (.tmp 5), none⟩,
⟨some 4, .mov (.tmp 17), none⟩] [4] [])
.ret)
.skip))))
(.region [
⟨some 18, .bin .add (.tmp 8) (.val (.pv (.int .i64 1))), none⟩,
⟨some 8, .mov (.tmp 18), none⟩] [0, 1, 7, 8] []))))))))
(.seq
(.region [
⟨some 4, .mov (.val (.pv (.int .i64 (-1)))), none⟩] [4] [])
.ret))),
[.tmp 4], false, false⟩
def F290 : AFunc := ⟨2,
(.seq
(.region [
⟨some 2, .box 2 10 (.tmp 0), none⟩,
⟨some 3, .mov (.val (.pv (.bool false))), none⟩] [1, 2] [2])
(.seq
(.region [
⟨some 4, .fld 1 (.tmp 2), none⟩,
⟨some 5, .load 1 false (.tmp 4), none⟩,
⟨some 6, .load 1 false (.tmp 1), none⟩,
⟨some 7, .bin .eql (.tmp 5) (.tmp 6), none⟩,
⟨some 8, .mov (.tmp 7), none⟩,
⟨some 9, .fld 0 (.tmp 2), some (8, true)⟩,
⟨some 10, .load 1 false (.tmp 9), some (8, true)⟩,
⟨some 11, .bin .geq (.tmp 10) (.val (.pv (.int .i64 4))), some (8, true)⟩,
⟨some 12, .pick (.tmp 8) (.tmp 11) (.val (.pv (.bool false))), none⟩,
⟨some 13, .mov (.tmp 12), none⟩,
⟨some 14, .fld 0 (.tmp 2), some (13, true)⟩,
⟨some 15, .load 1 false (.tmp 14), some (13, true)⟩,
⟨some 16, .bin .leq (.tmp 15) (.val (.pv (.int .i64 6))), some (13, true)⟩,
⟨some 17, .pick (.tmp 13) (.tmp 16) (.val (.pv (.bool false))), none⟩,
⟨some 3, .mov (.tmp 17), none⟩] [3] [])
.ret)),
[.tmp 3], false, false⟩
def F291 : AFunc := ⟨2,
(.seq
(.region [
⟨some 2, .box 2 1 (.tmp 0), none⟩,
⟨some 4, .mov (.val (.pv (.int .i64 0))), none⟩] [1, 2] [2])
(.seq
(.seq
(.region [
⟨some 6, .load 1 true (.tmp 2), none⟩,
⟨some 7, .call (.val (.func 267 [])) [(.tmp 6)], none⟩,
⟨some 5, .mov (.tmp 7), none⟩] [1, 2, 5] [2])
(.seq
(.region [
⟨some 8, .mov (.tmp 5), none⟩,
⟨some 9, .bin .neq (.tmp 8) (.val (.pv (.int .i64 0))), none⟩] [1, 2, 5, 9] [2])
(.cond (.tmp 9)
(.seq
(.region [
⟨some 10, .mov (.tmp 5), none⟩,
⟨some 4, .mov (.tmp 10), none⟩] [4] [])
.ret)
.skip)))
(.seq
(.seq
(.region [
⟨some 11, .mov (.tmp 1), none⟩,
⟨some 12, .bin .lss (.tmp 11) (.val (.pv (.int .i64 0))), none⟩,
⟨some 13, .mov (.tmp 12), none⟩,
⟨some 14, .mov (.tmp 1), some (13, false)⟩,
⟨some 15, .fld 0 (.tmp 2), some (13, false)⟩,
⟨some 16, .load 1 false (.tmp 15), some (13, false)⟩,
⟨some 17, .len 0 (.tmp 16), some (13, false)⟩,
⟨some 18, .bin .geq (.tmp 14) (.tmp 17), some (13, false)⟩,
⟨some 19, .pick (.tmp 13) (.val (.pv (.bool true))) (.tmp 18), none⟩] [19] [])
(.cond (.tmp 19)
(.seq
(.region [
⟨some 4, .mov (.val (.pv (.int .i64 4))), none⟩] [4] [])
.ret)
.skip))
(.seq
(.region [
⟨some 4, .mov (.val (.pv (.int .i64 0))), none⟩] [4] [])
.ret)))),
[.tmp 4], false, false⟩
def F293 : AFunc := ⟨2,
(.seq
(.region [
⟨some 4, .mov (.val (.pv (.bool false))), none⟩] [0, 1] [])
(.seq
(.seq
(.region [
⟨some 5, .mov (.val (.pv (.int .i64 0))), none⟩] [0, 1, 5] [])
(.block 0
(.loop
(.mask [0, 1, 5] []
(.seq
(.seq
(.region [
⟨some 6, .mov (.tmp 5), none⟩,
⟨some 7, .mov (.tmp 0), none⟩,
⟨some 8, .len 0 (.tmp 7), none⟩,
⟨some 9, .bin .lss (.tmp 6) (.tmp 8), none⟩] [0, 1, 5, 9] [])
(.cond (.tmp 9)
.skip
(.exit 0)))
(.seq
(.block 1
(.seq
(.region [
⟨some 12, .mov (.tmp 0), none⟩,
⟨some 13, .mov (.tmp 5), none⟩,
⟨some 14, .idx 1 (.tmp 12) (.tmp 13), none⟩,
⟨some 15, .load 1 false (.tmp 14), none⟩,
⟨some 16, .mov (.tmp 1), none⟩,
⟨some 17, .bin .eql (.tmp 15) (.tmp 16), none⟩] [0, 1, 5, 17] [])
(.cond (.tmp 17)
(.seq
(.region [
⟨some 4, .mov (.val (.pv (.bool true))), none⟩] [4] [])
.ret)
.skip)))
(.region [
⟨some 10, .mov (.tmp 5), none⟩,
⟨some 11, .bin .add (.tmp 10) (.val (.pv (.int .i64 1))), none⟩,
⟨some 5, .mov (.tmp 11), none⟩] [0, 1, 5] [])))))))
(.seq
(.region [
⟨some 4, .mov (.val (.pv (.bool false))), none⟩] [4] [])
.ret))),
[.tmp 4], false, false⟩
def F294 : AFunc := ⟨1,
(.seq
(.region [
⟨some 1, .box 1 10 (.tmp 0), none⟩,
⟨some 2, .alloc 2 [.pv (.int .i64 0), .pv (.str ⟨#[]⟩), .pv (.int .i64 0), .pv (.int .i64 0), .pv (.int .i64 0), .tl [], .tl [], .pv (.int .i64 0), .pv (.int .i64 0), .pv (.bool false)], none⟩] [1, 2] [1, 2])
(.seq
(.region [
⟨some 4, .fld 5 (.tmp 1), none⟩,
⟨some 5, .load 1 false (.tmp 4), none⟩,
⟨some 6, .call (.val (.func 313 [])) [(.tmp 5)], none⟩,
⟨some 7, .fld 5 (.tmp 1), none⟩,
⟨none, .store 1 (.tmp 7) (.tmp 6), none⟩] [1, 2] [1, 2])
(.seq
(.region [
⟨some 8, .fld 6 (.tmp 1), none⟩,
⟨some 9, .load 1 false (.tmp 8), none⟩,
⟨some 10, .call (.val (.func 314 [])) [(.tmp 9)], none⟩,
⟨some 11, .fld 6 (.tmp 1), none⟩,
⟨none, .store 1 (.tmp 11) (.tmp 10), none⟩] [1, 2] [1, 2])
(.seq
(.seq
(.region [
⟨some 12, .fld 6 (.tmp 1), none⟩,
⟨some 13, .load 1 false (.tmp 12), none⟩,
⟨some 14, .len 0 (.tmp 13), none⟩,
⟨some 15, .mov (.val (.pv (.int .i64 0))), none⟩] [1, 2, 14, 15] [1, 2])
(.block 0
(.loop
(.mask [1, 2, 14, 15] [1, 2]
(.seq
(.region [
⟨some 16, .bin .lss (.tmp 15) (.tmp 14), none⟩] [1, 2, 14, 15, 16] [1, 2])
(.seq
(.cond (.tmp 16)
.skip
(.exit 0))
(.seq
(.block 1
(.seq
(.region [
⟨some 17, .mov (.tmp 15), none⟩,
⟨some 3, .mov (.tmp 17), none⟩] [1, 2, 3, 14, 15] [1, 2])
(.draw [
(⟨some 18, .fld 6 (.tmp 1), none⟩, []),
(⟨some 19, .load 1 false (.tmp 18), none⟩, []),
(⟨some 20, .mov (.tmp 3), none⟩, []),
(⟨some 21, .fld 6 (.tmp 1), none⟩, []),
(⟨some 22, .load 1 false (.tmp 21), none⟩, []),
(⟨some 23, .mov (.tmp 3), none⟩, []),
(⟨some 24, .idx 13 (.tmp 22) (.tmp 23), none⟩, []),
(⟨some 25, .fld 5 (.tmp 24), none⟩, []),
(⟨some 26, .load 8 true (.tmp 25), none⟩, []),
(⟨some 27, .call (.val (.func 315 [])) [(.tmp 26)], none⟩, [1]),
(⟨some 28, .idx 13 (.tmp 19) (.tmp 20), none⟩, []),
(⟨some 29, .fld 5 (.tmp 28), none⟩, []),
(⟨none, .store 8 (.tmp 29) (.tmp 27), none⟩, [])] [1, 2, 14, 15] [1, 2])))
(.region [
⟨some 30, .bin .add (.tmp 15) (.val (.pv (.int .i64 1))), none⟩,
⟨some 15, .mov (.tmp 30), none⟩] [1, 2, 14, 15] [1, 2]))))))))
(.seq
(.region [
⟨some 31, .load 10 true (.tmp 1), none⟩,
⟨none, .store 10 (.tmp 2) (.tmp 31), none⟩] [2] [2])
.ret))))),
[.cell 2 10 true], true, false⟩
def F295 : AFunc := ⟨2,
(.seq
(.region [
⟨some 2, .box 2 10 (.tmp 0), none⟩,
⟨some 3, .box 3 10 (.tmp 1), none⟩,
⟨some 4, .mov (.val (.pv (.bool false))), none⟩] [2, 3] [2, 3])
(.seq
(.seq
(.region [
⟨some 7, .fld 0 (.tmp 2), none⟩,
⟨some 8, .load 1 false (.tmp 7), none⟩,
⟨some 9, .fld 0 (.tmp 3), none⟩,
⟨some 10, .load 1 false (.tmp 9), none⟩,
⟨some 11, .bin .neq (.tmp 8) (.tmp 10), none⟩,
⟨some 12, .mov (.tmp 11), none⟩,
⟨some 13, .fld 1 (.tmp 2), some (12, false)⟩,
⟨some 14, .load 1 false (.tmp 13), some (12, false)⟩,
⟨some 15, .fld 1 (.tmp 3), some (12, false)⟩,
⟨some 16, .load 1 false (.tmp 15), some (12, false)⟩,
⟨some 17, .bin .neq (.tmp 14) (.tmp 16), some (12, false)⟩,
⟨some 18, .pick (.tmp 12) (.val (.pv (.bool true))) (.tmp 17), none⟩,
⟨some 19, .mov (.tmp 18), none⟩,
⟨some 20, .fld 2 (.tmp 2), some (19, false)⟩,
⟨some 21, .load 1 false (.tmp 20), some (19, false)⟩,
⟨some 22, .fld 2 (.tmp 3), some (19, false)⟩,
⟨some 23, .load 1 false (.tmp 22), some (19, false)⟩,
⟨some 24, .bin .neq (.tmp 21) (.tmp 23), some (19, false)⟩,
⟨some 25, .pick (.tmp 19) (.val (.pv (.bool true))) (.tmp 24), none⟩,
⟨some 26, .mov (.tmp 25), none⟩,
⟨some 27, .fld 3 (.tmp 2), some (26, false)⟩,
⟨some 28, .load 1 false (.tmp 27), some (26, false)⟩,
⟨some 29, .fld 3 (.tmp 3), some (26, false)⟩,
⟨some 30, .load 1 false (.tmp 29), some (26, false)⟩,
⟨some 31, .bin .neq (.tmp 28) (.tmp 30), some (26, false)⟩,
⟨some 32, .pick (.tmp 26) (.val (.pv (.bool true))) (.tmp 31), none⟩,
⟨some 33, .mov (.tmp 32), none⟩,
⟨some 34, .fld 4 (.tmp 2), some (33, false)⟩,
⟨some 35, .load 1 false (.tmp 34), some (33, false)⟩,
⟨some 36, .fld 4 (.tmp 3), some (33, false)⟩,
⟨some 37, .load 1 false (.tmp 36), some (33, false)⟩,
⟨some 38, .bin .neq (.tmp 35) (.tmp 37), some (33, false)⟩,
⟨some 39, .pick (.tmp 33) (.val (.pv (.bool true))) (.tmp 38), none⟩,
⟨some 40, .mov (.tmp 39), none⟩,
⟨some 41, .fld 7 (.tmp 2), some (40, false)⟩,
⟨some 42, .load 1 false (.tmp 41), some (40, false)⟩,
⟨some 43, .fld 7 (.tmp 3), some (40, false)⟩,
⟨some 44, .load 1 false (.tmp 43), some (40, false)⟩,
⟨some 45, .bin .neq (.tmp 42) (.tmp 44), some (40, false)⟩,
⟨some 46, .pick (.tmp 40) (.val (.pv (.bool true))) (.tmp 45), none⟩,
⟨some 47, .mov (.tmp 46), none⟩,
⟨some 48, .fld 8 (.tmp 2), some (47, false)⟩,
⟨some 49, .load 1 false (.tmp 48), some (47, false)⟩,
⟨some 50, .fld 8 (.tmp 3), some (47, false)⟩,
⟨some 51, .load 1 false (.tmp 50), some (47, false)⟩,
⟨some 52, .bin .neq (.tmp 49) (.tmp 51), some (47, false)⟩,
⟨some 53, .pick (.tmp 47) (.val (.pv (.bool true))) (.tmp 52), none⟩,
⟨some 54, .mov (.tmp 53), none⟩,
⟨some 55, .fld 9 (.tmp 2), some (54, false)⟩,
⟨some 56, .load 1 false (.tmp 55), some (54, false)⟩,
⟨some 57, .fld 9 (.tmp 3), some (54, false)⟩,
⟨some 58, .load 1 false (.tmp 57), some (54, false)⟩,
⟨some 59, .eqa false [0] true (.tmp 56) (.tmp 58), some (54, false)⟩,
⟨some 60, .pick (.tmp 54) (.val (.pv (.bool true))) (.tmp 59), none⟩,
⟨some 61, .mov (.tmp 60), none⟩,
⟨some 62, .fld 5 (.tmp 2), some (61, false)⟩,
⟨some 63, .load 1 false (.tmp 62), some (61, false)⟩,
⟨some 64, .len 0 (.tmp 63), some (61, false)⟩,
⟨some 65, .fld 5 (.tmp 3), some (61, false)⟩,
⟨some 66, .load 1 false (.tmp 65), some (61, false)⟩,
⟨some 67, .len 0 (.tmp 66), some (61, false)⟩,
⟨some 68, .bin .neq (.tmp 64) (.tmp 67), some (61, false)⟩,
⟨some 69, .pick (.tmp 61) (.val (.pv (.bool true))) (.tmp 68), none⟩,
⟨some 70, .mov (.tmp 69), none⟩,
⟨some 71, .fld 6 (.tmp 2), some (70, false)⟩,
⟨some 72, .load 1 false (.tmp 71), some (70, false)⟩,
⟨some 73, .len 0 (.tmp 72), some (70, false)⟩,
⟨some 74, .fld 6 (.tmp 3), some (70, false)⟩,
⟨some 75, .load 1 false (.tmp 74), some (70, false)⟩,
⟨some 76, .len 0 (.tmp 75), some (70, false)⟩,
⟨some 77, .bin .neq (.tmp 73) (.tmp 76), some (70, false)⟩,
⟨some 78, .pick (.tmp 70) (.val (.pv (.bool true))) (.tmp 77), none⟩] [2, 3, 78] [2, 3])
(.cond (.tmp 78)
(.seq
(.region [
⟨some 4, .mov (.val (.pv (.bool false))), none⟩] [4] [])
.ret)
.skip))
(.seq
(.seq
(.region [
⟨some 5, .mov (.val (.pv (.int .i64 0))), none⟩] [2, 3, 5] [2, 3])
(.block 0
(.loop
(.mask [2, 3, 5] [2, 3]
(.seq
(.seq
(.region [
⟨some 79, .mov (.tmp 5), none⟩,
⟨some 80, .fld 5 (.tmp 2), none⟩,
⟨some 81, .load 1 false (.tmp 80), none⟩,
⟨some 82, .len 0 (.tmp 81), none⟩,
⟨some 83, .bin .lss (.tmp 79) (.tmp 82), none⟩] [2, 3, 5, 83] [2, 3])
(.cond (.tmp 83)
.skip
(.exit 0)))
(.seq
(.block 1
(.seq
(.draw [
(⟨some 86, .fld 5 (.tmp 2), none⟩, []),
(⟨some 87, .load 1 false (.tmp 86), none⟩, []),
(⟨some 88, .mov (.tmp 5), none⟩, []),
(⟨some 89, .idx 2 (.tmp 87) (.tmp 88), none⟩, []),
(⟨some 90, .load 2 true (.tmp 89), none⟩, []),
(⟨some 91, .fld 5 (.tmp 3), none⟩, []),
(⟨some 92, .load 1 false (.tmp 91), none⟩, []),
(⟨some 93, .mov (.tmp 5), none⟩, []),
(⟨some 94, .idx 2 (.tmp 92) (.tmp 93), none⟩, []),
(⟨some 95, .load 2 true (.tmp 94), none⟩, []),
(⟨some 96, .eqa true [1, 2] true (.tmp 90) (.tmp 95), none⟩, [])] [2, 3, 5, 96] [2, 3])
(.cond (.tmp 96)
(.seq
(.region [
⟨some 4, .mov (.val (.pv (.bool false))), none⟩] [4] [])
.ret)
.skip)))
(.region [
⟨some 84, .mov (.tmp 5), none⟩,
⟨some 85, .bin .add (.tmp 84) (.val (.pv (.int .i64 1))), none⟩,
⟨some 5, .mov (.tmp 85), none⟩] [2, 3, 5] [2, 3])))))))
(.seq
(.seq
(.region [
⟨some 6, .mov (.val (.pv (.int .i64 0))), none⟩] [2, 3, 6] [2, 3])
(.block 2
(.loop
(.mask [2, 3, 6] [2, 3]
(.seq
(.seq
(.region [
⟨some 97, .mov (.tmp 6), none⟩,
⟨some 98, .fld 6 (.tmp 2), none⟩,
⟨some 99, .load 1 false (.tmp 98), none⟩,
⟨some 100, .len 0 (.tmp 99), none⟩,
⟨some 101, .bin .lss (.tmp 97) (.tmp 100), none⟩] [2, 3, 6, 101] [2, 3])
(.cond (.tmp 101)
.skip
(.exit 2)))
(.seq
(.block 3
(.seq
(.draw [
(⟨some 104, .fld 6 (.tmp 2), none⟩, []),
(⟨some 105, .load 1 false (.tmp 104), none⟩, []),
(⟨some 106, .mov (.tmp 6), none⟩, []),
(⟨some 107, .idx 13 (.tmp 105) (.tmp 106), none⟩, []),
(⟨some 108, .load 13 true (.tmp 107), none⟩, []),
(⟨some 109, .fld 6 (.tmp 3), none⟩, []),
(⟨some 110, .load 1 false (.tmp 109), none⟩, []),
(⟨some 111, .mov (.tmp 6), none⟩, []),
(⟨some 112, .idx 13 (.tmp 110) (.tmp 111), none⟩, []),
(⟨some 113, .load 13 true (.tmp 112), none⟩, []),
(⟨some 114, .call (.val (.func 316 [])) [(.tmp 108), (.tmp 113)], none⟩, []),
(⟨some 115, .un .not (.tmp 114), none⟩, [])] [2, 3, 6, 115] [2, 3])
(.cond (.tmp 115)
(.seq
(.region [
⟨some 4, .mov (.val (.pv (.bool false))), none⟩] [4] [])
.ret)
.skip)))
(.region [
⟨some 102, .mov (.tmp 6), none⟩,
⟨some 103, .bin .add (.tmp 102) (.val (.pv (.int .i64 1))), none⟩,
⟨some 6, .mov (.tmp 103), none⟩] [2, 3, 6] [2, 3])))))))
(.seq
(.region [
⟨some 4, .mov (.val (.pv (.bool true))), none⟩] [4] [])
.ret))))),
[.tmp 4], false, false⟩
def F296 : AFunc := ⟨3,
(.seq
(.region [
⟨some 6, .mov (.val (.pv (.bool false))), none⟩] [0, 1, 2] [])
(.seq
(.seq
(.region [
⟨some 10, .mov (.tmp 0), none⟩,
⟨some 11, .len 0 (.tmp 10), none⟩,
⟨some 12, .mov (.tmp 1), none⟩,
⟨some 13, .len 0 (.tmp 12), none⟩,
⟨some 14, .bin .neq (.tmp 11) (.tmp 13), none⟩] [0, 1, 2, 14] [])
(.cond (.tmp 14)
(.seq
(.region [
⟨some 6, .mov (.val (.pv (.bool false))), none⟩] [6] [])
.ret)
.skip))
(.seq
(.seq
(.region [
⟨some 15, .mov (.tmp 0), none⟩,
⟨some 16, .len 0 (.tmp 15), none⟩,
⟨some 17, .mov (.val (.pv (.int .i64 0))), none⟩] [1, 2, 15, 16, 17] [])
(.block 0
(.loop
(.mask [1, 2, 15, 16, 17] []
(.seq
(.region [
⟨some 18, .bin .lss (.tmp 17) (.tmp 16), none⟩] [1, 2, 15, 16, 17, 18] [])
(.seq
(.cond (.tmp 18)
.skip
(.exit 0))
(.seq
(.block 1
(.seq
(.region [
⟨some 19, .mov (.tmp 17), none⟩,
⟨some 20, .idx 10 (.tmp 15) (.tmp 17), none⟩,
⟨some 21, .load 10 true (.tmp 20), none⟩,
⟨some 8, .alloc 8 [.pv (.int .i64 0), .pv (.str ⟨#[]⟩), .pv (.int .i64 0), .pv (.int .i64 0), .pv (.int .i64 0), .tl [], .tl [], .pv (.int .i64 0), .pv (.int .i64 0), .pv (.bool false)], none⟩,
⟨some 7, .mov (.tmp 19), none⟩,
⟨none, .store 10 (.tmp 8) (.tmp 21), none⟩] [1, 2, 7, 8, 15, 16, 17] [8])
(.seq
(.region [
⟨some 22, .mov (.tmp 1), none⟩,
⟨some 23, .mov (.tmp 7), none⟩,
⟨some 24, .idx 10 (.tmp 22) (.tmp 23), none⟩,
⟨some 25, .load 10 true (.tmp 24), none⟩,
⟨some 9, .alloc 9 [.pv (.int .i64 0), .pv (.str ⟨#[]⟩), .pv (.int .i64 0), .pv (.int .i64 0), .pv (.int .i64 0), .tl [], .tl [], .pv (.int .i64 0), .pv (.int .i64 0), .pv (.bool false)], none⟩,
⟨none, .store 10 (.tmp 9) (.tmp 25), none⟩] [1, 2, 8, 9, 15, 16, 17] [8, 9])
(.seq
(.region [
⟨some 26, .mov (.tmp 2), none⟩,
⟨some 27, .load 10 true (.tmp 8), none⟩,
⟨some 28, .load 10 true (.tmp 9), none⟩,
⟨some 29, .call (.tmp 26) [(.tmp 27), (.tmp 28)], none⟩,
⟨some 30, .un .not (.tmp 29), none⟩] [1, 2, 15, 16, 17, 30] [])
(.cond (.tmp 30)
(.seq
(.region [
⟨some 6, .mov (.val (.pv (.bool false))), none⟩] [6] [])
.ret)
.skip)))))
(.region [
⟨some 31, .bin .add (.tmp 17) (.val (.pv (.int .i64 1))), none⟩,
⟨some 17, .mov (.tmp 31), none⟩] [1, 2, 15, 16, 17] []))))))))
(.seq
(.region [
⟨some 6, .mov (.val (.pv (.bool true))), none⟩] [6] [])
.ret)))),
[.tmp 6], false, false⟩
def F297 : AFunc := ⟨2,
(.seq
(.region [
⟨some 2, .box 2 10 (.tmp 0), none⟩,
⟨some 3, .box 3 10 (.tmp 1), none⟩,
⟨some 4, .mov (.val (.pv (.bool false))), none⟩] [2, 3] [2, 3])
(.seq
(.region [
⟨some 5, .fld 0 (.tmp 2), none⟩,
⟨some 6, .load 1 false (.tmp 5), none⟩,
⟨some 7, .fld 0 (.tmp 3), none⟩,
⟨some 8, .load 1 false (.tmp 7), none⟩,
⟨some 9, .bin .eql (.tmp 6) (.tmp 8), none⟩,
⟨some 10, .mov (.tmp 9), none⟩,
⟨some 11, .fld 1 (.tmp 2), some (10, true)⟩,
⟨some 12, .load 1 false (.tmp 11), some (10, true)⟩,
⟨some 13, .fld 1 (.tmp 3), some (10, true)⟩,
⟨some 14, .load 1 false (.tmp 13), some (10, true)⟩,
⟨some 15, .bin .eql (.tmp 12) (.tmp 14), some (10, true)⟩,
⟨some 16, .pick (.tmp 10) (.tmp 15) (.val (.pv (.bool false))), none⟩,
⟨some 17, .mov (.tmp 16), none⟩,
⟨some 18, .fld 2 (.tmp 2), some (17, true)⟩,
⟨some 19, .load 1 false (.tmp 18), some (17, true)⟩,
⟨some 20, .fld 2 (.tmp 3), some (17, true)⟩,
⟨some 21, .load 1 false (.tmp 20), some (17, true)⟩,
⟨some 22, .bin .eql (.tmp 19) (.tmp 21), some (17, true)⟩,
⟨some 23, .pick (.tmp 17) (.tmp 22) (.val (.pv (.bool false))), none⟩,
⟨some 24, .mov (.tmp 23), none⟩,
⟨some 25, .fld 3 (.tmp 2), some (24, true)⟩,
⟨some 26, .load 1 false (.tmp 25), some (24, true)⟩,
⟨some 27, .fld 3 (.tmp 3), some (24, true)⟩,
⟨some 28, .load 1 false (.tmp 27), some (24, true)⟩,
⟨some 29, .bin .eql (.tmp 26) (.tmp 28), some (24, true)⟩,
⟨some 30, .pick (.tmp 24) (.tmp 29) (.val (.pv (.bool false))), none⟩,
⟨some 31, .mov (.tmp 30), none⟩,
⟨some 32, .fld 4 (.tmp 2), some (31, true)⟩,
⟨some 33, .load 1 false (.tmp 32), some (31, true)⟩,
⟨some 34, .fld 4 (.tmp 3), some (31, true)⟩,
⟨some 35, .load 1 false (.tmp 34), some (31, true)⟩,
⟨some 36, .bin .eql (.tmp 33) (.tmp 35), some (31, true)⟩,
⟨some 37, .pick (.tmp 31) (.tmp 36) (.val (.pv (.bool false))), none⟩,
⟨some 38, .mov (.tmp 37), none⟩,
⟨some 39, .fld 7 (.tmp 2), some (38, true)⟩,
⟨some 40, .load 1 false (.tmp 39), some (38, true)⟩,
⟨some 41, .fld 7 (.tmp 3), some (38, true)⟩,
⟨some 42, .load 1 false (.tmp 41), some (38, true)⟩,
⟨some 43, .bin .eql (.tmp 40) (.tmp 42), some (38, true)⟩,
⟨some 44, .pick (.tmp 38) (.tmp 43) (.val (.pv (.bool false))), none⟩,
⟨some 45, .mov (.tmp 44), none⟩,
⟨some 46, .fld 8 (.tmp 2), some (45, true)⟩,
⟨some 47, .load 1 false (.tmp 46), some (45, true)⟩,
⟨some 48, .fld 8 (.tmp 3), some (45, true)⟩,
⟨some 49, .load 1 false (.tmp 48), some (45, true)⟩,
⟨some 50, .bin .eql (.tmp 47) (.tmp 49), some (45, true)⟩,
⟨some 51, .pick (.tmp 45) (.tmp 50) (.val (.pv (.bool false))), none⟩,
⟨some 52, .mov (.tmp 51), none⟩,
⟨some 53, .fld 9 (.tmp 2), some (52, true)⟩,
⟨some 54, .load 1 false (.tmp 53), some (52, true)⟩,
⟨some 55, .fld 9 (.tmp 3), some (52, true)⟩,
⟨some 56, .load 1 false (.tmp 55), some (52, true)⟩,
⟨some 57, .eqa false [0] false (.tmp 54) (.tmp 56), some (52, true)⟩,
⟨some 58, .pick (.tmp 52) (.tmp 57) (.val (.pv (.bool false))), none⟩,
⟨some 59, .mov (.tmp 58), none⟩,
⟨some 60, .fld 5 (.tmp 2), some (59, true)⟩,
⟨some 61, .load 1 false (.tmp 60), some (59, true)⟩,
⟨some 62, .fld 5 (.tmp 3), some (59, true)⟩,
⟨some 63, .load 1 false (.tmp 62), some (59, true)⟩,
⟨some 64, .call (.val (.func 317 [])) [(.tmp 61), (.tmp 63)], some (59, true)⟩,
⟨some 65, .pick (.tmp 59) (.tmp 64) (.val (.pv (.bool false))), none⟩,
⟨some 66, .mov (.tmp 65), none⟩,
⟨some 67, .fld 6 (.tmp 2), some (66, true)⟩,
⟨some 68, .load 1 false (.tmp 67), some (66, true)⟩,
⟨some 69, .fld 6 (.tmp 3), some (66, true)⟩,
⟨some 70, .load 1 false (.tmp 69), some (66, true)⟩,
⟨some 71, .call (.val (.func 318 [])) [(.tmp 68), (.tmp 70), (.val (.func 319 []))], some (66, true)⟩,
⟨some 72, .pick (.tmp 66) (.tmp 71) (.val (.pv (.bool false))), none⟩,
⟨some 4, .mov (.tmp 72), none⟩] [4] [])
.ret)),
[.tmp 4], false, false⟩
def F298 : AFunc := ⟨2,
(.seq
(.region [
⟨some 2, .box 2 1 (.tmp 0), none⟩,
⟨some 4, .mov (.val (.pv (.int .i64 0))), none⟩] [1, 2] [2])
(.seq
(.region [
⟨some 5, .fld 0 (.tmp 2), none⟩,
⟨some 6, .load 1 false (.tmp 5), none⟩,
⟨some 7, .mov (.tmp 1), none⟩,
⟨some 8, .idx 5 (.tmp 6) (.tmp 7), none⟩,
⟨some 9, .fld 0 (.tmp 8), none⟩,
⟨some 10, .load 1 false (.tmp 9), none⟩,
⟨some 11, .bin .rem (.tmp 10) (.val (.pv (.int .u8 9))), none⟩,
⟨some 12, .conv .i64 (.tmp 11), none⟩,
⟨some 13, .bin .add (.val (.pv (.int .i64 1))) (.tmp 12), none⟩,
⟨some 4, .mov (.tmp 13), none⟩] [4] [])
.ret)),
[.tmp 4], false, false⟩
def F299 : AFunc := ⟨1,
(.seq
(.region [
⟨some 1, .box 1 5 (.tmp 0), none⟩,
⟨some 2, .mov (.val (.pv (.int .i64 0))), none⟩] [1] [1])
(.seq
(.region [
⟨some 3, .fld 1 (.tmp 1), none⟩,
⟨some 4, .load 1 false (.tmp 3), none⟩,
⟨some 5, .bin .rem (.tmp 4) (.val (.pv (.int .u8 7))), none⟩,
⟨some 6, .conv .i64 (.tmp 5), none⟩,
⟨some 7, .bin .sub (.tmp 6) (.val (.pv (.int .i64 3))), none⟩,
⟨some 2, .mov (.tmp 7), none⟩] [2] [])
.ret)),
[.tmp 2], false, false⟩
def F300 : AFunc := ⟨1,
(.seq
(.region [
⟨some 1, .box 1 5 (.tmp 0), none⟩,
⟨some 2, .mov (.val (.pv (.int .i64 0))), none⟩] [1] [1])
(.seq
(.draw [
(⟨some 3, .load 5 true (.tmp 1), none⟩, []),
(⟨some 4, .call (.val (.func 299 [])) [(.tmp 3)], none⟩, []),
(⟨some 5, .fld 2 (.tmp 1), none⟩, []),
(⟨some 6, .load 1 false (.tmp 5), none⟩, [1]),
(⟨some 7, .bin .rem (.tmp 6) (.val (.pv (.int .u8 6))), none⟩, []),
(⟨some 8, .conv .i64 (.tmp 7), none⟩, []),
(⟨some 9, .bin .add (.tmp 4) (.tmp 8), none⟩, []),
(⟨some 2, .mov (.tmp 9), none⟩, [])] [2] [])
.ret)),
[.tmp 2], false, false⟩
def F301 : AFunc := ⟨1,
(.seq
(.region [
⟨some 1, .box 1 5 (.tmp 0), none⟩,
⟨some 2, .mov (.val (.tl [])), none⟩] [1] [1])
(.seq
(.region [
⟨some 3, .mov (.val (.tl [])), none⟩] [1, 3] [1])
(.seq
(.seq
(.region [
⟨some 4, .mov (.val (.pv (.int .i64 0))), none⟩] [1, 3, 4] [1])
(.block 0
(.loop
(.mask [1, 3, 4] [1]
(.seq
(.seq
(.region [
⟨some 5, .mov (.tmp 4), none⟩,
⟨some 6, .bin .lss (.tmp 5) (.val (.pv (.int .i64 6))), none⟩] [1, 3, 4, 6] [1])
(.cond (.tmp 6)
.skip
(.exit 0)))
(.seq
(.block 1
(.seq
(.region [
⟨some 9, .fld 1 (.tmp 1), none⟩,
⟨some 10, .load 1 false (.tmp 9), none⟩,
⟨some 11, .mov (.tmp 4), none⟩,
⟨some 12, .bin .shr (.tmp 10) (.tmp 11), none⟩,
⟨some 13, .bin .rem (.tmp 12) (.val (.pv (.int .u8 2))), none⟩,
⟨some 14, .bin .eql (.tmp 13) (.val (.pv (.int .u8 1))), none⟩] [1, 3, 4, 14] [1])
(.cond (.tmp 14)
(.region [
⟨some 15, .mov (.tmp 3), none⟩,
⟨some 16, .mov (.tmp 4), none⟩,
⟨some 17, .bin .add (.tmp 16) (.val (.pv (.int .i64 1))), none⟩,
⟨some 18, .lit 1 [.pv (.int .i64 0)] 1 [(0, 1, (.tmp 17))], none⟩,
⟨some 19, .app 1 (.tmp 15) (.tmp 18), none⟩,
⟨some 3, .mov (.tmp 19), none⟩] [1, 3, 4] [1])
.skip)))
(.region [
⟨some 7, .mov (.tmp 4), none⟩,
⟨some 8, .bin .add (.tmp 7) (.val (.pv (.int .i64 1))), none⟩,
⟨some 4, .mov (.tmp 8), none⟩] [1, 3, 4] [1])))))))
(.seq
(.seq
(.region [
⟨some 20, .mov (.tmp 3), none⟩,
⟨some 21, .len 0 (.tmp 20), none⟩,
⟨some 22, .bin .eql (.tmp 21) (.val (.pv (.int .i64 0))), none⟩] [3, 22] [])
(.cond (.tmp 22)
(.region [
⟨some 23, .mov (.tmp 3), none⟩,
⟨some 24, .lit 1 [.pv (.int .i64 0)] 1 [(0, 1, (.val (.pv (.int .i64 1))))], none⟩,
⟨some 25, .app 1 (.tmp 23) (.tmp 24), none⟩,
⟨some 3, .mov (.tmp 25), none⟩] [3] [])
.skip))
(.seq
(.region [
⟨some 26, .mov (.tmp 3), none⟩,
⟨some 2, .mov (.tmp 26), none⟩] [2] [])
.ret))))),
[.tmp 2], false, false⟩
def F302 : AFunc := ⟨3,
(.seq
(.region [
⟨some 3, .box 3 1 (.tmp 0), none⟩,
⟨some 6, .mov (.val (.tl [])), none⟩] [1, 2, 3] [3])
(.seq
(.region [
⟨some 14, .fld 0 (.tmp 3), none⟩,
⟨some 15, .load 1 false (.tmp 14), none⟩,
⟨some 16, .mov (.tmp 1), none⟩,
⟨some 17, .idx 5 (.tmp 15) (.tmp 16), none⟩,
⟨some 18, .load 5 true (.tmp 17), none⟩,
⟨some 7, .alloc 7 [.pv (.int .u8 0), .pv (.int .u8 0), .pv (.int .u8 0), .pv (.int .u8 0), .tl []], none⟩,
⟨none, .store 5 (.tmp 7) (.tmp 18), none⟩] [1, 2, 3, 7] [3, 7])
(.seq
(.region [
⟨some 8, .mov (.val (.tl [])), none⟩] [1, 2, 3, 7, 8] [3, 7])
(.seq
(.seq
(.region [
⟨some 9, .mov (.val (.pv (.int .i64 1))), none⟩] [1, 2, 3, 7, 8, 9] [3, 7])
(.block 0
(.loop
(.mask [1, 2, 3, 7, 8, 9] [3, 7]
(.seq
(.seq
(.region [
⟨some 19, .mov (.tmp 9), none⟩,
⟨some 20, .bin .leq (.tmp 19) (.val (.pv (.int .i64 12))), none⟩] [1, 2, 3, 7, 8, 9, 20] [3, 7])
(.cond (.tmp 20)
.skip
(.exit 0)))
(.seq
(.block 1
(.seq
(.region [
⟨some 10, .mov (.val (.pv (.int .i64 0))), none⟩] [1, 2, 3, 7, 8, 9, 10] [3, 7])
(.block 2
(.loop
(.mask [1, 2, 3, 7, 8, 9, 10] [3, 7]
(.seq
(.seq
(.region [
⟨some 23, .mov (.tmp 10), none⟩,
⟨some 24, .fld 4 (.tmp 7), none⟩,
⟨some 25, .load 1 false (.tmp 24), none⟩,
⟨some 26, .len 0 (.tmp 25), none⟩,
⟨some 27, .bin .lss (.tmp 23) (.tmp 26), none⟩] [1, 2, 3, 7, 8, 9, 10, 27] [3, 7])
(.cond (.tmp 27)
.skip
(.exit 2)))
(.seq
(.block 3
(.seq
(.region [
⟨some 30, .fld 4 (.tmp 7), none⟩,
⟨some 31, .load 1 false (.tmp 30), none⟩,
⟨some 32, .mov (.tmp 10), none⟩,
⟨some 33, .idx 3 (.tmp 31) (.tmp 32), none⟩,
⟨some 34, .load 3 true (.tmp 33), none⟩,
⟨some 11, .alloc 11 [.pv (.int .u8 0), .pv (.int .u8 0), .pv (.int .u8 0)], none⟩,
⟨none, .store 3 (.tmp 11) (.tmp 34), none⟩] [1, 2, 3, 7, 8, 9, 10, 11] [3, 7, 11])
(.seq
(.region [
⟨some 35, .load 1 true (.tmp 3), none⟩,
⟨some 36, .mov (.tmp 1), none⟩,
⟨some 37, .fld 1 (.tmp 11), none⟩,
⟨some 38, .load 1 false (.tmp 37), none⟩,
⟨some 39, .call (.val (.func 321 [])) [(.tmp 35), (.tmp 36), (.tmp 38)], none⟩,
⟨some 12, .mov (.tmp 39), none⟩] [1, 2, 3, 7, 8, 9, 10, 11, 12] [3, 7, 11])
(.seq
(.seq
(.region [
⟨some 40, .fld 0 (.tmp 11), none⟩,
⟨some 41, .load 1 false (.tmp 40), none⟩,
⟨some 42, .bin .rem (.tmp 41) (.val (.pv (.int .u8 12))), none⟩,
⟨some 43, .conv .i64 (.tmp 42), none⟩,
⟨some 44, .bin .add (.val (.pv (.int .i64 1))) (.tmp 43), none⟩,
⟨some 45, .mov (.tmp 9), none⟩,
⟨some 46, .bin .neq (.tmp 44) (.tmp 45), none⟩,
⟨some 47, .mov (.tmp 46), none⟩,
⟨some 48, .mov (.tmp 12), some (47, false)⟩,
⟨some 49, .bin .lss (.tmp 48) (.val (.pv (.int .i64 0))), some (47, false)⟩,
⟨some 50, .pick (.tmp 47) (.val (.pv (.bool true))) (.tmp 49), none⟩] [1, 2, 3, 7, 8, 9, 10, 11, 12, 50] [3, 7, 11])
(.cond (.tmp 50)
(.exit 3)
.skip))
(.seq
(.region [
⟨some 51, .mov (.tmp 9), none⟩,
⟨some 52, .mov (.tmp 9), none⟩,
⟨some 53, .bin .add (.val (.pv (.int .i64 97))) (.tmp 52), none⟩,
⟨some 54, .conv .i32 (.tmp 53), none⟩,
⟨some 55, .convs (.tmp 54), none⟩,
⟨some 56, .bin .add (.val (.pv (.str ⟨#[109]⟩))) (.tmp 55), none⟩,
⟨some 57, .mov (.tmp 12), none⟩,
⟨some 58, .build [.pv (.int .i64 0), .pv (.str ⟨#[]⟩), .pv (.int .i64 0), .pv (.bool false), .pv (.bool false), .pv (.int .i64 0), .pv (.bool false), .pv (.int .i64 0), .pv (.str ⟨#[]⟩), .pv (.int .i64 0), .tl [], .tl [], .tl []] [(0, 1, (.tmp 51)), (1, 1, (.tmp 56)), (2, 1, (.tmp 57))], none⟩,
⟨some 13, .alloc 13 [.pv (.int .i64 0), .pv (.str ⟨#[]⟩), .pv (.int .i64 0), .pv (.bool false), .pv (.bool false), .pv (.int .i64 0), .pv (.bool false), .pv (.int .i64 0), .pv (.str ⟨#[]⟩), .pv (.int .i64 0), .tl [], .tl [], .tl []], none⟩,
⟨none, .store 13 (.tmp 13) (.tmp 58), none⟩] [1, 2, 3, 7, 8, 9, 11, 12, 13] [3, 7, 11, 13])
(.seq
(.seq
(.region [
⟨some 59, .mov (.tmp 2), none⟩,
⟨some 60, .mov (.tmp 59), none⟩,
⟨some 61, .fld 2 (.tmp 11), some (60, true)⟩,
⟨some 62, .load 1 false (.tmp 61), some (60, true)⟩,
⟨some 63, .bin .rem (.tmp 62) (.val (.pv (.int .u8 4))), some (60, true)⟩,
⟨some 64, .bin .eql (.tmp 63) (.val (.pv (.int .u8 1))), some (60, true)⟩,
⟨some 65, .pick (.tmp 60) (.tmp 64) (.val (.pv (.bool false))), none⟩] [1, 2, 3, 7, 8, 9, 11, 12, 13, 65] [3, 7, 11, 13])
(.cond (.tmp 65)
(.region [
⟨some 66, .fld 3 (.tmp 13), none⟩,
⟨none, .store 1 (.tmp 66) (.val (.pv (.bool true))), none⟩] [1, 2, 3, 7, 8, 9, 11, 12, 13] [3, 7, 11, 13])
.skip))
(.seq
(.seq
(.region [
⟨some 67, .mov (.tmp 2), none⟩,
⟨some 68, .mov (.tmp 67), none⟩,
⟨some 69, .fld 2 (.tmp 11), some (68, true)⟩,
⟨some 70, .load 1 false (.tmp 69), some (68, true)⟩,
⟨some 71, .bin .rem (.tmp 70) (.val (.pv (.int .u8 4))), some (68, true)⟩,
⟨some 72, .bin .geq (.tmp 71) (.val (.pv (.int .u8 2))), some (68, true)⟩,
⟨some 73, .pick (.tmp 68) (.tmp 72) (.val (.pv (.bool false))), none⟩] [1, 2, 3, 7, 8, 9, 11, 12, 13, 73] [3, 7, 11, 13])
(.cond (.tmp 73)
(.region [
⟨some 75, .load 1 true (.tmp 3), none⟩,
⟨some 76, .mov (.tmp 12), none⟩,
⟨some 77, .fld 2 (.tmp 11), none⟩,
⟨some 78, .load 1 false (.tmp 77), none⟩,
⟨some 79, .bin .quo (.tmp 78) (.val (.pv (.int .u8 4))), none⟩,
⟨some 80, .call (.val (.func 322 [])) [(.tmp 75), (.tmp 76), (.tmp 79)], none⟩,
⟨some 74, .mov (.tmp 80), none⟩,
⟨some 81, .ext (.tmp 74) 0, none⟩,
⟨some 82, .ext (.tmp 74) 1, none⟩,
⟨some 83, .fld 5 (.tmp 13), none⟩,
⟨none, .store 8 (.tmp 83) (.tmp 81), none⟩,
⟨some 84, .fld 4 (.tmp 13), none⟩,
⟨none, .store 1 (.tmp 84) (.tmp 82), none⟩] [1, 2, 3, 7, 8, 9, 13] [3, 7, 13])
.skip))
(.seq
(.region [
⟨some 85, .mov (.tmp 8), none⟩,
⟨some 86, .load 13 true (.tmp 13), none⟩,
⟨some 87, .lit 13 [.pv (.int .i64 0), .pv (.str ⟨#[]⟩), .pv (.int .i64 0), .pv (.bool false), .pv (.bool false), .pv (.int .i64 0), .pv (.bool false), .pv (.int .i64 0), .pv (.str ⟨#[]⟩), .pv (.int .i64 0), .tl [], .tl [], .tl []] 1 [(0, 13, (.tmp 86))], none⟩,
⟨some 88, .app 13 (.tmp 85) (.tmp 87), none⟩,
⟨some 8, .mov (.tmp 88), none⟩] [1, 2, 3, 7, 8, 9] [3, 7])
(.exit 2)))))))))
(.region [
⟨some 28, .mov (.tmp 10), none⟩,
⟨some 29, .bin .add (.tmp 28) (.val (.pv (.int .i64 1))), none⟩,
⟨some 10, .mov (.tmp 29), none⟩] [1, 2, 3, 7, 8, 9, 10] [3, 7]))))))))
(.region [
⟨some 21, .mov (.tmp 9), none⟩,
⟨some 22, .bin .add (.tmp 21) (.val (.pv (.int .i64 1))), none⟩,
⟨some 9, .mov (.tmp 22), none⟩] [1, 2, 3, 7, 8, 9] [3, 7])))))))
(.seq
(.region [
⟨some 89, .mov (.tmp 8), none⟩,
⟨some 6, .mov (.tmp 89), none⟩] [6] [])
.ret))))),
[.tmp 6], false, false⟩
def F303 : AFunc := ⟨2,
(.seq
(.region [
⟨some 2, .box 2 1 (.tmp 0), none⟩,
⟨some 4, .mov (.val (.pv (.int .i64 0))), none⟩] [1, 2] [2])
(.seq
(.region [
⟨some 8, .fld 0 (.tmp 2), none⟩,
⟨some 9, .load 1 false (.tmp 8), none⟩,
⟨some 10, .len 0 (.tmp 9), none⟩,
⟨some 5, .mov (.tmp 10), none⟩] [1, 2, 5] [2])
(.seq
(.seq
(.region [
⟨some 6, .mov (.val (.pv (.int .i64 0))), none⟩] [1, 2, 5, 6] [2])
(.block 0
(.loop
(.mask [1, 2, 5, 6] [2]
(.seq
(.seq
(.region [
⟨some 11, .mov (.tmp 6), none⟩,
⟨some 12, .mov (.tmp 5), none⟩,
⟨some 13, .bin .lss (.tmp 11) (.tmp 12), none⟩] [1, 2, 5, 6, 13] [2])
(.cond (.tmp 13)
.skip
(.exit 0)))
(.seq
(.block 1
(.seq
(.region [
⟨some 16, .mov (.tmp 1), none⟩,
⟨some 17, .conv .i64 (.tmp 16), none⟩,
⟨some 18, .mov (.tmp 6), none⟩,
⟨some 19, .bin .add (.tmp 17) (.tmp 18), none⟩,
⟨some 20, .mov (.tmp 5), none⟩,
⟨some 21, .bin .rem (.tmp 19) (.tmp 20), none⟩,
⟨some 7, .mov (.tmp 21), none⟩] [1, 2, 5, 6, 7] [2])
(.seq
(.region [
⟨some 22, .load 1 true (.tmp 2), none⟩,
⟨some 23, .mov (.tmp 7), none⟩,
⟨some 24, .call (.val (.func 298 [])) [(.tmp 22), (.tmp 23)], none⟩,
⟨some 25, .call (.val (.func 288 [])) [(.tmp 24)], none⟩] [1, 2, 5, 6, 7, 25] [2])
(.cond (.tmp 25)
(.seq
(.region [
⟨some 26, .mov (.tmp 7), none⟩,
⟨some 4, .mov (.tmp 26), none⟩] [4] [])
.ret)
.skip))))
(.region [
⟨some 14, .mov (.tmp 6), none⟩,
⟨some 15, .bin .add (.tmp 14) (.val (.pv (.int .i64 1))), none⟩,
⟨some 6, .mov (.tmp 15), none⟩] [1, 2, 5, 6] [2])))))))
(.seq
(.region [
⟨some 4, .mov (.val (.pv (.int .i64 (-1)))), none⟩] [4] [])
.ret)))),
[.tmp 4], false, false⟩
def F304 : AFunc := ⟨2,
(.seq
(.region [
⟨some 4, .mov (.val (.pv (.int .i64 0))), none⟩] [0, 1] [])
(.seq
(.seq
(.region [
⟨some 6, .mov (.tmp 0), none⟩,
⟨some 7, .len 0 (.tmp 6), none⟩,
⟨some 8, .mov (.val (.pv (.int .i64 0))), none⟩] [0, 1, 7, 8] [])
(.block 0
(.loop
(.mask [0, 1, 7, 8] []
(.seq
(.region [
⟨some 9, .bin .lss (.tmp 8) (.tmp 7), none⟩] [0, 1, 7, 8, 9] [])
(.seq
(.cond (.tmp 9)
.skip
(.exit 0))
(.seq
(.block 1
(.seq
(.region [
⟨some 10, .mov (.tmp 8), none⟩,
⟨some 5, .mov (.tmp 10), none⟩] [0, 1, 5, 7, 8] [])
(.seq
(.region [
⟨some 11, .mov (.tmp 1), none⟩,
⟨some 12, .mov (.tmp 0), none⟩,
⟨some 13, .mov (.tmp 5), none⟩,
⟨some 14, .idx 13 (.tmp 12) (.tmp 13), none⟩,
⟨some 15, .load 13 true (.tmp 14), none⟩,
⟨some 16, .call (.tmp 11) [(.tmp 15)], none⟩] [0, 1, 5, 7, 8, 16] [])
(.cond (.tmp 16)
(.seq
(.region [
⟨some 17, .mov (.tmp 5), none⟩,
⟨some 4, .mov (.tmp 17), none⟩] [4] [])
.ret)
.skip))))
(.region [
⟨some 18, .bin .add (.tmp 8) (.val (.pv (.int .i64 1))), none⟩,
⟨some 8, .mov (.tmp 18), none⟩] [0, 1, 7, 8] []))))))))
(.seq
(.region [
⟨some 4, .mov (.val (.pv (.int .i64 (-1)))), none⟩] [4] [])
.ret))),
[.tmp 4], false, false⟩
def F305 : AFunc := ⟨2,
(.seq
(.region [
⟨some 2, .box 2 13 (.tmp 0), none⟩,
⟨some 3, .mov (.val (.pv (.bool false))), none⟩] [1, 2] [2])
(.seq
(.region [
⟨some 4, .fld 0 (.tmp 2), none⟩,
⟨some 5, .load 1 false (.tmp 4), none⟩,
⟨some 6, .load 1 false (.tmp 1), none⟩,
⟨some 7, .bin .eql (.tmp 5) (.tmp 6), none⟩,
⟨some 3, .mov (.tmp 7), none⟩] [3] [])
.ret)),
[.tmp 3], false, false⟩
def F306 : AFunc := ⟨1,
(.seq
(.region [
⟨some 2, .mov (.val (.pv (.bool false))), none⟩] [0] [])
(.seq
(.seq
(.region [
⟨some 4, .mov (.tmp 0), none⟩,
⟨some 5, .bin .eql (.tmp 4) (.val (.pv (.str ⟨#[]⟩))), none⟩,
⟨some 6, .mov (.tmp 5), none⟩,
⟨some 7, .mov (.tmp 0), some (6, false)⟩,
⟨some 8, .len 1 (.tmp 7), some (6, false)⟩,
⟨some 9, .bin .gtr (.tmp 8) (.val (.pv (.int .i64 24))), some (6, false)⟩,
⟨some 10, .pick (.tmp 6) (.val (.pv (.bool true))) (.tmp 9), none⟩,
⟨some 11, .mov (.tmp 10), none⟩,
⟨some 12, .mov (.tmp 0), some (11, false)⟩,
⟨some 13, .ixs (.tmp 12) (.val (.pv (.int .i64 0))), some (11, false)⟩,
⟨some 14, .call (.val (.func 323 [])) [(.tmp 13)], some (11, false)⟩,
⟨some 15, .un .not (.tmp 14), some (11, false)⟩,
⟨some 16, .pick (.tmp 11) (.val (.pv (.bool true))) (.tmp 15), none⟩] [0, 16] [])
(.cond (.tmp 16)
(.seq
(.region [
⟨some 2, .mov (.val (.pv (.bool false))), none⟩] [2] [])
.ret)
.skip))
(.seq
(.seq
(.region [
⟨some 17, .mov (.tmp 0), none⟩,
⟨some 18, .len 1 (.tmp 17), none⟩,
⟨some 19, .mov (.val (.pv (.int .i64 0))), none⟩] [0, 18, 19] [])
(.block 0
(.loop
(.mask [0, 18, 19] []
(.seq
(.region [
⟨some 20, .bin .lss (.tmp 19) (.tmp 18), none⟩] [0, 18, 19, 20] [])
(.seq
(.cond (.tmp 20)
.skip
(.exit 0))
(.seq
(.block 1
(.seq
(.region [
⟨some 21, .mov (.tmp 19), none⟩,
⟨some 3, .mov (.tmp 21), none⟩] [0, 3, 18, 19] [])
(.seq
(.region [
⟨some 22, .mov (.tmp 0), none⟩,
⟨some 23, .mov (.tmp 3), none⟩,
⟨some 24, .ixs (.tmp 22) (.tmp 23), none⟩,
⟨some 25, .call (.val (.func 323 [])) [(.tmp 24)], none⟩,
⟨some 26, .un .not (.tmp 25), none⟩,
⟨some 27, .mov (.tmp 26), none⟩,
⟨some 28, .mov (.tmp 0), some (27, true)⟩,
⟨some 29, .mov (.tmp 3), some (27, true)⟩,
⟨some 30, .ixs (.tmp 28) (.tmp 29), some (27, true)⟩,
⟨some 31, .call (.val (.func 324 [])) [(.tmp 30)], some (27, true)⟩,
⟨some 32, .un .not (.tmp 31), some (27, true)⟩,
⟨some 33, .pick (.tmp 27) (.tmp 32) (.val (.pv (.bool false))), none⟩] [0, 18, 19, 33] [])
(.cond (.tmp 33)
(.seq
(.region [
⟨some 2, .mov (.val (.pv (.bool false))), none⟩] [2] [])
.ret)
.skip))))
(.region [
⟨some 34, .bin .add (.tmp 19) (.val (.pv (.int .i64 1))), none⟩,
⟨some 19, .mov (.tmp 34), none⟩] [0, 18, 19] []))))))))
(.seq
(.region [
⟨some 2, .mov (.val (.pv (.bool true))), none⟩] [2] [])
.ret)))),
[.tmp 2], false, false⟩
def F307 : AFunc := ⟨1,
(.seq
(.region [
⟨some 2, .mov (.val (.pv (.bool false))), none⟩] [0] [])
(.seq
(.region [
⟨some 3, .mov (.val (.tl [])), none⟩] [0, 3] [])
(.seq
(.region [
⟨some 4, .mov (.val (.tl [])), none⟩] [0, 3, 4] [])
(.seq
(.seq
(.region [
⟨some 7, .mov (.tmp 0), none⟩,
⟨some 8, .len 0 (.tmp 7), none⟩,
⟨some 9, .mov (.val (.pv (.int .i64 0))), none⟩] [0, 3, 4, 7, 8, 9] [])
(.block 0
(.loop
(.mask [0, 3, 4, 7, 8, 9] []
(.seq
(.region [
⟨some 10, .bin .lss (.tmp 9) (.tmp 8), none⟩] [0, 3, 4, 7, 8, 9, 10] [])
(.seq
(.cond (.tmp 10)
.skip
(.exit 0))
(.seq
(.block 1
(.seq
(.region [
⟨some 11, .idx 2 (.tmp 7) (.tmp 9), none⟩,
⟨some 12, .load 2 true (.tmp 11), none⟩,
⟨some 6, .alloc 6 [.pv (.int .i64 0), .pv (.str ⟨#[]⟩)], none⟩,
⟨none, .store 2 (.tmp 6) (.tmp 12), none⟩] [0, 3, 4, 6, 7, 8, 9] [6])
(.draw [
(⟨some 13, .mov (.tmp 3), none⟩, []),
(⟨some 14, .fld 0 (.tmp 6), none⟩, []),
(⟨some 15, .load 1 false (.tmp 14), none⟩, []),
(⟨some 16, .lit 1 [.pv (.int .i64 0)] 1 [(0, 1, (.tmp 15))], none⟩, []),
(⟨some 17, .app 1 (.tmp 13) (.tmp 16), none⟩, []),
(⟨some 18, .mov (.tmp 4), none⟩, []),
(⟨some 19, .fld 1 (.tmp 6), none⟩, []),
(⟨some 20, .load 1 false (.tmp 19), none⟩, [3, 4]),
(⟨some 21, .lit 1 [.pv (.str ⟨#[]⟩)] 1 [(0, 1, (.tmp 20))], none⟩, [2, 3, 4]),
(⟨some 22, .app 1 (.tmp 18) (.tmp 21), none⟩, []),
(⟨some 3, .mov (.tmp 17), none⟩, []),
(⟨some 4, .mov (.tmp 22), none⟩, [])] [0, 3, 4, 7, 8, 9] [])))
(.region [
⟨some 23, .bin .add (.tmp 9) (.val (.pv (.int .i64 1))), none⟩,
⟨some 9, .mov (.tmp 23), none⟩] [0, 3, 4, 7, 8, 9] []))))))))
(.seq
(.region [
⟨some 24, .mov (.tmp 0), none⟩,
⟨some 25, .len 0 (.tmp 24), none⟩,
⟨some 26, .bin .gtr (.tmp 25) (.val (.pv (.int .i64 0))), none⟩,
⟨some 27, .mov (.tmp 26), none⟩,
⟨some 28, .mov (.tmp 3), some (27, true)⟩,
⟨some 29, .mov (.tmp 4), some (27, true)⟩,
⟨some 30, .call (.val (.func 325 [])) [(.tmp 28), (.tmp 29)], some (27, true)⟩,
⟨some 31, .pick (.tmp 27) (.tmp 30) (.val (.pv (.bool false))), none⟩,
⟨some 2, .mov (.tmp 31), none⟩] [2] [])
.ret))))),
[.tmp 2], false, false⟩
def F308 : AFunc := ⟨1,
(.seq
(.region [
⟨some 1, .box 1 10 (.tmp 0), none⟩,
⟨some 2, .mov (.val (.pv (.bool false))), none⟩] [1] [1])
(.seq
(.region [
⟨some 3, .mov (.val (.tl [])), none⟩] [1, 3] [1])
(.seq
(.region [
⟨some 4, .mov (.val (.tl [])), none⟩] [1, 3, 4] [1])
(.seq
(.seq
(.region [
⟨some 7, .fld 6 (.tmp 1), none⟩,
⟨some 8, .load 1 false (.tmp 7), none⟩,
⟨some 9, .len 0 (.tmp 8), none⟩,
⟨some 10, .mov (.val (.pv (.int .i64 0))), none⟩] [1, 3, 4, 8, 9, 10] [1])
(.block 0
(.loop
(.mask [1, 3, 4, 8, 9, 10] [1]
(.seq
(.region [
⟨some 11, .bin .lss (.tmp 10) (.tmp 9), none⟩] [1, 3, 4, 8, 9, 10, 11] [1])
(.seq
(.cond (.tmp 11)
.skip
(.exit 0))
(.seq
(.block 1
(.seq
(.region [
⟨some 12, .idx 13 (.tmp 8) (.tmp 10), none⟩,
⟨some 13, .load 13 true (.tmp 12), none⟩,
⟨some 6, .alloc 6 [.pv (.int .i64 0), .pv (.str ⟨#[]⟩), .pv (.int .i64 0), .pv (.bool false), .pv (.bool false), .pv (.int .i64 0), .pv (.bool false), .pv (.int .i64 0), .pv (.str ⟨#[]⟩), .pv (.int .i64 0), .tl [], .tl [], .tl []], none⟩,
⟨none, .store 13 (.tmp 6) (.tmp 13), none⟩] [1, 3, 4, 6, 8, 9, 10] [1, 6])
(.seq
(.draw [
(⟨some 14, .mov (.tmp 3), none⟩, []),
(⟨some 15, .fld 0 (.tmp 6), none⟩, []),
(⟨some 16, .load 1 false (.tmp 15), none⟩, []),
(⟨some 17, .lit 1 [.pv (.int .i64 0)] 1 [(0, 1, (.tmp 16))], none⟩, []),
(⟨some 18, .app 1 (.tmp 14) (.tmp 17), none⟩, []),
(⟨some 19, .mov (.tmp 4), none⟩, []),
(⟨some 20, .fld 1 (.tmp 6), none⟩, []),
(⟨some 21, .load 1 false (.tmp 20), none⟩, [3, 4]),
(⟨some 22, .lit 1 [.pv (.str ⟨#[]⟩)] 1 [(0, 1, (.tmp 21))], none⟩, [2, 3, 4]),
(⟨some 23, .app 1 (.tmp 19) (.tmp 22), none⟩, []),
(⟨some 3, .mov (.tmp 18), none⟩, []),
(⟨some 4, .mov (.tmp 23), none⟩, [])] [1, 3, 4, 6, 8, 9, 10] [1, 6])
(.seq
(.region [
⟨some 24, .fld 0 (.tmp 1), none⟩,
⟨some 25, .load 1 false (.tmp 24), none⟩,
⟨some 26, .bin .eql (.tmp 25) (.val (.pv (.int .i64 6))), none⟩,
⟨some 27, .mov (.tmp 26), none⟩,
⟨some 28, .fld 3 (.tmp 6), some (27, true)⟩,
⟨some 29, .load 1 false (.tmp 28), some (27, true)⟩,
⟨some 30, .mov (.tmp 29), some (27, true)⟩,
⟨some 31, .fld 4 (.tmp 6), some (30, false)⟩,
⟨some 32, .load 1 false (.tmp 31), some (30, false)⟩,
⟨some 33, .pick (.tmp 30) (.val (.pv (.bool true))) (.tmp 32), some (27, true)⟩,
⟨some 34, .pick (.tmp 27) (.tmp 33) (.val (.pv (.bool false))), none⟩,
⟨some 35, .mov (.tmp 34), none⟩,
⟨some 36, .fld 3 (.tmp 6), some (35, false)⟩,
⟨some 37, .load 1 false (.tmp 36), some (35, false)⟩,
⟨some 38, .mov (.tmp 37), some (35, false)⟩,
⟨some 39, .fld 4 (.tmp 6), some (38, true)⟩,
⟨some 40, .load 1 false (.tmp 39), some (38, true)⟩,
⟨some 41, .pick (.tmp 38) (.tmp 40) (.val (.pv (.bool false))), some (35, false)⟩,
⟨some 42, .pick (.tmp 35) (.val (.pv (.bool true))) (.tmp 41), none⟩,
⟨some 43, .mov (.tmp 42), none⟩,
⟨some 44, .fld 4 (.tmp 6), some (43, false)⟩,
⟨some 45, .load 1 false (.tmp 44), some (43, false)⟩,
⟨some 46, .un .not (.tmp 45), some (43, false)⟩,
⟨some 47, .mov (.tmp 46), some (43, false)⟩,
⟨some 48, .fld 5 (.tmp 6), some (47, true)⟩,
⟨some 49, .load 8 true (.tmp 48), some (47, true)⟩,
⟨some 50, .call (.val (.func 326 [])) [(.tmp 49)], some (47, true)⟩,
⟨some 51, .un .not (.tmp 50), some (47, true)⟩,
⟨some 52, .pick (.tmp 47) (.tmp 51) (.val (.pv (.bool false))), some (43, false)⟩,
⟨some 53, .pick (.tmp 43) (.val (.pv (.bool true))) (.tmp 52), none⟩] [1, 3, 4, 8, 9, 10, 53] [1])
(.cond (.tmp 53)
(.seq
(.region [
⟨some 2, .mov (.val (.pv (.bool false))), none⟩] [2] [])
.ret)
.skip)))))
(.region [
⟨some 54, .bin .add (.tmp 10) (.val (.pv (.int .i64 1))), none⟩,
⟨some 10, .mov (.tmp 54), none⟩] [1, 3, 4, 8, 9, 10] [1]))))))))
(.seq
(.region [
⟨some 55, .fld 0 (.tmp 1), none⟩,
⟨some 56, .load 1 false (.tmp 55), none⟩,
⟨some 57, .bin .eql (.tmp 56) (.val (.pv (.int .i64 5))), none⟩,
⟨some 58, .mov (.tmp 57), none⟩,
⟨some 59, .mov (.tmp 3), some (58, false)⟩,
⟨some 60, .len 0 (.tmp 59), some (58, false)⟩,
⟨some 61, .bin .gtr (.tmp 60) (.val (.pv (.int .i64 0))), some (58, false)⟩,
⟨some 62, .pick (.tmp 58) (.val (.pv (.bool true))) (.tmp 61), none⟩,
⟨some 63, .mov (.tmp 62), none⟩,
⟨some 64, .mov (.tmp 3), some (63, true)⟩,
⟨some 65, .mov (.tmp 4), some (63, true)⟩,
⟨some 66, .call (.val (.func 325 [])) [(.tmp 64), (.tmp 65)], some (63, true)⟩,
⟨some 67, .pick (.tmp 63) (.tmp 66) (.val (.pv (.bool false))), none⟩,
⟨some 2, .mov (.tmp 67), none⟩] [2] [])
.ret))))),
[.tmp 2], false, false⟩
def F315 : AFunc := ⟨1,
(.seq
(.region [
⟨some 1, .box 1 8 (.tmp 0), none⟩,
⟨some 2, .alloc 2 [.pv (.int .i64 0), .pv (.bool false), .pv (.int .i64 0), .pv (.str ⟨#[]⟩), .pv (.int .i64 0), .tl [], .tl [], .tl []], none⟩] [1, 2] [1, 2])
(.seq
(.draw [
(⟨some 5, .fld 5 (.tmp 1), none⟩, []),
(⟨some 6, .load 1 false (.tmp 5), none⟩, []),
(⟨some 7, .call (.val (.func 331 [])) [(.tmp 6)], none⟩, []),
(⟨some 8, .fld 6 (.tmp 1), none⟩, []),
(⟨some 9, .load 1 false (.tmp 8), none⟩, [2]),
(⟨some 10, .call (.val (.func 331 [])) [(.tmp 9)], none⟩, []),
(⟨some 11, .fld 7 (.tmp 1), none⟩, []),
(⟨some 12, .load 1 false (.tmp 11), none⟩, [2, 5]),
(⟨some 13, .call (.val (.func 332 [])) [(.tmp 12)], none⟩, []),
(⟨some 14, .fld 5 (.tmp 1), none⟩, []),
(⟨none, .store 1 (.tmp 14) (.tmp 7), none⟩, []),
(⟨some 15, .fld 6 (.tmp 1), none⟩, []),
(⟨none, .store 1 (.tmp 15) (.tmp 10), none⟩, []),
(⟨some 16, .fld 7 (.tmp 1), none⟩, []),
(⟨none, .store 1 (.tmp 16) (.tmp 13), none⟩, [])] [1, 2] [1, 2])
(.seq
(.seq
(.region [
⟨some 17, .fld 5 (.tmp 1), none⟩,
⟨some 18, .load 1 false (.tmp 17), none⟩,
⟨some 19, .len 0 (.tmp 18), none⟩,
⟨some 20, .mov (.val (.pv (.int .i64 0))), none⟩] [1, 2, 19, 20] [1, 2])
(.block 0
(.loop
(.mask [1, 2, 19, 20] [1, 2]
(.seq
(.region [
⟨some 21, .bin .lss (.tmp 20) (.tmp 19), none⟩] [1, 2, 19, 20, 21] [1, 2])
(.seq
(.cond (.tmp 21)
.skip
(.exit 0))
(.seq
(.block 1
(.seq
(.region [
⟨some 22, .mov (.tmp 20), none⟩,
⟨some 3, .mov (.tmp 22), none⟩] [1, 2, 3, 19, 20] [1, 2])
(.draw [
(⟨some 23, .fld 5 (.tmp 1), none⟩, []),
(⟨some 24, .load 1 false (.tmp 23), none⟩, []),
(⟨some 25, .mov (.tmp 3), none⟩, []),
(⟨some 26, .fld 5 (.tmp 1), none⟩, []),
(⟨some 27, .load 1 false (.tmp 26), none⟩, []),
(⟨some 28, .mov (.tmp 3), none⟩, []),
(⟨some 29, .idx 8 (.tmp 27) (.tmp 28), none⟩, []),
(⟨some 30, .load 8 true (.tmp 29), none⟩, []),
(⟨some 31, .call (.val (.func 315 [])) [(.tmp 30)], none⟩, [1]),
(⟨some 32, .idx 8 (.tmp 24) (.tmp 25), none⟩, []),
(⟨none, .store 8 (.tmp 32) (.tmp 31), none⟩, [])] [1, 2, 19, 20] [1, 2])))
(.region [
⟨some 33, .bin .add (.tmp 20) (.val (.pv (.int .i64 1))), none⟩,
⟨some 20, .mov (.tmp 33), none⟩] [1, 2, 19, 20] [1, 2]))))))))
(.seq
(.seq
(.region [
⟨some 34, .fld 6 (.tmp 1), none⟩,
⟨some 35, .load 1 false (.tmp 34), none⟩,
⟨some 36, .len 0 (.tmp 35), none⟩,
⟨some 37, .mov (.val (.pv (.int .i64 0))), none⟩] [1, 2, 36, 37] [1, 2])
(.block 2
(.loop
(.mask [1, 2, 36, 37] [1, 2]
(.seq
(.region [
⟨some 38, .bin .lss (.tmp 37) (.tmp 36), none⟩] [1, 2, 36, 37, 38] [1, 2])
(.seq
(.cond (.tmp 38)
.skip
(.exit 2))
(.seq
(.block 3
(.seq
(.region [
⟨some 39, .mov (.tmp 37), none⟩,
⟨some 4, .mov (.tmp 39), none⟩] [1, 2, 4, 36, 37] [1, 2])
(.draw [
(⟨some 40, .fld 6 (.tmp 1), none⟩, []),
(⟨some 41, .load 1 false (.tmp 40), none⟩, []),
(⟨some 42, .mov (.tmp 4), none⟩, []),
(⟨some 43, .fld 6 (.tmp 1), none⟩, []),
(⟨some 44, .load 1 false (.tmp 43), none⟩, []),
(⟨some 45, .mov (.tmp 4), none⟩, []),
(⟨some 46, .idx 8 (.tmp 44) (.tmp 45), none⟩, []),
(⟨some 47, .load 8 true (.tmp 46), none⟩, []),
(⟨some 48, .call (.val (.func 315 [])) [(.tmp 47)], none⟩, [1]),
(⟨some 49, .idx 8 (.tmp 41) (.tmp 42), none⟩, []),
(⟨none, .store 8 (.tmp 49) (.tmp 48), none⟩, [])] [1, 2, 36, 37] [1, 2])))
(.region [
⟨some 50, .bin .add (.tmp 37) (.val (.pv (.int .i64 1))), none⟩,
⟨some 37, .mov (.tmp 50), none⟩] [1, 2, 36, 37] [1, 2]))))))))
(.seq
(.region [
⟨some 51, .load 8 true (.tmp 1), none⟩,
⟨none, .store 8 (.tmp 2) (.tmp 51), none⟩] [2] [2])
.ret))))),
[.cell 2 8 true], false, false⟩
def F316 : AFunc := ⟨2,
(.seq
(.region [
⟨some 2, .box 2 13 (.tmp 0), none⟩,
⟨some 3, .box 3 13 (.tmp 1), none⟩,
⟨some 4, .mov (.val (.pv (.bool false))), none⟩] [2, 3] [2, 3])
(.seq
(.region [
⟨some 5, .fld 0 (.tmp 2), none⟩,
⟨some 6, .load 1 false (.tmp 5), none⟩,
⟨some 7, .fld 0 (.tmp 3), none⟩,
⟨some 8, .load 1 false (.tmp 7), none⟩,
⟨some 9, .bin .eql (.tmp 6) (.tmp 8), none⟩,
⟨some 10, .mov (.tmp 9), none⟩,
⟨some 11, .fld 1 (.tmp 2), some (10, true)⟩,
⟨some 12, .load 1 false (.tmp 11), some (10, true)⟩,
⟨some 13, .fld 1 (.tmp 3), some (10, true)⟩,
⟨some 14, .load 1 false (.tmp 13), some (10, true)⟩,
⟨some 15, .bin .eql (.tmp 12) (.tmp 14), some (10, true)⟩,
⟨some 16, .pick (.tmp 10) (.tmp 15) (.val (.pv (.bool false))), none⟩,
⟨some 17, .mov (.tmp 16), none⟩,
⟨some 18, .fld 2 (.tmp 2), some (17, true)⟩,
⟨some 19, .load 1 false (.tmp 18), some (17, true)⟩,
⟨some 20, .fld 2 (.tmp 3), some (17, true)⟩,
⟨some 21, .load 1 false (.tmp 20), some (17, true)⟩,
⟨some 22, .bin .eql (.tmp 19) (.tmp 21), some (17, true)⟩,
⟨some 23, .pick (.tmp 17) (.tmp 22) (.val (.pv (.bool false))), none⟩,
⟨some 24, .mov (.tmp 23), none⟩,
⟨some 25, .fld 3 (.tmp 2), some (24, true)⟩,
⟨some 26, .load 1 false (.tmp 25), some (24, true)⟩,
⟨some 27, .fld 3 (.tmp 3), some (24, true)⟩,
⟨some 28, .load 1 false (.tmp 27), some (24, true)⟩,
⟨some 29, .eqa false [0] false (.tmp 26) (.tmp 28), some (24, true)⟩,
⟨some 30, .pick (.tmp 24) (.tmp 29) (.val (.pv (.bool false))), none⟩,
⟨some 31, .mov (.tmp 30), none⟩,
⟨some 32, .fld 4 (.tmp 2), some (31, true)⟩,
⟨some 33, .load 1 false (.tmp 32), some (31, true)⟩,
⟨some 34, .fld 4 (.tmp 3), some (31, true)⟩,
⟨some 35, .load 1 false (.tmp 34), some (31, true)⟩,
⟨some 36, .eqa false [0] false (.tmp 33) (.tmp 35), some (31, true)⟩,
⟨some 37, .pick (.tmp 31) (.tmp 36) (.val (.pv (.bool false))), none⟩,
⟨some 38, .mov (.tmp 37), none⟩,
⟨some 39, .fld 5 (.tmp 2), some (38, true)⟩,
⟨some 40, .load 8 true (.tmp 39), some (38, true)⟩,
⟨some 41, .fld 5 (.tmp 3), some (38, true)⟩,
⟨some 42, .load 8 true (.tmp 41), some (38, true)⟩,
⟨some 43, .call (.val (.func 330 [])) [(.tmp 40), (.tmp 42)], some (38, true)⟩,
⟨some 44, .pick (.tmp 38) (.tmp 43) (.val (.pv (.bool false))), none⟩,
⟨some 4, .mov (.tmp 44), none⟩] [4] [])
.ret)),
[.tmp 4], false, false⟩
def F317 : AFunc := ⟨2,
(.seq
(.region [
⟨some 4, .mov (.val (.pv (.bool false))), none⟩] [0, 1] [])
(.seq
(.seq
(.region [
⟨some 6, .mov (.tmp 0), none⟩,
⟨some 7, .len 0 (.tmp 6), none⟩,
⟨some 8, .mov (.tmp 1), none⟩,
⟨some 9, .len 0 (.tmp 8), none⟩,
⟨some 10, .bin .neq (.tmp 7) (.tmp 9), none⟩] [0, 1, 10] [])
(.cond (.tmp 10)
(.seq
(.region [
⟨some 4, .mov (.val (.pv (.bool false))), none⟩] [4] [])
.ret)
.skip))
(.seq
(.seq
(.region [
⟨some 11, .mov (.tmp 0), none⟩,
⟨some 12, .len 0 (.tmp 11), none⟩,
⟨some 13, .mov (.val (.pv (.int .i64 0))), none⟩] [0, 1, 12, 13] [])
(.block 0
(.loop
(.mask [0, 1, 12, 13] []
(.seq
(.region [
⟨some 14, .bin .lss (.tmp 13) (.tmp 12), none⟩] [0, 1, 12, 13, 14] [])
(.seq
(.cond (.tmp 14)
.skip
(.exit 0))
(.seq
(.block 1
(.seq
(.region [
⟨some 15, .mov (.tmp 13), none⟩,
⟨some 5, .mov (.tmp 15), none⟩] [0, 1, 5, 12, 13] [])
(.seq
(.draw [
(⟨some 16, .mov (.tmp 0), none⟩, []),
(⟨some 17, .mov (.tmp 5), none⟩, []),
(⟨some 18, .idx 2 (.tmp 16) (.tmp 17), none⟩, []),
(⟨some 19, .load 2 true (.tmp 18), none⟩, []),
(⟨some 20, .mov (.tmp 1), none⟩, []),
(⟨some 21, .mov (.tmp 5), none⟩, []),
(⟨some 22, .idx 2 (.tmp 20) (.tmp 21), none⟩, []),
(⟨some 23, .load 2 true (.tmp 22), none⟩, []),
(⟨some 24, .eqa true [1, 2] true (.tmp 19) (.tmp 23), none⟩, [])] [0, 1, 12, 13, 24] [])
(.cond (.tmp 24)
(.seq
(.region [
⟨some 4, .mov (.val (.pv (.bool false))), none⟩] [4] [])
.ret)
.skip))))
(.region [
⟨some 25, .bin .add (.tmp 13) (.val (.pv (.int .i64 1))), none⟩,
⟨some 13, .mov (.tmp 25), none⟩] [0, 1, 12, 13] []))))))))
(.seq
(.region [
⟨some 4, .mov (.val (.pv (.bool true))), none⟩] [4] [])
.ret)))),
[.tmp 4], false, false⟩
def F318 : AFunc := ⟨3,
(.seq
(.region [
⟨some 6, .mov (.val (.pv (.bool false))), none⟩] [0, 1, 2] [])
(.seq
(.seq
(.region [
⟨some 10, .mov (.tmp 0), none⟩,
⟨some 11, .len 0 (.tmp 10), none⟩,
⟨some 12, .mov (.tmp 1), none⟩,
⟨some 13, .len 0 (.tmp 12), none⟩,
⟨some 14, .bin .neq (.tmp 11) (.tmp 13), none⟩] [0, 1, 2, 14] [])
(.cond (.tmp 14)
(.seq
(.region [
⟨some 6, .mov (.val (.pv (.bool false))), none⟩] [6] [])
.ret)
.skip))
(.seq
(.seq
(.region [
⟨some 15, .mov (.tmp 0), none⟩,
⟨some 16, .len 0 (.tmp 15), none⟩,
⟨some 17, .mov (.val (.pv (.int .i64 0))), none⟩] [1, 2, 15, 16, 17] [])
(.block 0
(.loop
(.mask [1, 2, 15, 16, 17] []
(.seq
(.region [
⟨some 18, .bin .lss (.tmp 17) (.tmp 16), none⟩] [1, 2, 15, 16, 17, 18] [])
(.seq
(.cond (.tmp 18)
.skip
(.exit 0))
(.seq
(.block 1
(.seq
(.region [
⟨some 19, .mov (.tmp 17), none⟩,
⟨some 20, .idx 13 (.tmp 15) (.tmp 17), none⟩,
⟨some 21, .load 13 true (.tmp 20), none⟩,
⟨some 8, .alloc 8 [.pv (.int .i64 0), .pv (.str ⟨#[]⟩), .pv (.int .i64 0), .pv (.bool false), .pv (.bool false), .pv (.int .i64 0), .pv (.bool false), .pv (.int .i64 0), .pv (.str ⟨#[]⟩), .pv (.int .i64 0), .tl [], .tl [], .tl []], none⟩,
⟨some 7, .mov (.tmp 19), none⟩,
⟨none, .store 13 (.tmp 8) (.tmp 21), none⟩] [1, 2, 7, 8, 15, 16, 17] [8])
(.seq
(.region [
⟨some 22, .mov (.tmp 1), none⟩,
⟨some 23, .mov (.tmp 7), none⟩,
⟨some 24, .idx 13 (.tmp 22) (.tmp 23), none⟩,
⟨some 25, .load 13 true (.tmp 24), none⟩,
⟨some 9, .alloc 9 [.pv (.int .i64 0), .pv (.str ⟨#[]⟩), .pv (.int .i64 0), .pv (.bool false), .pv (.bool false), .pv (.int .i64 0), .pv (.bool false), .pv (.int .i64 0), .pv (.str ⟨#[]⟩), .pv (.int .i64 0), .tl [], .tl [], .tl []], none⟩,
⟨none, .store 13 (.tmp 9) (.tmp 25), none⟩] [1, 2, 8, 9, 15, 16, 17] [8, 9])
(.seq
(.region [
⟨some 26, .mov (.tmp 2), none⟩,
⟨some 27, .load 13 true (.tmp 8), none⟩,
⟨some 28, .load 13 true (.tmp 9), none⟩,
⟨some 29, .call (.tmp 26) [(.tmp 27), (.tmp 28)], none⟩,
⟨some 30, .un .not (.tmp 29), none⟩] [1, 2, 15, 16, 17, 30] [])
(.cond (.tmp 30)
(.seq
(.region [
⟨some 6, .mov (.val (.pv (.bool false))), none⟩] [6] [])
.ret)
.skip)))))
(.region [
⟨some 31, .bin .add (.tmp 17) (.val (.pv (.int .i64 1))), none⟩,
⟨some 17, .mov (.tmp 31), none⟩] [1, 2, 15, 16, 17] []))))))))
(.seq
(.region [
⟨some 6, .mov (.val (.pv (.bool true))), none⟩] [6] [])
.ret)))),
[.tmp 6], false, false⟩
def F319 : AFunc := ⟨2,
(.seq
(.region [
⟨some 2, .box 2 13 (.tmp 0), none⟩,
⟨some 3, .box 3 13 (.tmp 1), none⟩,
⟨some 4, .mov (.val (.pv (.bool false))), none⟩] [2, 3] [2, 3])
(.seq
(.region [
⟨some 5, .fld 0 (.tmp 2), none⟩,
⟨some 6, .load 1 false (.tmp 5), none⟩,
⟨some 7, .fld 0 (.tmp 3), none⟩,
⟨some 8, .load 1 false (.tmp 7), none⟩,
⟨some 9, .bin .eql (.tmp 6) (.tmp 8), none⟩,
⟨some 10, .mov (.tmp 9), none⟩,
⟨some 11, .fld 1 (.tmp 2), some (10, true)⟩,
⟨some 12, .load 1 false (.tmp 11), some (10, true)⟩,
⟨some 13, .fld 1 (.tmp 3), some (10, true)⟩,
⟨some 14, .load 1 false (.tmp 13), some (10, true)⟩,
⟨some 15, .bin .eql (.tmp 12) (.tmp 14), some (10, true)⟩,
⟨some 16, .pick (.tmp 10) (.tmp 15) (.val (.pv (.bool false))), none⟩,
⟨some 17, .mov (.tmp 16), none⟩,
⟨some 18, .fld 2 (.tmp 2), some (17, true)⟩,
⟨some 19, .load 1 false (.tmp 18), some (17, true)⟩,
⟨some 20, .fld 2 (.tmp 3), some (17, true)⟩,
⟨some 21, .load 1 false (.tmp 20), some (17, true)⟩,
⟨some 22, .bin .eql (.tmp 19) (.tmp 21), some (17, true)⟩,
⟨some 23, .pick (.tmp 17) (.tmp 22) (.val (.pv (.bool false))), none⟩,
⟨some 24, .mov (.tmp 23), none⟩,
⟨some 25, .fld 3 (.tmp 2), some (24, true)⟩,
⟨some 26, .load 1 false (.tmp 25), some (24, true)⟩,
⟨some 27, .fld 3 (.tmp 3), some (24, true)⟩,
⟨some 28, .load 1 false (.tmp 27), some (24, true)⟩,
⟨some 29, .eqa false [0] false (.tmp 26) (.tmp 28), some (24, true)⟩,
⟨some 30, .pick (.tmp 24) (.tmp 29) (.val (.pv (.bool false))), none⟩,
⟨some 31, .mov (.tmp 30), none⟩,
⟨some 32, .fld 4 (.tmp 2), some (31, true)⟩,
⟨some 33, .load 1 false (.tmp 32), some (31, true)⟩,
⟨some 34, .fld 4 (.tmp 3), some (31, true)⟩,
⟨some 35, .load 1 false (.tmp 34), some (31, true)⟩,
⟨some 36, .eqa false [0] false (.tmp 33) (.tmp 35), some (31, true)⟩,
⟨some 37, .pick (.tmp 31) (.tmp 36) (.val (.pv (.bool false))), none⟩,
⟨some 38, .mov (.tmp 37), none⟩,
⟨some 39, .fld 5 (.tmp 2), some (38, true)⟩,
⟨some 40, .load 8 true (.tmp 39), some (38, true)⟩,
⟨some 41, .fld 5 (.tmp 3), some (38, true)⟩,
⟨some 42, .load 8 true (.tmp 41), some (38, true)⟩,
⟨some 43, .call (.val (.func 320 [])) [(.tmp 40), (.tmp 42)], some (38, true)⟩,
⟨some 44, .pick (.tmp 38) (.tmp 43) (.val (.pv (.bool false))), none⟩,
⟨some 4, .mov (.tmp 44), none⟩] [4] [])
.ret)),
[.tmp 4], false, false⟩
def F320 : AFunc := ⟨2,
(.seq
(.region [
⟨some 2, .box 2 8 (.tmp 0), none⟩,
⟨some 3, .box 3 8 (.tmp 1), none⟩,
⟨some 4, .mov (.val (.pv (.bool false))), none⟩] [2, 3] [2, 3])
(.seq
(.region [
⟨some 5, .fld 0 (.tmp 2), none⟩,
⟨some 6, .load 1 false (.tmp 5), none⟩,
⟨some 7, .fld 0 (.tmp 3), none⟩,
⟨some 8, .load 1 false (.tmp 7), none⟩,
⟨some 9, .bin .eql (.tmp 6) (.tmp 8), none⟩,
⟨some 10, .mov (.tmp 9), none⟩,
⟨some 11, .fld 1 (.tmp 2), some (10, true)⟩,
⟨some 12, .load 1 false (.tmp 11), some (10, true)⟩,
⟨some 13, .fld 1 (.tmp 3), some (10, true)⟩,
⟨some 14, .load 1 false (.tmp 13), some (10, true)⟩,
⟨some 15, .eqa false [0] false (.tmp 12) (.tmp 14), some (10, true)⟩,
⟨some 16, .pick (.tmp 10) (.tmp 15) (.val (.pv (.bool false))), none⟩,
⟨some 17, .mov (.tmp 16), none⟩,
⟨some 18, .fld 2 (.tmp 2), some (17, true)⟩,
⟨some 19, .load 1 false (.tmp 18), some (17, true)⟩,
⟨some 20, .fld 2 (.tmp 3), some (17, true)⟩,
⟨some 21, .load 1 false (.tmp 20), some (17, true)⟩,
⟨some 22, .bin .eql (.tmp 19) (.tmp 21), some (17, true)⟩,
⟨some 23, .pick (.tmp 17) (.tmp 22) (.val (.pv (.bool false))), none⟩,
⟨some 24, .mov (.tmp 23), none⟩,
⟨some 25, .fld 3 (.tmp 2), some (24, true)⟩,
⟨some 26, .load 1 false (.tmp 25), some (24, true)⟩,
⟨some 27, .fld 3 (.tmp 3), some (24, true)⟩,
⟨some 28, .load 1 false (.tmp 27), some (24, true)⟩,
⟨some 29, .bin .eql (.tmp 26) (.tmp 28), some (24, true)⟩,
⟨some 30, .pick (.tmp 24) (.tmp 29) (.val (.pv (.bool false))), none⟩,
⟨some 31, .mov (.tmp 30), none⟩,
⟨some 32, .fld 4 (.tmp 2), some (31, true)⟩,
⟨some 33, .load 1 false (.tmp 32), some (31, true)⟩,
⟨some 34, .fld 4 (.tmp 3), some (31, true)⟩,
⟨some 35, .load 1 false (.tmp 34), some (31, true)⟩,
⟨some 36, .bin .eql (.tmp 33) (.tmp 35), some (31, true)⟩,
⟨some 37, .pick (.tmp 31) (.tmp 36) (.val (.pv (.bool false))), none⟩,
⟨some 38, .mov (.tmp 37), none⟩,
⟨some 39, .fld 7 (.tmp 2), some (38, true)⟩,
⟨some 40, .load 1 false (.tmp 39), some (38, true)⟩,
⟨some 41, .fld 7 (.tmp 3), some (38, true)⟩,
⟨some 42, .load 1 false (.tmp 41), some (38, true)⟩,
⟨some 43, .call (.val (.func 333 [])) [(.tmp 40), (.tmp 42)], some (38, true)⟩,
⟨some 44, .pick (.tmp 38) (.tmp 43) (.val (.pv (.bool false))), none⟩,
⟨some 45, .mov (.tmp 44), none⟩,
⟨some 46, .fld 5 (.tmp 2), some (45, true)⟩,
⟨some 47, .load 1 false (.tmp 46), some (45, true)⟩,
⟨some 48, .fld 5 (.tmp 3), some (45, true)⟩,
⟨some 49, .load 1 false (.tmp 48), some (45, true)⟩,
⟨some 50, .call (.val (.func 334 [])) [(.tmp 47), (.tmp 49), (.val (.func 320 []))], some (45, true)⟩,
⟨some 51, .pick (.tmp 45) (.tmp 50) (.val (.pv (.bool false))), none⟩,
⟨some 52, .mov (.tmp 51), none⟩,
⟨some 53, .fld 6 (.tmp 2), some (52, true)⟩,
⟨some 54, .load 1 false (.tmp 53), some (52, true)⟩,
⟨some 55, .fld 6 (.tmp 3), some (52, true)⟩,
⟨some 56, .load 1 false (.tmp 55), some (52, true)⟩,
⟨some 57, .call (.val (.func 334 [])) [(.tmp 54), (.tmp 56), (.val (.func 320 []))], some (52, true)⟩,
⟨some 58, .pick (.tmp 52) (.tmp 57) (.val (.pv (.bool false))), none⟩,
⟨some 4, .mov (.tmp 58), none⟩] [4] [])
.ret)),
[.tmp 4], false, false⟩
def F321 : AFunc := ⟨3,
(.seq
(.region [
⟨some 3, .box 3 1 (.tmp 0), none⟩,
⟨some 6, .mov (.val (.pv (.int .i64 0))), none⟩] [1, 2, 3] [3])
(.seq
(.region [
⟨some 10, .fld 0 (.tmp 3), none⟩,
⟨some 11, .load 1 false (.tmp 10), none⟩,
⟨some 12, .len 0 (.tmp 11), none⟩,
⟨some 7, .mov (.tmp 12), none⟩] [1, 2, 3, 7] [3])
(.seq
(.region [
⟨some 13, .mov (.tmp 2), none⟩,
⟨some 14, .conv .i64 (.tmp 13), none⟩,
⟨some 15, .mov (.tmp 7), none⟩,
⟨some 16, .bin .rem (.tmp 14) (.tmp 15), none⟩,
⟨some 8, .mov (.tmp 16), none⟩] [1, 3, 7, 8] [3])
(.seq
(.seq
(.region [
⟨some 17, .load 1 true (.tmp 3), none⟩,
⟨some 18, .mov (.tmp 8), none⟩,
⟨some 19, .call (.val (.func 298 [])) [(.tmp 17), (.tmp 18)], none⟩,
⟨some 20, .call (.val (.func 335 [])) [(.tmp 19)], none⟩,
⟨some 21, .mov (.tmp 20), none⟩,
⟨some 22, .mov (.tmp 8), some (21, false)⟩,
⟨some 23, .mov (.tmp 1), some (21, false)⟩,
⟨some 24, .bin .lss (.tmp 22) (.tmp 23), some (21, false)⟩,
⟨some 25, .pick (.tmp 21) (.val (.pv (.bool true))) (.tmp 24), none⟩] [1, 3, 7, 8, 25] [3])
(.cond (.tmp 25)
(.seq
(.region [
⟨some 26, .mov (.tmp 8), none⟩,
⟨some 6, .mov (.tmp 26), none⟩] [6] [])
.ret)
.skip))
(.seq
(.seq
(.region [
⟨some 27, .mov (.tmp 1), none⟩,
⟨some 28, .bin .gtr (.tmp 27) (.val (.pv (.int .i64 0))), none⟩] [1, 3, 7, 8, 28] [3])
(.cond (.tmp 28)
(.seq
(.region [
⟨some 29, .mov (.tmp 8), none⟩,
⟨some 30, .mov (.tmp 1), none⟩,
⟨some 31, .bin .rem (.tmp 29) (.tmp 30), none⟩,
⟨some 6, .mov (.tmp 31), none⟩] [6] [])
.ret)
.skip))
(.seq
(.seq
(.region [
⟨some 9, .mov (.val (.pv (.int .i64 0))), none⟩] [3, 7, 9] [3])
(.block 0
(.loop
(.mask [3, 7, 9] [3]
(.seq
(.seq
(.region [
⟨some 32, .mov (.tmp 9), none⟩,
⟨some 33, .mov (.tmp 7), none⟩,
⟨some 34, .bin .lss (.tmp 32) (.tmp 33), none⟩] [3, 7, 9, 34] [3])
(.cond (.tmp 34)
.skip
(.exit 0)))
(.seq
(.block 1
(.seq
(.region [
⟨some 37, .load 1 true (.tmp 3), none⟩,
⟨some 38, .mov (.tmp 9), none⟩,
⟨some 39, .call (.val (.func 298 [])) [(.tmp 37), (.tmp 38)], none⟩,
⟨some 40, .call (.val (.func 335 [])) [(.tmp 39)], none⟩] [3, 7, 9, 40] [3])
(.cond (.tmp 40)
(.seq
(.region [
⟨some 41, .mov (.tmp 9), none⟩,
⟨some 6, .mov (.tmp 41), none⟩] [6] [])
.ret)
.skip)))
(.region [
⟨some 35, .mov (.tmp 9), none⟩,
⟨some 36, .bin .add (.tmp 35) (.val (.pv (.int .i64 1))), none⟩,
⟨some 9, .mov (.tmp 36), none⟩] [3, 7, 9] [3])))))))
(.seq
(.region [
⟨some 6, .mov (.val (.pv (.int .i64 (-1)))), none⟩] [6] [])
.ret))))))),
[.tmp 6], false, false⟩
def F322 : AFunc := ⟨3,
(.seq
(.region [
⟨some 3, .box 3 1 (.tmp 0), none⟩,
⟨some 6, .alloc 6 [.pv (.int .i64 0), .pv (.bool false), .pv (.int .i64 0), .pv (.str ⟨#[]⟩), .pv (.int .i64 0), .tl [], .tl [], .tl []], none⟩,
⟨some 7, .mov (.val (.pv (.bool false))), none⟩] [1, 2, 3, 6] [3, 6])
(.seq
(.region [
⟨some 10, .fld 0 (.tmp 3), none⟩,
⟨some 11, .load 1 false (.tmp 10), none⟩,
⟨some 12, .mov (.tmp 1), none⟩,
⟨some 13, .idx 5 (.tmp 11) (.tmp 12), none⟩,
⟨some 14, .load 5 true (.tmp 13), none⟩,
⟨some 8, .alloc 8 [.pv (.int .u8 0), .pv (.int .u8 0), .pv (.int .u8 0), .pv (.int .u8 0), .tl []], none⟩,
⟨none, .store 5 (.tmp 8) (.tmp 14), none⟩] [1, 2, 3, 6, 8] [3, 6, 8])
(.seq
(.region [
⟨some 15, .load 1 true (.tmp 3), none⟩,
⟨some 16, .mov (.tmp 1), none⟩,
⟨some 17, .call (.val (.func 298 [])) [(.tmp 15), (.tmp 16)], none⟩,
⟨some 18, .build [.pv (.int .i64 0), .pv (.bool false), .pv (.int .i64 0), .pv (.str ⟨#[]⟩), .pv (.int .i64 0), .tl [], .tl [], .tl []] [(0, 1, (.tmp 17))], none⟩,
⟨some 9, .alloc 9 [.pv (.int .i64 0), .pv (.bool false), .pv (.int .i64 0), .pv (.str ⟨#[]⟩), .pv (.int .i64 0), .tl [], .tl [], .tl []], none⟩,
⟨none, .store 8 (.tmp 9) (.tmp 18), none⟩] [2, 3, 6, 8, 9] [3, 6, 8, 9])
(.seq
(.seq
(.region [
⟨some 19, .fld 0 (.tmp 9), none⟩,
⟨some 20, .load 1 false (.tmp 19), none⟩,
⟨some 21, .bin .eql (.tmp 20) (.val (.pv (.int .i64 8))), none⟩,
⟨some 22, .mov (.tmp 21), none⟩,
⟨some 23, .load 1 true (.tmp 3), some (22, true)⟩,
⟨some 24, .call (.val (.func 303 [])) [(.tmp 23), (.val (.pv (.int .u8 0)))], some (22, true)⟩,
⟨some 25, .bin .lss (.tmp 24) (.val (.pv (.int .i64 0))), some (22, true)⟩,
⟨some 26, .pick (.tmp 22) (.tmp 25) (.val (.pv (.bool false))), none⟩] [2, 6, 8, 9, 26] [6, 8, 9])
(.cond (.tmp 26)
(.region [
⟨some 27, .fld 0 (.tmp 9), none⟩,
⟨none, .store 1 (.tmp 27) (.val (.pv (.int .i64 7))), none⟩] [2, 6, 8, 9] [6, 8, 9])
.skip))
(.seq
(.seq
(.region [
⟨some 28, .fld 0 (.tmp 9), none⟩,
⟨some 29, .load 1 false (.tmp 28), none⟩] [2, 6, 8, 9, 29] [6, 8, 9])
(.block 0
(.seq
(.region [
⟨some 31, .bin .eql (.tmp 29) (.val (.pv (.int .i64 1))), none⟩,
⟨some 30, .mov (.tmp 31), none⟩] [2, 6, 8, 9, 29, 30] [6, 8, 9])
(.cond (.tmp 30)
(.region [
⟨some 32, .mov (.tmp 2), none⟩,
⟨some 33, .bin .rem (.tmp 32) (.val (.pv (.int .u8 2))), none⟩,
⟨some 34, .bin .eql (.tmp 33) (.val (.pv (.int .u8 1))), none⟩,
⟨some 35, .fld 1 (.tmp 9), none⟩,
⟨none, .store 1 (.tmp 35) (.tmp 34), none⟩] [6, 9] [6, 9])
(.seq
(.region [
⟨some 37, .bin .eql (.tmp 29) (.val (.pv (.int .i64 2))), none⟩,
⟨some 36, .mov (.tmp 37), none⟩] [2, 6, 8, 9, 29, 36] [6, 8, 9])
(.cond (.tmp 36)
(.draw [
(⟨some 38, .load 5 true (.tmp 8), none⟩, []),
(⟨some 39, .call (.val (.func 299 [])) [(.tmp 38)], none⟩, []),
(⟨some 40, .mov (.tmp 2), none⟩, []),
(⟨some 41, .conv .i64 (.tmp 40), none⟩, []),
(⟨some 42, .load 5 true (.tmp 8), none⟩, [1]),
(⟨some 43, .call (.val (.func 300 [])) [(.tmp 42)], none⟩, []),
(⟨some 44, .load 5 true (.tmp 8), none⟩, [1, 5]),
(⟨some 45, .call (.val (.func 299 [])) [(.tmp 44)], none⟩, []),
(⟨some 46, .bin .sub (.tmp 43) (.tmp 45), none⟩, []),
(⟨some 47, .bin .add (.tmp 46) (.val (.pv (.int .i64 1))), none⟩, []),
(⟨some 48, .bin .rem (.tmp 41) (.tmp 47), none⟩, []),
(⟨some 49, .bin .add (.tmp 39) (.tmp 48), none⟩, []),
(⟨some 50, .fld 2 (.tmp 9), none⟩, []),
(⟨none, .store 1 (.tmp 50) (.tmp 49), none⟩, [])] [6, 9] [6, 9])
(.seq
(.region [
⟨some 52, .bin .eql (.tmp 29) (.val (.pv (.int .i64 3))), none⟩,
⟨some 51, .mov (.tmp 52), none⟩] [2, 6, 8, 9, 29, 51] [6, 8, 9])
(.cond (.tmp 51)
(.seq
(.region [
⟨some 53, .fld 1 (.tmp 8), none⟩,
⟨some 54, .load 1 false (.tmp 53), none⟩,
⟨some 55, .bin .rem (.tmp 54) (.val (.pv (.int .u8 4))), none⟩,
⟨some 56, .bin .gtr (.tmp 55) (.val (.pv (.int .u8 0))), none⟩,
⟨some 57, .mov (.tmp 56), none⟩,
⟨some 58, .mov (.tmp 2), some (57, true)⟩,
⟨some 59, .bin .rem (.tmp 58) (.val (.pv (.int .u8 2))), some (57, true)⟩,
⟨some 60, .bin .eql (.tmp 59) (.val (.pv (.int .u8 1))), some (57, true)⟩,
⟨some 61, .pick (.tmp 57) (.tmp 60) (.val (.pv (.bool false))), none⟩] [6, 9, 61] [6, 9])
(.cond (.tmp 61)
(.region [
⟨some 62, .fld 3 (.tmp 9), none⟩,
⟨none, .store 1 (.tmp 62) (.val (.pv (.str ⟨#[97]⟩))), none⟩] [6, 9] [6, 9])
.skip))
(.seq
(.region [
⟨some 64, .bin .eql (.tmp 29) (.val (.pv (.int .i64 4))), none⟩,
⟨some 63, .mov (.tmp 64), none⟩] [2, 6, 8, 9, 29, 63] [6, 8, 9])
(.cond (.tmp 63)
(.draw [
(⟨some 65, .load 5 true (.tmp 8), none⟩, []),
(⟨some 66, .call (.val (.func 301 [])) [(.tmp 65)], none⟩, []),
(⟨some 67, .mov (.tmp 2), none⟩, []),
(⟨some 68, .conv .i64 (.tmp 67), none⟩, []),
(⟨some 69, .load 5 true (.tmp 8), none⟩, [1]),
(⟨some 70, .call (.val (.func 301 [])) [(.tmp 69)], none⟩, []),
(⟨some 71, .len 0 (.tmp 70), none⟩, []),
(⟨some 72, .bin .rem (.tmp 68) (.tmp 71), none⟩, []),
(⟨some 73, .idx 1 (.tmp 66) (.tmp 72), none⟩, []),
(⟨some 74, .load 1 false (.tmp 73), none⟩, []),
(⟨some 75, .fld 4 (.tmp 9), none⟩, []),
(⟨none, .store 1 (.tmp 75) (.tmp 74), none⟩, [])] [6, 9] [6, 9])
(.seq
(.seq
(.region [
⟨some 77, .bin .eql (.tmp 29) (.val (.pv (.int .i64 5))), none⟩,
⟨some 76, .mov (.tmp 77), none⟩] [6, 9, 29, 76] [6, 9])
(.cond (.tmp 76)
.skip
(.region [
⟨some 78, .bin .eql (.tmp 29) (.val (.pv (.int .i64 6))), none⟩,
⟨some 76, .mov (.tmp 78), none⟩] [6, 9, 76] [6, 9])))
(.cond (.tmp 76)
(.seq
(.region [
⟨some 79, .build [.pv (.int .i64 0), .pv (.bool false), .pv (.int .i64 0), .pv (.str ⟨#[]⟩), .pv (.int .i64 0), .tl [], .tl [], .tl []] [], none⟩,
⟨none, .store 8 (.tmp 6) (.tmp 79), none⟩,
⟨some 7, .mov (.val (.pv (.bool false))), none⟩] [6, 7] [6])
.ret)
.skip))))))))))))
(.seq
(.region [
⟨some 80, .load 8 true (.tmp 9), none⟩,
⟨none, .store 8 (.tmp 6) (.tmp 80), none⟩,
⟨some 7, .mov (.val (.pv (.bool true))), none⟩] [6, 7] [6])
.ret)))))),
[.cell 6 8 true, .tmp 7], false, false⟩
def F323 : AFunc := ⟨1,
(.seq
(.region [
⟨some 2, .mov (.val (.pv (.bool false))), none⟩] [0] [])
(.seq
(.region [
⟨some 3, .mov (.tmp 0), none⟩,
⟨some 4, .bin .eql (.tmp 3) (.val (.pv (.int .u8 95))), none⟩,
⟨some 5, .mov (.tmp 4), none⟩,
⟨some 6, .mov (.tmp 0), some (5, false)⟩,
⟨some 7, .bin .geq (.tmp 6) (.val (.pv (.int .u8 97))), some (5, false)⟩,
⟨some 8, .mov (.tmp 7), some (5, false)⟩,
⟨some 9, .mov (.tmp 0), some (8, true)⟩,
⟨some 10, .bin .leq (.tmp 9) (.val (.pv (.int .u8 122))), some (8, true)⟩,
⟨some 11, .pick (.tmp 8) (.tmp 10) (.val (.pv (.bool false))), some (5, false)⟩,
⟨some 12, .pick (.tmp 5) (.val (.pv (.bool true))) (.tmp 11), none⟩,
⟨some 13, .mov (.tmp 12), none⟩,
⟨some 14, .mov (.tmp 0), some (13, false)⟩,
⟨some 15, .bin .geq (.tmp 14) (.val (.pv (.int .u8 65))), some (13, false)⟩,
⟨some 16, .mov (.tmp 15), some (13, false)⟩,
⟨some 17, .mov (.tmp 0), some (16, true)⟩,
⟨some 18, .bin .leq (.tmp 17) (.val (.pv (.int .u8 90))), some (16, true)⟩,
⟨some 19, .pick (.tmp 16) (.tmp 18) (.val (.pv (.bool false))), some (13, false)⟩,
⟨some 20, .pick (.tmp 13) (.val (.pv (.bool true))) (.tmp 19), none⟩,
⟨some 2, .mov (.tmp 20), none⟩] [2] [])
.ret)),
[.tmp 2], false, false⟩
def F324 : AFunc := ⟨1,
(.seq
(.region [
⟨some 2, .mov (.val (.pv (.bool false))), none⟩] [0] [])
(.seq
(.region [
⟨some 3, .mov (.tmp 0), none⟩,
⟨some 4, .bin .geq (.tmp 3) (.val (.pv (.int .u8 48))), none⟩,
⟨some 5, .mov (.tmp 4), none⟩,
⟨some 6, .mov (.tmp 0), some (5, true)⟩,
⟨some 7, .bin .leq (.tmp 6) (.val (.pv (.int .u8 57))), some (5, true)⟩,
⟨some 8, .pick (.tmp 5) (.tmp 7) (.val (.pv (.bool false))), none⟩,
⟨some 2, .mov (.tmp 8), none⟩] [2] [])
.ret)),
[.tmp 2], false, false⟩
def F325 : AFunc := ⟨2,
(.seq
(.region [
⟨some 4, .mov (.val (.pv (.bool false))), none⟩] [0, 1] [])
(.seq
(.region [
⟨some 8, .mkmap, none⟩,
⟨some 5, .mov (.tmp 8), none⟩] [0, 1, 5] [])
(.seq
(.seq
(.region [
⟨some 9, .mov (.tmp 0), none⟩,
⟨some 10, .len 0 (.tmp 9), none⟩,
⟨some 11, .mov (.val (.pv (.int .i64 0))), none⟩] [0, 1, 5, 9, 10, 11] [])
(.block 0
(.loop
(.mask [0, 1, 5, 9, 10, 11] []
(.seq
(.region [
⟨some 12, .bin .lss (.tmp 11) (.tmp 10), none⟩] [0, 1, 5, 9, 10, 11, 12] [])
(.seq
(.cond (.tmp 12)
.skip
(.exit 0))
(.seq
(.block 1
(.seq
(.region [
⟨some 13, .mov (.tmp 11), none⟩,
⟨some 14, .idx 1 (.tmp 9) (.tmp 11), none⟩,
⟨some 15, .load 1 false (.tmp 14), none⟩,
⟨some 6, .mov (.tmp 13), none⟩,
⟨some 7, .mov (.tmp 15), none⟩] [0, 1, 5, 6, 7, 9, 10, 11] [])
(.seq
(.seq
(.region [
⟨some 16, .mov (.tmp 7), none⟩,
⟨some 17, .bin .lss (.tmp 16) (.val (.pv (.int .i64 1))), none⟩,
⟨some 18, .mov (.tmp 17), none⟩,
⟨some 19, .mov (.tmp 7), some (18, false)⟩,
⟨some 20, .bin .gtr (.tmp 19) (.val (.pv (.int .i64 1000))), some (18, false)⟩,
⟨some 21, .pick (.tmp 18) (.val (.pv (.bool true))) (.tmp 20), none⟩,
⟨some 22, .mov (.tmp 21), none⟩,
⟨some 23, .mov (.tmp 6), some (22, false)⟩,
⟨some 24, .bin .gtr (.tmp 23) (.val (.pv (.int .i64 0))), some (22, false)⟩,
⟨some 25, .mov (.tmp 24), some (22, false)⟩,
⟨some 26, .mov (.tmp 7), some (25, true)⟩,
⟨some 27, .mov (.tmp 0), some (25, true)⟩,
⟨some 28, .mov (.tmp 6), some (25, true)⟩,
⟨some 29, .bin .sub (.tmp 28) (.val (.pv (.int .i64 1))), some (25, true)⟩,
⟨some 30, .idx 1 (.tmp 27) (.tmp 29), some (25, true)⟩,
⟨some 31, .load 1 false (.tmp 30), some (25, true)⟩,
⟨some 32, .bin .leq (.tmp 26) (.tmp 31), some (25, true)⟩,
⟨some 33, .pick (.tmp 25) (.tmp 32) (.val (.pv (.bool false))), some (22, false)⟩,
⟨some 34, .pick (.tmp 22) (.val (.pv (.bool true))) (.tmp 33), none⟩,
⟨some 35, .mov (.tmp 34), none⟩,
⟨some 36, .mov (.tmp 5), some (35, false)⟩,
⟨some 37, .mov (.tmp 1), some (35, false)⟩,
⟨some 38, .mov (.tmp 6), some (35, false)⟩,
⟨some 39, .idx 1 (.tmp 37) (.tmp 38), some (35, false)⟩,
⟨some 40, .load 1 false (.tmp 39), some (35, false)⟩,
⟨some 41, .look false [2] (.pv (.bool false)) (.tmp 36) (.tmp 40) false, some (35, false)⟩,
⟨some 42, .pick (.tmp 35) (.val (.pv (.bool true))) (.tmp 41), none⟩,
⟨some 43, .mov (.tmp 42), none⟩,
⟨some 44, .mov (.tmp 1), some (43, false)⟩,
⟨some 45, .mov (.tmp 6), some (43, false)⟩,
⟨some 46, .idx 1 (.tmp 44) (.tmp 45), some (43, false)⟩,
⟨some 47, .load 1 false (.tmp 46), some (43, false)⟩,
⟨some 48, .call (.val (.func 306 [])) [(.tmp 47)], some (43, false)⟩,
⟨some 49, .un .not (.tmp 48), some (43, false)⟩,
⟨some 50, .pick (.tmp 43) (.val (.pv (.bool true))) (.tmp 49), none⟩] [0, 1, 5, 6, 9, 10, 11, 50] [])
(.cond (.tmp 50)
(.seq
(.region [
⟨some 4, .mov (.val (.pv (.bool false))), none⟩] [4] [])
.ret)
.skip))
(.region [
⟨some 51, .mov (.tmp 5), none⟩,
⟨some 52, .mov (.tmp 1), none⟩,
⟨some 53, .mov (.tmp 6), none⟩,
⟨some 54, .idx 1 (.tmp 52) (.tmp 53), none⟩,
⟨some 55, .load 1 false (.tmp 54), none⟩,
⟨none, .upd false [2] (.tmp 51) (.tmp 55) (.val (.pv (.bool true))), none⟩] [0, 1, 5, 9, 10, 11] []))))
(.region [
⟨some 56, .bin .add (.tmp 11) (.val (.pv (.int .i64 1))), none⟩,
⟨some 11, .mov (.tmp 56), none⟩] [0, 1, 5, 9, 10, 11] []))))))))
(.seq
(.region [
⟨some 57, .mov (.tmp 0), none⟩,
⟨some 58, .len 0 (.tmp 57), none⟩,
⟨some 59, .bin .leq (.tmp 58) (.val (.pv (.int .i64 16))), none⟩,
⟨some 4, .mov (.tmp 59), none⟩] [4] [])
.ret)))),
[.tmp 4], false, false⟩
def F326 : AFunc := ⟨1,
(.seq
(.region [
⟨some 1, .box 1 8 (.tmp 0), none⟩,
⟨some 2, .mov (.val (.pv (.bool false))), none⟩] [1] [1])
(.seq
(.region [
⟨some 3, .load 8 true (.tmp 1), none⟩,
⟨some 4, .build [.pv (.int .i64 0), .pv (.bool false), .pv (.int .i64 0), .pv (.str ⟨#[]⟩), .pv (.int .i64 0), .tl [], .tl [], .tl []] [], none⟩,
⟨some 5, .call (.val (.func 320 [])) [(.tmp 3), (.tmp 4)], none⟩,
⟨some 2, .mov (.tmp 5), none⟩] [2] [])
.ret)),
[.tmp 2], false, false⟩
def F330 : AFunc := ⟨2,
(.seq
(.region [
⟨some 2, .box 2 8 (.tmp 0), none⟩,
⟨some 3, .box 3 8 (.tmp 1), none⟩,
⟨some 4, .mov (.val (.pv (.bool false))), none⟩] [2, 3] [2, 3])
(.seq
(.seq
(.region [
⟨some 6, .fld 0 (.tmp 2), none⟩,
⟨some 7, .load 1 false (.tmp 6), none⟩,
⟨some 8, .fld 0 (.tmp 3), none⟩,
⟨some 9, .load 1 false (.tmp 8), none⟩,
⟨some 10, .bin .neq (.tmp 7) (.tmp 9), none⟩,
⟨some 11, .mov (.tmp 10), none⟩,
⟨some 12, .fld 1 (.tmp 2), some (11, false)⟩,
⟨some 13, .load 1 false (.tmp 12), some (11, false)⟩,
⟨some 14, .fld 1 (.tmp 3), some (11, false)⟩,
⟨some 15, .load 1 false (.tmp 14), some (11, false)⟩,
⟨some 16, .eqa false [0] true (.tmp 13) (.tmp 15), some (11, false)⟩,
⟨some 17, .pick (.tmp 11) (.val (.pv (.bool true))) (.tmp 16), none⟩,
⟨some 18, .mov (.tmp 17), none⟩,
⟨some 19, .fld 2 (.tmp 2), some (18, false)⟩,
⟨some 20, .load 1 false (.tmp 19), some (18, false)⟩,
⟨some 21, .fld 2 (.tmp 3), some (18, false)⟩,
⟨some 22, .load 1 false (.tmp 21), some (18, false)⟩,
⟨some 23, .bin .neq (.tmp 20) (.tmp 22), some (18, false)⟩,
⟨some 24, .pick (.tmp 18) (.val (.pv (.bool true))) (.tmp 23), none⟩,
⟨some 25, .mov (.tmp 24), none⟩,
⟨some 26, .fld 3 (.tmp 2), some (25, false)⟩,
⟨some 27, .load 1 false (.tmp 26), some (25, false)⟩,
⟨some 28, .fld 3 (.tmp 3), some (25, false)⟩,
⟨some 29, .load 1 false (.tmp 28), some (25, false)⟩,
⟨some 30, .bin .neq (.tmp 27) (.tmp 29), some (25, false)⟩,
⟨some 31, .pick (.tmp 25) (.val (.pv (.bool true))) (.tmp 30), none⟩,
⟨some 32, .mov (.tmp 31), none⟩,
⟨some 33, .fld 4 (.tmp 2), some (32, false)⟩,
⟨some 34, .load 1 false (.tmp 33), some (32, false)⟩,
⟨some 35, .fld 4 (.tmp 3), some (32, false)⟩,
⟨some 36, .load 1 false (.tmp 35), some (32, false)⟩,
⟨some 37, .bin .neq (.tmp 34) (.tmp 36), some (32, false)⟩,
⟨some 38, .pick (.tmp 32) (.val (.pv (.bool true))) (.tmp 37), none⟩,
⟨some 39, .mov (.tmp 38), none⟩,
⟨some 40, .fld 7 (.tmp 2), some (39, false)⟩,
⟨some 41, .load 1 false (.tmp 40), some (39, false)⟩,
⟨some 42, .len 0 (.tmp 41), some (39, false)⟩,
⟨some 43, .fld 7 (.tmp 3), some (39, false)⟩,
⟨some 44, .load 1 false (.tmp 43), some (39, false)⟩,
⟨some 45, .len 0 (.tmp 44), some (39, false)⟩,
⟨some 46, .bin .neq (.tmp 42) (.tmp 45), some (39, false)⟩,
⟨some 47, .pick (.tmp 39) (.val (.pv (.bool true))) (.tmp 46), none⟩] [2, 3, 47] [2, 3])
(.cond (.tmp 47)
(.seq
(.region [
⟨some 4, .mov (.val (.pv (.bool false))), none⟩] [4] [])
.ret)
.skip))
(.seq
(.seq
(.region [
⟨some 5, .mov (.val (.pv (.int .i64 0))), none⟩] [2, 3, 5] [2, 3])
(.block 0
(.loop
(.mask [2, 3, 5] [2, 3]
(.seq
(.seq
(.region [
⟨some 48, .mov (.tmp 5), none⟩,
⟨some 49, .fld 7 (.tmp 2), none⟩,
⟨some 50, .load 1 false (.tmp 49), none⟩,
⟨some 51, .len 0 (.tmp 50), none⟩,
⟨some 52, .bin .lss (.tmp 48) (.tmp 51), none⟩] [2, 3, 5, 52] [2, 3])
(.cond (.tmp 52)
.skip
(.exit 0)))
(.seq
(.block 1
(.seq
(.draw [
(⟨some 55, .fld 7 (.tmp 2), none⟩, []),
(⟨some 56, .load 1 false (.tmp 55), none⟩, []),
(⟨some 57, .mov (.tmp 5), none⟩, []),
(⟨some 58, .idx 2 (.tmp 56) (.tmp 57), none⟩, []),
(⟨some 59, .load 2 true (.tmp 58), none⟩, []),
(⟨some 60, .fld 7 (.tmp 3), none⟩, []),
(⟨some 61, .load 1 false (.tmp 60), none⟩, []),
(⟨some 62, .mov (.tmp 5), none⟩, []),
(⟨some 63, .idx 2 (.tmp 61) (.tmp 62), none⟩, []),
(⟨some 64, .load 2 true (.tmp 63), none⟩, []),
(⟨some 65, .eqa true [1, 2] true (.tmp 59) (.tmp 64), none⟩, [])] [2, 3, 5, 65] [2, 3])
(.cond (.tmp 65)
(.seq
(.region [
⟨some 4, .mov (.val (.pv (.bool false))), none⟩] [4] [])
.ret)
.skip)))
(.region [
⟨some 53, .mov (.tmp 5), none⟩,
⟨some 54, .bin .add (.tmp 53) (.val (.pv (.int .i64 1))), none⟩,
⟨some 5, .mov (.tmp 54), none⟩] [2, 3, 5] [2, 3])))))))
(.seq
(.region [
⟨some 66, .fld 5 (.tmp 2), none⟩,
⟨some 67, .load 1 false (.tmp 66), none⟩,
⟨some 68, .fld 5 (.tmp 3), none⟩,
⟨some 69, .load 1 false (.tmp 68), none⟩,
⟨some 70, .call (.val (.func 336 [])) [(.tmp 67), (.tmp 69)], none⟩,
⟨some 71, .mov (.tmp 70), none⟩,
⟨some 72, .fld 6 (.tmp 2), some (71, true)⟩,
⟨some 73, .load 1 false (.tmp 72), some (71, true)⟩,
⟨some 74, .fld 6 (.tmp 3), some (71, true)⟩,
⟨some 75, .load 1 false (.tmp 74), some (71, true)⟩,
⟨some 76, .call (.val (.func 336 [])) [(.tmp 73), (.tmp 75)], some (71, true)⟩,
⟨some 77, .pick (.tmp 71) (.tmp 76) (.val (.pv (.bool false))), none⟩,
⟨some 4, .mov (.tmp 77), none⟩] [4] [])
.ret)))),
[.tmp 4], false, false⟩
def F333 : AFunc := ⟨2,
(.seq
(.region [
⟨some 4, .mov (.val (.pv (.bool false))), none⟩] [0, 1] [])
(.seq
(.seq
(.region [
⟨some 6, .mov (.tmp 0), none⟩,
⟨some 7, .len 0 (.tmp 6), none⟩,
⟨some 8, .mov (.tmp 1), none⟩,
⟨some 9, .len 0 (.tmp 8), none⟩,
⟨some 10, .bin .neq (.tmp 7) (.tmp 9), none⟩] [0, 1, 10] [])
(.cond (.tmp 10)
(.seq
(.region [
⟨some 4, .mov (.val (.pv (.bool false))), none⟩] [4] [])
.ret)
.skip))
(.seq
(.seq
(.region [
⟨some 11, .mov (.tmp 0), none⟩,
⟨some 12, .len 0 (.tmp 11), none⟩,
⟨some 13, .mov (.val (.pv (.int .i64 0))), none⟩] [0, 1, 12, 13] [])
(.block 0
(.loop
(.mask [0, 1, 12, 13] []
(.seq
(.region [
⟨some 14, .bin .lss (.tmp 13) (.tmp 12), none⟩] [0, 1, 12, 13, 14] [])
(.seq
(.cond (.tmp 14)
.skip
(.exit 0))
(.seq
(.block 1
(.seq
(.region [
⟨some 15, .mov (.tmp 13), none⟩,
⟨some 5, .mov (.tmp 15), none⟩] [0, 1, 5, 12, 13] [])
(.seq
(.draw [
(⟨some 16, .mov (.tmp 0), none⟩, []),
(⟨some 17, .mov (.tmp 5), none⟩, []),
(⟨some 18, .idx 2 (.tmp 16) (.tmp 17), none⟩, []),
(⟨some 19, .load 2 true (.tmp 18), none⟩, []),
(⟨some 20, .mov (.tmp 1), none⟩, []),
(⟨some 21, .mov (.tmp 5), none⟩, []),
(⟨some 22, .idx 2 (.tmp 20) (.tmp 21), none⟩, []),
(⟨some 23, .load 2 true (.tmp 22), none⟩, []),
(⟨some 24, .eqa true [1, 2] true (.tmp 19) (.tmp 23), none⟩, [])] [0, 1, 12, 13, 24] [])
(.cond (.tmp 24)
(.seq
(.region [
⟨some 4, .mov (.val (.pv (.bool false))), none⟩] [4] [])
.ret)
.skip))))
(.region [
⟨some 25, .bin .add (.tmp 13) (.val (.pv (.int .i64 1))), none⟩,
⟨some 13, .mov (.tmp 25), none⟩] [0, 1, 12, 13] []))))))))
(.seq
(.region [
⟨some 4, .mov (.val (.pv (.bool true))), none⟩] [4] [])
.ret)))),
[.tmp 4], false, false⟩
def F334 : AFunc := ⟨3,
(.seq
(.region [
⟨some 6, .mov (.val (.pv (.bool false))), none⟩] [0, 1, 2] [])
(.seq
(.seq
(.region [
⟨some 10, .mov (.tmp 0), none⟩,
⟨some 11, .len 0 (.tmp 10), none⟩,
⟨some 12, .mov (.tmp 1), none⟩,
⟨some 13, .len 0 (.tmp 12), none⟩,
⟨some 14, .bin .neq (.tmp 11) (.tmp 13), none⟩] [0, 1, 2, 14] [])
(.cond (.tmp 14)
(.seq
(.region [
⟨some 6, .mov (.val (.pv (.bool false))), none⟩] [6] [])
.ret)
.skip))
(.seq
(.seq
(.region [
⟨some 15, .mov (.tmp 0), none⟩,
⟨some 16, .len 0 (.tmp 15), none⟩,
⟨some 17, .mov (.val (.pv (.int .i64 0))), none⟩] [1, 2, 15, 16, 17] [])
(.block 0
(.loop
(.mask [1, 2, 15, 16, 17] []
(.seq
(.region [
⟨some 18, .bin .lss (.tmp 17) (.tmp 16), none⟩] [1, 2, 15, 16, 17, 18] [])
(.seq
(.cond (.tmp 18)
.skip
(.exit 0))
(.seq
(.block 1
(.seq
(.region [
⟨some 19, .mov (.tmp 17), none⟩,
⟨some 20, .idx 8 (.tmp 15) (.tmp 17), none⟩,
⟨some 21, .load 8 true (.tmp 20), none⟩,
⟨some 8, .alloc 8 [.pv (.int .i64 0), .pv (.bool false), .pv (.int .i64 0), .pv (.str ⟨#[]⟩), .pv (.int .i64 0), .tl [], .tl [], .tl []], none⟩,
⟨some 7, .mov (.tmp 19), none⟩,
⟨none, .store 8 (.tmp 8) (.tmp 21), none⟩] [1, 2, 7, 8, 15, 16, 17] [8])
(.seq
(.region [
⟨some 22, .mov (.tmp 1), none⟩,
⟨some 23, .mov (.tmp 7), none⟩,
⟨some 24, .idx 8 (.tmp 22) (.tmp 23), none⟩,
⟨some 25, .load 8 true (.tmp 24), none⟩,
⟨some 9, .alloc 9 [.pv (.int .i64 0), .pv (.bool false), .pv (.int .i64 0), .pv (.str ⟨#[]⟩), .pv (.int .i64 0), .tl [], .tl [], .tl []], none⟩,
⟨none, .store 8 (.tmp 9) (.tmp 25), none⟩] [1, 2, 8, 9, 15, 16, 17] [8, 9])
(.seq
(.region [
⟨some 26, .mov (.tmp 2), none⟩,
⟨some 27, .load 8 true (.tmp 8), none⟩,
⟨some 28, .load 8 true (.tmp 9), none⟩,
⟨some 29, .call (.tmp 26) [(.tmp 27), (.tmp 28)], none⟩,
⟨some 30, .un .not (.tmp 29), none⟩] [1, 2, 15, 16, 17, 30] [])
(.cond (.tmp 30)
(.seq
(.region [
⟨some 6, .mov (.val (.pv (.bool false))), none⟩] [6] [])
.ret)
.skip)))))
(.region [
⟨some 31, .bin .add (.tmp 17) (.val (.pv (.int .i64 1))), none⟩,
⟨some 17, .mov (.tmp 31), none⟩] [1, 2, 15, 16, 17] []))))))))
(.seq
(.region [
⟨some 6, .mov (.val (.pv (.bool true))), none⟩] [6] [])
.ret)))),
[.tmp 6], false, false⟩
def F335 : AFunc := ⟨1,
(.seq
(.region [
⟨some 2, .mov (.val (.pv (.bool false))), none⟩] [0] [])
(.seq
(.region [
⟨some 3, .mov (.tmp 0), none⟩,
⟨some 4, .bin .geq (.tmp 3) (.val (.pv (.int .i64 7))), none⟩,
⟨some 2, .mov (.tmp 4), none⟩] [2] [])
.ret)),
[.tmp 2], false, false⟩
def F336 : AFunc := ⟨2,
(.seq
(.region [
⟨some 4, .mov (.val (.pv (.bool false))), none⟩] [0, 1] [])
(.seq
(.seq
(.region [
⟨some 6, .mov (.tmp 0), none⟩,
⟨some 7, .len 0 (.tmp 6), none⟩,
⟨some 8, .mov (.tmp 1), none⟩,
⟨some 9, .len 0 (.tmp 8), none⟩,
⟨some 10, .bin .neq (.tmp 7) (.tmp 9), none⟩] [0, 1, 10] [])
(.cond (.tmp 10)
(.seq
(.region [
⟨some 4, .mov (.val (.pv (.bool false))), none⟩] [4] [])
.ret)
.skip))
(.seq
(.seq
(.region [
⟨some 5, .mov (.val (.pv (.int .i64 0))), none⟩] [0, 1, 5] [])
(.block 0
(.loop
(.mask [0, 1, 5] []
(.seq
(.seq
(.region [
⟨some 11, .mov (.tmp 5), none⟩,
⟨some 12, .mov (.tmp 0), none⟩,
⟨some 13, .len 0 (.tmp 12), none⟩,
⟨some 14, .bin .lss (.tmp 11) (.tmp 13), none⟩] [0, 1, 5, 14] [])
(.cond (.tmp 14)
.skip
(.exit 0)))
(.seq
(.block 1
(.seq
(.draw [
(⟨some 17, .mov (.tmp 0), none⟩, []),
(⟨some 18, .mov (.tmp 5), none⟩, []),
(⟨some 19, .idx 8 (.tmp 17) (.tmp 18), none⟩, []),
(⟨some 20, .load 8 true (.tmp 19), none⟩, []),
(⟨some 21, .mov (.tmp 1), none⟩, []),
(⟨some 22, .mov (.tmp 5), none⟩, []),
(⟨some 23, .idx 8 (.tmp 21) (.tmp 22), none⟩, []),
(⟨some 24, .load 8 true (.tmp 23), none⟩, []),
(⟨some 25, .call (.val (.func 330 [])) [(.tmp 20), (.tmp 24)], none⟩, []),
(⟨some 26, .un .not (.tmp 25), none⟩, [])] [0, 1, 5, 26] [])
(.cond (.tmp 26)
(.seq
(.region [
⟨some 4, .mov (.val (.pv (.bool false))), none⟩] [4] [])
.ret)
.skip)))
(.region [
⟨some 15, .mov (.tmp 5), none⟩,
⟨some 16, .bin .add (.tmp 15) (.val (.pv (.int .i64 1))), none⟩,
⟨some 5, .mov (.tmp 16), none⟩] [0, 1, 5] [])))))))
(.seq
(.region [
⟨some 4, .mov (.val (.pv (.bool true))), none⟩] [4] [])
.ret)))),
[.tmp 4], false, false⟩
def F389 : AFunc := ⟨2,
(.seq
(.region [
⟨some 2, .box 2 1 (.tmp 0), none⟩,
⟨some 4, .mov (.val (.pv (.bool false))), none⟩] [1, 2] [2])
(.seq
(.region [
⟨some 20, .load 1 true (.tmp 2), none⟩,
⟨some 21, .call (.val (.func 279 [])) [(.tmp 20)], none⟩,
⟨some 19, .mov (.tmp 21), none⟩,
⟨some 22, .ext (.tmp 19) 0, none⟩,
⟨some 23, .ext (.tmp 19) 1, none⟩,
⟨some 5, .alloc 5 [.tl []], none⟩,
⟨none, .store 1 (.tmp 5) (.tmp 22), none⟩,
⟨some 6, .mov (.tmp 23), none⟩] [1, 5, 6] [5])
(.seq
(.seq
(.region [
⟨some 24, .call (.val (.func 265 [])) [], none⟩,
⟨some 25, .un .not (.tmp 24), none⟩,
⟨some 26, .mov (.tmp 25), none⟩,
⟨some 27, .mov (.tmp 6), some (26, false)⟩,
⟨some 28, .un .not (.tmp 27), some (26, false)⟩,
⟨some 29, .pick (.tmp 26) (.val (.pv (.bool true))) (.tmp 28), none⟩] [1, 5, 29] [5])
(.cond (.tmp 29)
(.seq
(.region [
⟨some 30, .call (.val (.func 265 [])) [], none⟩,
⟨some 4, .mov (.tmp 30), none⟩] [4] [])
.ret)
.skip))
(.seq
(.draw [
(⟨some 32, .load 1 true (.tmp 5), none⟩, []),
(⟨some 33, .mov (.tmp 1), none⟩, []),
(⟨some 34, .conv .i64 (.tmp 33), none⟩, []),
(⟨some 35, .fld 0 (.tmp 5), none⟩, []),
(⟨some 36, .load 1 false (.tmp 35), none⟩, []),
(⟨some 37, .len 0 (.tmp 36), none⟩, []),
(⟨some 38, .bin .rem (.tmp 34) (.tmp 37), none⟩, []),
(⟨some 39, .call (.val (.func 273 [])) [(.tmp 32), (.tmp 38)], none⟩, []),
(⟨some 31, .mov (.tmp 39), none⟩, []),
(⟨some 40, .ext (.tmp 31) 0, none⟩, []),
(⟨some 41, .ext (.tmp 31) 1, none⟩, []),
(⟨some 7, .mov (.tmp 40), none⟩, []),
(⟨some 8, .mov (.tmp 41), none⟩, [])] [5, 7, 8] [5])
(.seq
(.seq
(.region [
⟨some 42, .mov (.tmp 8), none⟩,
⟨some 43, .bin .neq (.tmp 42) (.val (.pv (.int .i64 0))), none⟩] [5, 7, 43] [5])
(.cond (.tmp 43)
(.seq
(.region [
⟨some 4, .mov (.val (.pv (.bool false))), none⟩] [4] [])
.ret)
.skip))
(.seq
(.seq
(.region [
⟨some 44, .mov (.tmp 7), none⟩,
⟨some 45, .len 0 (.tmp 44), none⟩,
⟨some 46, .mov (.val (.pv (.int .i64 0))), none⟩] [5, 7, 44, 45, 46] [5])
(.block 0
(.loop
(.mask [5, 7, 44, 45, 46] [5]
(.seq
(.region [
⟨some 47, .bin .lss (.tmp 46) (.tmp 45), none⟩] [5, 7, 44, 45, 46, 47] [5])
(.seq
(.cond (.tmp 47)
.skip
(.exit 0))
(.seq
(.block 1
(.seq
(.region [
⟨some 48, .idx 1 (.tmp 44) (.tmp 46), none⟩,
⟨some 49, .load 1 false (.tmp 48), none⟩,
⟨some 10, .mov (.tmp 49), none⟩] [5, 7, 10, 44, 45, 46] [5])
(.seq
(.region [
⟨some 51, .load 1 true (.tmp 5), none⟩,
⟨some 52, .mov (.tmp 10), none⟩,
⟨some 53, .call (.val (.func 271 [])) [(.tmp 51), (.tmp 52)], none⟩,
⟨some 50, .mov (.tmp 53), none⟩,
⟨some 54, .ext (.tmp 50) 0, none⟩,
⟨some 55, .ext (.tmp 50) 1, none⟩,
⟨some 11, .mov (.tmp 54), none⟩,
⟨some 12, .mov (.tmp 55), none⟩] [5, 7, 11, 12, 44, 45, 46] [5])
(.seq
(.seq
(.region [
⟨some 56, .mov (.tmp 12), none⟩,
⟨some 57, .bin .neq (.tmp 56) (.val (.pv (.int .i64 0))), none⟩] [5, 7, 11, 44, 45, 46, 57] [5])
(.cond (.tmp 57)
(.seq
(.region [
⟨some 4, .mov (.val (.pv (.bool false))), none⟩] [4] [])
.ret)
.skip))
(.seq
(.region [
⟨some 58, .mov (.tmp 11), none⟩,
⟨some 59, .len 0 (.tmp 58), none⟩,
⟨some 60, .mov (.val (.pv (.int .i64 0))), none⟩] [5, 7, 44, 45, 46, 58, 59, 60] [5])
(.block 2
(.loop
(.mask [5, 7, 44, 45, 46, 58, 59, 60] [5]
(.seq
(.region [
⟨some 61, .bin .lss (.tmp 60) (.tmp 59), none⟩] [5, 7, 44, 45, 46, 58, 59, 60, 61] [5])
(.seq
(.cond (.tmp 61)
.skip
(.exit 2))
(.seq
(.block 3
(.seq
(.region [
⟨some 62, .idx 1 (.tmp 58) (.tmp 60), none⟩,
⟨some 63, .load 1 false (.tmp 62), none⟩,
⟨some 14, .mov (.tmp 63), none⟩] [5, 7, 14, 44, 45, 46, 58, 59, 60] [5])
(.seq
(.region [
⟨some 64, .mov (.tmp 7), none⟩,
⟨some 65, .mov (.tmp 14), none⟩,
⟨some 66, .call (.val (.func 293 [])) [(.tmp 64), (.tmp 65)], none⟩,
⟨some 67, .un .not (.tmp 66), none⟩] [5, 7, 44, 45, 46, 58, 59, 60, 67] [5])
(.cond (.tmp 67)
(.seq
(.region [
⟨some 4, .mov (.val (.pv (.bool false))), none⟩] [4] [])
.ret)
.skip))))
(.region [
⟨some 68, .bin .add (.tmp 60) (.val (.pv (.int .i64 1))), none⟩,
⟨some 60, .mov (.tmp 68), none⟩] [5, 7, 44, 45, 46, 58, 59, 60] [5]))))))))))))
(.region [
⟨some 69, .bin .add (.tmp 46) (.val (.pv (.int .i64 1))), none⟩,
⟨some 46, .mov (.tmp 69), none⟩] [5, 7, 44, 45, 46] [5]))))))))
(.seq
(.seq
(.region [
⟨some 70, .fld 0 (.tmp 5), none⟩,
⟨some 71, .load 1 false (.tmp 70), none⟩,
⟨some 72, .len 0 (.tmp 71), none⟩,
⟨some 73, .mov (.val (.pv (.int .i64 0))), none⟩] [5, 71, 72, 73] [5])
(.block 4
(.loop
(.mask [5, 71, 72, 73] [5]
(.seq
(.region [
⟨some 74, .bin .lss (.tmp 73) (.tmp 72), none⟩] [5, 71, 72, 73, 74] [5])
(.seq
(.cond (.tmp 74)
.skip
(.exit 4))
(.seq
(.block 5
(.seq
(.region [
⟨some 75, .mov (.tmp 73), none⟩,
⟨some 76, .idx 10 (.tmp 71) (.tmp 73), none⟩,
⟨some 77, .load 10 true (.tmp 76), none⟩,
⟨some 16, .alloc 16 [.pv (.int .i64 0), .pv (.str ⟨#[]⟩), .pv (.int .i64 0), .pv (.int .i64 0), .pv (.int .i64 0), .tl [], .tl [], .pv (.int .i64 0), .pv (.int .i64 0), .pv (.bool false)], none⟩,
⟨some 15, .mov (.tmp 75), none⟩,
⟨none, .store 10 (.tmp 16) (.tmp 77), none⟩] [5, 15, 16, 71, 72, 73] [5, 16])
(.seq
(.region [
⟨some 79, .load 1 true (.tmp 5), none⟩,
⟨some 80, .fld 1 (.tmp 16), none⟩,
⟨some 81, .load 1 false (.tmp 80), none⟩,
⟨some 82, .call (.val (.func 269 [])) [(.tmp 79), (.tmp 81)], none⟩,
⟨some 78, .mov (.tmp 82), none⟩,
⟨some 83, .ext (.tmp 78) 0, none⟩,
⟨some 84, .ext (.tmp 78) 1, none⟩,
⟨some 17, .mov (.tmp 83), none⟩,
⟨some 18, .mov (.tmp 84), none⟩] [5, 15, 16, 17, 18, 71, 72, 73] [5, 16])
(.seq
(.region [
⟨some 85, .fld 0 (.tmp 16), none⟩,
⟨some 86, .load 1 false (.tmp 85), none⟩,
⟨some 87, .call (.val (.func 286 [])) [(.tmp 86)], none⟩,
⟨some 88, .mov (.tmp 87), none⟩,
⟨some 89, .mov (.tmp 18), some (88, true)⟩,
⟨some 90, .bin .neq (.tmp 89) (.val (.pv (.int .i64 0))), some (88, true)⟩,
⟨some 91, .mov (.tmp 90), some (88, true)⟩,
⟨some 92, .mov (.tmp 17), some (91, false)⟩,
⟨some 93, .mov (.tmp 15), some (91, false)⟩,
⟨some 94, .bin .neq (.tmp 92) (.tmp 93), some (91, false)⟩,
⟨some 95, .pick (.tmp 91) (.val (.pv (.bool true))) (.tmp 94), some (88, true)⟩,
⟨some 96, .pick (.tmp 88) (.tmp 95) (.val (.pv (.bool false))), none⟩] [5, 71, 72, 73, 96] [5])
(.cond (.tmp 96)
(.seq
(.region [
⟨some 4, .mov (.val (.pv (.bool false))), none⟩] [4] [])
.ret)
.skip)))))
(.region [
⟨some 97, .bin .add (.tmp 73) (.val (.pv (.int .i64 1))), none⟩,
⟨some 73, .mov (.tmp 97), none⟩] [5, 71, 72, 73] [5]))))))))
(.seq
(.region [
⟨some 4, .mov (.val (.pv (.bool true))), none⟩] [4] [])
.ret)))))))),
[.tmp 4], false, false⟩
end Go.Pv
