/-
  Functions of the program, read for the interpreter.
-/
import Derived.Test.YthajonmopakbpaaA3
set_option linter.unusedSimpArgs false
set_option linter.unusedVariables false
namespace Go.Pv
def F26 : AFunc := ⟨1,
(.seq
(.region [
⟨some 1, .box 1 3 (.tmp 0), none⟩,
⟨some 2, .mov (.val (.pv (.int .i64 0))), none⟩] [1] [1])
(.seq
(.seq
(.region [
⟨some 5, .fld 0 (.tmp 1), none⟩,
⟨some 6, .load 1 false (.tmp 5), none⟩,
⟨some 7, .bin .gtr (.tmp 6) (.val (.pv (.int .i64 12))), none⟩,
⟨some 8, .mov (.tmp 7), none⟩,
⟨some 9, .fld 2 (.tmp 1), some (8, false)⟩,
⟨some 10, .load 1 false (.tmp 9), some (8, false)⟩,
⟨some 11, .len 0 (.tmp 10), some (8, false)⟩,
⟨some 12, .bin .gtr (.tmp 11) (.val (.pv (.int .i64 100))), some (8, false)⟩,
⟨some 13, .pick (.tmp 8) (.val (.pv (.bool true))) (.tmp 12), none⟩] [1, 13] [1])
(.cond (.tmp 13)
(.seq
(.region [
⟨some 2, .mov (.val (.pv (.int .i64 3))), none⟩] [2] [])
.ret)
.skip))
(.seq
(.seq
(.region [
⟨some 14, .fld 0 (.tmp 1), none⟩,
⟨some 15, .load 1 false (.tmp 14), none⟩,
⟨some 16, .bin .lss (.tmp 15) (.val (.pv (.int .i64 1))), none⟩,
⟨some 17, .mov (.tmp 16), none⟩,
⟨some 18, .fld 1 (.tmp 1), some (17, false)⟩,
⟨some 19, .load 1 false (.tmp 18), some (17, false)⟩,
⟨some 20, .bin .lss (.tmp 19) (.val (.pv (.int .i64 0))), some (17, false)⟩,
⟨some 21, .pick (.tmp 17) (.val (.pv (.bool true))) (.tmp 20), none⟩,
⟨some 22, .mov (.tmp 21), none⟩,
⟨some 23, .fld 1 (.tmp 1), some (22, false)⟩,
⟨some 24, .load 1 false (.tmp 23), some (22, false)⟩,
⟨some 25, .fld 0 (.tmp 1), some (22, false)⟩,
⟨some 26, .load 1 false (.tmp 25), some (22, false)⟩,
⟨some 27, .bin .geq (.tmp 24) (.tmp 26), some (22, false)⟩,
⟨some 28, .pick (.tmp 22) (.val (.pv (.bool true))) (.tmp 27), none⟩] [1, 28] [1])
(.cond (.tmp 28)
(.seq
(.region [
⟨some 2, .mov (.val (.pv (.int .i64 1))), none⟩] [2] [])
.ret)
.skip))
(.seq
(.seq
(.region [
⟨some 3, .mov (.val (.pv (.int .i64 0))), none⟩] [1, 3] [1])
(.block 0
(.loop
(.mask [1, 3] [1]
(.seq
(.seq
(.region [
⟨some 29, .mov (.tmp 3), none⟩,
⟨some 30, .fld 2 (.tmp 1), none⟩,
⟨some 31, .load 1 false (.tmp 30), none⟩,
⟨some 32, .len 0 (.tmp 31), none⟩,
⟨some 33, .bin .lss (.tmp 29) (.tmp 32), none⟩] [1, 3, 33] [1])
(.cond (.tmp 33)
.skip
(.exit 0)))
(.seq
(.block 1
(.seq
(.region [
⟨some 36, .fld 2 (.tmp 1), none⟩,
⟨some 37, .load 1 false (.tmp 36), none⟩,
⟨some 38, .mov (.tmp 3), none⟩,
⟨some 39, .idx 4 (.tmp 37) (.tmp 38), none⟩,
⟨some 40, .load 4 true (.tmp 39), none⟩,
⟨some 4, .alloc 4 [.pv (.int .i64 0), .pv (.bool false), .pv (.int .i64 0), .pv (.int .i64 0)], none⟩,
⟨none, .store 4 (.tmp 4) (.tmp 40), none⟩] [1, 3, 4] [1, 4])
(.seq
(.seq
(.region [
⟨some 41, .fld 0 (.tmp 4), none⟩,
⟨some 42, .load 1 false (.tmp 41), none⟩,
⟨some 43, .bin .lss (.tmp 42) (.val (.pv (.int .i64 0))), none⟩,
⟨some 44, .mov (.tmp 43), none⟩,
⟨some 45, .fld 0 (.tmp 4), some (44, false)⟩,
⟨some 46, .load 1 false (.tmp 45), some (44, false)⟩,
⟨some 47, .fld 0 (.tmp 1), some (44, false)⟩,
⟨some 48, .load 1 false (.tmp 47), some (44, false)⟩,
⟨some 49, .bin .geq (.tmp 46) (.tmp 48), some (44, false)⟩,
⟨some 50, .pick (.tmp 44) (.val (.pv (.bool true))) (.tmp 49), none⟩,
⟨some 51, .mov (.tmp 50), none⟩,
⟨some 52, .fld 3 (.tmp 4), some (51, false)⟩,
⟨some 53, .load 1 false (.tmp 52), some (51, false)⟩,
⟨some 54, .bin .lss (.tmp 53) (.val (.pv (.int .i64 0))), some (51, false)⟩,
⟨some 55, .pick (.tmp 51) (.val (.pv (.bool true))) (.tmp 54), none⟩,
⟨some 56, .mov (.tmp 55), none⟩,
⟨some 57, .fld 3 (.tmp 4), some (56, false)⟩,
⟨some 58, .load 1 false (.tmp 57), some (56, false)⟩,
⟨some 59, .fld 0 (.tmp 1), some (56, false)⟩,
⟨some 60, .load 1 false (.tmp 59), some (56, false)⟩,
⟨some 61, .bin .geq (.tmp 58) (.tmp 60), some (56, false)⟩,
⟨some 62, .pick (.tmp 56) (.val (.pv (.bool true))) (.tmp 61), none⟩,
⟨some 63, .mov (.tmp 62), none⟩,
⟨some 64, .fld 2 (.tmp 4), some (63, false)⟩,
⟨some 65, .load 1 false (.tmp 64), some (63, false)⟩,
⟨some 66, .bin .lss (.tmp 65) (.val (.pv (.int .i64 1))), some (63, false)⟩,
⟨some 67, .pick (.tmp 63) (.val (.pv (.bool true))) (.tmp 66), none⟩,
⟨some 68, .mov (.tmp 67), none⟩,
⟨some 69, .fld 2 (.tmp 4), some (68, false)⟩,
⟨some 70, .load 1 false (.tmp 69), some (68, false)⟩,
⟨some 71, .bin .gtr (.tmp 70) (.val (.pv (.int .i64 1000))), some (68, false)⟩,
⟨some 72, .pick (.tmp 68) (.val (.pv (.bool true))) (.tmp 71), none⟩] [1, 3, 4, 72] [1, 4])
(.cond (.tmp 72)
(.seq
(.region [
⟨some 2, .mov (.val (.pv (.int .i64 1))), none⟩] [2] [])
.ret)
.skip))
(.seq
(.draw [
(⟨some 73, .mov (.tmp 3), none⟩, []),
(⟨some 74, .bin .gtr (.tmp 73) (.val (.pv (.int .i64 0))), none⟩, []),
(⟨some 75, .mov (.tmp 74), none⟩, []),
(⟨some 76, .fld 2 (.tmp 1), some (75, true)⟩, []),
(⟨some 77, .load 1 false (.tmp 76), some (75, true)⟩, []),
(⟨some 78, .mov (.tmp 3), some (75, true)⟩, []),
(⟨some 79, .bin .sub (.tmp 78) (.val (.pv (.int .i64 1))), some (75, true)⟩, []),
(⟨some 80, .idx 4 (.tmp 77) (.tmp 79), some (75, true)⟩, []),
(⟨some 81, .load 4 true (.tmp 80), some (75, true)⟩, []),
(⟨some 82, .load 4 true (.tmp 4), some (75, true)⟩, []),
(⟨some 83, .call (.val (.func 44 [])) [(.tmp 81), (.tmp 82)], some (75, true)⟩, []),
(⟨some 84, .un .not (.tmp 83), some (75, true)⟩, []),
(⟨some 85, .pick (.tmp 75) (.tmp 84) (.val (.pv (.bool false))), none⟩, [])] [1, 3, 85] [1])
(.cond (.tmp 85)
(.seq
(.region [
⟨some 2, .mov (.val (.pv (.int .i64 1))), none⟩] [2] [])
.ret)
.skip)))))
(.region [
⟨some 34, .mov (.tmp 3), none⟩,
⟨some 35, .bin .add (.tmp 34) (.val (.pv (.int .i64 1))), none⟩,
⟨some 3, .mov (.tmp 35), none⟩] [1, 3] [1])))))))
(.seq
(.region [
⟨some 2, .mov (.val (.pv (.int .i64 0))), none⟩] [2] [])
.ret))))),
[.tmp 2], false, false⟩
def F27 : AFunc := ⟨2,
(.seq
(.region [
⟨some 2, .box 2 3 (.tmp 0), none⟩,
⟨some 4, .mov (.val (.pv (.int .i64 0))), none⟩,
⟨some 5, .mov (.val (.pv (.int .i64 0))), none⟩,
⟨some 6, .mov (.val (.pv (.int .i64 0))), none⟩] [1, 2] [2])
(.seq
(.seq
(.region [
⟨some 13, .load 3 true (.tmp 2), none⟩,
⟨some 14, .call (.val (.func 29 [])) [(.tmp 13)], none⟩,
⟨some 7, .mov (.tmp 14), none⟩] [1, 2, 7] [2])
(.seq
(.region [
⟨some 15, .mov (.tmp 7), none⟩,
⟨some 16, .bin .neq (.tmp 15) (.val (.pv (.int .i64 0))), none⟩] [1, 2, 7, 16] [2])
(.cond (.tmp 16)
(.seq
(.region [
⟨some 17, .mov (.tmp 7), none⟩,
⟨some 4, .mov (.val (.pv (.int .i64 0))), none⟩,
⟨some 5, .mov (.val (.pv (.int .i64 0))), none⟩,
⟨some 6, .mov (.tmp 17), none⟩] [4, 5, 6] [])
.ret)
.skip)))
(.seq
(.region [
⟨some 18, .fld 1 (.tmp 2), none⟩,
⟨some 19, .load 1 false (.tmp 18), none⟩,
⟨some 8, .mov (.tmp 19), none⟩] [1, 2, 8] [2])
(.seq
(.seq
(.region [
⟨some 20, .mov (.tmp 1), none⟩,
⟨some 21, .len 0 (.tmp 20), none⟩,
⟨some 22, .mov (.val (.pv (.int .i64 0))), none⟩] [1, 2, 8, 20, 21, 22] [2])
(.block 0
(.loop
(.mask [1, 2, 8, 20, 21, 22] [2]
(.seq
(.region [
⟨some 23, .bin .lss (.tmp 22) (.tmp 21), none⟩] [1, 2, 8, 20, 21, 22, 23] [2])
(.seq
(.cond (.tmp 23)
.skip
(.exit 0))
(.seq
(.block 1
(.seq
(.region [
⟨some 24, .mov (.tmp 22), none⟩,
⟨some 25, .idx 2 (.tmp 20) (.tmp 22), none⟩,
⟨some 26, .load 2 true (.tmp 25), none⟩,
⟨some 10, .alloc 10 [.pv (.bool false), .pv (.int .i64 0)], none⟩,
⟨some 9, .mov (.tmp 24), none⟩,
⟨none, .store 2 (.tmp 10) (.tmp 26), none⟩] [1, 2, 8, 9, 10, 20, 21, 22] [2, 10])
(.seq
(.region [
⟨some 28, .load 3 true (.tmp 2), none⟩,
⟨some 29, .mov (.tmp 8), none⟩,
⟨some 30, .fld 0 (.tmp 10), none⟩,
⟨some 31, .load 1 false (.tmp 30), none⟩,
⟨some 32, .fld 1 (.tmp 10), none⟩,
⟨some 33, .load 1 false (.tmp 32), none⟩,
⟨some 34, .call (.val (.func 45 [])) [(.tmp 28), (.tmp 29), (.tmp 31), (.tmp 33)], none⟩,
⟨some 27, .mov (.tmp 34), none⟩,
⟨some 35, .ext (.tmp 27) 0, none⟩,
⟨some 36, .ext (.tmp 27) 1, none⟩,
⟨some 11, .mov (.tmp 35), none⟩,
⟨some 12, .mov (.tmp 36), none⟩] [1, 2, 8, 9, 11, 12, 20, 21, 22] [2])
(.seq
(.seq
(.region [
⟨some 37, .mov (.tmp 12), none⟩,
⟨some 38, .un .not (.tmp 37), none⟩] [1, 2, 8, 9, 11, 20, 21, 22, 38] [2])
(.cond (.tmp 38)
(.seq
(.region [
⟨some 39, .mov (.tmp 8), none⟩,
⟨some 40, .mov (.tmp 9), none⟩,
⟨some 4, .mov (.tmp 39), none⟩,
⟨some 5, .mov (.tmp 40), none⟩,
⟨some 6, .mov (.val (.pv (.int .i64 0))), none⟩] [4, 5, 6] [])
.ret)
.skip))
(.region [
⟨some 41, .mov (.tmp 11), none⟩,
⟨some 8, .mov (.tmp 41), none⟩] [1, 2, 8, 20, 21, 22] [2])))))
(.region [
⟨some 42, .bin .add (.tmp 22) (.val (.pv (.int .i64 1))), none⟩,
⟨some 22, .mov (.tmp 42), none⟩] [1, 2, 8, 20, 21, 22] [2]))))))))
(.seq
(.region [
⟨some 43, .mov (.tmp 8), none⟩,
⟨some 44, .mov (.tmp 1), none⟩,
⟨some 45, .len 0 (.tmp 44), none⟩,
⟨some 4, .mov (.tmp 43), none⟩,
⟨some 5, .mov (.tmp 45), none⟩,
⟨some 6, .mov (.val (.pv (.int .i64 0))), none⟩] [4, 5, 6] [])
.ret))))),
[.tmp 4, .tmp 5, .tmp 6], false, false⟩
def F29 : AFunc := ⟨1,
(.seq
(.region [
⟨some 1, .box 1 3 (.tmp 0), none⟩,
⟨some 2, .mov (.val (.pv (.int .i64 0))), none⟩] [1] [1])
(.seq
(.seq
(.region [
⟨some 6, .fld 0 (.tmp 1), none⟩,
⟨some 7, .load 1 false (.tmp 6), none⟩,
⟨some 8, .bin .gtr (.tmp 7) (.val (.pv (.int .i64 12))), none⟩,
⟨some 9, .mov (.tmp 8), none⟩,
⟨some 10, .fld 2 (.tmp 1), some (9, false)⟩,
⟨some 11, .load 1 false (.tmp 10), some (9, false)⟩,
⟨some 12, .len 0 (.tmp 11), some (9, false)⟩,
⟨some 13, .bin .gtr (.tmp 12) (.val (.pv (.int .i64 100))), some (9, false)⟩,
⟨some 14, .pick (.tmp 9) (.val (.pv (.bool true))) (.tmp 13), none⟩] [1, 14] [1])
(.cond (.tmp 14)
(.seq
(.region [
⟨some 2, .mov (.val (.pv (.int .i64 3))), none⟩] [2] [])
.ret)
.skip))
(.seq
(.region [
⟨some 15, .clos 46 [(.tmp 1)], none⟩,
⟨some 3, .mov (.tmp 15), none⟩] [1, 3] [1])
(.seq
(.seq
(.region [
⟨some 16, .mov (.tmp 3), none⟩,
⟨some 17, .fld 1 (.tmp 1), none⟩,
⟨some 18, .load 1 false (.tmp 17), none⟩,
⟨some 19, .call (.tmp 16) [(.tmp 18)], none⟩,
⟨some 20, .un .not (.tmp 19), none⟩] [1, 3, 20] [1])
(.cond (.tmp 20)
(.seq
(.region [
⟨some 2, .mov (.val (.pv (.int .i64 1))), none⟩] [2] [])
.ret)
.skip))
(.seq
(.seq
(.region [
⟨some 21, .fld 2 (.tmp 1), none⟩,
⟨some 22, .load 1 false (.tmp 21), none⟩,
⟨some 23, .len 0 (.tmp 22), none⟩,
⟨some 24, .mov (.val (.pv (.int .i64 0))), none⟩] [1, 3, 22, 23, 24] [1])
(.block 0
(.loop
(.mask [1, 3, 22, 23, 24] [1]
(.seq
(.region [
⟨some 25, .bin .lss (.tmp 24) (.tmp 23), none⟩] [1, 3, 22, 23, 24, 25] [1])
(.seq
(.cond (.tmp 25)
.skip
(.exit 0))
(.seq
(.block 1
(.seq
(.region [
⟨some 26, .mov (.tmp 24), none⟩,
⟨some 27, .idx 4 (.tmp 22) (.tmp 24), none⟩,
⟨some 28, .load 4 true (.tmp 27), none⟩,
⟨some 5, .alloc 5 [.pv (.int .i64 0), .pv (.bool false), .pv (.int .i64 0), .pv (.int .i64 0)], none⟩,
⟨some 4, .mov (.tmp 26), none⟩,
⟨none, .store 4 (.tmp 5) (.tmp 28), none⟩] [1, 3, 4, 5, 22, 23, 24] [1, 5])
(.seq
(.draw [
(⟨some 29, .mov (.tmp 3), none⟩, []),
(⟨some 30, .fld 0 (.tmp 5), none⟩, []),
(⟨some 31, .load 1 false (.tmp 30), none⟩, []),
(⟨some 32, .call (.tmp 29) [(.tmp 31)], none⟩, []),
(⟨some 33, .un .not (.tmp 32), none⟩, []),
(⟨some 34, .mov (.tmp 33), none⟩, []),
(⟨some 35, .mov (.tmp 3), some (34, false)⟩, []),
(⟨some 36, .fld 3 (.tmp 5), some (34, false)⟩, []),
(⟨some 37, .load 1 false (.tmp 36), some (34, false)⟩, []),
(⟨some 38, .call (.tmp 35) [(.tmp 37)], some (34, false)⟩, []),
(⟨some 39, .un .not (.tmp 38), some (34, false)⟩, []),
(⟨some 40, .pick (.tmp 34) (.val (.pv (.bool true))) (.tmp 39), none⟩, []),
(⟨some 41, .mov (.tmp 40), none⟩, []),
(⟨some 42, .fld 2 (.tmp 5), some (41, false)⟩, []),
(⟨some 43, .load 1 false (.tmp 42), some (41, false)⟩, []),
(⟨some 44, .bin .lss (.tmp 43) (.val (.pv (.int .i64 1))), some (41, false)⟩, []),
(⟨some 45, .pick (.tmp 41) (.val (.pv (.bool true))) (.tmp 44), none⟩, []),
(⟨some 46, .mov (.tmp 45), none⟩, []),
(⟨some 47, .fld 2 (.tmp 5), some (46, false)⟩, []),
(⟨some 48, .load 1 false (.tmp 47), some (46, false)⟩, []),
(⟨some 49, .bin .gtr (.tmp 48) (.val (.pv (.int .i64 1000))), some (46, false)⟩, []),
(⟨some 50, .pick (.tmp 46) (.val (.pv (.bool true))) (.tmp 49), none⟩, []),
(⟨some 51, .mov (.tmp 50), none⟩, []),
(⟨some 52, .mov (.tmp 4), some (51, false)⟩, []),
(⟨some 53, .bin .gtr (.tmp 52) (.val (.pv (.int .i64 0))), some (51, false)⟩, []),
(⟨some 54, .mov (.tmp 53), some (51, false)⟩, []),
(⟨some 55, .fld 2 (.tmp 1), some (54, true)⟩, []),
(⟨some 56, .load 1 false (.tmp 55), some (54, true)⟩, []),
(⟨some 57, .mov (.tmp 4), some (54, true)⟩, []),
(⟨some 58, .bin .sub (.tmp 57) (.val (.pv (.int .i64 1))), some (54, true)⟩, []),
(⟨some 59, .idx 4 (.tmp 56) (.tmp 58), some (54, true)⟩, []),
(⟨some 60, .load 4 true (.tmp 59), some (54, true)⟩, []),
(⟨some 61, .load 4 true (.tmp 5), some (54, true)⟩, []),
(⟨some 62, .call (.val (.func 47 [])) [(.tmp 60), (.tmp 61)], some (54, true)⟩, []),
(⟨some 63, .bin .geq (.tmp 62) (.val (.pv (.int .i64 0))), some (54, true)⟩, []),
(⟨some 64, .pick (.tmp 54) (.tmp 63) (.val (.pv (.bool false))), some (51, false)⟩, []),
(⟨some 65, .pick (.tmp 51) (.val (.pv (.bool true))) (.tmp 64), none⟩, [])] [1, 3, 22, 23, 24, 65] [1])
(.cond (.tmp 65)
(.seq
(.region [
⟨some 2, .mov (.val (.pv (.int .i64 1))), none⟩] [2] [])
.ret)
.skip))))
(.region [
⟨some 66, .bin .add (.tmp 24) (.val (.pv (.int .i64 1))), none⟩,
⟨some 24, .mov (.tmp 66), none⟩] [1, 3, 22, 23, 24] [1]))))))))
(.seq
(.region [
⟨some 2, .mov (.val (.pv (.int .i64 0))), none⟩] [2] [])
.ret)))))),
[.tmp 2], false, false⟩
def F44 : AFunc := ⟨2,
(.seq
(.region [
⟨some 2, .box 2 4 (.tmp 0), none⟩,
⟨some 3, .box 3 4 (.tmp 1), none⟩,
⟨some 4, .mov (.val (.pv (.bool false))), none⟩] [2, 3] [2, 3])
(.seq
(.seq
(.region [
⟨some 5, .fld 0 (.tmp 2), none⟩,
⟨some 6, .load 1 false (.tmp 5), none⟩,
⟨some 7, .fld 0 (.tmp 3), none⟩,
⟨some 8, .load 1 false (.tmp 7), none⟩,
⟨some 9, .bin .neq (.tmp 6) (.tmp 8), none⟩] [2, 3, 9] [2, 3])
(.cond (.tmp 9)
(.seq
(.region [
⟨some 10, .fld 0 (.tmp 2), none⟩,
⟨some 11, .load 1 false (.tmp 10), none⟩,
⟨some 12, .fld 0 (.tmp 3), none⟩,
⟨some 13, .load 1 false (.tmp 12), none⟩,
⟨some 14, .bin .lss (.tmp 11) (.tmp 13), none⟩,
⟨some 4, .mov (.tmp 14), none⟩] [4] [])
.ret)
.skip))
(.seq
(.seq
(.region [
⟨some 15, .fld 1 (.tmp 2), none⟩,
⟨some 16, .load 1 false (.tmp 15), none⟩,
⟨some 17, .fld 1 (.tmp 3), none⟩,
⟨some 18, .load 1 false (.tmp 17), none⟩,
⟨some 19, .eqa false [0] true (.tmp 16) (.tmp 18), none⟩] [2, 3, 19] [2, 3])
(.cond (.tmp 19)
(.seq
(.region [
⟨some 20, .fld 1 (.tmp 3), none⟩,
⟨some 21, .load 1 false (.tmp 20), none⟩,
⟨some 4, .mov (.tmp 21), none⟩] [4] [])
.ret)
.skip))
(.seq
(.region [
⟨some 22, .fld 2 (.tmp 2), none⟩,
⟨some 23, .load 1 false (.tmp 22), none⟩,
⟨some 24, .fld 2 (.tmp 3), none⟩,
⟨some 25, .load 1 false (.tmp 24), none⟩,
⟨some 26, .bin .lss (.tmp 23) (.tmp 25), none⟩,
⟨some 4, .mov (.tmp 26), none⟩] [4] [])
.ret)))),
[.tmp 4], false, false⟩
def F45 : AFunc := ⟨4,
(.seq
(.region [
⟨some 4, .box 4 3 (.tmp 0), none⟩,
⟨some 8, .mov (.val (.pv (.int .i64 0))), none⟩,
⟨some 9, .mov (.val (.pv (.bool false))), none⟩] [1, 2, 3, 4] [4])
(.seq
(.seq
(.region [
⟨some 12, .fld 2 (.tmp 4), none⟩,
⟨some 13, .load 1 false (.tmp 12), none⟩,
⟨some 14, .len 0 (.tmp 13), none⟩,
⟨some 15, .mov (.val (.pv (.int .i64 0))), none⟩] [1, 2, 3, 13, 14, 15] [])
(.block 0
(.loop
(.mask [1, 2, 3, 13, 14, 15] []
(.seq
(.region [
⟨some 16, .bin .lss (.tmp 15) (.tmp 14), none⟩] [1, 2, 3, 13, 14, 15, 16] [])
(.seq
(.cond (.tmp 16)
.skip
(.exit 0))
(.seq
(.block 1
(.seq
(.region [
⟨some 17, .idx 4 (.tmp 13) (.tmp 15), none⟩,
⟨some 18, .load 4 true (.tmp 17), none⟩,
⟨some 11, .alloc 11 [.pv (.int .i64 0), .pv (.bool false), .pv (.int .i64 0), .pv (.int .i64 0)], none⟩,
⟨none, .store 4 (.tmp 11) (.tmp 18), none⟩] [1, 2, 3, 11, 13, 14, 15] [11])
(.seq
(.region [
⟨some 19, .fld 0 (.tmp 11), none⟩,
⟨some 20, .load 1 false (.tmp 19), none⟩,
⟨some 21, .mov (.tmp 1), none⟩,
⟨some 22, .bin .eql (.tmp 20) (.tmp 21), none⟩,
⟨some 23, .mov (.tmp 22), none⟩,
⟨some 24, .fld 1 (.tmp 11), some (23, true)⟩,
⟨some 25, .load 1 false (.tmp 24), some (23, true)⟩,
⟨some 26, .mov (.tmp 2), some (23, true)⟩,
⟨some 27, .eqa false [0] false (.tmp 25) (.tmp 26), some (23, true)⟩,
⟨some 28, .pick (.tmp 23) (.tmp 27) (.val (.pv (.bool false))), none⟩,
⟨some 29, .mov (.tmp 28), none⟩,
⟨some 30, .fld 2 (.tmp 11), some (29, true)⟩,
⟨some 31, .load 1 false (.tmp 30), some (29, true)⟩,
⟨some 32, .mov (.tmp 3), some (29, true)⟩,
⟨some 33, .bin .eql (.tmp 31) (.tmp 32), some (29, true)⟩,
⟨some 34, .pick (.tmp 29) (.tmp 33) (.val (.pv (.bool false))), none⟩] [1, 2, 3, 11, 13, 14, 15, 34] [11])
(.cond (.tmp 34)
(.seq
(.region [
⟨some 35, .fld 3 (.tmp 11), none⟩,
⟨some 36, .load 1 false (.tmp 35), none⟩,
⟨some 8, .mov (.tmp 36), none⟩,
⟨some 9, .mov (.val (.pv (.bool true))), none⟩] [8, 9] [])
.ret)
.skip))))
(.region [
⟨some 37, .bin .add (.tmp 15) (.val (.pv (.int .i64 1))), none⟩,
⟨some 15, .mov (.tmp 37), none⟩] [1, 2, 3, 13, 14, 15] []))))))))
(.seq
(.region [
⟨some 8, .mov (.val (.pv (.int .i64 0))), none⟩,
⟨some 9, .mov (.val (.pv (.bool false))), none⟩] [8, 9] [])
.ret))),
[.tmp 8, .tmp 9], false, false⟩
def F46 : AFunc := ⟨2,
(.seq
(.region [
⟨some 3, .mov (.val (.pv (.bool false))), none⟩] [0, 1] [])
(.seq
(.region [
⟨some 4, .mov (.tmp 0), none⟩,
⟨some 5, .bin .geq (.tmp 4) (.val (.pv (.int .i64 0))), none⟩,
⟨some 6, .mov (.tmp 5), none⟩,
⟨some 7, .mov (.tmp 0), some (6, true)⟩,
⟨some 8, .fld 0 (.tmp 1), some (6, true)⟩,
⟨some 9, .load 1 false (.tmp 8), some (6, true)⟩,
⟨some 10, .bin .lss (.tmp 7) (.tmp 9), some (6, true)⟩,
⟨some 11, .pick (.tmp 6) (.tmp 10) (.val (.pv (.bool false))), none⟩,
⟨some 3, .mov (.tmp 11), none⟩] [3] [])
.ret)),
[.tmp 3], false, false⟩
def F47 : AFunc := ⟨2,
(.seq
(.region [
⟨some 2, .box 2 4 (.tmp 0), none⟩,
⟨some 3, .box 3 4 (.tmp 1), none⟩,
⟨some 4, .mov (.val (.pv (.int .i64 0))), none⟩] [2, 3] [2, 3])
(.seq
(.region [
⟨some 5, .mov (.val (.func 58 [])), none⟩] [2, 3, 5] [2, 3])
(.seq
(.draw [
(⟨some 6, .fld 0 (.tmp 2), none⟩, []),
(⟨some 7, .load 1 false (.tmp 6), none⟩, []),
(⟨some 8, .fld 0 (.tmp 3), none⟩, []),
(⟨some 9, .load 1 false (.tmp 8), none⟩, []),
(⟨some 10, .call (.val (.func 60 [])) [(.tmp 7), (.tmp 9)], none⟩, []),
(⟨some 11, .mov (.tmp 5), none⟩, []),
(⟨some 12, .load 4 true (.tmp 2), none⟩, [4]),
(⟨some 13, .call (.tmp 11) [(.tmp 12)], none⟩, []),
(⟨some 14, .mov (.tmp 5), none⟩, []),
(⟨some 15, .load 4 true (.tmp 3), none⟩, [4, 7]),
(⟨some 16, .call (.tmp 14) [(.tmp 15)], none⟩, []),
(⟨some 17, .call (.val (.func 60 [])) [(.tmp 13), (.tmp 16)], none⟩, []),
(⟨some 18, .fld 2 (.tmp 2), none⟩, []),
(⟨some 19, .load 1 false (.tmp 18), none⟩, [4, 7, 10, 11]),
(⟨some 20, .fld 2 (.tmp 3), none⟩, []),
(⟨some 21, .load 1 false (.tmp 20), none⟩, [4, 7, 10, 11]),
(⟨some 22, .call (.val (.func 60 [])) [(.tmp 19), (.tmp 21)], none⟩, []),
(⟨some 23, .lit 1 [.pv (.int .i64 0)] 3 [(0, 1, (.tmp 10)), (1, 1, (.tmp 17)), (2, 1, (.tmp 22))], none⟩, []),
(⟨some 24, .call (.val (.func 59 [])) [(.tmp 23)], none⟩, []),
(⟨some 4, .mov (.tmp 24), none⟩, [])] [4] [])
.ret))),
[.tmp 4], false, false⟩
def F50 : AFunc := ⟨1,
(.seq
(.region [
⟨some 1, .box 1 3 (.tmp 0), none⟩,
⟨some 2, .mov (.val (.tl [])), none⟩,
⟨some 3, .mov (.val (.tl [])), none⟩] [1] [1])
(.seq
(.region [
⟨some 10, .fld 0 (.tmp 1), none⟩,
⟨some 11, .load 1 false (.tmp 10), none⟩,
⟨some 12, .make 1 [.pv (.int .i64 0)] (.tmp 11) (.tmp 11), none⟩,
⟨some 4, .mov (.tmp 12), none⟩] [1, 4] [1])
(.seq
(.seq
(.region [
⟨some 13, .mov (.tmp 4), none⟩,
⟨some 14, .len 0 (.tmp 13), none⟩,
⟨some 15, .mov (.val (.pv (.int .i64 0))), none⟩] [1, 4, 14, 15] [1])
(.block 0
(.loop
(.mask [1, 4, 14, 15] [1]
(.seq
(.region [
⟨some 16, .bin .lss (.tmp 15) (.tmp 14), none⟩] [1, 4, 14, 15, 16] [1])
(.seq
(.cond (.tmp 16)
.skip
(.exit 0))
(.seq
(.block 1
(.seq
(.region [
⟨some 17, .mov (.tmp 15), none⟩,
⟨some 5, .mov (.tmp 17), none⟩] [1, 4, 5, 14, 15] [1])
(.region [
⟨some 18, .mov (.tmp 4), none⟩,
⟨some 19, .mov (.tmp 5), none⟩,
⟨some 20, .idx 1 (.tmp 18) (.tmp 19), none⟩,
⟨none, .store 1 (.tmp 20) (.val (.pv (.int .i64 (-1)))), none⟩] [1, 4, 14, 15] [1])))
(.region [
⟨some 21, .bin .add (.tmp 15) (.val (.pv (.int .i64 1))), none⟩,
⟨some 15, .mov (.tmp 21), none⟩] [1, 4, 14, 15] [1]))))))))
(.seq
(.region [
⟨some 22, .fld 1 (.tmp 1), none⟩,
⟨some 23, .load 1 false (.tmp 22), none⟩,
⟨some 24, .lit 1 [.pv (.int .i64 0)] 1 [(0, 1, (.tmp 23))], none⟩,
⟨some 6, .mov (.tmp 24), none⟩] [1, 4, 6] [1])
(.seq
(.region [
⟨some 25, .mov (.tmp 4), none⟩,
⟨some 26, .fld 1 (.tmp 1), none⟩,
⟨some 27, .load 1 false (.tmp 26), none⟩,
⟨some 28, .idx 1 (.tmp 25) (.tmp 27), none⟩,
⟨none, .store 1 (.tmp 28) (.val (.pv (.int .i64 0))), none⟩] [1, 4, 6] [1])
(.seq
(.seq
(.region [
⟨some 7, .mov (.val (.pv (.int .i64 0))), none⟩] [1, 4, 6, 7] [1])
(.block 2
(.loop
(.mask [1, 4, 6, 7] [1]
(.seq
(.seq
(.region [
⟨some 29, .mov (.tmp 7), none⟩,
⟨some 30, .mov (.tmp 6), none⟩,
⟨some 31, .len 0 (.tmp 30), none⟩,
⟨some 32, .bin .lss (.tmp 29) (.tmp 31), none⟩] [1, 4, 6, 7, 32] [1])
(.cond (.tmp 32)
.skip
(.exit 2)))
(.seq
(.block 3
(.seq
(.region [
⟨some 35, .fld 2 (.tmp 1), none⟩,
⟨some 36, .load 1 false (.tmp 35), none⟩,
⟨some 37, .len 0 (.tmp 36), none⟩,
⟨some 38, .mov (.val (.pv (.int .i64 0))), none⟩] [1, 4, 6, 7, 36, 37, 38] [1])
(.block 4
(.loop
(.mask [1, 4, 6, 7, 36, 37, 38] [1]
(.seq
(.region [
⟨some 39, .bin .lss (.tmp 38) (.tmp 37), none⟩] [1, 4, 6, 7, 36, 37, 38, 39] [1])
(.seq
(.cond (.tmp 39)
.skip
(.exit 4))
(.seq
(.block 5
(.seq
(.region [
⟨some 40, .idx 4 (.tmp 36) (.tmp 38), none⟩,
⟨some 41, .load 4 true (.tmp 40), none⟩,
⟨some 9, .alloc 9 [.pv (.int .i64 0), .pv (.bool false), .pv (.int .i64 0), .pv (.int .i64 0)], none⟩,
⟨none, .store 4 (.tmp 9) (.tmp 41), none⟩] [1, 4, 6, 7, 9, 36, 37, 38] [1, 9])
(.seq
(.draw [
(⟨some 42, .fld 0 (.tmp 9), none⟩, []),
(⟨some 43, .load 1 false (.tmp 42), none⟩, []),
(⟨some 44, .mov (.tmp 6), none⟩, []),
(⟨some 45, .mov (.tmp 7), none⟩, []),
(⟨some 46, .idx 1 (.tmp 44) (.tmp 45), none⟩, []),
(⟨some 47, .load 1 false (.tmp 46), none⟩, []),
(⟨some 48, .bin .eql (.tmp 43) (.tmp 47), none⟩, []),
(⟨some 49, .mov (.tmp 48), none⟩, []),
(⟨some 50, .mov (.tmp 4), some (49, true)⟩, []),
(⟨some 51, .fld 3 (.tmp 9), some (49, true)⟩, []),
(⟨some 52, .load 1 false (.tmp 51), some (49, true)⟩, []),
(⟨some 53, .idx 1 (.tmp 50) (.tmp 52), some (49, true)⟩, []),
(⟨some 54, .load 1 false (.tmp 53), some (49, true)⟩, []),
(⟨some 55, .bin .lss (.tmp 54) (.val (.pv (.int .i64 0))), some (49, true)⟩, []),
(⟨some 56, .pick (.tmp 49) (.tmp 55) (.val (.pv (.bool false))), none⟩, [])] [1, 4, 6, 7, 9, 36, 37, 38, 56] [1, 9])
(.cond (.tmp 56)
(.seq
(.region [
⟨some 57, .mov (.tmp 4), none⟩,
⟨some 58, .fld 3 (.tmp 9), none⟩,
⟨some 59, .load 1 false (.tmp 58), none⟩,
⟨some 60, .mov (.tmp 6), none⟩,
⟨some 61, .len 0 (.tmp 60), none⟩,
⟨some 62, .idx 1 (.tmp 57) (.tmp 59), none⟩,
⟨none, .store 1 (.tmp 62) (.tmp 61), none⟩] [1, 4, 6, 7, 9, 36, 37, 38] [1, 9])
(.region [
⟨some 63, .mov (.tmp 6), none⟩,
⟨some 64, .fld 3 (.tmp 9), none⟩,
⟨some 65, .load 1 false (.tmp 64), none⟩,
⟨some 66, .lit 1 [.pv (.int .i64 0)] 1 [(0, 1, (.tmp 65))], none⟩,
⟨some 67, .app 1 (.tmp 63) (.tmp 66), none⟩,
⟨some 6, .mov (.tmp 67), none⟩] [1, 4, 6, 7, 36, 37, 38] [1]))
.skip))))
(.region [
⟨some 68, .bin .add (.tmp 38) (.val (.pv (.int .i64 1))), none⟩,
⟨some 38, .mov (.tmp 68), none⟩] [1, 4, 6, 7, 36, 37, 38] [1])))))))))
(.region [
⟨some 33, .mov (.tmp 7), none⟩,
⟨some 34, .bin .add (.tmp 33) (.val (.pv (.int .i64 1))), none⟩,
⟨some 7, .mov (.tmp 34), none⟩] [1, 4, 6, 7] [1])))))))
(.seq
(.region [
⟨some 69, .mov (.tmp 6), none⟩,
⟨some 70, .mov (.tmp 4), none⟩,
⟨some 2, .mov (.tmp 69), none⟩,
⟨some 3, .mov (.tmp 70), none⟩] [2, 3] [])
.ret))))))),
[.tmp 2, .tmp 3], false, false⟩
def F58 : AFunc := ⟨1,
(.seq
(.region [
⟨some 1, .box 1 4 (.tmp 0), none⟩,
⟨some 2, .mov (.val (.pv (.int .i64 0))), none⟩] [1] [1])
(.seq
(.seq
(.region [
⟨some 3, .fld 1 (.tmp 1), none⟩,
⟨some 4, .load 1 false (.tmp 3), none⟩] [4] [])
(.cond (.tmp 4)
(.seq
(.region [
⟨some 2, .mov (.val (.pv (.int .i64 1))), none⟩] [2] [])
.ret)
.skip))
(.seq
(.region [
⟨some 2, .mov (.val (.pv (.int .i64 0))), none⟩] [2] [])
.ret))),
[.tmp 2], false, false⟩
def F59 : AFunc := ⟨1,
(.seq
(.region [
⟨some 2, .mov (.val (.pv (.int .i64 0))), none⟩] [0] [])
(.seq
(.region [
⟨some 3, .mov (.val (.pv (.int .i64 0))), none⟩] [0, 3] [])
(.seq
(.seq
(.region [
⟨some 6, .mov (.tmp 0), none⟩,
⟨some 7, .len 0 (.tmp 6), none⟩,
⟨some 8, .mov (.val (.pv (.int .i64 0))), none⟩] [3, 6, 7, 8] [])
(.block 0
(.loop
(.mask [3, 6, 7, 8] []
(.seq
(.region [
⟨some 9, .bin .lss (.tmp 8) (.tmp 7), none⟩] [3, 6, 7, 8, 9] [])
(.seq
(.cond (.tmp 9)
.skip
(.exit 0))
(.seq
(.block 1
(.seq
(.region [
⟨some 10, .idx 1 (.tmp 6) (.tmp 8), none⟩,
⟨some 11, .load 1 false (.tmp 10), none⟩,
⟨some 5, .mov (.tmp 11), none⟩] [3, 5, 6, 7, 8] [])
(.seq
(.region [
⟨some 12, .mov (.tmp 5), none⟩,
⟨some 13, .mov (.tmp 3), none⟩,
⟨some 14, .bin .neq (.tmp 12) (.tmp 13), none⟩] [3, 5, 6, 7, 8, 14] [])
(.cond (.tmp 14)
(.seq
(.region [
⟨some 15, .mov (.tmp 5), none⟩,
⟨some 2, .mov (.tmp 15), none⟩] [2] [])
.ret)
.skip))))
(.region [
⟨some 16, .bin .add (.tmp 8) (.val (.pv (.int .i64 1))), none⟩,
⟨some 8, .mov (.tmp 16), none⟩] [3, 6, 7, 8] []))))))))
(.seq
(.region [
⟨some 17, .mov (.tmp 3), none⟩,
⟨some 2, .mov (.tmp 17), none⟩] [2] [])
.ret)))),
[.tmp 2], false, false⟩
def F60 : AFunc := ⟨2,
(.seq
(.region [
⟨some 4, .mov (.val (.pv (.int .i64 0))), none⟩] [0, 1] [])
(.seq
(.region [
⟨some 7, .mov (.tmp 0), none⟩,
⟨some 8, .call (.val (.func 66 [])) [(.tmp 7)], none⟩,
⟨some 5, .mov (.tmp 8), none⟩] [0, 1, 5] [])
(.seq
(.region [
⟨some 9, .mov (.tmp 1), none⟩,
⟨some 10, .call (.val (.func 66 [])) [(.tmp 9)], none⟩,
⟨some 6, .mov (.tmp 10), none⟩] [0, 1, 5, 6] [])
(.seq
(.seq
(.region [
⟨some 11, .mov (.tmp 5), none⟩] [0, 1, 6, 11] [])
(.cond (.tmp 11)
(.seq
(.seq
(.region [
⟨some 12, .mov (.tmp 6), none⟩] [12] [])
(.cond (.tmp 12)
(.seq
(.region [
⟨some 4, .mov (.val (.pv (.int .i64 0))), none⟩] [4] [])
.ret)
.skip))
(.seq
(.region [
⟨some 4, .mov (.val (.pv (.int .i64 (-1)))), none⟩] [4] [])
.ret))
.skip))
(.seq
(.seq
(.region [
⟨some 13, .mov (.tmp 6), none⟩] [0, 1, 13] [])
(.cond (.tmp 13)
(.seq
(.region [
⟨some 4, .mov (.val (.pv (.int .i64 1))), none⟩] [4] [])
.ret)
.skip))
(.seq
(.seq
(.region [
⟨some 14, .mov (.tmp 0), none⟩,
⟨some 15, .mov (.tmp 1), none⟩,
⟨some 16, .bin .lss (.tmp 14) (.tmp 15), none⟩] [0, 1, 16] [])
(.cond (.tmp 16)
(.seq
(.region [
⟨some 4, .mov (.val (.pv (.int .i64 (-1)))), none⟩] [4] [])
.ret)
.skip))
(.seq
(.seq
(.region [
⟨some 17, .mov (.tmp 0), none⟩,
⟨some 18, .mov (.tmp 1), none⟩,
⟨some 19, .bin .gtr (.tmp 17) (.tmp 18), none⟩] [19] [])
(.cond (.tmp 19)
(.seq
(.region [
⟨some 4, .mov (.val (.pv (.int .i64 1))), none⟩] [4] [])
.ret)
.skip))
(.seq
(.region [
⟨some 4, .mov (.val (.pv (.int .i64 0))), none⟩] [4] [])
.ret)))))))),
[.tmp 4], false, false⟩
def F66 : AFunc := ⟨1,
(.seq
(.region [
⟨some 2, .mov (.val (.pv (.bool false))), none⟩] [0] [])
(.seq
(.region [
⟨some 3, .mov (.tmp 0), none⟩,
⟨some 4, .mov (.tmp 0), none⟩,
⟨some 5, .bin .neq (.tmp 3) (.tmp 4), none⟩,
⟨some 2, .mov (.tmp 5), none⟩] [2] [])
.ret)),
[.tmp 2], false, false⟩
def F84 : AFunc := ⟨1,
(.seq
(.region [
⟨some 1, .box 1 3 (.tmp 0), none⟩,
⟨some 2, .mov (.val (.pv (.bool false))), none⟩] [1] [1])
(.seq
(.seq
(.region [
⟨some 3, .call (.val (.func 91 [])) [], none⟩,
⟨some 4, .un .not (.tmp 3), none⟩,
⟨some 5, .mov (.tmp 4), none⟩,
⟨some 6, .fld 2 (.tmp 1), some (5, false)⟩,
⟨some 7, .load 1 false (.tmp 6), some (5, false)⟩,
⟨some 8, .len 0 (.tmp 7), some (5, false)⟩,
⟨some 9, .bin .gtr (.tmp 8) (.val (.pv (.int .i64 110))), some (5, false)⟩,
⟨some 10, .pick (.tmp 5) (.val (.pv (.bool true))) (.tmp 9), none⟩] [1, 10] [1])
(.cond (.tmp 10)
(.seq
(.region [
⟨some 11, .call (.val (.func 91 [])) [], none⟩,
⟨some 2, .mov (.tmp 11), none⟩] [2] [])
.ret)
.skip))
(.seq
(.draw [
(⟨some 12, .load 3 true (.tmp 1), none⟩, []),
(⟨some 13, .call (.val (.func 29 [])) [(.tmp 12)], none⟩, []),
(⟨some 14, .load 3 true (.tmp 1), none⟩, [1]),
(⟨some 15, .call (.val (.func 26 [])) [(.tmp 14)], none⟩, []),
(⟨some 16, .bin .eql (.tmp 13) (.tmp 15), none⟩, []),
(⟨some 2, .mov (.tmp 16), none⟩, [])] [2] [])
.ret))),
[.tmp 2], false, false⟩
def F91 : AFunc := ⟨0,
(.seq
(.region [
⟨some 0, .mov (.val (.pv (.bool false))), none⟩] [] [])
(.seq
(.region [
⟨some 12, .call (.val (.func 102 [])) [], none⟩,
⟨some 13, .build [.pv (.bool false), .pv (.int .i64 0)] [(1, 1, (.val (.pv (.int .i64 1))))], none⟩,
⟨some 14, .build [.pv (.bool false), .pv (.int .i64 0)] [(0, 1, (.val (.pv (.bool true)))), (1, 1, (.val (.pv (.int .i64 2))))], none⟩,
⟨some 15, .build [.pv (.bool false), .pv (.int .i64 0)] [(0, 1, (.val (.pv (.bool true)))), (1, 1, (.val (.pv (.int .i64 2))))], none⟩,
⟨some 16, .lit 2 [.pv (.bool false), .pv (.int .i64 0)] 3 [(0, 2, (.tmp 13)), (2, 2, (.tmp 14)), (4, 2, (.tmp 15))], none⟩,
⟨some 17, .call (.val (.func 27 [])) [(.tmp 12), (.tmp 16)], none⟩,
⟨some 11, .mov (.tmp 17), none⟩,
⟨some 18, .ext (.tmp 11) 0, none⟩,
⟨some 19, .ext (.tmp 11) 1, none⟩,
⟨some 20, .ext (.tmp 11) 2, none⟩,
⟨some 1, .mov (.tmp 18), none⟩,
⟨some 2, .mov (.tmp 19), none⟩,
⟨some 3, .mov (.tmp 20), none⟩] [1, 2, 3] [])
(.seq
(.region [
⟨some 22, .call (.val (.func 102 [])) [], none⟩,
⟨some 23, .build [.pv (.bool false), .pv (.int .i64 0)] [(0, 1, (.val (.pv (.bool true)))), (1, 1, (.val (.pv (.int .i64 1))))], none⟩,
⟨some 24, .lit 2 [.pv (.bool false), .pv (.int .i64 0)] 1 [(0, 2, (.tmp 23))], none⟩,
⟨some 25, .call (.val (.func 27 [])) [(.tmp 22), (.tmp 24)], none⟩,
⟨some 21, .mov (.tmp 25), none⟩,
⟨some 26, .ext (.tmp 21) 0, none⟩,
⟨some 27, .ext (.tmp 21) 1, none⟩,
⟨some 28, .ext (.tmp 21) 2, none⟩,
⟨some 4, .mov (.tmp 26), none⟩,
⟨some 5, .mov (.tmp 27), none⟩,
⟨some 6, .mov (.tmp 28), none⟩] [1, 2, 3, 5, 6] [])
(.seq
(.region [
⟨some 30, .call (.val (.func 102 [])) [], none⟩,
⟨some 31, .call (.val (.func 98 [])) [(.tmp 30)], none⟩,
⟨some 29, .mov (.tmp 31), none⟩,
⟨some 32, .ext (.tmp 29) 0, none⟩,
⟨some 33, .ext (.tmp 29) 1, none⟩,
⟨some 7, .mov (.tmp 32), none⟩,
⟨some 8, .mov (.tmp 33), none⟩] [1, 2, 3, 5, 6, 7, 8] [])
(.seq
(.region [
⟨some 35, .call (.val (.func 102 [])) [], none⟩,
⟨some 36, .call (.val (.func 97 [])) [(.tmp 35)], none⟩,
⟨some 34, .mov (.tmp 36), none⟩,
⟨some 37, .ext (.tmp 34) 0, none⟩,
⟨some 38, .ext (.tmp 34) 1, none⟩,
⟨some 9, .alloc 9 [.pv (.int .i64 0), .pv (.int .i64 0), .tl []], none⟩,
⟨none, .store 3 (.tmp 9) (.tmp 37), none⟩,
⟨some 10, .mov (.tmp 38), none⟩] [1, 2, 3, 5, 6, 7, 8, 9, 10] [9])
(.seq
(.region [
⟨some 39, .call (.val (.func 102 [])) [], none⟩,
⟨some 40, .call (.val (.func 29 [])) [(.tmp 39)], none⟩,
⟨some 41, .bin .eql (.tmp 40) (.val (.pv (.int .i64 0))), none⟩,
⟨some 42, .mov (.tmp 41), none⟩,
⟨some 43, .mov (.tmp 3), some (42, true)⟩,
⟨some 44, .bin .eql (.tmp 43) (.val (.pv (.int .i64 0))), some (42, true)⟩,
⟨some 45, .pick (.tmp 42) (.tmp 44) (.val (.pv (.bool false))), none⟩,
⟨some 46, .mov (.tmp 45), none⟩,
⟨some 47, .mov (.tmp 1), some (46, true)⟩,
⟨some 48, .bin .eql (.tmp 47) (.val (.pv (.int .i64 2))), some (46, true)⟩,
⟨some 49, .pick (.tmp 46) (.tmp 48) (.val (.pv (.bool false))), none⟩,
⟨some 50, .mov (.tmp 49), none⟩,
⟨some 51, .mov (.tmp 2), some (50, true)⟩,
⟨some 52, .bin .eql (.tmp 51) (.val (.pv (.int .i64 3))), some (50, true)⟩,
⟨some 53, .pick (.tmp 50) (.tmp 52) (.val (.pv (.bool false))), none⟩,
⟨some 54, .mov (.tmp 53), none⟩,
⟨some 55, .mov (.tmp 6), some (54, true)⟩,
⟨some 56, .bin .eql (.tmp 55) (.val (.pv (.int .i64 0))), some (54, true)⟩,
⟨some 57, .pick (.tmp 54) (.tmp 56) (.val (.pv (.bool false))), none⟩,
⟨some 58, .mov (.tmp 57), none⟩,
⟨some 59, .mov (.tmp 5), some (58, true)⟩,
⟨some 60, .bin .eql (.tmp 59) (.val (.pv (.int .i64 0))), some (58, true)⟩,
⟨some 61, .pick (.tmp 58) (.tmp 60) (.val (.pv (.bool false))), none⟩,
⟨some 62, .mov (.tmp 61), none⟩,
⟨some 63, .mov (.tmp 7), some (62, true)⟩,
⟨some 64, .pick (.tmp 62) (.tmp 63) (.val (.pv (.bool false))), none⟩,
⟨some 65, .mov (.tmp 64), none⟩,
⟨some 66, .mov (.tmp 8), some (65, true)⟩,
⟨some 67, .bin .eql (.tmp 66) (.val (.pv (.int .i64 0))), some (65, true)⟩,
⟨some 68, .pick (.tmp 65) (.tmp 67) (.val (.pv (.bool false))), none⟩,
⟨some 69, .mov (.tmp 68), none⟩,
⟨some 70, .call (.val (.func 102 [])) [], some (69, true)⟩,
⟨some 71, .call (.val (.func 95 [])) [(.tmp 70)], some (69, true)⟩,
⟨some 72, .lit 1 [.pv (.int .i64 0)] 1 [(0, 1, (.val (.pv (.int .i64 2))))], some (69, true)⟩,
⟨some 73, .call (.val (.func 94 [])) [(.tmp 71), (.tmp 72)], some (69, true)⟩,
⟨some 74, .pick (.tmp 69) (.tmp 73) (.val (.pv (.bool false))), none⟩,
⟨some 75, .mov (.tmp 74), none⟩,
⟨some 76, .mov (.tmp 10), some (75, true)⟩,
⟨some 77, .bin .eql (.tmp 76) (.val (.pv (.int .i64 0))), some (75, true)⟩,
⟨some 78, .pick (.tmp 75) (.tmp 77) (.val (.pv (.bool false))), none⟩,
⟨some 79, .mov (.tmp 78), none⟩,
⟨some 80, .fld 2 (.tmp 9), some (79, true)⟩,
⟨some 81, .load 1 false (.tmp 80), some (79, true)⟩,
⟨some 82, .len 0 (.tmp 81), some (79, true)⟩,
⟨some 83, .bin .eql (.tmp 82) (.val (.pv (.int .i64 3))), some (79, true)⟩,
⟨some 84, .pick (.tmp 79) (.tmp 83) (.val (.pv (.bool false))), none⟩,
⟨some 85, .mov (.tmp 84), none⟩,
⟨some 86, .fld 2 (.tmp 9), some (85, true)⟩,
⟨some 87, .load 1 false (.tmp 86), some (85, true)⟩,
⟨some 88, .idx 4 (.tmp 87) (.val (.pv (.int .i64 0))), some (85, true)⟩,
⟨some 89, .load 4 true (.tmp 88), some (85, true)⟩,
⟨some 90, .build [.pv (.int .i64 0), .pv (.bool false), .pv (.int .i64 0), .pv (.int .i64 0)] [(0, 1, (.val (.pv (.int .i64 0)))), (2, 1, (.val (.pv (.int .i64 2)))), (3, 1, (.val (.pv (.int .i64 2))))], some (85, true)⟩,
⟨some 91, .eqa true [1, 0, 1, 1] false (.tmp 89) (.tmp 90), some (85, true)⟩,
⟨some 92, .pick (.tmp 85) (.tmp 91) (.val (.pv (.bool false))), none⟩,
⟨some 93, .mov (.tmp 92), none⟩,
⟨some 94, .fld 2 (.tmp 9), some (93, true)⟩,
⟨some 95, .load 1 false (.tmp 94), some (93, true)⟩,
⟨some 96, .idx 4 (.tmp 95) (.val (.pv (.int .i64 1))), some (93, true)⟩,
⟨some 97, .load 4 true (.tmp 96), some (93, true)⟩,
⟨some 98, .build [.pv (.int .i64 0), .pv (.bool false), .pv (.int .i64 0), .pv (.int .i64 0)] [(0, 1, (.val (.pv (.int .i64 0)))), (1, 1, (.val (.pv (.bool true)))), (2, 1, (.val (.pv (.int .i64 1)))), (3, 1, (.val (.pv (.int .i64 1))))], some (93, true)⟩,
⟨some 99, .eqa true [1, 0, 1, 1] false (.tmp 97) (.tmp 98), some (93, true)⟩,
⟨some 100, .pick (.tmp 93) (.tmp 99) (.val (.pv (.bool false))), none⟩,
⟨some 0, .mov (.tmp 100), none⟩] [0] [])
.ret)))))),
[.tmp 0], false, false⟩
def F94 : AFunc := ⟨2,
(.seq
(.region [
⟨some 4, .mov (.val (.pv (.bool false))), none⟩] [0, 1] [])
(.seq
(.seq
(.region [
⟨some 6, .mov (.tmp 0), none⟩,
⟨some 7, .len 0 (.tmp 6), none⟩,
⟨some 8, .mov (.tmp 1), none⟩,
⟨some 9, .len 0 (.tmp 8), none⟩,
⟨some 10, .bin .neq (.tmp 7) (.tmp 9), none⟩] [0, 1, 10] [])
(.cond (.tmp 10)
(.seq
(.region [
⟨some 4, .mov (.val (.pv (.bool false))), none⟩] [4] [])
.ret)
.skip))
(.seq
(.seq
(.region [
⟨some 5, .mov (.val (.pv (.int .i64 0))), none⟩] [0, 1, 5] [])
(.block 0
(.loop
(.mask [0, 1, 5] []
(.seq
(.seq
(.region [
⟨some 11, .mov (.tmp 5), none⟩,
⟨some 12, .mov (.tmp 0), none⟩,
⟨some 13, .len 0 (.tmp 12), none⟩,
⟨some 14, .bin .lss (.tmp 11) (.tmp 13), none⟩] [0, 1, 5, 14] [])
(.cond (.tmp 14)
.skip
(.exit 0)))
(.seq
(.block 1
(.seq
(.draw [
(⟨some 17, .mov (.tmp 0), none⟩, []),
(⟨some 18, .mov (.tmp 5), none⟩, []),
(⟨some 19, .idx 1 (.tmp 17) (.tmp 18), none⟩, []),
(⟨some 20, .load 1 false (.tmp 19), none⟩, []),
(⟨some 21, .mov (.tmp 1), none⟩, []),
(⟨some 22, .mov (.tmp 5), none⟩, []),
(⟨some 23, .idx 1 (.tmp 21) (.tmp 22), none⟩, []),
(⟨some 24, .load 1 false (.tmp 23), none⟩, []),
(⟨some 25, .bin .neq (.tmp 20) (.tmp 24), none⟩, [])] [0, 1, 5, 25] [])
(.cond (.tmp 25)
(.seq
(.region [
⟨some 4, .mov (.val (.pv (.bool false))), none⟩] [4] [])
.ret)
.skip)))
(.region [
⟨some 15, .mov (.tmp 5), none⟩,
⟨some 16, .bin .add (.tmp 15) (.val (.pv (.int .i64 1))), none⟩,
⟨some 5, .mov (.tmp 16), none⟩] [0, 1, 5] [])))))))
(.seq
(.region [
⟨some 4, .mov (.val (.pv (.bool true))), none⟩] [4] [])
.ret)))),
[.tmp 4], false, false⟩
def F95 : AFunc := ⟨1,
(.seq
(.region [
⟨some 1, .box 1 3 (.tmp 0), none⟩,
⟨some 2, .mov (.val (.tl [])), none⟩] [1] [1])
(.seq
(.seq
(.region [
⟨some 9, .fld 0 (.tmp 1), none⟩,
⟨some 10, .load 1 false (.tmp 9), none⟩,
⟨some 11, .bin .lss (.tmp 10) (.val (.pv (.int .i64 1))), none⟩,
⟨some 12, .mov (.tmp 11), none⟩,
⟨some 13, .fld 0 (.tmp 1), some (12, false)⟩,
⟨some 14, .load 1 false (.tmp 13), some (12, false)⟩,
⟨some 15, .bin .gtr (.tmp 14) (.val (.pv (.int .i64 12))), some (12, false)⟩,
⟨some 16, .pick (.tmp 12) (.val (.pv (.bool true))) (.tmp 15), none⟩] [1, 16] [1])
(.cond (.tmp 16)
(.seq
(.region [
⟨some 2, .mov (.val (.tl [])), none⟩] [2] [])
.ret)
.skip))
(.seq
(.region [
⟨some 17, .fld 0 (.tmp 1), none⟩,
⟨some 18, .load 1 false (.tmp 17), none⟩,
⟨some 19, .make 1 [.pv (.bool false)] (.tmp 18) (.tmp 18), none⟩,
⟨some 3, .mov (.tmp 19), none⟩] [1, 3] [1])
(.seq
(.seq
(.region [
⟨some 20, .fld 2 (.tmp 1), none⟩,
⟨some 21, .load 1 false (.tmp 20), none⟩,
⟨some 22, .len 0 (.tmp 21), none⟩,
⟨some 23, .mov (.val (.pv (.int .i64 0))), none⟩] [1, 3, 21, 22, 23] [1])
(.block 0
(.loop
(.mask [1, 3, 21, 22, 23] [1]
(.seq
(.region [
⟨some 24, .bin .lss (.tmp 23) (.tmp 22), none⟩] [1, 3, 21, 22, 23, 24] [1])
(.seq
(.cond (.tmp 24)
.skip
(.exit 0))
(.seq
(.block 1
(.seq
(.region [
⟨some 25, .idx 4 (.tmp 21) (.tmp 23), none⟩,
⟨some 26, .load 4 true (.tmp 25), none⟩,
⟨some 5, .alloc 5 [.pv (.int .i64 0), .pv (.bool false), .pv (.int .i64 0), .pv (.int .i64 0)], none⟩,
⟨none, .store 4 (.tmp 5) (.tmp 26), none⟩] [1, 3, 5, 21, 22, 23] [1, 5])
(.seq
(.region [
⟨some 27, .fld 0 (.tmp 5), none⟩,
⟨some 28, .load 1 false (.tmp 27), none⟩,
⟨some 29, .bin .geq (.tmp 28) (.val (.pv (.int .i64 0))), none⟩,
⟨some 30, .mov (.tmp 29), none⟩,
⟨some 31, .fld 0 (.tmp 5), some (30, true)⟩,
⟨some 32, .load 1 false (.tmp 31), some (30, true)⟩,
⟨some 33, .fld 0 (.tmp 1), some (30, true)⟩,
⟨some 34, .load 1 false (.tmp 33), some (30, true)⟩,
⟨some 35, .bin .lss (.tmp 32) (.tmp 34), some (30, true)⟩,
⟨some 36, .pick (.tmp 30) (.tmp 35) (.val (.pv (.bool false))), none⟩] [1, 3, 5, 21, 22, 23, 36] [1, 5])
(.cond (.tmp 36)
(.region [
⟨some 37, .mov (.tmp 3), none⟩,
⟨some 38, .fld 0 (.tmp 5), none⟩,
⟨some 39, .load 1 false (.tmp 38), none⟩,
⟨some 40, .idx 1 (.tmp 37) (.tmp 39), none⟩,
⟨none, .store 1 (.tmp 40) (.val (.pv (.bool true))), none⟩] [1, 3, 21, 22, 23] [1])
.skip))))
(.region [
⟨some 41, .bin .add (.tmp 23) (.val (.pv (.int .i64 1))), none⟩,
⟨some 23, .mov (.tmp 41), none⟩] [1, 3, 21, 22, 23] [1]))))))))
(.seq
(.region [
⟨some 6, .mov (.val (.tl [])), none⟩] [3, 6] [])
(.seq
(.seq
(.region [
⟨some 42, .mov (.tmp 3), none⟩,
⟨some 43, .len 0 (.tmp 42), none⟩,
⟨some 44, .mov (.val (.pv (.int .i64 0))), none⟩] [6, 42, 43, 44] [])
(.block 2
(.loop
(.mask [6, 42, 43, 44] []
(.seq
(.region [
⟨some 45, .bin .lss (.tmp 44) (.tmp 43), none⟩] [6, 42, 43, 44, 45] [])
(.seq
(.cond (.tmp 45)
.skip
(.exit 2))
(.seq
(.block 3
(.seq
(.region [
⟨some 46, .mov (.tmp 44), none⟩,
⟨some 47, .idx 1 (.tmp 42) (.tmp 44), none⟩,
⟨some 48, .load 1 false (.tmp 47), none⟩,
⟨some 7, .mov (.tmp 46), none⟩,
⟨some 8, .mov (.tmp 48), none⟩] [6, 7, 8, 42, 43, 44] [])
(.seq
(.region [
⟨some 49, .mov (.tmp 8), none⟩,
⟨some 50, .un .not (.tmp 49), none⟩] [6, 7, 42, 43, 44, 50] [])
(.cond (.tmp 50)
(.region [
⟨some 51, .mov (.tmp 6), none⟩,
⟨some 52, .mov (.tmp 7), none⟩,
⟨some 53, .lit 1 [.pv (.int .i64 0)] 1 [(0, 1, (.tmp 52))], none⟩,
⟨some 54, .app 1 (.tmp 51) (.tmp 53), none⟩,
⟨some 6, .mov (.tmp 54), none⟩] [6, 42, 43, 44] [])
.skip))))
(.region [
⟨some 55, .bin .add (.tmp 44) (.val (.pv (.int .i64 1))), none⟩,
⟨some 44, .mov (.tmp 55), none⟩] [6, 42, 43, 44] []))))))))
(.seq
(.region [
⟨some 56, .mov (.tmp 6), none⟩,
⟨some 2, .mov (.tmp 56), none⟩] [2] [])
.ret))))))),
[.tmp 2], false, false⟩
def F97 : AFunc := ⟨1,
(.seq
(.region [
⟨some 1, .box 1 3 (.tmp 0), none⟩,
⟨some 2, .alloc 2 [.pv (.int .i64 0), .pv (.int .i64 0), .tl []], none⟩,
⟨some 3, .mov (.val (.pv (.int .i64 0))), none⟩] [1, 2] [1, 2])
(.seq
(.seq
(.region [
⟨some 7, .load 3 true (.tmp 1), none⟩,
⟨some 8, .call (.val (.func 29 [])) [(.tmp 7)], none⟩,
⟨some 4, .mov (.tmp 8), none⟩] [1, 2, 4] [1, 2])
(.seq
(.region [
⟨some 9, .mov (.tmp 4), none⟩,
⟨some 10, .bin .neq (.tmp 9) (.val (.pv (.int .i64 0))), none⟩] [1, 2, 4, 10] [1, 2])
(.cond (.tmp 10)
(.seq
(.region [
⟨some 11, .build [.pv (.int .i64 0), .pv (.int .i64 0), .tl []] [], none⟩,
⟨some 12, .mov (.tmp 4), none⟩,
⟨none, .store 3 (.tmp 2) (.tmp 11), none⟩,
⟨some 3, .mov (.tmp 12), none⟩] [2, 3] [2])
.ret)
.skip)))
(.seq
(.draw [
(⟨some 13, .fld 0 (.tmp 1), none⟩, []),
(⟨some 14, .load 1 false (.tmp 13), none⟩, []),
(⟨some 15, .fld 1 (.tmp 1), none⟩, []),
(⟨some 16, .load 1 false (.tmp 15), none⟩, []),
(⟨some 17, .fld 2 (.tmp 1), none⟩, []),
(⟨some 18, .load 1 false (.tmp 17), none⟩, []),
(⟨some 19, .call (.val (.func 64 [])) [(.tmp 18)], none⟩, [1, 3]),
(⟨some 20, .build [.pv (.int .i64 0), .pv (.int .i64 0), .tl []] [(0, 1, (.tmp 14)), (1, 1, (.tmp 16)), (2, 1, (.tmp 19))], none⟩, []),
(⟨some 5, .alloc 5 [.pv (.int .i64 0), .pv (.int .i64 0), .tl []], none⟩, [1, 3, 5, 6]),
(⟨none, .store 3 (.tmp 5) (.tmp 20), none⟩, [])] [2, 5] [2, 5])
(.seq
(.seq
(.region [
⟨some 21, .fld 2 (.tmp 5), none⟩,
⟨some 22, .load 1 false (.tmp 21), none⟩,
⟨some 23, .len 0 (.tmp 22), none⟩,
⟨some 24, .mov (.val (.pv (.int .i64 0))), none⟩] [2, 5, 23, 24] [2, 5])
(.block 0
(.loop
(.mask [2, 5, 23, 24] [2, 5]
(.seq
(.region [
⟨some 25, .bin .lss (.tmp 24) (.tmp 23), none⟩] [2, 5, 23, 24, 25] [2, 5])
(.seq
(.cond (.tmp 25)
.skip
(.exit 0))
(.seq
(.block 1
(.seq
(.region [
⟨some 26, .mov (.tmp 24), none⟩,
⟨some 6, .mov (.tmp 26), none⟩] [2, 5, 6, 23, 24] [2, 5])
(.draw [
(⟨some 27, .fld 2 (.tmp 5), none⟩, []),
(⟨some 28, .load 1 false (.tmp 27), none⟩, []),
(⟨some 29, .mov (.tmp 6), none⟩, []),
(⟨some 30, .fld 2 (.tmp 5), none⟩, []),
(⟨some 31, .load 1 false (.tmp 30), none⟩, []),
(⟨some 32, .mov (.tmp 6), none⟩, []),
(⟨some 33, .idx 4 (.tmp 31) (.tmp 32), none⟩, []),
(⟨some 34, .fld 1 (.tmp 33), none⟩, []),
(⟨some 35, .load 1 false (.tmp 34), none⟩, []),
(⟨some 36, .un .not (.tmp 35), none⟩, []),
(⟨some 37, .idx 4 (.tmp 28) (.tmp 29), none⟩, []),
(⟨some 38, .fld 1 (.tmp 37), none⟩, []),
(⟨none, .store 1 (.tmp 38) (.tmp 36), none⟩, [])] [2, 5, 23, 24] [2, 5])))
(.region [
⟨some 39, .bin .add (.tmp 24) (.val (.pv (.int .i64 1))), none⟩,
⟨some 24, .mov (.tmp 39), none⟩] [2, 5, 23, 24] [2, 5]))))))))
(.seq
(.region [
⟨some 40, .fld 2 (.tmp 5), none⟩,
⟨some 41, .load 1 false (.tmp 40), none⟩,
⟨some 42, .call (.val (.func 51 [])) [(.tmp 41), (.val (.func 47 []))], none⟩] [2, 5] [2, 5])
(.seq
(.region [
⟨some 43, .load 3 true (.tmp 5), none⟩,
⟨none, .store 3 (.tmp 2) (.tmp 43), none⟩,
⟨some 3, .mov (.val (.pv (.int .i64 0))), none⟩] [2, 3] [2])
.ret)))))),
[.cell 2 3 true, .tmp 3], false, false⟩
def F98 : AFunc := ⟨1,
(.seq
(.region [
⟨some 1, .box 1 3 (.tmp 0), none⟩,
⟨some 2, .mov (.val (.pv (.bool false))), none⟩,
⟨some 3, .mov (.val (.pv (.int .i64 0))), none⟩] [1] [1])
(.seq
(.seq
(.region [
⟨some 12, .load 3 true (.tmp 1), none⟩,
⟨some 13, .call (.val (.func 29 [])) [(.tmp 12)], none⟩,
⟨some 4, .mov (.tmp 13), none⟩] [1, 4] [1])
(.seq
(.region [
⟨some 14, .mov (.tmp 4), none⟩,
⟨some 15, .bin .neq (.tmp 14) (.val (.pv (.int .i64 0))), none⟩] [1, 4, 15] [1])
(.cond (.tmp 15)
(.seq
(.region [
⟨some 16, .mov (.tmp 4), none⟩,
⟨some 2, .mov (.val (.pv (.bool false))), none⟩,
⟨some 3, .mov (.tmp 16), none⟩] [2, 3] [])
.ret)
.skip)))
(.seq
(.region [
⟨some 5, .mov (.val (.tl [])), none⟩] [1, 5] [1])
(.seq
(.seq
(.region [
⟨some 17, .fld 2 (.tmp 1), none⟩,
⟨some 18, .load 1 false (.tmp 17), none⟩,
⟨some 19, .len 0 (.tmp 18), none⟩,
⟨some 20, .mov (.val (.pv (.int .i64 0))), none⟩] [1, 5, 18, 19, 20] [1])
(.block 0
(.loop
(.mask [1, 5, 18, 19, 20] [1]
(.seq
(.region [
⟨some 21, .bin .lss (.tmp 20) (.tmp 19), none⟩] [1, 5, 18, 19, 20, 21] [1])
(.seq
(.cond (.tmp 21)
.skip
(.exit 0))
(.seq
(.block 1
(.seq
(.region [
⟨some 22, .idx 4 (.tmp 18) (.tmp 20), none⟩,
⟨some 23, .load 4 true (.tmp 22), none⟩,
⟨some 7, .alloc 7 [.pv (.int .i64 0), .pv (.bool false), .pv (.int .i64 0), .pv (.int .i64 0)], none⟩,
⟨none, .store 4 (.tmp 7) (.tmp 23), none⟩] [1, 5, 7, 18, 19, 20] [1, 7])
(.region [
⟨some 24, .mov (.tmp 5), none⟩,
⟨some 25, .fld 0 (.tmp 7), none⟩,
⟨some 26, .load 1 false (.tmp 25), none⟩,
⟨some 27, .fld 3 (.tmp 7), none⟩,
⟨some 28, .load 1 false (.tmp 27), none⟩,
⟨some 29, .build [.pv (.int .i64 0), .pv (.int .i64 0)] [(0, 1, (.tmp 26)), (1, 1, (.tmp 28))], none⟩,
⟨some 30, .lit 2 [.pv (.int .i64 0), .pv (.int .i64 0)] 1 [(0, 2, (.tmp 29))], none⟩,
⟨some 31, .app 2 (.tmp 24) (.tmp 30), none⟩,
⟨some 5, .mov (.tmp 31), none⟩] [1, 5, 18, 19, 20] [1])))
(.region [
⟨some 32, .bin .add (.tmp 20) (.val (.pv (.int .i64 1))), none⟩,
⟨some 20, .mov (.tmp 32), none⟩] [1, 5, 18, 19, 20] [1]))))))))
(.seq
(.draw [
(⟨some 34, .fld 0 (.tmp 1), none⟩, []),
(⟨some 35, .load 1 false (.tmp 34), none⟩, []),
(⟨some 36, .mov (.tmp 5), none⟩, []),
(⟨some 37, .load 3 true (.tmp 1), none⟩, []),
(⟨some 38, .call (.val (.func 95 [])) [(.tmp 37)], none⟩, [1]),
(⟨some 39, .call (.val (.func 107 [])) [(.tmp 35), (.tmp 36), (.tmp 38)], none⟩, []),
(⟨some 33, .mov (.tmp 39), none⟩, []),
(⟨some 40, .ext (.tmp 33) 0, none⟩, []),
(⟨some 41, .ext (.tmp 33) 1, none⟩, []),
(⟨some 8, .alloc 8 [.tl []], none⟩, [1, 3, 4, 5]),
(⟨none, .store 1 (.tmp 8) (.tmp 40), none⟩, []),
(⟨some 9, .mov (.tmp 41), none⟩, [])] [1, 8, 9] [1, 8])
(.seq
(.seq
(.region [
⟨some 42, .mov (.tmp 9), none⟩,
⟨some 43, .bin .neq (.tmp 42) (.val (.pv (.int .i64 0))), none⟩] [1, 8, 9, 43] [1, 8])
(.cond (.tmp 43)
(.seq
(.region [
⟨some 44, .mov (.tmp 9), none⟩,
⟨some 2, .mov (.val (.pv (.bool false))), none⟩,
⟨some 3, .mov (.tmp 44), none⟩] [2, 3] [])
.ret)
.skip))
(.seq
(.region [
⟨some 46, .load 3 true (.tmp 1), none⟩,
⟨some 47, .call (.val (.func 50 [])) [(.tmp 46)], none⟩,
⟨some 45, .mov (.tmp 47), none⟩,
⟨some 48, .ext (.tmp 45) 0, none⟩,
⟨some 49, .ext (.tmp 45) 1, none⟩,
⟨some 10, .mov (.tmp 48), none⟩,
⟨some 11, .mov (.tmp 49), none⟩] [8, 10] [8])
(.seq
(.region [
⟨some 50, .mov (.tmp 10), none⟩,
⟨some 51, .clos 109 [(.tmp 8)], none⟩,
⟨some 52, .call (.val (.func 108 [])) [(.tmp 50), (.tmp 51)], none⟩,
⟨some 53, .un .not (.tmp 52), none⟩,
⟨some 2, .mov (.tmp 53), none⟩,
⟨some 3, .mov (.val (.pv (.int .i64 0))), none⟩] [2, 3] [])
.ret)))))))),
[.tmp 2, .tmp 3], false, false⟩
def F102 : AFunc := ⟨0,
(.seq
(.region [
⟨some 0, .alloc 0 [.pv (.int .i64 0), .pv (.int .i64 0), .tl []], none⟩] [0] [0])
(.seq
(.region [
⟨some 1, .build [.pv (.int .i64 0), .pv (.bool false), .pv (.int .i64 0), .pv (.int .i64 0)] [(0, 1, (.val (.pv (.int .i64 0)))), (2, 1, (.val (.pv (.int .i64 1)))), (3, 1, (.val (.pv (.int .i64 1))))], none⟩,
⟨some 2, .build [.pv (.int .i64 0), .pv (.bool false), .pv (.int .i64 0), .pv (.int .i64 0)] [(0, 1, (.val (.pv (.int .i64 0)))), (1, 1, (.val (.pv (.bool true)))), (2, 1, (.val (.pv (.int .i64 2)))), (3, 1, (.val (.pv (.int .i64 2))))], none⟩,
⟨some 3, .build [.pv (.int .i64 0), .pv (.bool false), .pv (.int .i64 0), .pv (.int .i64 0)] [(0, 1, (.val (.pv (.int .i64 1)))), (1, 1, (.val (.pv (.bool true)))), (2, 1, (.val (.pv (.int .i64 2)))), (3, 1, (.val (.pv (.int .i64 0))))], none⟩,
⟨some 4, .lit 4 [.pv (.int .i64 0), .pv (.bool false), .pv (.int .i64 0), .pv (.int .i64 0)] 3 [(0, 4, (.tmp 1)), (4, 4, (.tmp 2)), (8, 4, (.tmp 3))], none⟩,
⟨some 5, .build [.pv (.int .i64 0), .pv (.int .i64 0), .tl []] [(0, 1, (.val (.pv (.int .i64 3)))), (2, 1, (.tmp 4))], none⟩,
⟨none, .store 3 (.tmp 0) (.tmp 5), none⟩] [0] [0])
.ret)),
[.cell 0 3 true], false, false⟩
def F104 : AFunc := ⟨1,
(.seq
(.region [
⟨some 2, .mov (.val (.tl [])), none⟩] [0] [])
(.seq
(.seq
(.region [
⟨some 6, .mov (.tmp 0), none⟩,
⟨some 7, .len 0 (.tmp 6), none⟩,
⟨some 8, .bin .lss (.tmp 7) (.val (.pv (.int .i64 2))), none⟩] [0, 8] [])
(.cond (.tmp 8)
(.seq
(.region [
⟨some 9, .mov (.tmp 0), none⟩,
⟨some 2, .mov (.tmp 9), none⟩] [2] [])
.ret)
.skip))
(.seq
(.seq
(.region [
⟨some 3, .mov (.val (.pv (.int .i64 1))), none⟩] [0, 3] [])
(.block 0
(.loop
(.mask [0, 3] []
(.seq
(.seq
(.region [
⟨some 10, .mov (.tmp 3), none⟩,
⟨some 11, .mov (.tmp 0), none⟩,
⟨some 12, .len 0 (.tmp 11), none⟩,
⟨some 13, .bin .lss (.tmp 10) (.tmp 12), none⟩] [0, 3, 13] [])
(.cond (.tmp 13)
.skip
(.exit 0)))
(.seq
(.block 1
(.seq
(.draw [
(⟨some 16, .mov (.tmp 0), none⟩, []),
(⟨some 17, .mov (.tmp 3), none⟩, []),
(⟨some 18, .idx 1 (.tmp 16) (.tmp 17), none⟩, []),
(⟨some 19, .load 1 false (.tmp 18), none⟩, []),
(⟨some 20, .mov (.tmp 0), none⟩, []),
(⟨some 21, .mov (.tmp 3), none⟩, []),
(⟨some 22, .bin .sub (.tmp 21) (.val (.pv (.int .i64 1))), none⟩, []),
(⟨some 23, .idx 1 (.tmp 20) (.tmp 22), none⟩, []),
(⟨some 24, .load 1 false (.tmp 23), none⟩, []),
(⟨some 25, .bin .eql (.tmp 19) (.tmp 24), none⟩, [])] [0, 3, 25] [])
(.cond (.tmp 25)
(.seq
(.region [
⟨some 26, .mov (.tmp 0), none⟩,
⟨some 27, .mov (.tmp 3), none⟩,
⟨some 28, .sl 1 (.tmp 26) (some (.tmp 27)) none none, none⟩,
⟨some 4, .mov (.tmp 28), none⟩] [0, 3, 4] [])
(.seq
(.seq
(.region [
⟨some 5, .mov (.val (.pv (.int .i64 1))), none⟩] [0, 3, 4, 5] [])
(.block 2
(.loop
(.mask [0, 3, 4, 5] []
(.seq
(.seq
(.region [
⟨some 29, .mov (.tmp 5), none⟩,
⟨some 30, .mov (.tmp 4), none⟩,
⟨some 31, .len 0 (.tmp 30), none⟩,
⟨some 32, .bin .lss (.tmp 29) (.tmp 31), none⟩] [0, 3, 4, 5, 32] [])
(.cond (.tmp 32)
.skip
(.exit 2)))
(.seq
(.block 3
(.seq
(.draw [
(⟨some 35, .mov (.tmp 4), none⟩, []),
(⟨some 36, .mov (.tmp 5), none⟩, []),
(⟨some 37, .idx 1 (.tmp 35) (.tmp 36), none⟩, []),
(⟨some 38, .load 1 false (.tmp 37), none⟩, []),
(⟨some 39, .mov (.tmp 4), none⟩, []),
(⟨some 40, .mov (.tmp 5), none⟩, []),
(⟨some 41, .bin .sub (.tmp 40) (.val (.pv (.int .i64 1))), none⟩, []),
(⟨some 42, .idx 1 (.tmp 39) (.tmp 41), none⟩, []),
(⟨some 43, .load 1 false (.tmp 42), none⟩, []),
(⟨some 44, .bin .neq (.tmp 38) (.tmp 43), none⟩, [])] [0, 3, 4, 5, 44] [])
(.cond (.tmp 44)
(.seq
(.region [
⟨some 45, .mov (.tmp 0), none⟩,
⟨some 46, .mov (.tmp 3), none⟩,
⟨some 47, .mov (.tmp 4), none⟩,
⟨some 48, .mov (.tmp 5), none⟩,
⟨some 49, .idx 1 (.tmp 47) (.tmp 48), none⟩,
⟨some 50, .load 1 false (.tmp 49), none⟩,
⟨some 51, .idx 1 (.tmp 45) (.tmp 46), none⟩,
⟨none, .store 1 (.tmp 51) (.tmp 50), none⟩] [0, 3, 4, 5] [])
(.region [
⟨some 52, .mov (.tmp 3), none⟩,
⟨some 53, .bin .add (.tmp 52) (.val (.pv (.int .i64 1))), none⟩,
⟨some 3, .mov (.tmp 53), none⟩] [0, 3, 4, 5] []))
.skip)))
(.region [
⟨some 33, .mov (.tmp 5), none⟩,
⟨some 34, .bin .add (.tmp 33) (.val (.pv (.int .i64 1))), none⟩,
⟨some 5, .mov (.tmp 34), none⟩] [0, 3, 4, 5] [])))))))
(.seq
(.region [
⟨some 54, .mov (.tmp 0), none⟩,
⟨some 55, .mov (.tmp 3), none⟩,
⟨some 56, .sl 1 (.tmp 54) (some (.tmp 55)) none none, none⟩,
⟨none, .clr 1 [.pv (.int .i64 0)] (.tmp 56), none⟩] [0, 3] [])
(.seq
(.region [
⟨some 57, .mov (.tmp 0), none⟩,
⟨some 58, .mov (.tmp 3), none⟩,
⟨some 59, .sl 1 (.tmp 57) none (some (.tmp 58)) none, none⟩,
⟨some 2, .mov (.tmp 59), none⟩] [2] [])
.ret))))
.skip)))
(.region [
⟨some 14, .mov (.tmp 3), none⟩,
⟨some 15, .bin .add (.tmp 14) (.val (.pv (.int .i64 1))), none⟩,
⟨some 3, .mov (.tmp 15), none⟩] [0, 3] [])))))))
(.seq
(.region [
⟨some 60, .mov (.tmp 0), none⟩,
⟨some 2, .mov (.tmp 60), none⟩] [2] [])
.ret)))),
[.tmp 2], true, true⟩
def F107 : AFunc := ⟨3,
(.seq
(.region [
⟨some 6, .mov (.val (.tl [])), none⟩,
⟨some 7, .mov (.val (.pv (.int .i64 0))), none⟩] [0, 1, 2] [])
(.seq
(.seq
(.region [
⟨some 9, .mov (.tmp 0), none⟩,
⟨some 10, .mov (.tmp 1), none⟩,
⟨some 11, .mov (.tmp 2), none⟩,
⟨some 12, .call (.val (.func 112 [])) [(.tmp 9), (.tmp 10), (.tmp 11)], none⟩,
⟨some 8, .mov (.tmp 12), none⟩] [0, 1, 2, 8] [])
(.seq
(.region [
⟨some 13, .mov (.tmp 8), none⟩,
⟨some 14, .bin .neq (.tmp 13) (.val (.pv (.int .i64 0))), none⟩] [0, 1, 2, 8, 14] [])
(.cond (.tmp 14)
(.seq
(.region [
⟨some 15, .mov (.tmp 8), none⟩,
⟨some 6, .mov (.val (.tl [])), none⟩,
⟨some 7, .mov (.tmp 15), none⟩] [6, 7] [])
.ret)
.skip)))
(.seq
(.region [
⟨some 16, .mov (.tmp 0), none⟩,
⟨some 17, .mov (.tmp 1), none⟩,
⟨some 18, .call (.val (.func 116 [])) [(.tmp 17)], none⟩,
⟨some 19, .call (.val (.func 115 [])) [(.tmp 16), (.tmp 18)], none⟩,
⟨some 20, .mov (.tmp 2), none⟩,
⟨some 21, .call (.val (.func 114 [])) [(.tmp 19), (.tmp 20)], none⟩,
⟨some 22, .call (.val (.func 113 [])) [(.tmp 21)], none⟩,
⟨some 6, .mov (.tmp 22), none⟩,
⟨some 7, .mov (.val (.pv (.int .i64 0))), none⟩] [6, 7] [])
.ret))),
[.tmp 6, .tmp 7], false, false⟩
def F108 : AFunc := ⟨2,
(.seq
(.region [
⟨some 4, .mov (.val (.pv (.bool false))), none⟩] [0, 1] [])
(.seq
(.region [
⟨some 5, .mov (.tmp 0), none⟩,
⟨some 6, .mov (.tmp 1), none⟩,
⟨some 7, .call (.val (.func 117 [])) [(.tmp 5), (.tmp 6)], none⟩,
⟨some 8, .bin .geq (.tmp 7) (.val (.pv (.int .i64 0))), none⟩,
⟨some 4, .mov (.tmp 8), none⟩] [4] [])
.ret)),
[.tmp 4], false, false⟩
def F109 : AFunc := ⟨2,
(.seq
(.region [
⟨some 3, .mov (.val (.pv (.bool false))), none⟩] [0, 1] [])
(.seq
(.region [
⟨some 4, .load 1 false (.tmp 1), none⟩,
⟨some 5, .mov (.tmp 0), none⟩,
⟨some 6, .call (.val (.func 110 [])) [(.tmp 4), (.tmp 5)], none⟩,
⟨some 7, .un .not (.tmp 6), none⟩,
⟨some 3, .mov (.tmp 7), none⟩] [3] [])
.ret)),
[.tmp 3], false, false⟩
def F110 : AFunc := ⟨2,
(.seq
(.region [
⟨some 4, .mov (.val (.pv (.bool false))), none⟩] [0, 1] [])
(.seq
(.region [
⟨some 5, .mov (.tmp 0), none⟩,
⟨some 6, .mov (.tmp 1), none⟩,
⟨some 7, .call (.val (.func 118 [])) [(.tmp 5), (.tmp 6)], none⟩,
⟨some 8, .bin .geq (.tmp 7) (.val (.pv (.int .i64 0))), none⟩,
⟨some 4, .mov (.tmp 8), none⟩] [4] [])
.ret)),
[.tmp 4], false, false⟩
def F112 : AFunc := ⟨3,
(.seq
(.region [
⟨some 3, .box 3 1 (.tmp 0), none⟩,
⟨some 6, .mov (.val (.pv (.int .i64 0))), none⟩] [1, 2, 3] [3])
(.seq
(.seq
(.region [
⟨some 8, .load 1 false (.tmp 3), none⟩,
⟨some 9, .mov (.tmp 1), none⟩,
⟨some 10, .call (.val (.func 128 [])) [(.tmp 8), (.tmp 9)], none⟩,
⟨some 7, .mov (.tmp 10), none⟩] [2, 3, 7] [3])
(.seq
(.region [
⟨some 11, .mov (.tmp 7), none⟩,
⟨some 12, .bin .neq (.tmp 11) (.val (.pv (.int .i64 0))), none⟩] [2, 3, 7, 12] [3])
(.cond (.tmp 12)
(.seq
(.region [
⟨some 13, .mov (.tmp 7), none⟩,
⟨some 6, .mov (.tmp 13), none⟩] [6] [])
.ret)
.skip)))
(.seq
(.seq
(.region [
⟨some 14, .mov (.tmp 2), none⟩,
⟨some 15, .clos 129 [(.tmp 3)], none⟩,
⟨some 16, .call (.val (.func 108 [])) [(.tmp 14), (.tmp 15)], none⟩] [16] [])
(.cond (.tmp 16)
(.seq
(.region [
⟨some 6, .mov (.val (.pv (.int .i64 7))), none⟩] [6] [])
.ret)
.skip))
(.seq
(.region [
⟨some 6, .mov (.val (.pv (.int .i64 0))), none⟩] [6] [])
.ret)))),
[.tmp 6], false, false⟩
def F113 : AFunc := ⟨1,
(.seq
(.region [
⟨some 2, .mov (.val (.tl [])), none⟩] [0] [])
(.seq
(.region [
⟨some 3, .mov (.val (.tl [])), none⟩] [0, 3] [])
(.seq
(.seq
(.region [
⟨some 6, .mov (.tmp 0), none⟩,
⟨some 7, .len 0 (.tmp 6), none⟩,
⟨some 8, .mov (.val (.pv (.int .i64 0))), none⟩] [3, 6, 7, 8] [])
(.block 0
(.loop
(.mask [3, 6, 7, 8] []
(.seq
(.region [
⟨some 9, .bin .lss (.tmp 8) (.tmp 7), none⟩] [3, 6, 7, 8, 9] [])
(.seq
(.cond (.tmp 9)
.skip
(.exit 0))
(.seq
(.block 1
(.seq
(.region [
⟨some 10, .mov (.tmp 8), none⟩,
⟨some 11, .idx 1 (.tmp 6) (.tmp 8), none⟩,
⟨some 12, .load 1 false (.tmp 11), none⟩,
⟨some 4, .mov (.tmp 10), none⟩,
⟨some 5, .mov (.tmp 12), none⟩] [3, 4, 5, 6, 7, 8] [])
(.seq
(.region [
⟨some 13, .mov (.tmp 5), none⟩,
⟨some 14, .bin .geq (.tmp 13) (.val (.pv (.int .i64 0))), none⟩] [3, 4, 6, 7, 8, 14] [])
(.cond (.tmp 14)
(.region [
⟨some 15, .mov (.tmp 3), none⟩,
⟨some 16, .mov (.tmp 4), none⟩,
⟨some 17, .lit 1 [.pv (.int .i64 0)] 1 [(0, 1, (.tmp 16))], none⟩,
⟨some 18, .app 1 (.tmp 15) (.tmp 17), none⟩,
⟨some 3, .mov (.tmp 18), none⟩] [3, 6, 7, 8] [])
.skip))))
(.region [
⟨some 19, .bin .add (.tmp 8) (.val (.pv (.int .i64 1))), none⟩,
⟨some 8, .mov (.tmp 19), none⟩] [3, 6, 7, 8] []))))))))
(.seq
(.region [
⟨some 20, .mov (.tmp 3), none⟩,
⟨some 2, .mov (.tmp 20), none⟩] [2] [])
.ret)))),
[.tmp 2], false, false⟩
def F114 : AFunc := ⟨2,
(.seq
(.region [
⟨some 4, .mov (.val (.tl [])), none⟩] [0, 1] [])
(.seq
(.region [
⟨some 13, .lit 1 [.pv (.int .i64 0)] 1 [(0, 1, (.val (.pv (.int .i64 (-1)))))], none⟩,
⟨some 14, .mov (.tmp 0), none⟩,
⟨some 15, .len 0 (.tmp 14), none⟩,
⟨some 16, .call (.val (.func 130 [])) [(.tmp 13), (.tmp 15)], none⟩,
⟨some 5, .mov (.tmp 16), none⟩] [0, 1, 5] [])
(.seq
(.region [
⟨some 6, .mov (.val (.tl [])), none⟩] [0, 1, 5, 6] [])
(.seq
(.seq
(.region [
⟨some 17, .mov (.tmp 1), none⟩,
⟨some 18, .len 0 (.tmp 17), none⟩,
⟨some 19, .mov (.val (.pv (.int .i64 0))), none⟩] [0, 5, 6, 17, 18, 19] [])
(.block 0
(.loop
(.mask [0, 5, 6, 17, 18, 19] []
(.seq
(.region [
⟨some 20, .bin .lss (.tmp 19) (.tmp 18), none⟩] [0, 5, 6, 17, 18, 19, 20] [])
(.seq
(.cond (.tmp 20)
.skip
(.exit 0))
(.seq
(.block 1
(.seq
(.region [
⟨some 21, .idx 1 (.tmp 17) (.tmp 19), none⟩,
⟨some 22, .load 1 false (.tmp 21), none⟩,
⟨some 8, .mov (.tmp 22), none⟩] [0, 5, 6, 8, 17, 18, 19] [])
(.seq
(.region [
⟨some 23, .mov (.tmp 5), none⟩,
⟨some 24, .mov (.tmp 8), none⟩,
⟨some 25, .idx 1 (.tmp 23) (.tmp 24), none⟩,
⟨some 26, .load 1 false (.tmp 25), none⟩,
⟨some 27, .bin .lss (.tmp 26) (.val (.pv (.int .i64 0))), none⟩] [0, 5, 6, 8, 17, 18, 19, 27] [])
(.cond (.tmp 27)
(.seq
(.region [
⟨some 28, .mov (.tmp 5), none⟩,
⟨some 29, .mov (.tmp 8), none⟩,
⟨some 30, .idx 1 (.tmp 28) (.tmp 29), none⟩,
⟨none, .store 1 (.tmp 30) (.val (.pv (.int .i64 0))), none⟩] [0, 5, 6, 8, 17, 18, 19] [])
(.region [
⟨some 31, .mov (.tmp 6), none⟩,
⟨some 32, .mov (.tmp 8), none⟩,
⟨some 33, .lit 1 [.pv (.int .i64 0)] 1 [(0, 1, (.tmp 32))], none⟩,
⟨some 34, .app 1 (.tmp 31) (.tmp 33), none⟩,
⟨some 6, .mov (.tmp 34), none⟩] [0, 5, 6, 17, 18, 19] []))
.skip))))
(.region [
⟨some 35, .bin .add (.tmp 19) (.val (.pv (.int .i64 1))), none⟩,
⟨some 19, .mov (.tmp 35), none⟩] [0, 5, 6, 17, 18, 19] []))))))))
(.seq
(.seq
(.region [
⟨some 9, .mov (.val (.pv (.int .i64 0))), none⟩] [0, 5, 6, 9] [])
(.block 2
(.loop
(.mask [0, 5, 6, 9] []
(.seq
(.seq
(.region [
⟨some 36, .mov (.tmp 9), none⟩,
⟨some 37, .mov (.tmp 6), none⟩,
⟨some 38, .len 0 (.tmp 37), none⟩,
⟨some 39, .bin .lss (.tmp 36) (.tmp 38), none⟩] [0, 5, 6, 9, 39] [])
(.cond (.tmp 39)
.skip
(.exit 2)))
(.seq
(.block 3
(.seq
(.region [
⟨some 42, .mov (.tmp 6), none⟩,
⟨some 43, .mov (.tmp 9), none⟩,
⟨some 44, .idx 1 (.tmp 42) (.tmp 43), none⟩,
⟨some 45, .load 1 false (.tmp 44), none⟩,
⟨some 10, .mov (.tmp 45), none⟩] [0, 5, 6, 9, 10] [])
(.seq
(.region [
⟨some 46, .mov (.tmp 0), none⟩,
⟨some 47, .mov (.tmp 10), none⟩,
⟨some 48, .idx 1 (.tmp 46) (.tmp 47), none⟩,
⟨some 49, .load 1 false (.tmp 48), none⟩,
⟨some 50, .len 0 (.tmp 49), none⟩,
⟨some 51, .mov (.val (.pv (.int .i64 0))), none⟩] [0, 5, 6, 9, 10, 49, 50, 51] [])
(.block 4
(.loop
(.mask [0, 5, 6, 9, 10, 49, 50, 51] []
(.seq
(.region [
⟨some 52, .bin .lss (.tmp 51) (.tmp 50), none⟩] [0, 5, 6, 9, 10, 49, 50, 51, 52] [])
(.seq
(.cond (.tmp 52)
.skip
(.exit 4))
(.seq
(.block 5
(.seq
(.region [
⟨some 53, .idx 1 (.tmp 49) (.tmp 51), none⟩,
⟨some 54, .load 1 false (.tmp 53), none⟩,
⟨some 12, .mov (.tmp 54), none⟩] [0, 5, 6, 9, 10, 12, 49, 50, 51] [])
(.seq
(.region [
⟨some 55, .mov (.tmp 5), none⟩,
⟨some 56, .mov (.tmp 12), none⟩,
⟨some 57, .idx 1 (.tmp 55) (.tmp 56), none⟩,
⟨some 58, .load 1 false (.tmp 57), none⟩,
⟨some 59, .bin .lss (.tmp 58) (.val (.pv (.int .i64 0))), none⟩] [0, 5, 6, 9, 10, 12, 49, 50, 51, 59] [])
(.cond (.tmp 59)
(.seq
(.region [
⟨some 60, .mov (.tmp 5), none⟩,
⟨some 61, .mov (.tmp 12), none⟩,
⟨some 62, .mov (.tmp 5), none⟩,
⟨some 63, .mov (.tmp 10), none⟩,
⟨some 64, .idx 1 (.tmp 62) (.tmp 63), none⟩,
⟨some 65, .load 1 false (.tmp 64), none⟩,
⟨some 66, .bin .add (.tmp 65) (.val (.pv (.int .i64 1))), none⟩,
⟨some 67, .idx 1 (.tmp 60) (.tmp 61), none⟩,
⟨none, .store 1 (.tmp 67) (.tmp 66), none⟩] [0, 5, 6, 9, 10, 12, 49, 50, 51] [])
(.region [
⟨some 68, .mov (.tmp 6), none⟩,
⟨some 69, .mov (.tmp 12), none⟩,
⟨some 70, .lit 1 [.pv (.int .i64 0)] 1 [(0, 1, (.tmp 69))], none⟩,
⟨some 71, .app 1 (.tmp 68) (.tmp 70), none⟩,
⟨some 6, .mov (.tmp 71), none⟩] [0, 5, 6, 9, 10, 49, 50, 51] []))
.skip))))
(.region [
⟨some 72, .bin .add (.tmp 51) (.val (.pv (.int .i64 1))), none⟩,
⟨some 51, .mov (.tmp 72), none⟩] [0, 5, 6, 9, 10, 49, 50, 51] []))))))))))
(.region [
⟨some 40, .mov (.tmp 9), none⟩,
⟨some 41, .bin .add (.tmp 40) (.val (.pv (.int .i64 1))), none⟩,
⟨some 9, .mov (.tmp 41), none⟩] [0, 5, 6, 9] [])))))))
(.seq
(.region [
⟨some 73, .mov (.tmp 5), none⟩,
⟨some 4, .mov (.tmp 73), none⟩] [4] [])
.ret)))))),
[.tmp 4], false, false⟩
def F115 : AFunc := ⟨2,
(.seq
(.region [
⟨some 4, .mov (.val (.tl [])), none⟩] [0, 1] [])
(.seq
(.region [
⟨some 9, .mov (.tmp 0), none⟩,
⟨some 10, .make 1 [.tl []] (.tmp 9) (.tmp 9), none⟩,
⟨some 5, .mov (.tmp 10), none⟩] [1, 5] [])
(.seq
(.seq
(.region [
⟨some 11, .mov (.tmp 1), none⟩,
⟨some 12, .len 0 (.tmp 11), none⟩,
⟨some 13, .mov (.val (.pv (.int .i64 0))), none⟩] [5, 11, 12, 13] [])
(.block 0
(.loop
(.mask [5, 11, 12, 13] []
(.seq
(.region [
⟨some 14, .bin .lss (.tmp 13) (.tmp 12), none⟩] [5, 11, 12, 13, 14] [])
(.seq
(.cond (.tmp 14)
.skip
(.exit 0))
(.seq
(.block 1
(.seq
(.region [
⟨some 15, .idx 2 (.tmp 11) (.tmp 13), none⟩,
⟨some 16, .load 2 true (.tmp 15), none⟩,
⟨some 7, .alloc 7 [.pv (.int .i64 0), .pv (.int .i64 0)], none⟩,
⟨none, .store 2 (.tmp 7) (.tmp 16), none⟩] [5, 7, 11, 12, 13] [7])
(.draw [
(⟨some 17, .mov (.tmp 5), none⟩, []),
(⟨some 18, .idxa 2 1 (.tmp 7) (.val (.pv (.int .i64 0))), none⟩, []),
(⟨some 19, .load 1 false (.tmp 18), none⟩, []),
(⟨some 20, .mov (.tmp 5), none⟩, []),
(⟨some 21, .idxa 2 1 (.tmp 7) (.val (.pv (.int .i64 0))), none⟩, []),
(⟨some 22, .load 1 false (.tmp 21), none⟩, []),
(⟨some 23, .idx 1 (.tmp 20) (.tmp 22), none⟩, []),
(⟨some 24, .load 1 false (.tmp 23), none⟩, []),
(⟨some 25, .idxa 2 1 (.tmp 7) (.val (.pv (.int .i64 1))), none⟩, []),
(⟨some 26, .load 1 false (.tmp 25), none⟩, []),
(⟨some 27, .lit 1 [.pv (.int .i64 0)] 1 [(0, 1, (.tmp 26))], none⟩, [2, 5, 6, 7]),
(⟨some 28, .app 1 (.tmp 24) (.tmp 27), none⟩, [2]),
(⟨some 29, .idx 1 (.tmp 17) (.tmp 19), none⟩, []),
(⟨none, .store 1 (.tmp 29) (.tmp 28), none⟩, [])] [5, 11, 12, 13] [])))
(.region [
⟨some 30, .bin .add (.tmp 13) (.val (.pv (.int .i64 1))), none⟩,
⟨some 13, .mov (.tmp 30), none⟩] [5, 11, 12, 13] []))))))))
(.seq
(.seq
(.region [
⟨some 31, .mov (.tmp 5), none⟩,
⟨some 32, .len 0 (.tmp 31), none⟩,
⟨some 33, .mov (.val (.pv (.int .i64 0))), none⟩] [5, 32, 33] [])
(.block 2
(.loop
(.mask [5, 32, 33] []
(.seq
(.region [
⟨some 34, .bin .lss (.tmp 33) (.tmp 32), none⟩] [5, 32, 33, 34] [])
(.seq
(.cond (.tmp 34)
.skip
(.exit 2))
(.seq
(.block 3
(.seq
(.region [
⟨some 35, .mov (.tmp 33), none⟩,
⟨some 8, .mov (.tmp 35), none⟩] [5, 8, 32, 33] [])
(.seq
(.region [
⟨some 36, .mov (.tmp 5), none⟩,
⟨some 37, .mov (.tmp 8), none⟩,
⟨some 38, .idx 1 (.tmp 36) (.tmp 37), none⟩,
⟨some 39, .load 1 false (.tmp 38), none⟩,
⟨some 40, .call (.val (.func 103 [])) [(.tmp 39)], none⟩] [5, 8, 32, 33] [])
(.region [
⟨some 41, .mov (.tmp 5), none⟩,
⟨some 42, .mov (.tmp 8), none⟩,
⟨some 43, .mov (.tmp 5), none⟩,
⟨some 44, .mov (.tmp 8), none⟩,
⟨some 45, .idx 1 (.tmp 43) (.tmp 44), none⟩,
⟨some 46, .load 1 false (.tmp 45), none⟩,
⟨some 47, .call (.val (.func 104 [])) [(.tmp 46)], none⟩,
⟨some 48, .idx 1 (.tmp 41) (.tmp 42), none⟩,
⟨none, .store 1 (.tmp 48) (.tmp 47), none⟩] [5, 32, 33] []))))
(.region [
⟨some 49, .bin .add (.tmp 33) (.val (.pv (.int .i64 1))), none⟩,
⟨some 33, .mov (.tmp 49), none⟩] [5, 32, 33] []))))))))
(.seq
(.region [
⟨some 50, .mov (.tmp 5), none⟩,
⟨some 4, .mov (.tmp 50), none⟩] [4] [])
.ret))))),
[.tmp 4], false, false⟩
def F116 : AFunc := ⟨1,
(.seq
(.region [
⟨some 2, .mov (.val (.tl [])), none⟩] [0] [])
(.seq
(.region [
⟨some 6, .mov (.tmp 0), none⟩,
⟨some 7, .len 0 (.tmp 6), none⟩,
⟨some 8, .make 2 [.pv (.int .i64 0), .pv (.int .i64 0)] (.tmp 7) (.tmp 7), none⟩,
⟨some 3, .mov (.tmp 8), none⟩] [0, 3] [])
(.seq
(.seq
(.region [
⟨some 9, .mov (.tmp 0), none⟩,
⟨some 10, .len 0 (.tmp 9), none⟩,
⟨some 11, .mov (.val (.pv (.int .i64 0))), none⟩] [3, 9, 10, 11] [])
(.block 0
(.loop
(.mask [3, 9, 10, 11] []
(.seq
(.region [
⟨some 12, .bin .lss (.tmp 11) (.tmp 10), none⟩] [3, 9, 10, 11, 12] [])
(.seq
(.cond (.tmp 12)
.skip
(.exit 0))
(.seq
(.block 1
(.seq
(.region [
⟨some 13, .mov (.tmp 11), none⟩,
⟨some 14, .idx 2 (.tmp 9) (.tmp 11), none⟩,
⟨some 15, .load 2 true (.tmp 14), none⟩,
⟨some 5, .alloc 5 [.pv (.int .i64 0), .pv (.int .i64 0)], none⟩,
⟨some 4, .mov (.tmp 13), none⟩,
⟨none, .store 2 (.tmp 5) (.tmp 15), none⟩] [3, 4, 5, 9, 10, 11] [5])
(.region [
⟨some 16, .mov (.tmp 3), none⟩,
⟨some 17, .mov (.tmp 4), none⟩,
⟨some 18, .idxa 2 1 (.tmp 5) (.val (.pv (.int .i64 1))), none⟩,
⟨some 19, .load 1 false (.tmp 18), none⟩,
⟨some 20, .idxa 2 1 (.tmp 5) (.val (.pv (.int .i64 0))), none⟩,
⟨some 21, .load 1 false (.tmp 20), none⟩,
⟨some 22, .build [.pv (.int .i64 0), .pv (.int .i64 0)] [(0, 1, (.tmp 19)), (1, 1, (.tmp 21))], none⟩,
⟨some 23, .idx 2 (.tmp 16) (.tmp 17), none⟩,
⟨none, .store 2 (.tmp 23) (.tmp 22), none⟩] [3, 9, 10, 11] [])))
(.region [
⟨some 24, .bin .add (.tmp 11) (.val (.pv (.int .i64 1))), none⟩,
⟨some 11, .mov (.tmp 24), none⟩] [3, 9, 10, 11] []))))))))
(.seq
(.region [
⟨some 25, .mov (.tmp 3), none⟩,
⟨some 2, .mov (.tmp 25), none⟩] [2] [])
.ret)))),
[.tmp 2], false, false⟩
def F117 : AFunc := ⟨2,
(.seq
(.region [
⟨some 4, .mov (.val (.pv (.int .i64 0))), none⟩] [0, 1] [])
(.seq
(.seq
(.region [
⟨some 6, .mov (.tmp 0), none⟩,
⟨some 7, .len 0 (.tmp 6), none⟩,
⟨some 8, .mov (.val (.pv (.int .i64 0))), none⟩] [0, 1, 7, 8] [])
(.block 0
(.loop
(.mask [0, 1, 7, 8] []
(.seq
(.region [
⟨some 9, .bin .lss (.tmp 8) (.tmp 7), none⟩] [0, 1, 7, 8, 9] [])
(.seq
(.cond (.tmp 9)
.skip
(.exit 0))
(.seq
(.block 1
(.seq
(.region [
⟨some 10, .mov (.tmp 8), none⟩,
⟨some 5, .mov (.tmp 10), none⟩] [0, 1, 5, 7, 8] [])
(.seq
(.region [
⟨some 11, .mov (.tmp 1), none⟩,
⟨some 12, .mov (.tmp 0), none⟩,
⟨some 13, .mov (.tmp 5), none⟩,
⟨some 14, .idx 1 (.tmp 12) (.tmp 13), none⟩,
⟨some 15, .load 1 false (.tmp 14), none⟩,
⟨some 16, .call (.tmp 11) [(.tmp 15)], none⟩] [0, 1, 5, 7, 8, 16] [])
(.cond (.tmp 16)
(.seq
(.region [
⟨some 17, .mov (.tmp 5), none⟩,
⟨some 4, .mov (.tmp 17), none⟩] [4] [])
.ret)
.skip))))
(.region [
⟨some 18, .bin .add (.tmp 8) (.val (.pv (.int .i64 1))), none⟩,
⟨some 8, .mov (.tmp 18), none⟩] [0, 1, 7, 8] []))))))))
(.seq
(.region [
⟨some 4, .mov (.val (.pv (.int .i64 (-1)))), none⟩] [4] [])
.ret))),
[.tmp 4], false, false⟩
def F118 : AFunc := ⟨2,
(.seq
(.region [
⟨some 4, .mov (.val (.pv (.int .i64 0))), none⟩] [0, 1] [])
(.seq
(.seq
(.region [
⟨some 6, .mov (.tmp 0), none⟩,
⟨some 7, .len 0 (.tmp 6), none⟩,
⟨some 8, .mov (.val (.pv (.int .i64 0))), none⟩] [0, 1, 7, 8] [])
(.block 0
(.loop
(.mask [0, 1, 7, 8] []
(.seq
(.region [
⟨some 9, .bin .lss (.tmp 8) (.tmp 7), none⟩] [0, 1, 7, 8, 9] [])
(.seq
(.cond (.tmp 9)
.skip
(.exit 0))
(.seq
(.block 1
(.seq
(.region [
⟨some 10, .mov (.tmp 8), none⟩,
⟨some 5, .mov (.tmp 10), none⟩] [0, 1, 5, 7, 8] [])
(.seq
(.region [
⟨some 11, .mov (.tmp 1), none⟩,
⟨some 12, .mov (.tmp 0), none⟩,
⟨some 13, .mov (.tmp 5), none⟩,
⟨some 14, .idx 1 (.tmp 12) (.tmp 13), none⟩,
⟨some 15, .load 1 false (.tmp 14), none⟩,
⟨some 16, .bin .eql (.tmp 11) (.tmp 15), none⟩] [0, 1, 5, 7, 8, 16] [])
(.cond (.tmp 16)
(.seq
(.region [
⟨some 17, .mov (.tmp 5), none⟩,
⟨some 4, .mov (.tmp 17), none⟩] [4] [])
.ret)
.skip))))
(.region [
⟨some 18, .bin .add (.tmp 8) (.val (.pv (.int .i64 1))), none⟩,
⟨some 8, .mov (.tmp 18), none⟩] [0, 1, 7, 8] []))))))))
(.seq
(.region [
⟨some 4, .mov (.val (.pv (.int .i64 (-1)))), none⟩] [4] [])
.ret))),
[.tmp 4], false, false⟩
def F128 : AFunc := ⟨2,
(.seq
(.region [
⟨some 2, .box 2 1 (.tmp 0), none⟩,
⟨some 4, .mov (.val (.pv (.int .i64 0))), none⟩] [1, 2] [2])
(.seq
(.seq
(.region [
⟨some 5, .load 1 false (.tmp 2), none⟩,
⟨some 6, .bin .gtr (.tmp 5) (.val (.pv (.int .i64 2000))), none⟩,
⟨some 7, .mov (.tmp 6), none⟩,
⟨some 8, .mov (.tmp 1), some (7, false)⟩,
⟨some 9, .len 0 (.tmp 8), some (7, false)⟩,
⟨some 10, .bin .gtr (.tmp 9) (.val (.pv (.int .i64 40000))), some (7, false)⟩,
⟨some 11, .pick (.tmp 7) (.val (.pv (.bool true))) (.tmp 10), none⟩] [1, 2, 11] [2])
(.cond (.tmp 11)
(.seq
(.region [
⟨some 4, .mov (.val (.pv (.int .i64 3))), none⟩] [4] [])
.ret)
.skip))
(.seq
(.seq
(.region [
⟨some 12, .load 1 false (.tmp 2), none⟩,
⟨some 13, .bin .lss (.tmp 12) (.val (.pv (.int .i64 0))), none⟩,
⟨some 14, .mov (.tmp 13), none⟩,
⟨some 15, .mov (.tmp 1), some (14, false)⟩,
⟨some 16, .clos 135 [(.tmp 2)], some (14, false)⟩,
⟨some 17, .call (.val (.func 134 [])) [(.tmp 15), (.tmp 16)], some (14, false)⟩,
⟨some 18, .pick (.tmp 14) (.val (.pv (.bool true))) (.tmp 17), none⟩] [18] [])
(.cond (.tmp 18)
(.seq
(.region [
⟨some 4, .mov (.val (.pv (.int .i64 1))), none⟩] [4] [])
.ret)
.skip))
(.seq
(.region [
⟨some 4, .mov (.val (.pv (.int .i64 0))), none⟩] [4] [])
.ret)))),
[.tmp 4], false, false⟩
def F129 : AFunc := ⟨2,
(.seq
(.region [
⟨some 3, .mov (.val (.pv (.bool false))), none⟩] [0, 1] [])
(.seq
(.region [
⟨some 4, .mov (.tmp 0), none⟩,
⟨some 5, .bin .lss (.tmp 4) (.val (.pv (.int .i64 0))), none⟩,
⟨some 6, .mov (.tmp 5), none⟩,
⟨some 7, .mov (.tmp 0), some (6, false)⟩,
⟨some 8, .load 1 false (.tmp 1), some (6, false)⟩,
⟨some 9, .bin .geq (.tmp 7) (.tmp 8), some (6, false)⟩,
⟨some 10, .pick (.tmp 6) (.val (.pv (.bool true))) (.tmp 9), none⟩,
⟨some 3, .mov (.tmp 10), none⟩] [3] [])
.ret)),
[.tmp 3], false, false⟩
def F130 : AFunc := ⟨2,
(.seq
(.region [
⟨some 4, .mov (.val (.tl [])), none⟩] [0, 1] [])
(.seq
(.seq
(.region [
⟨some 9, .mov (.tmp 1), none⟩,
⟨some 10, .bin .lss (.tmp 9) (.val (.pv (.int .i64 0))), none⟩] [0, 1, 10] [])
(.cond (.tmp 10)
(.region [
⟨some 11, .minmax true [], none⟩,
⟨none, .minmax true [], none⟩] [0, 1] [])
.skip))
(.seq
(.region [
⟨some 13, .mov (.tmp 0), none⟩,
⟨some 14, .len 0 (.tmp 13), none⟩,
⟨some 15, .conv .u64 (.tmp 14), none⟩,
⟨some 16, .mov (.tmp 1), none⟩,
⟨some 17, .conv .u64 (.tmp 16), none⟩,
⟨some 18, .call (.val (.func 136 [])) [(.tmp 15), (.tmp 17)], none⟩,
⟨some 12, .mov (.tmp 18), none⟩,
⟨some 19, .ext (.tmp 12) 0, none⟩,
⟨some 20, .ext (.tmp 12) 1, none⟩,
⟨some 5, .mov (.tmp 19), none⟩,
⟨some 6, .mov (.tmp 20), none⟩] [0, 5, 6] [])
(.seq
(.seq
(.region [
⟨some 21, .mov (.tmp 5), none⟩,
⟨some 22, .bin .gtr (.tmp 21) (.val (.pv (.int .u64 0))), none⟩,
⟨some 23, .mov (.tmp 22), none⟩,
⟨some 24, .mov (.tmp 6), some (23, false)⟩,
⟨some 25, .bin .gtr (.tmp 24) (.val (.pv (.int .u64 9223372036854775807))), some (23, false)⟩,
⟨some 26, .pick (.tmp 23) (.val (.pv (.bool true))) (.tmp 25), none⟩] [0, 6, 26] [])
(.cond (.tmp 26)
(.region [
⟨some 27, .minmax true [], none⟩,
⟨none, .minmax true [], none⟩] [0, 6] [])
.skip))
(.seq
(.region [
⟨some 28, .mov (.tmp 6), none⟩,
⟨some 29, .conv .i64 (.tmp 28), none⟩,
⟨some 30, .make 1 [.pv (.int .i64 0)] (.tmp 29) (.tmp 29), none⟩,
⟨some 7, .mov (.tmp 30), none⟩] [0, 7] [])
(.seq
(.region [
⟨some 31, .mov (.tmp 7), none⟩,
⟨some 32, .mov (.tmp 0), none⟩,
⟨some 33, .copy 1 (.tmp 31) (.tmp 32), none⟩,
⟨some 8, .mov (.tmp 33), none⟩] [7, 8] [])
(.seq
(.block 0
(.loop
(.mask [7, 8] []
(.seq
(.seq
(.region [
⟨some 34, .mov (.tmp 8), none⟩,
⟨some 35, .mov (.tmp 7), none⟩,
⟨some 36, .len 0 (.tmp 35), none⟩,
⟨some 37, .bin .lss (.tmp 34) (.tmp 36), none⟩] [7, 8, 37] [])
(.cond (.tmp 37)
.skip
(.exit 0)))
(.block 1
(.draw [
(⟨some 38, .mov (.tmp 8), none⟩, []),
(⟨some 39, .mov (.tmp 7), none⟩, []),
(⟨some 40, .mov (.tmp 8), none⟩, []),
(⟨some 41, .sl 1 (.tmp 39) (some (.tmp 40)) none none, none⟩, []),
(⟨some 42, .mov (.tmp 7), none⟩, []),
(⟨some 43, .mov (.tmp 8), none⟩, []),
(⟨some 44, .sl 1 (.tmp 42) none (some (.tmp 43)) none, none⟩, []),
(⟨some 45, .copy 1 (.tmp 41) (.tmp 44), none⟩, []),
(⟨some 46, .bin .add (.tmp 38) (.tmp 45), none⟩, []),
(⟨some 8, .mov (.tmp 46), none⟩, [])] [7, 8] []))))))
(.seq
(.region [
⟨some 47, .mov (.tmp 7), none⟩,
⟨some 4, .mov (.tmp 47), none⟩] [4] [])
.ret)))))))),
[.tmp 4], true, false⟩
def F134 : AFunc := ⟨2,
(.seq
(.region [
⟨some 4, .mov (.val (.pv (.bool false))), none⟩] [0, 1] [])
(.seq
(.region [
⟨some 5, .mov (.tmp 0), none⟩,
⟨some 6, .mov (.tmp 1), none⟩,
⟨some 7, .call (.val (.func 138 [])) [(.tmp 5), (.tmp 6)], none⟩,
⟨some 8, .bin .geq (.tmp 7) (.val (.pv (.int .i64 0))), none⟩,
⟨some 4, .mov (.tmp 8), none⟩] [4] [])
.ret)),
[.tmp 4], false, false⟩
def F135 : AFunc := ⟨2,
(.seq
(.region [
⟨some 2, .box 2 2 (.tmp 0), none⟩,
⟨some 3, .mov (.val (.pv (.bool false))), none⟩] [1, 2] [2])
(.seq
(.region [
⟨some 4, .idxa 2 1 (.tmp 2) (.val (.pv (.int .i64 0))), none⟩,
⟨some 5, .load 1 false (.tmp 4), none⟩,
⟨some 6, .idxa 2 1 (.tmp 2) (.val (.pv (.int .i64 1))), none⟩,
⟨some 7, .load 1 false (.tmp 6), none⟩,
⟨some 8, .minmax false [(.tmp 5), (.tmp 7)], none⟩,
⟨some 9, .bin .lss (.tmp 8) (.val (.pv (.int .i64 0))), none⟩,
⟨some 10, .mov (.tmp 9), none⟩,
⟨some 11, .idxa 2 1 (.tmp 2) (.val (.pv (.int .i64 0))), some (10, false)⟩,
⟨some 12, .load 1 false (.tmp 11), some (10, false)⟩,
⟨some 13, .idxa 2 1 (.tmp 2) (.val (.pv (.int .i64 1))), some (10, false)⟩,
⟨some 14, .load 1 false (.tmp 13), some (10, false)⟩,
⟨some 15, .minmax true [(.tmp 12), (.tmp 14)], some (10, false)⟩,
⟨some 16, .load 1 false (.tmp 1), some (10, false)⟩,
⟨some 17, .bin .geq (.tmp 15) (.tmp 16), some (10, false)⟩,
⟨some 18, .pick (.tmp 10) (.val (.pv (.bool true))) (.tmp 17), none⟩,
⟨some 3, .mov (.tmp 18), none⟩] [3] [])
.ret)),
[.tmp 3], false, false⟩
def F136 : AFunc := ⟨2,
(.seq
(.region [
⟨some 4, .mov (.val (.pv (.int .u64 0))), none⟩,
⟨some 5, .mov (.val (.pv (.int .u64 0))), none⟩] [0, 1] [])
(.seq
(.cond (.val (.pv (.bool false)))
(.seq
(.region [
⟨some 11, .mov (.tmp 0), none⟩,
⟨some 12, .conv .u32 (.tmp 11), none⟩,
⟨some 13, .mov (.tmp 1), none⟩,
⟨some 14, .conv .u32 (.tmp 13), none⟩,
⟨some 15, .call (.val (.func 139 [])) [(.tmp 12), (.tmp 14)], none⟩,
⟨some 10, .mov (.tmp 15), none⟩,
⟨some 16, .ext (.tmp 10) 0, none⟩,
⟨some 17, .ext (.tmp 10) 1, none⟩,
⟨some 6, .mov (.tmp 16), none⟩,
⟨some 7, .mov (.tmp 17), none⟩] [6, 7] [])
(.seq
(.region [
⟨some 18, .mov (.tmp 6), none⟩,
⟨some 19, .conv .u64 (.tmp 18), none⟩,
⟨some 20, .mov (.tmp 7), none⟩,
⟨some 21, .conv .u64 (.tmp 20), none⟩,
⟨some 4, .mov (.tmp 19), none⟩,
⟨some 5, .mov (.tmp 21), none⟩] [4, 5] [])
.ret))
.skip)
(.seq
(.region [
⟨some 23, .mov (.tmp 0), none⟩,
⟨some 24, .mov (.tmp 1), none⟩,
⟨some 25, .call (.val (.func 140 [])) [(.tmp 23), (.tmp 24)], none⟩,
⟨some 22, .mov (.tmp 25), none⟩,
⟨some 26, .ext (.tmp 22) 0, none⟩,
⟨some 27, .ext (.tmp 22) 1, none⟩,
⟨some 8, .mov (.tmp 26), none⟩,
⟨some 9, .mov (.tmp 27), none⟩] [8, 9] [])
(.seq
(.region [
⟨some 28, .mov (.tmp 8), none⟩,
⟨some 29, .mov (.tmp 9), none⟩,
⟨some 4, .mov (.tmp 28), none⟩,
⟨some 5, .mov (.tmp 29), none⟩] [4, 5] [])
.ret)))),
[.tmp 4, .tmp 5], false, false⟩
def F138 : AFunc := ⟨2,
(.seq
(.region [
⟨some 4, .mov (.val (.pv (.int .i64 0))), none⟩] [0, 1] [])
(.seq
(.seq
(.region [
⟨some 6, .mov (.tmp 0), none⟩,
⟨some 7, .len 0 (.tmp 6), none⟩,
⟨some 8, .mov (.val (.pv (.int .i64 0))), none⟩] [0, 1, 7, 8] [])
(.block 0
(.loop
(.mask [0, 1, 7, 8] []
(.seq
(.region [
⟨some 9, .bin .lss (.tmp 8) (.tmp 7), none⟩] [0, 1, 7, 8, 9] [])
(.seq
(.cond (.tmp 9)
.skip
(.exit 0))
(.seq
(.block 1
(.seq
(.region [
⟨some 10, .mov (.tmp 8), none⟩,
⟨some 5, .mov (.tmp 10), none⟩] [0, 1, 5, 7, 8] [])
(.seq
(.region [
⟨some 11, .mov (.tmp 1), none⟩,
⟨some 12, .mov (.tmp 0), none⟩,
⟨some 13, .mov (.tmp 5), none⟩,
⟨some 14, .idx 2 (.tmp 12) (.tmp 13), none⟩,
⟨some 15, .load 2 true (.tmp 14), none⟩,
⟨some 16, .call (.tmp 11) [(.tmp 15)], none⟩] [0, 1, 5, 7, 8, 16] [])
(.cond (.tmp 16)
(.seq
(.region [
⟨some 17, .mov (.tmp 5), none⟩,
⟨some 4, .mov (.tmp 17), none⟩] [4] [])
.ret)
.skip))))
(.region [
⟨some 18, .bin .add (.tmp 8) (.val (.pv (.int .i64 1))), none⟩,
⟨some 8, .mov (.tmp 18), none⟩] [0, 1, 7, 8] []))))))))
(.seq
(.region [
⟨some 4, .mov (.val (.pv (.int .i64 (-1)))), none⟩] [4] [])
.ret))),
[.tmp 4], false, false⟩
def F139 : AFunc := ⟨2,
(.seq
(.region [
⟨some 4, .mov (.val (.pv (.int .u32 0))), none⟩,
⟨some 5, .mov (.val (.pv (.int .u32 0))), none⟩] [0, 1] [])
(.seq
(.region [
⟨some 7, .mov (.tmp 0), none⟩,
⟨some 8, .conv .u64 (.tmp 7), none⟩,
⟨some 9, .mov (.tmp 1), none⟩,
⟨some 10, .conv .u64 (.tmp 9), none⟩,
⟨some 11, .bin .mul (.tmp 8) (.tmp 10), none⟩,
⟨some 6, .mov (.tmp 11), none⟩] [6] [])
(.seq
(.region [
⟨some 12, .mov (.tmp 6), none⟩,
⟨some 13, .bin .shr (.tmp 12) (.val (.pv (.int .u64 32))), none⟩,
⟨some 14, .conv .u32 (.tmp 13), none⟩,
⟨some 15, .mov (.tmp 6), none⟩,
⟨some 16, .conv .u32 (.tmp 15), none⟩,
⟨some 4, .mov (.tmp 14), none⟩,
⟨some 5, .mov (.tmp 16), none⟩] [4, 5] [])
.ret))),
[.tmp 4, .tmp 5], false, false⟩
def F140 : AFunc := ⟨2,
(.seq
(.region [
⟨some 4, .mov (.val (.pv (.int .u64 0))), none⟩,
⟨some 5, .mov (.val (.pv (.int .u64 0))), none⟩] [0, 1] [])
(.seq
(.region [
⟨some 14, .mov (.tmp 0), none⟩,
⟨some 15, .bin .and (.tmp 14) (.val (.pv (.int .u64 4294967295))), none⟩,
⟨some 6, .mov (.tmp 15), none⟩] [0, 1, 6] [])
(.seq
(.region [
⟨some 16, .mov (.tmp 0), none⟩,
⟨some 17, .bin .shr (.tmp 16) (.val (.pv (.int .u64 32))), none⟩,
⟨some 7, .mov (.tmp 17), none⟩] [0, 1, 6, 7] [])
(.seq
(.region [
⟨some 18, .mov (.tmp 1), none⟩,
⟨some 19, .bin .and (.tmp 18) (.val (.pv (.int .u64 4294967295))), none⟩,
⟨some 8, .mov (.tmp 19), none⟩] [0, 1, 6, 7, 8] [])
(.seq
(.region [
⟨some 20, .mov (.tmp 1), none⟩,
⟨some 21, .bin .shr (.tmp 20) (.val (.pv (.int .u64 32))), none⟩,
⟨some 9, .mov (.tmp 21), none⟩] [0, 1, 6, 7, 8, 9] [])
(.seq
(.region [
⟨some 22, .mov (.tmp 6), none⟩,
⟨some 23, .mov (.tmp 8), none⟩,
⟨some 24, .bin .mul (.tmp 22) (.tmp 23), none⟩,
⟨some 10, .mov (.tmp 24), none⟩] [0, 1, 6, 7, 8, 9, 10] [])
(.seq
(.region [
⟨some 25, .mov (.tmp 7), none⟩,
⟨some 26, .mov (.tmp 8), none⟩,
⟨some 27, .bin .mul (.tmp 25) (.tmp 26), none⟩,
⟨some 28, .mov (.tmp 10), none⟩,
⟨some 29, .bin .shr (.tmp 28) (.val (.pv (.int .u64 32))), none⟩,
⟨some 30, .bin .add (.tmp 27) (.tmp 29), none⟩,
⟨some 11, .mov (.tmp 30), none⟩] [0, 1, 6, 7, 9, 11] [])
(.seq
(.region [
⟨some 31, .mov (.tmp 11), none⟩,
⟨some 32, .bin .and (.tmp 31) (.val (.pv (.int .u64 4294967295))), none⟩,
⟨some 12, .mov (.tmp 32), none⟩] [0, 1, 6, 7, 9, 11, 12] [])
(.seq
(.region [
⟨some 33, .mov (.tmp 11), none⟩,
⟨some 34, .bin .shr (.tmp 33) (.val (.pv (.int .u64 32))), none⟩,
⟨some 13, .mov (.tmp 34), none⟩] [0, 1, 6, 7, 9, 12, 13] [])
(.seq
(.region [
⟨some 35, .mov (.tmp 12), none⟩,
⟨some 36, .mov (.tmp 6), none⟩,
⟨some 37, .mov (.tmp 9), none⟩,
⟨some 38, .bin .mul (.tmp 36) (.tmp 37), none⟩,
⟨some 39, .bin .add (.tmp 35) (.tmp 38), none⟩,
⟨some 12, .mov (.tmp 39), none⟩] [0, 1, 7, 9, 12, 13] [])
(.seq
(.region [
⟨some 40, .mov (.tmp 7), none⟩,
⟨some 41, .mov (.tmp 9), none⟩,
⟨some 42, .bin .mul (.tmp 40) (.tmp 41), none⟩,
⟨some 43, .mov (.tmp 13), none⟩,
⟨some 44, .bin .add (.tmp 42) (.tmp 43), none⟩,
⟨some 45, .mov (.tmp 12), none⟩,
⟨some 46, .bin .shr (.tmp 45) (.val (.pv (.int .u64 32))), none⟩,
⟨some 47, .bin .add (.tmp 44) (.tmp 46), none⟩,
⟨some 4, .mov (.tmp 47), none⟩] [0, 1, 4] [])
(.seq
(.region [
⟨some 48, .mov (.tmp 0), none⟩,
⟨some 49, .mov (.tmp 1), none⟩,
⟨some 50, .bin .mul (.tmp 48) (.tmp 49), none⟩,
⟨some 5, .mov (.tmp 50), none⟩] [4, 5] [])
.ret)))))))))))),
[.tmp 4, .tmp 5], false, false⟩
end Go.Pv
