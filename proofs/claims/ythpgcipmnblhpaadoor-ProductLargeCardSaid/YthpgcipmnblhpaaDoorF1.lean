/-
  Functions of the program, read for the interpreter.
-/
import Derived.Test.YthpgcipmnblhpaaDoorA4
namespace Go.Pv
def F29 : AFunc := ⟨1,
(.seq
(.region [
⟨some 1, .box 1 3 (.tmp 0), none⟩,
⟨some 2, .mov (.val (.pv (.int .i64 0))), none⟩] [1] [1])
(.seq
(.seq
(.region [
⟨some 6, .fld 0 (.tmp 1), none⟩,
⟨some 7, .load 1 false (.tmp 6), none⟩,
⟨some 8, .bin .gtr (.tmp 7) (.val (.pv (.int .i64 12))), none⟩,
⟨some 9, .mov (.tmp 8), none⟩,
⟨some 10, .fld 2 (.tmp 1), some (9, false)⟩,
⟨some 11, .load 1 false (.tmp 10), some (9, false)⟩,
⟨some 12, .len 0 (.tmp 11), some (9, false)⟩,
⟨some 13, .bin .gtr (.tmp 12) (.val (.pv (.int .i64 100))), some (9, false)⟩,
⟨some 14, .pick (.tmp 9) (.val (.pv (.bool true))) (.tmp 13), none⟩] [1, 14] [1])
(.cond (.tmp 14)
(.seq
(.region [
⟨some 2, .mov (.val (.pv (.int .i64 3))), none⟩] [2] [])
.ret)
.skip))
(.seq
(.region [
⟨some 15, .clos 46 [(.tmp 1)], none⟩,
⟨some 3, .mov (.tmp 15), none⟩] [1, 3] [1])
(.seq
(.seq
(.region [
⟨some 16, .mov (.tmp 3), none⟩,
⟨some 17, .fld 1 (.tmp 1), none⟩,
⟨some 18, .load 1 false (.tmp 17), none⟩,
⟨some 19, .call (.tmp 16) [(.tmp 18)], none⟩,
⟨some 20, .un .not (.tmp 19), none⟩] [1, 3, 20] [1])
(.cond (.tmp 20)
(.seq
(.region [
⟨some 2, .mov (.val (.pv (.int .i64 1))), none⟩] [2] [])
.ret)
.skip))
(.seq
(.seq
(.region [
⟨some 21, .fld 2 (.tmp 1), none⟩,
⟨some 22, .load 1 false (.tmp 21), none⟩,
⟨some 23, .len 0 (.tmp 22), none⟩,
⟨some 24, .mov (.val (.pv (.int .i64 0))), none⟩] [1, 3, 22, 23, 24] [1])
(.block 0
(.loop
(.mask [1, 3, 22, 23, 24] [1]
(.seq
(.region [
⟨some 25, .bin .lss (.tmp 24) (.tmp 23), none⟩] [1, 3, 22, 23, 24, 25] [1])
(.seq
(.cond (.tmp 25)
.skip
(.exit 0))
(.seq
(.block 1
(.seq
(.region [
⟨some 26, .mov (.tmp 24), none⟩,
⟨some 27, .idx 4 (.tmp 22) (.tmp 24), none⟩,
⟨some 28, .load 4 true (.tmp 27), none⟩,
⟨some 5, .alloc 5 [.pv (.int .i64 0), .pv (.bool false), .pv (.int .i64 0), .pv (.int .i64 0)], none⟩,
⟨some 4, .mov (.tmp 26), none⟩,
⟨none, .store 4 (.tmp 5) (.tmp 28), none⟩] [1, 3, 4, 5, 22, 23, 24] [1, 5])
(.seq
(.draw [
(⟨some 29, .mov (.tmp 3), none⟩, []),
(⟨some 30, .fld 0 (.tmp 5), none⟩, []),
(⟨some 31, .load 1 false (.tmp 30), none⟩, []),
(⟨some 32, .call (.tmp 29) [(.tmp 31)], none⟩, []),
(⟨some 33, .un .not (.tmp 32), none⟩, []),
(⟨some 34, .mov (.tmp 33), none⟩, []),
(⟨some 35, .mov (.tmp 3), some (34, false)⟩, []),
(⟨some 36, .fld 3 (.tmp 5), some (34, false)⟩, []),
(⟨some 37, .load 1 false (.tmp 36), some (34, false)⟩, []),
(⟨some 38, .call (.tmp 35) [(.tmp 37)], some (34, false)⟩, []),
(⟨some 39, .un .not (.tmp 38), some (34, false)⟩, []),
(⟨some 40, .pick (.tmp 34) (.val (.pv (.bool true))) (.tmp 39), none⟩, []),
(⟨some 41, .mov (.tmp 40), none⟩, []),
(⟨some 42, .fld 2 (.tmp 5), some (41, false)⟩, []),
(⟨some 43, .load 1 false (.tmp 42), some (41, false)⟩, []),
(⟨some 44, .bin .lss (.tmp 43) (.val (.pv (.int .i64 1))), some (41, false)⟩, []),
(⟨some 45, .pick (.tmp 41) (.val (.pv (.bool true))) (.tmp 44), none⟩, []),
(⟨some 46, .mov (.tmp 45), none⟩, []),
(⟨some 47, .fld 2 (.tmp 5), some (46, false)⟩, []),
(⟨some 48, .load 1 false (.tmp 47), some (46, false)⟩, []),
(⟨some 49, .bin .gtr (.tmp 48) (.val (.pv (.int .i64 1000))), some (46, false)⟩, []),
(⟨some 50, .pick (.tmp 46) (.val (.pv (.bool true))) (.tmp 49), none⟩, []),
(⟨some 51, .mov (.tmp 50), none⟩, []),
(⟨some 52, .mov (.tmp 4), some (51, false)⟩, []),
(⟨some 53, .bin .gtr (.tmp 52) (.val (.pv (.int .i64 0))), some (51, false)⟩, []),
(⟨some 54, .mov (.tmp 53), some (51, false)⟩, []),
(⟨some 55, .fld 2 (.tmp 1), some (54, true)⟩, []),
(⟨some 56, .load 1 false (.tmp 55), some (54, true)⟩, []),
(⟨some 57, .mov (.tmp 4), some (54, true)⟩, []),
(⟨some 58, .bin .sub (.tmp 57) (.val (.pv (.int .i64 1))), some (54, true)⟩, []),
(⟨some 59, .idx 4 (.tmp 56) (.tmp 58), some (54, true)⟩, []),
(⟨some 60, .load 4 true (.tmp 59), some (54, true)⟩, []),
(⟨some 61, .load 4 true (.tmp 5), some (54, true)⟩, []),
(⟨some 62, .call (.val (.func 47 [])) [(.tmp 60), (.tmp 61)], some (54, true)⟩, []),
(⟨some 63, .bin .geq (.tmp 62) (.val (.pv (.int .i64 0))), some (54, true)⟩, []),
(⟨some 64, .pick (.tmp 54) (.tmp 63) (.val (.pv (.bool false))), some (51, false)⟩, []),
(⟨some 65, .pick (.tmp 51) (.val (.pv (.bool true))) (.tmp 64), none⟩, [])] [1, 3, 22, 23, 24, 65] [1])
(.cond (.tmp 65)
(.seq
(.region [
⟨some 2, .mov (.val (.pv (.int .i64 1))), none⟩] [2] [])
.ret)
.skip))))
(.region [
⟨some 66, .bin .add (.tmp 24) (.val (.pv (.int .i64 1))), none⟩,
⟨some 24, .mov (.tmp 66), none⟩] [1, 3, 22, 23, 24] [1]))))))))
(.seq
(.region [
⟨some 2, .mov (.val (.pv (.int .i64 0))), none⟩] [2] [])
.ret)))))),
[.tmp 2], false, false, false⟩
def F45 : AFunc := ⟨4,
(.seq
(.region [
⟨some 4, .box 4 3 (.tmp 0), none⟩,
⟨some 8, .mov (.val (.pv (.int .i64 0))), none⟩,
⟨some 9, .mov (.val (.pv (.bool false))), none⟩] [1, 2, 3, 4] [4])
(.seq
(.seq
(.region [
⟨some 12, .fld 2 (.tmp 4), none⟩,
⟨some 13, .load 1 false (.tmp 12), none⟩,
⟨some 14, .len 0 (.tmp 13), none⟩,
⟨some 15, .mov (.val (.pv (.int .i64 0))), none⟩] [1, 2, 3, 13, 14, 15] [])
(.block 0
(.loop
(.mask [1, 2, 3, 13, 14, 15] []
(.seq
(.region [
⟨some 16, .bin .lss (.tmp 15) (.tmp 14), none⟩] [1, 2, 3, 13, 14, 15, 16] [])
(.seq
(.cond (.tmp 16)
.skip
(.exit 0))
(.seq
(.block 1
(.seq
(.region [
⟨some 17, .idx 4 (.tmp 13) (.tmp 15), none⟩,
⟨some 18, .load 4 true (.tmp 17), none⟩,
⟨some 11, .alloc 11 [.pv (.int .i64 0), .pv (.bool false), .pv (.int .i64 0), .pv (.int .i64 0)], none⟩,
⟨none, .store 4 (.tmp 11) (.tmp 18), none⟩] [1, 2, 3, 11, 13, 14, 15] [11])
(.seq
(.region [
⟨some 19, .fld 0 (.tmp 11), none⟩,
⟨some 20, .load 1 false (.tmp 19), none⟩,
⟨some 21, .mov (.tmp 1), none⟩,
⟨some 22, .bin .eql (.tmp 20) (.tmp 21), none⟩,
⟨some 23, .mov (.tmp 22), none⟩,
⟨some 24, .fld 1 (.tmp 11), some (23, true)⟩,
⟨some 25, .load 1 false (.tmp 24), some (23, true)⟩,
⟨some 26, .mov (.tmp 2), some (23, true)⟩,
⟨some 27, .eqa false [0] false (.tmp 25) (.tmp 26), some (23, true)⟩,
⟨some 28, .pick (.tmp 23) (.tmp 27) (.val (.pv (.bool false))), none⟩,
⟨some 29, .mov (.tmp 28), none⟩,
⟨some 30, .fld 2 (.tmp 11), some (29, true)⟩,
⟨some 31, .load 1 false (.tmp 30), some (29, true)⟩,
⟨some 32, .mov (.tmp 3), some (29, true)⟩,
⟨some 33, .bin .eql (.tmp 31) (.tmp 32), some (29, true)⟩,
⟨some 34, .pick (.tmp 29) (.tmp 33) (.val (.pv (.bool false))), none⟩] [1, 2, 3, 11, 13, 14, 15, 34] [11])
(.cond (.tmp 34)
(.seq
(.region [
⟨some 35, .fld 3 (.tmp 11), none⟩,
⟨some 36, .load 1 false (.tmp 35), none⟩,
⟨some 8, .mov (.tmp 36), none⟩,
⟨some 9, .mov (.val (.pv (.bool true))), none⟩] [8, 9] [])
.ret)
.skip))))
(.region [
⟨some 37, .bin .add (.tmp 15) (.val (.pv (.int .i64 1))), none⟩,
⟨some 15, .mov (.tmp 37), none⟩] [1, 2, 3, 13, 14, 15] []))))))))
(.seq
(.region [
⟨some 8, .mov (.val (.pv (.int .i64 0))), none⟩,
⟨some 9, .mov (.val (.pv (.bool false))), none⟩] [8, 9] [])
.ret))),
[.tmp 8, .tmp 9], false, false, false⟩
def F46 : AFunc := ⟨2,
(.seq
(.region [
⟨some 3, .mov (.val (.pv (.bool false))), none⟩] [0, 1] [])
(.seq
(.region [
⟨some 4, .mov (.tmp 0), none⟩,
⟨some 5, .bin .geq (.tmp 4) (.val (.pv (.int .i64 0))), none⟩,
⟨some 6, .mov (.tmp 5), none⟩,
⟨some 7, .mov (.tmp 0), some (6, true)⟩,
⟨some 8, .fld 0 (.tmp 1), some (6, true)⟩,
⟨some 9, .load 1 false (.tmp 8), some (6, true)⟩,
⟨some 10, .bin .lss (.tmp 7) (.tmp 9), some (6, true)⟩,
⟨some 11, .pick (.tmp 6) (.tmp 10) (.val (.pv (.bool false))), none⟩,
⟨some 3, .mov (.tmp 11), none⟩] [3] [])
.ret)),
[.tmp 3], false, false, false⟩
def F47 : AFunc := ⟨2,
(.seq
(.region [
⟨some 2, .box 2 4 (.tmp 0), none⟩,
⟨some 3, .box 3 4 (.tmp 1), none⟩,
⟨some 4, .mov (.val (.pv (.int .i64 0))), none⟩] [2, 3] [2, 3])
(.seq
(.region [
⟨some 5, .mov (.val (.func 58 [])), none⟩] [2, 3, 5] [2, 3])
(.seq
(.draw [
(⟨some 6, .fld 0 (.tmp 2), none⟩, []),
(⟨some 7, .load 1 false (.tmp 6), none⟩, []),
(⟨some 8, .fld 0 (.tmp 3), none⟩, []),
(⟨some 9, .load 1 false (.tmp 8), none⟩, []),
(⟨some 10, .call (.val (.func 60 [])) [(.tmp 7), (.tmp 9)], none⟩, []),
(⟨some 11, .mov (.tmp 5), none⟩, []),
(⟨some 12, .load 4 true (.tmp 2), none⟩, [4]),
(⟨some 13, .call (.tmp 11) [(.tmp 12)], none⟩, []),
(⟨some 14, .mov (.tmp 5), none⟩, []),
(⟨some 15, .load 4 true (.tmp 3), none⟩, [4, 7]),
(⟨some 16, .call (.tmp 14) [(.tmp 15)], none⟩, []),
(⟨some 17, .call (.val (.func 60 [])) [(.tmp 13), (.tmp 16)], none⟩, []),
(⟨some 18, .fld 2 (.tmp 2), none⟩, []),
(⟨some 19, .load 1 false (.tmp 18), none⟩, [4, 7, 10, 11]),
(⟨some 20, .fld 2 (.tmp 3), none⟩, []),
(⟨some 21, .load 1 false (.tmp 20), none⟩, [4, 7, 10, 11]),
(⟨some 22, .call (.val (.func 60 [])) [(.tmp 19), (.tmp 21)], none⟩, []),
(⟨some 23, .lit 1 [.pv (.int .i64 0)] 3 [(0, 1, (.tmp 10)), (1, 1, (.tmp 17)), (2, 1, (.tmp 22))], none⟩, []),
(⟨some 24, .call (.val (.func 59 [])) [(.tmp 23)], none⟩, []),
(⟨some 4, .mov (.tmp 24), none⟩, [])] [4] [])
.ret))),
[.tmp 4], false, false, false⟩
def F58 : AFunc := ⟨1,
(.seq
(.region [
⟨some 1, .box 1 4 (.tmp 0), none⟩,
⟨some 2, .mov (.val (.pv (.int .i64 0))), none⟩] [1] [1])
(.seq
(.seq
(.region [
⟨some 3, .fld 1 (.tmp 1), none⟩,
⟨some 4, .load 1 false (.tmp 3), none⟩] [4] [])
(.cond (.tmp 4)
(.seq
(.region [
⟨some 2, .mov (.val (.pv (.int .i64 1))), none⟩] [2] [])
.ret)
.skip))
(.seq
(.region [
⟨some 2, .mov (.val (.pv (.int .i64 0))), none⟩] [2] [])
.ret))),
[.tmp 2], false, false, false⟩
def F59 : AFunc := ⟨1,
(.seq
(.region [
⟨some 2, .mov (.val (.pv (.int .i64 0))), none⟩] [0] [])
(.seq
(.region [
⟨some 3, .mov (.val (.pv (.int .i64 0))), none⟩] [0, 3] [])
(.seq
(.seq
(.region [
⟨some 6, .mov (.tmp 0), none⟩,
⟨some 7, .len 0 (.tmp 6), none⟩,
⟨some 8, .mov (.val (.pv (.int .i64 0))), none⟩] [3, 6, 7, 8] [])
(.block 0
(.loop
(.mask [3, 6, 7, 8] []
(.seq
(.region [
⟨some 9, .bin .lss (.tmp 8) (.tmp 7), none⟩] [3, 6, 7, 8, 9] [])
(.seq
(.cond (.tmp 9)
.skip
(.exit 0))
(.seq
(.block 1
(.seq
(.region [
⟨some 10, .idx 1 (.tmp 6) (.tmp 8), none⟩,
⟨some 11, .load 1 false (.tmp 10), none⟩,
⟨some 5, .mov (.tmp 11), none⟩] [3, 5, 6, 7, 8] [])
(.seq
(.region [
⟨some 12, .mov (.tmp 5), none⟩,
⟨some 13, .mov (.tmp 3), none⟩,
⟨some 14, .bin .neq (.tmp 12) (.tmp 13), none⟩] [3, 5, 6, 7, 8, 14] [])
(.cond (.tmp 14)
(.seq
(.region [
⟨some 15, .mov (.tmp 5), none⟩,
⟨some 2, .mov (.tmp 15), none⟩] [2] [])
.ret)
.skip))))
(.region [
⟨some 16, .bin .add (.tmp 8) (.val (.pv (.int .i64 1))), none⟩,
⟨some 8, .mov (.tmp 16), none⟩] [3, 6, 7, 8] []))))))))
(.seq
(.region [
⟨some 17, .mov (.tmp 3), none⟩,
⟨some 2, .mov (.tmp 17), none⟩] [2] [])
.ret)))),
[.tmp 2], false, false, false⟩
def F60 : AFunc := ⟨2,
(.seq
(.region [
⟨some 4, .mov (.val (.pv (.int .i64 0))), none⟩] [0, 1] [])
(.seq
(.region [
⟨some 7, .mov (.tmp 0), none⟩,
⟨some 8, .call (.val (.func 66 [])) [(.tmp 7)], none⟩,
⟨some 5, .mov (.tmp 8), none⟩] [0, 1, 5] [])
(.seq
(.region [
⟨some 9, .mov (.tmp 1), none⟩,
⟨some 10, .call (.val (.func 66 [])) [(.tmp 9)], none⟩,
⟨some 6, .mov (.tmp 10), none⟩] [0, 1, 5, 6] [])
(.seq
(.seq
(.region [
⟨some 11, .mov (.tmp 5), none⟩] [0, 1, 6, 11] [])
(.cond (.tmp 11)
(.seq
(.seq
(.region [
⟨some 12, .mov (.tmp 6), none⟩] [12] [])
(.cond (.tmp 12)
(.seq
(.region [
⟨some 4, .mov (.val (.pv (.int .i64 0))), none⟩] [4] [])
.ret)
.skip))
(.seq
(.region [
⟨some 4, .mov (.val (.pv (.int .i64 (-1)))), none⟩] [4] [])
.ret))
.skip))
(.seq
(.seq
(.region [
⟨some 13, .mov (.tmp 6), none⟩] [0, 1, 13] [])
(.cond (.tmp 13)
(.seq
(.region [
⟨some 4, .mov (.val (.pv (.int .i64 1))), none⟩] [4] [])
.ret)
.skip))
(.seq
(.seq
(.region [
⟨some 14, .mov (.tmp 0), none⟩,
⟨some 15, .mov (.tmp 1), none⟩,
⟨some 16, .bin .lss (.tmp 14) (.tmp 15), none⟩] [0, 1, 16] [])
(.cond (.tmp 16)
(.seq
(.region [
⟨some 4, .mov (.val (.pv (.int .i64 (-1)))), none⟩] [4] [])
.ret)
.skip))
(.seq
(.seq
(.region [
⟨some 17, .mov (.tmp 0), none⟩,
⟨some 18, .mov (.tmp 1), none⟩,
⟨some 19, .bin .gtr (.tmp 17) (.tmp 18), none⟩] [19] [])
(.cond (.tmp 19)
(.seq
(.region [
⟨some 4, .mov (.val (.pv (.int .i64 1))), none⟩] [4] [])
.ret)
.skip))
(.seq
(.region [
⟨some 4, .mov (.val (.pv (.int .i64 0))), none⟩] [4] [])
.ret)))))))),
[.tmp 4], false, false, false⟩
def F66 : AFunc := ⟨1,
(.seq
(.region [
⟨some 2, .mov (.val (.pv (.bool false))), none⟩] [0] [])
(.seq
(.region [
⟨some 3, .mov (.tmp 0), none⟩,
⟨some 4, .mov (.tmp 0), none⟩,
⟨some 5, .bin .neq (.tmp 3) (.tmp 4), none⟩,
⟨some 2, .mov (.tmp 5), none⟩] [2] [])
.ret)),
[.tmp 2], false, false, false⟩
def F76 : AFunc := ⟨1,
(.seq
(.region [
⟨some 2, .mov (.val (.pv (.int .i64 0))), none⟩] [0, 2] [])
(.seq
(.seq
(.region [
⟨some 3, .mov (.tmp 0), none⟩,
⟨some 4, .bin .geq (.tmp 3) (.val (.pv (.int .u64 4294967296))), none⟩] [0, 2, 4] [])
(.cond (.tmp 4)
(.seq
(.region [
⟨some 5, .mov (.tmp 0), none⟩,
⟨some 6, .bin .shr (.tmp 5) (.val (.pv (.int .u64 32))), none⟩,
⟨some 0, .mov (.tmp 6), none⟩] [0] [])
(.region [
⟨some 2, .mov (.val (.pv (.int .i64 32))), none⟩] [0, 2] []))
.skip))
(.seq
(.seq
(.region [
⟨some 7, .mov (.tmp 0), none⟩,
⟨some 8, .bin .geq (.tmp 7) (.val (.pv (.int .u64 65536))), none⟩] [0, 2, 8] [])
(.cond (.tmp 8)
(.seq
(.region [
⟨some 9, .mov (.tmp 0), none⟩,
⟨some 10, .bin .shr (.tmp 9) (.val (.pv (.int .u64 16))), none⟩,
⟨some 0, .mov (.tmp 10), none⟩] [0, 2] [])
(.region [
⟨some 11, .mov (.tmp 2), none⟩,
⟨some 12, .bin .add (.tmp 11) (.val (.pv (.int .i64 16))), none⟩,
⟨some 2, .mov (.tmp 12), none⟩] [0, 2] []))
.skip))
(.seq
(.seq
(.region [
⟨some 13, .mov (.tmp 0), none⟩,
⟨some 14, .bin .geq (.tmp 13) (.val (.pv (.int .u64 256))), none⟩] [0, 2, 14] [])
(.cond (.tmp 14)
(.seq
(.region [
⟨some 15, .mov (.tmp 0), none⟩,
⟨some 16, .bin .shr (.tmp 15) (.val (.pv (.int .u64 8))), none⟩,
⟨some 0, .mov (.tmp 16), none⟩] [0, 2] [])
(.region [
⟨some 17, .mov (.tmp 2), none⟩,
⟨some 18, .bin .add (.tmp 17) (.val (.pv (.int .i64 8))), none⟩,
⟨some 2, .mov (.tmp 18), none⟩] [0, 2] []))
.skip))
(.seq
(.region [
⟨some 19, .mov (.tmp 2), none⟩,
⟨some 20, .mov (.tmp 0), none⟩,
⟨some 21, .conv .u8 (.tmp 20), none⟩,
⟨some 22, .ixs (.val (.pv (.str ⟨#[0, 1, 2, 2, 3, 3, 3, 3, 4, 4, 4, 4, 4, 4, 4, 4, 5, 5, 5, 5, 5, 5, 5, 5, 5, 5, 5, 5, 5, 5, 5, 5, 6, 6, 6, 6, 6, 6, 6, 6, 6, 6, 6, 6, 6, 6, 6, 6, 6, 6, 6, 6, 6, 6, 6, 6, 6, 6, 6, 6, 6, 6, 6, 6, 7, 7, 7, 7, 7, 7, 7, 7, 7, 7, 7, 7, 7, 7, 7, 7, 7, 7, 7, 7, 7, 7, 7, 7, 7, 7, 7, 7, 7, 7, 7, 7, 7, 7, 7, 7, 7, 7, 7, 7, 7, 7, 7, 7, 7, 7, 7, 7, 7, 7, 7, 7, 7, 7, 7, 7, 7, 7, 7, 7, 7, 7, 7, 7, 8, 8, 8, 8, 8, 8, 8, 8, 8, 8, 8, 8, 8, 8, 8, 8, 8, 8, 8, 8, 8, 8, 8, 8, 8, 8, 8, 8, 8, 8, 8, 8, 8, 8, 8, 8, 8, 8, 8, 8, 8, 8, 8, 8, 8, 8, 8, 8, 8, 8, 8, 8, 8, 8, 8, 8, 8, 8, 8, 8, 8, 8, 8, 8, 8, 8, 8, 8, 8, 8, 8, 8, 8, 8, 8, 8, 8, 8, 8, 8, 8, 8, 8, 8, 8, 8, 8, 8, 8, 8, 8, 8, 8, 8, 8, 8, 8, 8, 8, 8, 8, 8, 8, 8, 8, 8, 8, 8, 8, 8, 8, 8, 8, 8, 8, 8, 8, 8, 8, 8, 8, 8, 8, 8, 8, 8, 8, 8]⟩))) (.tmp 21), none⟩,
⟨some 23, .conv .i64 (.tmp 22), none⟩,
⟨some 24, .bin .add (.tmp 19) (.tmp 23), none⟩,
⟨some 2, .mov (.tmp 24), none⟩] [2] [])
.ret))))),
[.tmp 2], false, false, false⟩
def F77 : AFunc := ⟨2,
(.seq
(.region [
⟨some 4, .mov (.val (.pv (.int .i64 0))), none⟩] [0, 1] [])
(.seq
(.seq
(.region [
⟨some 6, .mov (.tmp 0), none⟩,
⟨some 7, .len 0 (.tmp 6), none⟩,
⟨some 8, .mov (.val (.pv (.int .i64 0))), none⟩] [0, 1, 7, 8] [])
(.block 0
(.loop
(.mask [0, 1, 7, 8] []
(.seq
(.region [
⟨some 9, .bin .lss (.tmp 8) (.tmp 7), none⟩] [0, 1, 7, 8, 9] [])
(.seq
(.cond (.tmp 9)
.skip
(.exit 0))
(.seq
(.block 1
(.seq
(.region [
⟨some 10, .mov (.tmp 8), none⟩,
⟨some 5, .mov (.tmp 10), none⟩] [0, 1, 5, 7, 8] [])
(.seq
(.region [
⟨some 11, .mov (.tmp 1), none⟩,
⟨some 12, .mov (.tmp 0), none⟩,
⟨some 13, .mov (.tmp 5), none⟩,
⟨some 14, .idx 4 (.tmp 12) (.tmp 13), none⟩,
⟨some 15, .load 4 true (.tmp 14), none⟩,
⟨some 16, .call (.tmp 11) [(.tmp 15)], none⟩] [0, 1, 5, 7, 8, 16] [])
(.cond (.tmp 16)
(.seq
(.region [
⟨some 17, .mov (.tmp 5), none⟩,
⟨some 4, .mov (.tmp 17), none⟩] [4] [])
.ret)
.skip))))
(.region [
⟨some 18, .bin .add (.tmp 8) (.val (.pv (.int .i64 1))), none⟩,
⟨some 8, .mov (.tmp 18), none⟩] [0, 1, 7, 8] []))))))))
(.seq
(.region [
⟨some 4, .mov (.val (.pv (.int .i64 (-1)))), none⟩] [4] [])
.ret))),
[.tmp 4], false, false, false⟩
def F108 : AFunc := ⟨2,
(.seq
(.region [
⟨some 4, .mov (.val (.pv (.bool false))), none⟩] [0, 1] [])
(.seq
(.region [
⟨some 5, .mov (.tmp 0), none⟩,
⟨some 6, .mov (.tmp 1), none⟩,
⟨some 7, .call (.val (.func 117 [])) [(.tmp 5), (.tmp 6)], none⟩,
⟨some 8, .bin .geq (.tmp 7) (.val (.pv (.int .i64 0))), none⟩,
⟨some 4, .mov (.tmp 8), none⟩] [4] [])
.ret)),
[.tmp 4], false, false, false⟩
def F117 : AFunc := ⟨2,
(.seq
(.region [
⟨some 4, .mov (.val (.pv (.int .i64 0))), none⟩] [0, 1] [])
(.seq
(.seq
(.region [
⟨some 6, .mov (.tmp 0), none⟩,
⟨some 7, .len 0 (.tmp 6), none⟩,
⟨some 8, .mov (.val (.pv (.int .i64 0))), none⟩] [0, 1, 7, 8] [])
(.block 0
(.loop
(.mask [0, 1, 7, 8] []
(.seq
(.region [
⟨some 9, .bin .lss (.tmp 8) (.tmp 7), none⟩] [0, 1, 7, 8, 9] [])
(.seq
(.cond (.tmp 9)
.skip
(.exit 0))
(.seq
(.block 1
(.seq
(.region [
⟨some 10, .mov (.tmp 8), none⟩,
⟨some 5, .mov (.tmp 10), none⟩] [0, 1, 5, 7, 8] [])
(.seq
(.region [
⟨some 11, .mov (.tmp 1), none⟩,
⟨some 12, .mov (.tmp 0), none⟩,
⟨some 13, .mov (.tmp 5), none⟩,
⟨some 14, .idx 1 (.tmp 12) (.tmp 13), none⟩,
⟨some 15, .load 1 false (.tmp 14), none⟩,
⟨some 16, .call (.tmp 11) [(.tmp 15)], none⟩] [0, 1, 5, 7, 8, 16] [])
(.cond (.tmp 16)
(.seq
(.region [
⟨some 17, .mov (.tmp 5), none⟩,
⟨some 4, .mov (.tmp 17), none⟩] [4] [])
.ret)
.skip))))
(.region [
⟨some 18, .bin .add (.tmp 8) (.val (.pv (.int .i64 1))), none⟩,
⟨some 8, .mov (.tmp 18), none⟩] [0, 1, 7, 8] []))))))))
(.seq
(.region [
⟨some 4, .mov (.val (.pv (.int .i64 (-1)))), none⟩] [4] [])
.ret))),
[.tmp 4], false, false, false⟩
def F147 : AFunc := ⟨2,
(.seq
(.region [
⟨some 4, .mov (.val (.pv (.bool false))), none⟩] [0, 1] [])
(.seq
(.seq
(.region [
⟨some 9, .call (.val (.func 150 [])) [], none⟩,
⟨some 10, .un .not (.tmp 9), none⟩] [0, 1, 10] [])
(.cond (.tmp 10)
(.seq
(.region [
⟨some 4, .mov (.val (.pv (.bool false))), none⟩] [4] [])
.ret)
.skip))
(.seq
(.region [
⟨some 11, .mov (.tmp 0), none⟩,
⟨some 12, .bin .rem (.tmp 11) (.val (.pv (.int .u8 12))), none⟩,
⟨some 13, .conv .i64 (.tmp 12), none⟩,
⟨some 14, .bin .add (.val (.pv (.int .i64 1))) (.tmp 13), none⟩,
⟨some 15, .call (.val (.func 170 [])) [(.tmp 14)], none⟩,
⟨some 16, .mov (.tmp 1), none⟩,
⟨some 17, .bin .rem (.tmp 16) (.val (.pv (.int .u8 12))), none⟩,
⟨some 18, .conv .i64 (.tmp 17), none⟩,
⟨some 19, .bin .add (.val (.pv (.int .i64 1))) (.tmp 18), none⟩,
⟨some 20, .call (.val (.func 170 [])) [(.tmp 19)], none⟩,
⟨some 21, .build [.pv (.int .i64 0), .pv (.int .i64 0), .tl [], .pv (.int .i64 0), .pv (.int .i64 0), .tl [], .pv (.int .i64 0)] [(0, 3, (.tmp 15)), (3, 3, (.tmp 20)), (6, 1, (.val (.pv (.int .i64 3))))], none⟩,
⟨some 5, .alloc 5 [.pv (.int .i64 0), .pv (.int .i64 0), .tl [], .pv (.int .i64 0), .pv (.int .i64 0), .tl [], .pv (.int .i64 0)], none⟩,
⟨none, .store 7 (.tmp 5) (.tmp 21), none⟩] [5] [5])
(.seq
(.region [
⟨some 23, .load 7 true (.tmp 5), none⟩,
⟨some 24, .call (.val (.func 165 [])) [(.tmp 23)], none⟩,
⟨some 22, .mov (.tmp 24), none⟩,
⟨some 25, .ext (.tmp 22) 0, none⟩,
⟨some 26, .ext (.tmp 22) 1, none⟩,
⟨some 6, .mov (.tmp 25), none⟩,
⟨some 7, .mov (.tmp 26), none⟩] [5, 6, 7] [5])
(.seq
(.region [
⟨some 27, .fld 0 (.tmp 5), none⟩,
⟨some 28, .fld 0 (.tmp 27), none⟩,
⟨some 29, .load 1 false (.tmp 28), none⟩,
⟨some 30, .fld 3 (.tmp 5), none⟩,
⟨some 31, .fld 0 (.tmp 30), none⟩,
⟨some 32, .load 1 false (.tmp 31), none⟩,
⟨some 33, .bin .mul (.tmp 29) (.tmp 32), none⟩,
⟨some 34, .bin .mul (.tmp 33) (.val (.pv (.int .i64 225))), none⟩,
⟨some 8, .mov (.tmp 34), none⟩] [6, 7, 8] [])
(.seq
(.seq
(.region [
⟨some 35, .mov (.tmp 8), none⟩,
⟨some 36, .bin .gtr (.tmp 35) (.val (.pv (.int .i64 5000))), none⟩] [6, 7, 8, 36] [])
(.cond (.tmp 36)
(.seq
(.region [
⟨some 37, .mov (.tmp 7), none⟩,
⟨some 38, .bin .eql (.tmp 37) (.val (.pv (.int .i64 3))), none⟩,
⟨some 39, .mov (.tmp 38), none⟩,
⟨some 40, .mov (.tmp 6), some (39, true)⟩,
⟨some 41, .len 0 (.tmp 40), some (39, true)⟩,
⟨some 42, .bin .eql (.tmp 41) (.val (.pv (.int .i64 0))), some (39, true)⟩,
⟨some 43, .pick (.tmp 39) (.tmp 42) (.val (.pv (.bool false))), none⟩,
⟨some 4, .mov (.tmp 43), none⟩] [4] [])
.ret)
.skip))
(.seq
(.region [
⟨some 44, .mov (.tmp 7), none⟩,
⟨some 45, .bin .eql (.tmp 44) (.val (.pv (.int .i64 0))), none⟩,
⟨some 46, .mov (.tmp 45), none⟩,
⟨some 47, .mov (.tmp 6), some (46, true)⟩,
⟨some 48, .len 0 (.tmp 47), some (46, true)⟩,
⟨some 49, .mov (.tmp 8), some (46, true)⟩,
⟨some 50, .bin .eql (.tmp 48) (.tmp 49), some (46, true)⟩,
⟨some 51, .pick (.tmp 46) (.tmp 50) (.val (.pv (.bool false))), none⟩,
⟨some 4, .mov (.tmp 51), none⟩] [4] [])
.ret))))))),
[.tmp 4], false, false, false⟩
def F150 : AFunc := ⟨0,
(.seq
(.region [
⟨some 0, .mov (.val (.pv (.bool false))), none⟩] [] [])
(.seq
(.region [
⟨some 7, .build [.pv (.int .i64 0), .pv (.int .i64 0), .tl [], .pv (.int .i64 0), .pv (.int .i64 0), .tl [], .pv (.int .i64 0)] [(6, 1, (.val (.pv (.int .i64 1))))], none⟩,
⟨some 1, .alloc 1 [.pv (.int .i64 0), .pv (.int .i64 0), .tl [], .pv (.int .i64 0), .pv (.int .i64 0), .tl [], .pv (.int .i64 0)], none⟩,
⟨none, .store 7 (.tmp 1) (.tmp 7), none⟩] [1] [1])
(.seq
(.region [
⟨some 8, .build [.pv (.int .i64 0), .pv (.bool false), .pv (.int .i64 0), .pv (.int .i64 0)] [(0, 1, (.val (.pv (.int .i64 0)))), (1, 1, (.val (.pv (.bool true)))), (2, 1, (.val (.pv (.int .i64 1)))), (3, 1, (.val (.pv (.int .i64 1))))], none⟩,
⟨some 9, .lit 4 [.pv (.int .i64 0), .pv (.bool false), .pv (.int .i64 0), .pv (.int .i64 0)] 1 [(0, 4, (.tmp 8))], none⟩,
⟨some 10, .build [.pv (.int .i64 0), .pv (.int .i64 0), .tl []] [(0, 1, (.val (.pv (.int .i64 2)))), (2, 1, (.tmp 9))], none⟩,
⟨some 11, .fld 0 (.tmp 1), none⟩,
⟨none, .store 3 (.tmp 11) (.tmp 10), none⟩] [1] [1])
(.seq
(.region [
⟨some 12, .build [.pv (.int .i64 0), .pv (.bool false), .pv (.int .i64 0), .pv (.int .i64 0)] [(0, 1, (.val (.pv (.int .i64 0)))), (2, 1, (.val (.pv (.int .i64 1)))), (3, 1, (.val (.pv (.int .i64 1))))], none⟩,
⟨some 13, .lit 4 [.pv (.int .i64 0), .pv (.bool false), .pv (.int .i64 0), .pv (.int .i64 0)] 1 [(0, 4, (.tmp 12))], none⟩,
⟨some 14, .build [.pv (.int .i64 0), .pv (.int .i64 0), .tl []] [(0, 1, (.val (.pv (.int .i64 2)))), (2, 1, (.tmp 13))], none⟩,
⟨some 15, .fld 3 (.tmp 1), none⟩,
⟨none, .store 3 (.tmp 15) (.tmp 14), none⟩] [1] [1])
(.seq
(.region [
⟨some 17, .load 7 true (.tmp 1), none⟩,
⟨some 18, .call (.val (.func 165 [])) [(.tmp 17)], none⟩,
⟨some 16, .mov (.tmp 18), none⟩,
⟨some 19, .ext (.tmp 16) 0, none⟩,
⟨some 20, .ext (.tmp 16) 1, none⟩,
⟨some 2, .mov (.tmp 19), none⟩,
⟨some 3, .mov (.tmp 20), none⟩] [1, 2, 3] [1])
(.seq
(.region [
⟨some 22, .load 7 true (.tmp 1), none⟩,
⟨some 23, .build [.pv (.int .i64 0), .pv (.bool false), .pv (.int .i64 0)] [(1, 1, (.val (.pv (.bool true)))), (2, 1, (.val (.pv (.int .i64 1))))], none⟩,
⟨some 24, .build [.pv (.int .i64 0), .pv (.bool false), .pv (.int .i64 0)] [(0, 1, (.val (.pv (.int .i64 1)))), (2, 1, (.val (.pv (.int .i64 1))))], none⟩,
⟨some 25, .lit 3 [.pv (.int .i64 0), .pv (.bool false), .pv (.int .i64 0)] 2 [(0, 3, (.tmp 23)), (3, 3, (.tmp 24))], none⟩,
⟨some 26, .call (.val (.func 161 [])) [(.tmp 22), (.tmp 25)], none⟩,
⟨some 21, .mov (.tmp 26), none⟩,
⟨some 27, .ext (.tmp 21) 0, none⟩,
⟨some 28, .ext (.tmp 21) 1, none⟩,
⟨some 29, .ext (.tmp 21) 2, none⟩,
⟨some 4, .alloc 4 [.pv (.int .i64 0), .pv (.int .i64 0), .tl [], .tl []], none⟩,
⟨none, .store 4 (.tmp 4) (.tmp 27), none⟩,
⟨some 5, .mov (.tmp 28), none⟩,
⟨some 6, .mov (.tmp 29), none⟩] [1, 2, 3, 4, 5, 6] [1, 4])
(.seq
(.region [
⟨some 30, .mov (.tmp 3), none⟩,
⟨some 31, .bin .eql (.tmp 30) (.val (.pv (.int .i64 0))), none⟩,
⟨some 32, .mov (.tmp 31), none⟩,
⟨some 33, .mov (.tmp 6), some (32, true)⟩,
⟨some 34, .bin .eql (.tmp 33) (.val (.pv (.int .i64 0))), some (32, true)⟩,
⟨some 35, .pick (.tmp 32) (.tmp 34) (.val (.pv (.bool false))), none⟩,
⟨some 36, .mov (.tmp 35), none⟩,
⟨some 37, .mov (.tmp 5), some (36, true)⟩,
⟨some 38, .bin .eql (.tmp 37) (.val (.pv (.int .i64 2))), some (36, true)⟩,
⟨some 39, .pick (.tmp 36) (.tmp 38) (.val (.pv (.bool false))), none⟩,
⟨some 40, .mov (.tmp 39), none⟩,
⟨some 41, .mov (.tmp 2), some (40, true)⟩,
⟨some 42, .build [.pv (.int .i64 0), .pv (.int .i64 0), .tl [], .tl []] [], some (40, true)⟩,
⟨some 43, .lit 1 [.pv (.int .i64 0)] 1 [(0, 1, (.val (.pv (.int .i64 1))))], some (40, true)⟩,
⟨some 44, .build [.pv (.int .i64 0), .pv (.int .i64 0), .tl [], .tl []] [(0, 1, (.val (.pv (.int .i64 1)))), (3, 1, (.tmp 43))], some (40, true)⟩,
⟨some 45, .build [.pv (.int .i64 0), .pv (.int .i64 0), .tl [], .tl []] [(0, 1, (.val (.pv (.int .i64 1)))), (1, 1, (.val (.pv (.int .i64 1))))], some (40, true)⟩,
⟨some 46, .lit 4 [.pv (.int .i64 0), .pv (.int .i64 0), .tl [], .tl []] 3 [(0, 4, (.tmp 42)), (4, 4, (.tmp 44)), (8, 4, (.tmp 45))], some (40, true)⟩,
⟨some 47, .call (.val (.func 166 [])) [(.tmp 41), (.tmp 46)], some (40, true)⟩,
⟨some 48, .pick (.tmp 40) (.tmp 47) (.val (.pv (.bool false))), none⟩,
⟨some 49, .mov (.tmp 48), none⟩,
⟨some 50, .load 4 true (.tmp 4), some (49, true)⟩,
⟨some 51, .build [.pv (.int .i64 0), .pv (.int .i64 0), .tl [], .tl []] [(0, 1, (.val (.pv (.int .i64 1)))), (1, 1, (.val (.pv (.int .i64 1))))], some (49, true)⟩,
⟨some 52, .call (.val (.func 154 [])) [(.tmp 50), (.tmp 51)], some (49, true)⟩,
⟨some 53, .pick (.tmp 49) (.tmp 52) (.val (.pv (.bool false))), none⟩,
⟨some 54, .mov (.tmp 53), none⟩,
⟨some 55, .load 7 true (.tmp 1), some (54, true)⟩,
⟨some 56, .load 4 true (.tmp 4), some (54, true)⟩,
⟨some 57, .call (.val (.func 159 [])) [(.tmp 55), (.tmp 56)], some (54, true)⟩,
⟨some 58, .pick (.tmp 54) (.tmp 57) (.val (.pv (.bool false))), none⟩,
⟨some 59, .mov (.tmp 58), none⟩,
⟨some 60, .load 7 true (.tmp 1), some (59, true)⟩,
⟨some 61, .lit 1 [.pv (.int .i64 0)] 1 [(0, 1, (.val (.pv (.int .i64 1))))], some (59, true)⟩,
⟨some 62, .build [.pv (.int .i64 0), .pv (.int .i64 0), .tl [], .tl []] [(0, 1, (.val (.pv (.int .i64 1)))), (3, 1, (.tmp 61))], some (59, true)⟩,
⟨some 63, .call (.val (.func 159 [])) [(.tmp 60), (.tmp 62)], some (59, true)⟩,
⟨some 64, .un .not (.tmp 63), some (59, true)⟩,
⟨some 65, .pick (.tmp 59) (.tmp 64) (.val (.pv (.bool false))), none⟩,
⟨some 0, .mov (.tmp 65), none⟩] [0] [])
.ret))))))),
[.tmp 0], false, false, false⟩
def F152 : AFunc := ⟨1,
(.seq
(.region [
⟨some 1, .box 1 7 (.tmp 0), none⟩,
⟨some 2, .mov (.val (.pv (.int .i64 0))), none⟩] [1] [1])
(.seq
(.seq
(.region [
⟨some 5, .fld 0 (.tmp 1), none⟩,
⟨some 6, .load 3 true (.tmp 5), none⟩,
⟨some 7, .call (.val (.func 29 [])) [(.tmp 6)], none⟩,
⟨some 3, .mov (.tmp 7), none⟩] [1, 3] [1])
(.seq
(.region [
⟨some 8, .mov (.tmp 3), none⟩,
⟨some 9, .bin .neq (.tmp 8) (.val (.pv (.int .i64 0))), none⟩] [1, 3, 9] [1])
(.cond (.tmp 9)
(.seq
(.region [
⟨some 10, .mov (.tmp 3), none⟩,
⟨some 2, .mov (.tmp 10), none⟩] [2] [])
.ret)
.skip)))
(.seq
(.seq
(.region [
⟨some 11, .fld 3 (.tmp 1), none⟩,
⟨some 12, .load 3 true (.tmp 11), none⟩,
⟨some 13, .call (.val (.func 29 [])) [(.tmp 12)], none⟩,
⟨some 4, .mov (.tmp 13), none⟩] [1, 4] [1])
(.seq
(.region [
⟨some 14, .mov (.tmp 4), none⟩,
⟨some 15, .bin .neq (.tmp 14) (.val (.pv (.int .i64 0))), none⟩] [1, 4, 15] [1])
(.cond (.tmp 15)
(.seq
(.region [
⟨some 16, .mov (.tmp 4), none⟩,
⟨some 2, .mov (.tmp 16), none⟩] [2] [])
.ret)
.skip)))
(.seq
(.seq
(.region [
⟨some 17, .fld 6 (.tmp 1), none⟩,
⟨some 18, .load 1 false (.tmp 17), none⟩,
⟨some 19, .bin .lss (.tmp 18) (.val (.pv (.int .i64 1))), none⟩,
⟨some 20, .mov (.tmp 19), none⟩,
⟨some 21, .fld 6 (.tmp 1), some (20, false)⟩,
⟨some 22, .load 1 false (.tmp 21), some (20, false)⟩,
⟨some 23, .bin .gtr (.tmp 22) (.val (.pv (.int .i64 3))), some (20, false)⟩,
⟨some 24, .pick (.tmp 20) (.val (.pv (.bool true))) (.tmp 23), none⟩] [24] [])
(.cond (.tmp 24)
(.seq
(.region [
⟨some 2, .mov (.val (.pv (.int .i64 7))), none⟩] [2] [])
.ret)
.skip))
(.seq
(.region [
⟨some 2, .mov (.val (.pv (.int .i64 0))), none⟩] [2] [])
.ret))))),
[.tmp 2], false, false, false⟩
def F154 : AFunc := ⟨2,
(.seq
(.region [
⟨some 2, .box 2 4 (.tmp 0), none⟩,
⟨some 3, .box 3 4 (.tmp 1), none⟩,
⟨some 4, .mov (.val (.pv (.bool false))), none⟩] [2, 3] [2, 3])
(.seq
(.region [
⟨some 5, .fld 0 (.tmp 2), none⟩,
⟨some 6, .load 1 false (.tmp 5), none⟩,
⟨some 7, .fld 0 (.tmp 3), none⟩,
⟨some 8, .load 1 false (.tmp 7), none⟩,
⟨some 9, .bin .eql (.tmp 6) (.tmp 8), none⟩,
⟨some 10, .mov (.tmp 9), none⟩,
⟨some 11, .fld 1 (.tmp 2), some (10, true)⟩,
⟨some 12, .load 1 false (.tmp 11), some (10, true)⟩,
⟨some 13, .fld 1 (.tmp 3), some (10, true)⟩,
⟨some 14, .load 1 false (.tmp 13), some (10, true)⟩,
⟨some 15, .bin .eql (.tmp 12) (.tmp 14), some (10, true)⟩,
⟨some 16, .pick (.tmp 10) (.tmp 15) (.val (.pv (.bool false))), none⟩,
⟨some 17, .mov (.tmp 16), none⟩,
⟨some 18, .fld 2 (.tmp 2), some (17, true)⟩,
⟨some 19, .load 1 false (.tmp 18), some (17, true)⟩,
⟨some 20, .fld 2 (.tmp 3), some (17, true)⟩,
⟨some 21, .load 1 false (.tmp 20), some (17, true)⟩,
⟨some 22, .call (.val (.func 176 [])) [(.tmp 19), (.tmp 21)], some (17, true)⟩,
⟨some 23, .pick (.tmp 17) (.tmp 22) (.val (.pv (.bool false))), none⟩,
⟨some 24, .mov (.tmp 23), none⟩,
⟨some 25, .fld 3 (.tmp 2), some (24, true)⟩,
⟨some 26, .load 1 false (.tmp 25), some (24, true)⟩,
⟨some 27, .fld 3 (.tmp 3), some (24, true)⟩,
⟨some 28, .load 1 false (.tmp 27), some (24, true)⟩,
⟨some 29, .call (.val (.func 176 [])) [(.tmp 26), (.tmp 28)], some (24, true)⟩,
⟨some 30, .pick (.tmp 24) (.tmp 29) (.val (.pv (.bool false))), none⟩,
⟨some 4, .mov (.tmp 30), none⟩] [4] [])
.ret)),
[.tmp 4], false, false, false⟩
def F155 : AFunc := ⟨1,
(.seq
(.region [
⟨some 1, .box 1 7 (.tmp 0), none⟩,
⟨some 2, .alloc 2 [.pv (.int .i64 0), .pv (.int .i64 0), .tl [], .tl []], none⟩] [1, 2] [1, 2])
(.seq
(.region [
⟨some 3, .fld 0 (.tmp 1), none⟩,
⟨some 4, .fld 1 (.tmp 3), none⟩,
⟨some 5, .load 1 false (.tmp 4), none⟩,
⟨some 6, .fld 3 (.tmp 1), none⟩,
⟨some 7, .fld 1 (.tmp 6), none⟩,
⟨some 8, .load 1 false (.tmp 7), none⟩,
⟨some 9, .build [.pv (.int .i64 0), .pv (.int .i64 0), .tl [], .tl []] [(0, 1, (.tmp 5)), (1, 1, (.tmp 8))], none⟩,
⟨none, .store 4 (.tmp 2) (.tmp 9), none⟩] [2] [2])
.ret)),
[.cell 2 4 true], false, false, false⟩
def F157 : AFunc := ⟨2,
(.seq
(.region [
⟨some 2, .box 2 7 (.tmp 0), none⟩,
⟨some 3, .box 3 4 (.tmp 1), none⟩,
⟨some 4, .mov (.val (.pv (.bool false))), none⟩] [2, 3] [2, 3])
(.seq
(.region [
⟨some 6, .fld 0 (.tmp 3), none⟩,
⟨some 7, .load 1 false (.tmp 6), none⟩,
⟨some 8, .fld 1 (.tmp 3), none⟩,
⟨some 9, .load 1 false (.tmp 8), none⟩,
⟨some 10, .minmax false [(.tmp 7), (.tmp 9)], none⟩,
⟨some 11, .bin .geq (.tmp 10) (.val (.pv (.int .i64 0))), none⟩,
⟨some 12, .mov (.tmp 11), none⟩,
⟨some 13, .fld 0 (.tmp 3), some (12, true)⟩,
⟨some 14, .load 1 false (.tmp 13), some (12, true)⟩,
⟨some 15, .fld 0 (.tmp 2), some (12, true)⟩,
⟨some 16, .fld 0 (.tmp 15), some (12, true)⟩,
⟨some 17, .load 1 false (.tmp 16), some (12, true)⟩,
⟨some 18, .bin .lss (.tmp 14) (.tmp 17), some (12, true)⟩,
⟨some 19, .pick (.tmp 12) (.tmp 18) (.val (.pv (.bool false))), none⟩,
⟨some 20, .mov (.tmp 19), none⟩,
⟨some 21, .fld 1 (.tmp 3), some (20, true)⟩,
⟨some 22, .load 1 false (.tmp 21), some (20, true)⟩,
⟨some 23, .fld 3 (.tmp 2), some (20, true)⟩,
⟨some 24, .fld 0 (.tmp 23), some (20, true)⟩,
⟨some 25, .load 1 false (.tmp 24), some (20, true)⟩,
⟨some 26, .bin .lss (.tmp 22) (.tmp 25), some (20, true)⟩,
⟨some 27, .pick (.tmp 20) (.tmp 26) (.val (.pv (.bool false))), none⟩,
⟨some 5, .mov (.tmp 27), none⟩] [2, 3, 5] [2, 3])
(.seq
(.region [
⟨some 28, .load 7 true (.tmp 2), none⟩,
⟨some 29, .call (.val (.func 152 [])) [(.tmp 28)], none⟩,
⟨some 30, .bin .eql (.tmp 29) (.val (.pv (.int .i64 0))), none⟩,
⟨some 31, .mov (.tmp 30), none⟩,
⟨some 32, .mov (.tmp 5), some (31, true)⟩,
⟨some 33, .pick (.tmp 31) (.tmp 32) (.val (.pv (.bool false))), none⟩,
⟨some 34, .mov (.tmp 33), none⟩,
⟨some 35, .fld 2 (.tmp 3), some (34, true)⟩,
⟨some 36, .load 1 false (.tmp 35), some (34, true)⟩,
⟨some 37, .fld 6 (.tmp 2), some (34, true)⟩,
⟨some 38, .load 1 false (.tmp 37), some (34, true)⟩,
⟨some 39, .call (.val (.func 177 [])) [(.tmp 36), (.tmp 38)], some (34, true)⟩,
⟨some 40, .pick (.tmp 34) (.tmp 39) (.val (.pv (.bool false))), none⟩,
⟨some 41, .mov (.tmp 40), none⟩,
⟨some 42, .fld 3 (.tmp 3), some (41, true)⟩,
⟨some 43, .load 1 false (.tmp 42), some (41, true)⟩,
⟨some 44, .fld 6 (.tmp 2), some (41, true)⟩,
⟨some 45, .load 1 false (.tmp 44), some (41, true)⟩,
⟨some 46, .call (.val (.func 177 [])) [(.tmp 43), (.tmp 45)], some (41, true)⟩,
⟨some 47, .pick (.tmp 41) (.tmp 46) (.val (.pv (.bool false))), none⟩,
⟨some 4, .mov (.tmp 47), none⟩] [4] [])
.ret))),
[.tmp 4], false, false, false⟩
def F159 : AFunc := ⟨2,
(.seq
(.region [
⟨some 2, .box 2 7 (.tmp 0), none⟩,
⟨some 3, .box 3 4 (.tmp 1), none⟩,
⟨some 4, .mov (.val (.pv (.bool false))), none⟩] [2, 3] [2, 3])
(.seq
(.seq
(.region [
⟨some 6, .load 7 true (.tmp 2), none⟩,
⟨some 7, .load 4 true (.tmp 3), none⟩,
⟨some 8, .call (.val (.func 157 [])) [(.tmp 6), (.tmp 7)], none⟩,
⟨some 9, .un .not (.tmp 8), none⟩,
⟨some 10, .mov (.tmp 9), none⟩,
⟨some 11, .fld 2 (.tmp 3), some (10, false)⟩,
⟨some 12, .load 1 false (.tmp 11), some (10, false)⟩,
⟨some 13, .len 0 (.tmp 12), some (10, false)⟩,
⟨some 14, .fld 3 (.tmp 3), some (10, false)⟩,
⟨some 15, .load 1 false (.tmp 14), some (10, false)⟩,
⟨some 16, .len 0 (.tmp 15), some (10, false)⟩,
⟨some 17, .bin .add (.tmp 13) (.tmp 16), some (10, false)⟩,
⟨some 18, .bin .gtr (.tmp 17) (.val (.pv (.int .i64 0))), some (10, false)⟩,
⟨some 19, .pick (.tmp 10) (.val (.pv (.bool true))) (.tmp 18), none⟩] [2, 3, 19] [2, 3])
(.cond (.tmp 19)
(.seq
(.region [
⟨some 4, .mov (.val (.pv (.bool false))), none⟩] [4] [])
.ret)
.skip))
(.seq
(.region [
⟨some 5, .mov (.val (.func 179 [])), none⟩] [2, 3, 5] [2, 3])
(.seq
(.region [
⟨some 20, .mov (.tmp 5), none⟩,
⟨some 21, .fld 0 (.tmp 2), none⟩,
⟨some 22, .load 3 true (.tmp 21), none⟩,
⟨some 23, .fld 0 (.tmp 3), none⟩,
⟨some 24, .load 1 false (.tmp 23), none⟩,
⟨some 25, .call (.tmp 20) [(.tmp 22), (.tmp 24)], none⟩,
⟨some 26, .un .not (.tmp 25), none⟩,
⟨some 27, .mov (.tmp 26), none⟩,
⟨some 28, .mov (.tmp 5), some (27, true)⟩,
⟨some 29, .fld 3 (.tmp 2), some (27, true)⟩,
⟨some 30, .load 3 true (.tmp 29), some (27, true)⟩,
⟨some 31, .fld 1 (.tmp 3), some (27, true)⟩,
⟨some 32, .load 1 false (.tmp 31), some (27, true)⟩,
⟨some 33, .call (.tmp 28) [(.tmp 30), (.tmp 32)], some (27, true)⟩,
⟨some 34, .un .not (.tmp 33), some (27, true)⟩,
⟨some 35, .pick (.tmp 27) (.tmp 34) (.val (.pv (.bool false))), none⟩,
⟨some 4, .mov (.tmp 35), none⟩] [4] [])
.ret)))),
[.tmp 4], false, false, false⟩
def F161 : AFunc := ⟨2,
(.seq
(.region [
⟨some 2, .box 2 7 (.tmp 0), none⟩,
⟨some 4, .alloc 4 [.pv (.int .i64 0), .pv (.int .i64 0), .tl [], .tl []], none⟩,
⟨some 5, .mov (.val (.pv (.int .i64 0))), none⟩,
⟨some 6, .mov (.val (.pv (.int .i64 0))), none⟩] [1, 2, 4] [2, 4])
(.seq
(.seq
(.region [
⟨some 13, .load 7 true (.tmp 2), none⟩,
⟨some 14, .call (.val (.func 152 [])) [(.tmp 13)], none⟩,
⟨some 7, .mov (.tmp 14), none⟩] [1, 2, 4, 7] [2, 4])
(.seq
(.region [
⟨some 15, .mov (.tmp 7), none⟩,
⟨some 16, .bin .neq (.tmp 15) (.val (.pv (.int .i64 0))), none⟩] [1, 2, 4, 7, 16] [2, 4])
(.cond (.tmp 16)
(.seq
(.region [
⟨some 17, .build [.pv (.int .i64 0), .pv (.int .i64 0), .tl [], .tl []] [], none⟩,
⟨some 18, .mov (.tmp 7), none⟩,
⟨none, .store 4 (.tmp 4) (.tmp 17), none⟩,
⟨some 5, .mov (.val (.pv (.int .i64 0))), none⟩,
⟨some 6, .mov (.tmp 18), none⟩] [4, 5, 6] [4])
.ret)
.skip)))
(.seq
(.region [
⟨some 19, .load 7 true (.tmp 2), none⟩,
⟨some 20, .call (.val (.func 155 [])) [(.tmp 19)], none⟩,
⟨some 8, .alloc 8 [.pv (.int .i64 0), .pv (.int .i64 0), .tl [], .tl []], none⟩,
⟨none, .store 4 (.tmp 8) (.tmp 20), none⟩] [1, 2, 4, 8] [2, 4, 8])
(.seq
(.seq
(.region [
⟨some 21, .mov (.tmp 1), none⟩,
⟨some 22, .len 0 (.tmp 21), none⟩,
⟨some 23, .mov (.val (.pv (.int .i64 0))), none⟩] [1, 2, 4, 8, 21, 22, 23] [2, 4, 8])
(.block 0
(.loop
(.mask [1, 2, 4, 8, 21, 22, 23] [2, 4, 8]
(.seq
(.region [
⟨some 24, .bin .lss (.tmp 23) (.tmp 22), none⟩] [1, 2, 4, 8, 21, 22, 23, 24] [2, 4, 8])
(.seq
(.cond (.tmp 24)
.skip
(.exit 0))
(.seq
(.block 1
(.seq
(.region [
⟨some 25, .mov (.tmp 23), none⟩,
⟨some 26, .idx 3 (.tmp 21) (.tmp 23), none⟩,
⟨some 27, .load 3 true (.tmp 26), none⟩,
⟨some 10, .alloc 10 [.pv (.int .i64 0), .pv (.bool false), .pv (.int .i64 0)], none⟩,
⟨some 9, .mov (.tmp 25), none⟩,
⟨none, .store 3 (.tmp 10) (.tmp 27), none⟩] [1, 2, 4, 8, 9, 10, 21, 22, 23] [2, 4, 8, 10])
(.seq
(.region [
⟨some 29, .load 7 true (.tmp 2), none⟩,
⟨some 30, .load 4 true (.tmp 8), none⟩,
⟨some 31, .load 3 true (.tmp 10), none⟩,
⟨some 32, .call (.val (.func 182 [])) [(.tmp 29), (.tmp 30), (.tmp 31)], none⟩,
⟨some 28, .mov (.tmp 32), none⟩,
⟨some 33, .ext (.tmp 28) 0, none⟩,
⟨some 34, .ext (.tmp 28) 1, none⟩,
⟨some 11, .alloc 11 [.pv (.int .i64 0), .pv (.int .i64 0), .tl [], .tl []], none⟩,
⟨none, .store 4 (.tmp 11) (.tmp 33), none⟩,
⟨some 12, .mov (.tmp 34), none⟩] [1, 2, 4, 8, 9, 11, 12, 21, 22, 23] [2, 4, 8, 11])
(.seq
(.seq
(.region [
⟨some 35, .mov (.tmp 12), none⟩,
⟨some 36, .un .not (.tmp 35), none⟩] [1, 2, 4, 8, 9, 11, 21, 22, 23, 36] [2, 4, 8, 11])
(.cond (.tmp 36)
(.seq
(.region [
⟨some 37, .load 4 true (.tmp 8), none⟩,
⟨some 38, .mov (.tmp 9), none⟩,
⟨none, .store 4 (.tmp 4) (.tmp 37), none⟩,
⟨some 5, .mov (.tmp 38), none⟩,
⟨some 6, .mov (.val (.pv (.int .i64 0))), none⟩] [4, 5, 6] [4])
.ret)
.skip))
(.region [
⟨some 39, .load 4 true (.tmp 11), none⟩,
⟨none, .store 4 (.tmp 8) (.tmp 39), none⟩] [1, 2, 4, 8, 21, 22, 23] [2, 4, 8])))))
(.region [
⟨some 40, .bin .add (.tmp 23) (.val (.pv (.int .i64 1))), none⟩,
⟨some 23, .mov (.tmp 40), none⟩] [1, 2, 4, 8, 21, 22, 23] [2, 4, 8]))))))))
(.seq
(.region [
⟨some 41, .load 4 true (.tmp 8), none⟩,
⟨some 42, .mov (.tmp 1), none⟩,
⟨some 43, .len 0 (.tmp 42), none⟩,
⟨none, .store 4 (.tmp 4) (.tmp 41), none⟩,
⟨some 5, .mov (.tmp 43), none⟩,
⟨some 6, .mov (.val (.pv (.int .i64 0))), none⟩] [4, 5, 6] [4])
.ret))))),
[.cell 4 4 true, .tmp 5, .tmp 6], false, false, false⟩
def F165 : AFunc := ⟨1,
(.seq
(.region [
⟨some 1, .box 1 7 (.tmp 0), none⟩,
⟨some 2, .mov (.val (.tl [])), none⟩,
⟨some 3, .mov (.val (.pv (.int .i64 0))), none⟩] [1] [1])
(.seq
(.seq
(.region [
⟨some 13, .load 7 true (.tmp 1), none⟩,
⟨some 14, .call (.val (.func 152 [])) [(.tmp 13)], none⟩,
⟨some 4, .mov (.tmp 14), none⟩] [1, 4] [1])
(.seq
(.region [
⟨some 15, .mov (.tmp 4), none⟩,
⟨some 16, .bin .neq (.tmp 15) (.val (.pv (.int .i64 0))), none⟩] [1, 4, 16] [1])
(.cond (.tmp 16)
(.seq
(.region [
⟨some 17, .mov (.tmp 4), none⟩,
⟨some 2, .mov (.val (.tl [])), none⟩,
⟨some 3, .mov (.tmp 17), none⟩] [2, 3] [])
.ret)
.skip)))
(.seq
(.region [
⟨some 18, .load 7 true (.tmp 1), none⟩,
⟨some 19, .call (.val (.func 155 [])) [(.tmp 18)], none⟩,
⟨some 20, .lit 4 [.pv (.int .i64 0), .pv (.int .i64 0), .tl [], .tl []] 1 [(0, 4, (.tmp 19))], none⟩,
⟨some 5, .mov (.tmp 20), none⟩] [1, 5] [1])
(.seq
(.region [
⟨some 21, .mkmap, none⟩,
⟨some 22, .mov (.tmp 5), none⟩,
⟨some 23, .idx 4 (.tmp 22) (.val (.pv (.int .i64 0))), none⟩,
⟨some 24, .load 4 true (.tmp 23), none⟩,
⟨some 25, .call (.val (.func 185 [])) [(.tmp 24)], none⟩,
⟨none, .upd false [2] (.tmp 21) (.tmp 25) (.val (.pv (.bool true))), none⟩,
⟨some 26, .mov (.tmp 21), none⟩,
⟨some 6, .mov (.tmp 26), none⟩] [1, 5, 6] [1])
(.seq
(.seq
(.region [
⟨some 7, .mov (.val (.pv (.int .i64 0))), none⟩] [1, 5, 6, 7] [1])
(.block 0
(.loop
(.mask [1, 5, 6, 7] [1]
(.seq
(.seq
(.region [
⟨some 27, .mov (.tmp 7), none⟩,
⟨some 28, .mov (.tmp 5), none⟩,
⟨some 29, .len 0 (.tmp 28), none⟩,
⟨some 30, .bin .lss (.tmp 27) (.tmp 29), none⟩] [1, 5, 6, 7, 30] [1])
(.cond (.tmp 30)
.skip
(.exit 0)))
(.seq
(.block 1
(.seq
(.draw [
(⟨some 33, .load 7 true (.tmp 1), none⟩, []),
(⟨some 34, .mov (.tmp 5), none⟩, []),
(⟨some 35, .mov (.tmp 7), none⟩, []),
(⟨some 36, .idx 4 (.tmp 34) (.tmp 35), none⟩, []),
(⟨some 37, .load 4 true (.tmp 36), none⟩, []),
(⟨some 38, .call (.val (.func 186 [])) [(.tmp 33), (.tmp 37)], none⟩, []),
(⟨some 39, .len 0 (.tmp 38), none⟩, []),
(⟨some 40, .mov (.val (.pv (.int .i64 0))), none⟩, [])] [1, 5, 6, 7, 38, 39, 40] [1])
(.block 2
(.loop
(.mask [1, 5, 6, 7, 38, 39, 40] [1]
(.seq
(.region [
⟨some 41, .bin .lss (.tmp 40) (.tmp 39), none⟩] [1, 5, 6, 7, 38, 39, 40, 41] [1])
(.seq
(.cond (.tmp 41)
.skip
(.exit 2))
(.seq
(.block 3
(.seq
(.region [
⟨some 42, .idx 3 (.tmp 38) (.tmp 40), none⟩,
⟨some 43, .load 3 true (.tmp 42), none⟩,
⟨some 9, .alloc 9 [.pv (.int .i64 0), .pv (.bool false), .pv (.int .i64 0)], none⟩,
⟨none, .store 3 (.tmp 9) (.tmp 43), none⟩] [1, 5, 6, 7, 9, 38, 39, 40] [1, 9])
(.seq
(.draw [
(⟨some 45, .load 7 true (.tmp 1), none⟩, []),
(⟨some 46, .mov (.tmp 5), none⟩, []),
(⟨some 47, .mov (.tmp 7), none⟩, []),
(⟨some 48, .idx 4 (.tmp 46) (.tmp 47), none⟩, []),
(⟨some 49, .load 4 true (.tmp 48), none⟩, []),
(⟨some 50, .load 3 true (.tmp 9), none⟩, []),
(⟨some 51, .call (.val (.func 182 [])) [(.tmp 45), (.tmp 49), (.tmp 50)], none⟩, []),
(⟨some 44, .mov (.tmp 51), none⟩, []),
(⟨some 52, .ext (.tmp 44) 0, none⟩, []),
(⟨some 53, .ext (.tmp 44) 1, none⟩, []),
(⟨some 10, .alloc 10 [.pv (.int .i64 0), .pv (.int .i64 0), .tl [], .tl []], none⟩, [0, 3, 4, 5, 6]),
(⟨none, .store 4 (.tmp 10) (.tmp 52), none⟩, []),
(⟨some 11, .mov (.tmp 53), none⟩, [])] [1, 5, 6, 7, 10, 38, 39, 40] [1, 10])
(.seq
(.seq
(.region [
⟨some 54, .load 4 true (.tmp 10), none⟩,
⟨some 55, .call (.val (.func 185 [])) [(.tmp 54)], none⟩,
⟨some 12, .mov (.tmp 55), none⟩] [1, 5, 6, 7, 10, 12, 38, 39, 40] [1, 10])
(.seq
(.region [
⟨some 56, .mov (.tmp 6), none⟩,
⟨some 57, .mov (.tmp 12), none⟩,
⟨some 58, .look false [2] (.pv (.bool false)) (.tmp 56) (.tmp 57) false, none⟩,
⟨some 59, .un .not (.tmp 58), none⟩] [1, 5, 6, 7, 10, 12, 38, 39, 40, 59] [1, 10])
(.cond (.tmp 59)
(.seq
(.region [
⟨some 60, .mov (.tmp 6), none⟩,
⟨some 61, .mov (.tmp 12), none⟩,
⟨none, .upd false [2] (.tmp 60) (.tmp 61) (.val (.pv (.bool true))), none⟩] [1, 5, 6, 7, 10, 38, 39, 40] [1, 10])
(.region [
⟨some 62, .mov (.tmp 5), none⟩,
⟨some 63, .load 4 true (.tmp 10), none⟩,
⟨some 64, .lit 4 [.pv (.int .i64 0), .pv (.int .i64 0), .tl [], .tl []] 1 [(0, 4, (.tmp 63))], none⟩,
⟨some 65, .app 4 (.tmp 62) (.tmp 64), none⟩,
⟨some 5, .mov (.tmp 65), none⟩] [1, 5, 6, 7, 38, 39, 40] [1]))
.skip)))
(.seq
(.region [
⟨some 66, .mov (.tmp 5), none⟩,
⟨some 67, .len 0 (.tmp 66), none⟩,
⟨some 68, .bin .gtr (.tmp 67) (.val (.pv (.int .i64 5000))), none⟩] [1, 5, 6, 7, 38, 39, 40, 68] [1])
(.cond (.tmp 68)
(.seq
(.region [
⟨some 2, .mov (.val (.tl [])), none⟩,
⟨some 3, .mov (.val (.pv (.int .i64 3))), none⟩] [2, 3] [])
.ret)
.skip))))))
(.region [
⟨some 69, .bin .add (.tmp 40) (.val (.pv (.int .i64 1))), none⟩,
⟨some 40, .mov (.tmp 69), none⟩] [1, 5, 6, 7, 38, 39, 40] [1])))))))))
(.region [
⟨some 31, .mov (.tmp 7), none⟩,
⟨some 32, .bin .add (.tmp 31) (.val (.pv (.int .i64 1))), none⟩,
⟨some 7, .mov (.tmp 32), none⟩] [1, 5, 6, 7] [1])))))))
(.seq
(.region [
⟨some 70, .mov (.tmp 5), none⟩,
⟨some 2, .mov (.tmp 70), none⟩,
⟨some 3, .mov (.val (.pv (.int .i64 0))), none⟩] [2, 3] [])
.ret)))))),
[.tmp 2, .tmp 3], false, false, false⟩
def F166 : AFunc := ⟨2,
(.seq
(.region [
⟨some 4, .mov (.val (.pv (.bool false))), none⟩] [0, 1] [])
(.seq
(.seq
(.region [
⟨some 6, .mov (.tmp 0), none⟩,
⟨some 7, .len 0 (.tmp 6), none⟩,
⟨some 8, .mov (.tmp 1), none⟩,
⟨some 9, .len 0 (.tmp 8), none⟩,
⟨some 10, .bin .neq (.tmp 7) (.tmp 9), none⟩] [0, 1, 10] [])
(.cond (.tmp 10)
(.seq
(.region [
⟨some 4, .mov (.val (.pv (.bool false))), none⟩] [4] [])
.ret)
.skip))
(.seq
(.seq
(.region [
⟨some 5, .mov (.val (.pv (.int .i64 0))), none⟩] [0, 1, 5] [])
(.block 0
(.loop
(.mask [0, 1, 5] []
(.seq
(.seq
(.region [
⟨some 11, .mov (.tmp 5), none⟩,
⟨some 12, .mov (.tmp 0), none⟩,
⟨some 13, .len 0 (.tmp 12), none⟩,
⟨some 14, .bin .lss (.tmp 11) (.tmp 13), none⟩] [0, 1, 5, 14] [])
(.cond (.tmp 14)
.skip
(.exit 0)))
(.seq
(.block 1
(.seq
(.draw [
(⟨some 17, .mov (.tmp 0), none⟩, []),
(⟨some 18, .mov (.tmp 5), none⟩, []),
(⟨some 19, .idx 4 (.tmp 17) (.tmp 18), none⟩, []),
(⟨some 20, .load 4 true (.tmp 19), none⟩, []),
(⟨some 21, .mov (.tmp 1), none⟩, []),
(⟨some 22, .mov (.tmp 5), none⟩, []),
(⟨some 23, .idx 4 (.tmp 21) (.tmp 22), none⟩, []),
(⟨some 24, .load 4 true (.tmp 23), none⟩, []),
(⟨some 25, .call (.val (.func 154 [])) [(.tmp 20), (.tmp 24)], none⟩, []),
(⟨some 26, .un .not (.tmp 25), none⟩, [])] [0, 1, 5, 26] [])
(.cond (.tmp 26)
(.seq
(.region [
⟨some 4, .mov (.val (.pv (.bool false))), none⟩] [4] [])
.ret)
.skip)))
(.region [
⟨some 15, .mov (.tmp 5), none⟩,
⟨some 16, .bin .add (.tmp 15) (.val (.pv (.int .i64 1))), none⟩,
⟨some 5, .mov (.tmp 16), none⟩] [0, 1, 5] [])))))))
(.seq
(.region [
⟨some 4, .mov (.val (.pv (.bool true))), none⟩] [4] [])
.ret)))),
[.tmp 4], false, false, false⟩
def F170 : AFunc := ⟨1,
(.seq
(.region [
⟨some 2, .alloc 2 [.pv (.int .i64 0), .pv (.int .i64 0), .tl []], none⟩] [0, 2] [2])
(.seq
(.region [
⟨some 5, .mov (.tmp 0), none⟩,
⟨some 6, .build [.pv (.int .i64 0), .pv (.int .i64 0), .tl []] [(0, 1, (.tmp 5))], none⟩,
⟨some 3, .alloc 3 [.pv (.int .i64 0), .pv (.int .i64 0), .tl []], none⟩,
⟨none, .store 3 (.tmp 3) (.tmp 6), none⟩] [0, 2, 3] [2, 3])
(.seq
(.seq
(.region [
⟨some 7, .mov (.tmp 0), none⟩,
⟨some 8, .mov (.val (.pv (.int .i64 0))), none⟩] [0, 2, 3, 7, 8] [2, 3])
(.block 0
(.loop
(.mask [0, 2, 3, 7, 8] [2, 3]
(.seq
(.region [
⟨some 9, .bin .lss (.tmp 8) (.tmp 7), none⟩] [0, 2, 3, 7, 8, 9] [2, 3])
(.seq
(.cond (.tmp 9)
.skip
(.exit 0))
(.seq
(.block 1
(.seq
(.region [
⟨some 10, .mov (.tmp 8), none⟩,
⟨some 4, .mov (.tmp 10), none⟩] [0, 2, 3, 4, 7, 8] [2, 3])
(.draw [
(⟨some 11, .fld 2 (.tmp 3), none⟩, []),
(⟨some 12, .load 1 false (.tmp 11), none⟩, []),
(⟨some 13, .mov (.tmp 4), none⟩, []),
(⟨some 14, .mov (.tmp 4), none⟩, []),
(⟨some 15, .build [.pv (.int .i64 0), .pv (.bool false), .pv (.int .i64 0), .pv (.int .i64 0)] [(0, 1, (.tmp 13)), (2, 1, (.val (.pv (.int .i64 1)))), (3, 1, (.tmp 14))], none⟩, []),
(⟨some 16, .mov (.tmp 4), none⟩, []),
(⟨some 17, .mov (.tmp 4), none⟩, []),
(⟨some 18, .build [.pv (.int .i64 0), .pv (.bool false), .pv (.int .i64 0), .pv (.int .i64 0)] [(0, 1, (.tmp 16)), (2, 1, (.val (.pv (.int .i64 2)))), (3, 1, (.tmp 17))], none⟩, []),
(⟨some 19, .mov (.tmp 4), none⟩, []),
(⟨some 20, .mov (.tmp 4), none⟩, []),
(⟨some 21, .bin .add (.tmp 20) (.val (.pv (.int .i64 1))), none⟩, []),
(⟨some 22, .mov (.tmp 0), none⟩, []),
(⟨some 23, .bin .rem (.tmp 21) (.tmp 22), none⟩, []),
(⟨some 24, .build [.pv (.int .i64 0), .pv (.bool false), .pv (.int .i64 0), .pv (.int .i64 0)] [(0, 1, (.tmp 19)), (1, 1, (.val (.pv (.bool true)))), (2, 1, (.val (.pv (.int .i64 1)))), (3, 1, (.tmp 23))], none⟩, []),
(⟨some 25, .mov (.tmp 4), none⟩, []),
(⟨some 26, .mov (.tmp 4), none⟩, []),
(⟨some 27, .build [.pv (.int .i64 0), .pv (.bool false), .pv (.int .i64 0), .pv (.int .i64 0)] [(0, 1, (.tmp 25)), (1, 1, (.val (.pv (.bool true)))), (2, 1, (.val (.pv (.int .i64 2)))), (3, 1, (.tmp 26))], none⟩, []),
(⟨some 28, .lit 4 [.pv (.int .i64 0), .pv (.bool false), .pv (.int .i64 0), .pv (.int .i64 0)] 4 [(0, 4, (.tmp 15)), (4, 4, (.tmp 18)), (8, 4, (.tmp 24)), (12, 4, (.tmp 27))], none⟩, [1]),
(⟨some 29, .app 4 (.tmp 12) (.tmp 28), none⟩, []),
(⟨some 30, .fld 2 (.tmp 3), none⟩, []),
(⟨none, .store 1 (.tmp 30) (.tmp 29), none⟩, [])] [0, 2, 3, 7, 8] [2, 3])))
(.region [
⟨some 31, .bin .add (.tmp 8) (.val (.pv (.int .i64 1))), none⟩,
⟨some 8, .mov (.tmp 31), none⟩] [0, 2, 3, 7, 8] [2, 3]))))))))
(.seq
(.region [
⟨some 32, .load 3 true (.tmp 3), none⟩,
⟨none, .store 3 (.tmp 2) (.tmp 32), none⟩] [2] [2])
.ret)))),
[.cell 2 3 true], false, false, false⟩
def F176 : AFunc := ⟨2,
(.seq
(.region [
⟨some 4, .mov (.val (.pv (.bool false))), none⟩] [0, 1] [])
(.seq
(.seq
(.region [
⟨some 6, .mov (.tmp 0), none⟩,
⟨some 7, .len 0 (.tmp 6), none⟩,
⟨some 8, .mov (.tmp 1), none⟩,
⟨some 9, .len 0 (.tmp 8), none⟩,
⟨some 10, .bin .neq (.tmp 7) (.tmp 9), none⟩] [0, 1, 10] [])
(.cond (.tmp 10)
(.seq
(.region [
⟨some 4, .mov (.val (.pv (.bool false))), none⟩] [4] [])
.ret)
.skip))
(.seq
(.seq
(.region [
⟨some 5, .mov (.val (.pv (.int .i64 0))), none⟩] [0, 1, 5] [])
(.block 0
(.loop
(.mask [0, 1, 5] []
(.seq
(.seq
(.region [
⟨some 11, .mov (.tmp 5), none⟩,
⟨some 12, .mov (.tmp 0), none⟩,
⟨some 13, .len 0 (.tmp 12), none⟩,
⟨some 14, .bin .lss (.tmp 11) (.tmp 13), none⟩] [0, 1, 5, 14] [])
(.cond (.tmp 14)
.skip
(.exit 0)))
(.seq
(.block 1
(.seq
(.draw [
(⟨some 17, .mov (.tmp 0), none⟩, []),
(⟨some 18, .mov (.tmp 5), none⟩, []),
(⟨some 19, .idx 1 (.tmp 17) (.tmp 18), none⟩, []),
(⟨some 20, .load 1 false (.tmp 19), none⟩, []),
(⟨some 21, .mov (.tmp 1), none⟩, []),
(⟨some 22, .mov (.tmp 5), none⟩, []),
(⟨some 23, .idx 1 (.tmp 21) (.tmp 22), none⟩, []),
(⟨some 24, .load 1 false (.tmp 23), none⟩, []),
(⟨some 25, .bin .neq (.tmp 20) (.tmp 24), none⟩, [])] [0, 1, 5, 25] [])
(.cond (.tmp 25)
(.seq
(.region [
⟨some 4, .mov (.val (.pv (.bool false))), none⟩] [4] [])
.ret)
.skip)))
(.region [
⟨some 15, .mov (.tmp 5), none⟩,
⟨some 16, .bin .add (.tmp 15) (.val (.pv (.int .i64 1))), none⟩,
⟨some 5, .mov (.tmp 16), none⟩] [0, 1, 5] [])))))))
(.seq
(.region [
⟨some 4, .mov (.val (.pv (.bool true))), none⟩] [4] [])
.ret)))),
[.tmp 4], false, false, false⟩
def F177 : AFunc := ⟨2,
(.seq
(.region [
⟨some 4, .mov (.val (.pv (.bool false))), none⟩] [0, 1] [])
(.seq
(.region [
⟨some 5, .mov (.tmp 0), none⟩,
⟨some 6, .len 0 (.tmp 5), none⟩,
⟨some 7, .mov (.tmp 1), none⟩,
⟨some 8, .bin .leq (.tmp 6) (.tmp 7), none⟩,
⟨some 9, .mov (.tmp 8), none⟩,
⟨some 10, .mov (.tmp 0), some (9, true)⟩,
⟨some 11, .call (.val (.func 108 [])) [(.tmp 10), (.val (.func 188 []))], some (9, true)⟩,
⟨some 12, .un .not (.tmp 11), some (9, true)⟩,
⟨some 13, .pick (.tmp 9) (.tmp 12) (.val (.pv (.bool false))), none⟩,
⟨some 4, .mov (.tmp 13), none⟩] [4] [])
.ret)),
[.tmp 4], false, false, false⟩
def F179 : AFunc := ⟨2,
(.seq
(.region [
⟨some 2, .box 2 3 (.tmp 0), none⟩,
⟨some 3, .box 3 1 (.tmp 1), none⟩,
⟨some 4, .mov (.val (.pv (.bool false))), none⟩] [2, 3] [2, 3])
(.seq
(.region [
⟨some 5, .fld 2 (.tmp 2), none⟩,
⟨some 6, .load 1 false (.tmp 5), none⟩,
⟨some 7, .clos 181 [(.tmp 3)], none⟩,
⟨some 8, .call (.val (.func 180 [])) [(.tmp 6), (.tmp 7)], none⟩,
⟨some 4, .mov (.tmp 8), none⟩] [4] [])
.ret)),
[.tmp 4], false, false, false⟩
def F180 : AFunc := ⟨2,
(.seq
(.region [
⟨some 4, .mov (.val (.pv (.bool false))), none⟩] [0, 1] [])
(.seq
(.region [
⟨some 5, .mov (.tmp 0), none⟩,
⟨some 6, .mov (.tmp 1), none⟩,
⟨some 7, .call (.val (.func 77 [])) [(.tmp 5), (.tmp 6)], none⟩,
⟨some 8, .bin .geq (.tmp 7) (.val (.pv (.int .i64 0))), none⟩,
⟨some 4, .mov (.tmp 8), none⟩] [4] [])
.ret)),
[.tmp 4], false, false, false⟩
def F181 : AFunc := ⟨2,
(.seq
(.region [
⟨some 2, .box 2 4 (.tmp 0), none⟩,
⟨some 3, .mov (.val (.pv (.bool false))), none⟩] [1, 2] [2])
(.seq
(.region [
⟨some 4, .fld 0 (.tmp 2), none⟩,
⟨some 5, .load 1 false (.tmp 4), none⟩,
⟨some 6, .load 1 false (.tmp 1), none⟩,
⟨some 7, .bin .eql (.tmp 5) (.tmp 6), none⟩,
⟨some 3, .mov (.tmp 7), none⟩] [3] [])
.ret)),
[.tmp 3], false, false, false⟩
def F182 : AFunc := ⟨3,
(.seq
(.region [
⟨some 3, .box 3 7 (.tmp 0), none⟩,
⟨some 4, .box 4 4 (.tmp 1), none⟩,
⟨some 5, .box 5 3 (.tmp 2), none⟩,
⟨some 6, .alloc 6 [.pv (.int .i64 0), .pv (.int .i64 0), .tl [], .tl []], none⟩,
⟨some 7, .mov (.val (.pv (.bool false))), none⟩] [3, 4, 5, 6] [3, 4, 5, 6])
(.seq
(.seq
(.region [
⟨some 11, .fld 0 (.tmp 5), none⟩,
⟨some 12, .load 1 false (.tmp 11), none⟩,
⟨some 13, .bin .neq (.tmp 12) (.val (.pv (.int .i64 0))), none⟩,
⟨some 14, .mov (.tmp 13), none⟩,
⟨some 15, .fld 0 (.tmp 5), some (14, true)⟩,
⟨some 16, .load 1 false (.tmp 15), some (14, true)⟩,
⟨some 17, .bin .neq (.tmp 16) (.val (.pv (.int .i64 1))), some (14, true)⟩,
⟨some 18, .pick (.tmp 14) (.tmp 17) (.val (.pv (.bool false))), none⟩] [3, 4, 5, 6, 18] [3, 4, 5, 6])
(.cond (.tmp 18)
(.seq
(.region [
⟨some 19, .build [.pv (.int .i64 0), .pv (.int .i64 0), .tl [], .tl []] [], none⟩,
⟨none, .store 4 (.tmp 6) (.tmp 19), none⟩,
⟨some 7, .mov (.val (.pv (.bool false))), none⟩] [6, 7] [6])
.ret)
.skip))
(.seq
(.region [
⟨some 20, .load 7 true (.tmp 3), none⟩,
⟨some 21, .load 4 true (.tmp 4), none⟩,
⟨some 22, .fld 0 (.tmp 5), none⟩,
⟨some 23, .load 1 false (.tmp 22), none⟩,
⟨some 24, .call (.val (.func 189 [])) [(.tmp 20), (.tmp 21), (.tmp 23)], none⟩,
⟨some 8, .alloc 8 [.pv (.int .i64 0), .pv (.int .i64 0), .tl [], .pv (.int .i64 0), .tl [], .tl [], .pv (.int .i64 0)], none⟩,
⟨none, .store 7 (.tmp 8) (.tmp 24), none⟩] [4, 5, 6, 8] [4, 5, 6, 8])
(.seq
(.region [
⟨some 26, .fld 0 (.tmp 8), none⟩,
⟨some 27, .load 3 true (.tmp 26), none⟩,
⟨some 28, .fld 3 (.tmp 8), none⟩,
⟨some 29, .load 1 false (.tmp 28), none⟩,
⟨some 30, .fld 1 (.tmp 5), none⟩,
⟨some 31, .load 1 false (.tmp 30), none⟩,
⟨some 32, .fld 2 (.tmp 5), none⟩,
⟨some 33, .load 1 false (.tmp 32), none⟩,
⟨some 34, .call (.val (.func 45 [])) [(.tmp 27), (.tmp 29), (.tmp 31), (.tmp 33)], none⟩,
⟨some 25, .mov (.tmp 34), none⟩,
⟨some 35, .ext (.tmp 25) 0, none⟩,
⟨some 36, .ext (.tmp 25) 1, none⟩,
⟨some 9, .mov (.tmp 35), none⟩,
⟨some 10, .mov (.tmp 36), none⟩] [4, 5, 6, 8, 9, 10] [4, 5, 6, 8])
(.seq
(.block 0
(.seq
(.region [
⟨some 38, .mov (.tmp 10), none⟩,
⟨some 39, .un .not (.tmp 38), none⟩,
⟨some 37, .mov (.tmp 39), none⟩] [4, 5, 6, 8, 9, 37] [4, 5, 6, 8])
(.cond (.tmp 37)
(.seq
(.region [
⟨some 40, .build [.pv (.int .i64 0), .pv (.int .i64 0), .tl [], .tl []] [], none⟩,
⟨none, .store 4 (.tmp 6) (.tmp 40), none⟩,
⟨some 7, .mov (.val (.pv (.bool false))), none⟩] [6, 7] [6])
.ret)
(.seq
(.region [
⟨some 42, .fld 1 (.tmp 5), none⟩,
⟨some 43, .load 1 false (.tmp 42), none⟩,
⟨some 41, .mov (.tmp 43), none⟩] [4, 5, 6, 8, 9, 41] [4, 5, 6, 8])
(.cond (.tmp 41)
(.seq
(.draw [
(⟨some 44, .load 4 true (.tmp 4), none⟩, []),
(⟨some 45, .fld 0 (.tmp 5), none⟩, []),
(⟨some 46, .load 1 false (.tmp 45), none⟩, []),
(⟨some 47, .mov (.tmp 9), none⟩, []),
(⟨some 48, .fld 4 (.tmp 8), none⟩, []),
(⟨some 49, .load 1 false (.tmp 48), none⟩, []),
(⟨some 50, .fld 5 (.tmp 8), none⟩, []),
(⟨some 51, .load 1 false (.tmp 50), none⟩, []),
(⟨some 52, .call (.val (.func 191 [])) [(.tmp 51)], none⟩, [0, 2, 5]),
(⟨some 53, .fld 2 (.tmp 5), none⟩, []),
(⟨some 54, .load 1 false (.tmp 53), none⟩, [8]),
(⟨some 55, .lit 1 [.pv (.int .i64 0)] 1 [(0, 1, (.tmp 54))], none⟩, [0, 2, 5, 7, 8]),
(⟨some 56, .app 1 (.tmp 52) (.tmp 55), none⟩, [0, 2, 5]),
(⟨some 57, .call (.val (.func 190 [])) [(.tmp 44), (.tmp 46), (.tmp 47), (.tmp 49), (.tmp 56)], none⟩, []),
(⟨some 58, .fld 5 (.tmp 8), none⟩, []),
(⟨some 59, .load 1 false (.tmp 58), none⟩, [8, 11, 12, 13]),
(⟨some 60, .len 0 (.tmp 59), none⟩, [8, 11, 12, 13]),
(⟨some 61, .fld 6 (.tmp 8), none⟩, []),
(⟨some 62, .load 1 false (.tmp 61), none⟩, [8, 11, 12, 13]),
(⟨some 63, .bin .lss (.tmp 60) (.tmp 62), none⟩, []),
(⟨none, .store 4 (.tmp 6) (.tmp 57), none⟩, [15, 16, 18]),
(⟨some 7, .mov (.tmp 63), none⟩, [])] [6, 7] [6])
.ret)
(.seq
(.draw [
(⟨some 65, .fld 4 (.tmp 8), none⟩, []),
(⟨some 66, .load 1 false (.tmp 65), none⟩, []),
(⟨some 67, .len 0 (.tmp 66), none⟩, []),
(⟨some 68, .bin .eql (.tmp 67) (.val (.pv (.int .i64 0))), none⟩, []),
(⟨some 69, .mov (.tmp 68), none⟩, []),
(⟨some 70, .fld 4 (.tmp 8), some (69, false)⟩, []),
(⟨some 71, .load 1 false (.tmp 70), some (69, false)⟩, []),
(⟨some 72, .idx 1 (.tmp 71) (.val (.pv (.int .i64 0))), some (69, false)⟩, []),
(⟨some 73, .load 1 false (.tmp 72), some (69, false)⟩, []),
(⟨some 74, .fld 2 (.tmp 5), some (69, false)⟩, []),
(⟨some 75, .load 1 false (.tmp 74), some (69, false)⟩, []),
(⟨some 76, .bin .neq (.tmp 73) (.tmp 75), some (69, false)⟩, []),
(⟨some 77, .pick (.tmp 69) (.val (.pv (.bool true))) (.tmp 76), none⟩, []),
(⟨some 64, .mov (.tmp 77), none⟩, [])] [4, 5, 6, 8, 9, 64] [4, 5, 6, 8])
(.cond (.tmp 64)
(.seq
(.region [
⟨some 78, .build [.pv (.int .i64 0), .pv (.int .i64 0), .tl [], .tl []] [], none⟩,
⟨none, .store 4 (.tmp 6) (.tmp 78), none⟩,
⟨some 7, .mov (.val (.pv (.bool false))), none⟩] [6, 7] [6])
.ret)
.skip)))))))
(.seq
(.draw [
(⟨some 79, .load 4 true (.tmp 4), none⟩, []),
(⟨some 80, .fld 0 (.tmp 5), none⟩, []),
(⟨some 81, .load 1 false (.tmp 80), none⟩, []),
(⟨some 82, .mov (.tmp 9), none⟩, []),
(⟨some 83, .fld 4 (.tmp 8), none⟩, []),
(⟨some 84, .load 1 false (.tmp 83), none⟩, []),
(⟨some 85, .sl 1 (.tmp 84) (some (.val (.pv (.int .i64 1)))) none none, none⟩, []),
(⟨some 86, .fld 5 (.tmp 8), none⟩, []),
(⟨some 87, .load 1 false (.tmp 86), none⟩, []),
(⟨some 88, .call (.val (.func 190 [])) [(.tmp 79), (.tmp 81), (.tmp 82), (.tmp 85), (.tmp 87)], none⟩, []),
(⟨none, .store 4 (.tmp 6) (.tmp 88), none⟩, []),
(⟨some 7, .mov (.val (.pv (.bool true))), none⟩, [])] [6, 7] [6])
.ret)))))),
[.cell 6 4 true, .tmp 7], false, false, false⟩
def F186 : AFunc := ⟨2,
(.seq
(.region [
⟨some 2, .box 2 7 (.tmp 0), none⟩,
⟨some 3, .box 3 4 (.tmp 1), none⟩,
⟨some 4, .mov (.val (.tl [])), none⟩] [2, 3] [2, 3])
(.seq
(.region [
⟨some 5, .mov (.val (.tl [])), none⟩] [2, 3, 5] [2, 3])
(.seq
(.seq
(.region [
⟨some 13, .mov (.val (.pv (.int .i64 0))), none⟩] [2, 3, 5, 13] [2, 3])
(.block 0
(.loop
(.mask [2, 3, 5, 13] [2, 3]
(.seq
(.region [
⟨some 14, .bin .lss (.tmp 13) (.val (.pv (.int .i64 2))), none⟩] [2, 3, 5, 13, 14] [2, 3])
(.seq
(.cond (.tmp 14)
.skip
(.exit 0))
(.seq
(.block 1
(.seq
(.region [
⟨some 15, .mov (.tmp 13), none⟩,
⟨some 6, .mov (.tmp 15), none⟩] [2, 3, 5, 6, 13] [2, 3])
(.seq
(.region [
⟨some 16, .load 7 true (.tmp 2), none⟩,
⟨some 17, .load 4 true (.tmp 3), none⟩,
⟨some 18, .mov (.tmp 6), none⟩,
⟨some 19, .call (.val (.func 189 [])) [(.tmp 16), (.tmp 17), (.tmp 18)], none⟩,
⟨some 7, .alloc 7 [.pv (.int .i64 0), .pv (.int .i64 0), .tl [], .pv (.int .i64 0), .tl [], .tl [], .pv (.int .i64 0)], none⟩,
⟨none, .store 7 (.tmp 7) (.tmp 19), none⟩] [2, 3, 5, 6, 7, 13] [2, 3, 7])
(.seq
(.region [
⟨some 20, .fld 0 (.tmp 7), none⟩,
⟨some 21, .fld 2 (.tmp 20), none⟩,
⟨some 22, .load 1 false (.tmp 21), none⟩,
⟨some 23, .len 0 (.tmp 22), none⟩,
⟨some 24, .mov (.val (.pv (.int .i64 0))), none⟩] [2, 3, 5, 6, 7, 13, 22, 23, 24] [2, 3, 7])
(.block 2
(.loop
(.mask [2, 3, 5, 6, 7, 13, 22, 23, 24] [2, 3, 7]
(.seq
(.region [
⟨some 25, .bin .lss (.tmp 24) (.tmp 23), none⟩] [2, 3, 5, 6, 7, 13, 22, 23, 24, 25] [2, 3, 7])
(.seq
(.cond (.tmp 25)
.skip
(.exit 2))
(.seq
(.block 3
(.seq
(.region [
⟨some 26, .idx 4 (.tmp 22) (.tmp 24), none⟩,
⟨some 27, .load 4 true (.tmp 26), none⟩,
⟨some 9, .alloc 9 [.pv (.int .i64 0), .pv (.bool false), .pv (.int .i64 0), .pv (.int .i64 0)], none⟩,
⟨none, .store 4 (.tmp 9) (.tmp 27), none⟩] [2, 3, 5, 6, 7, 9, 13, 22, 23, 24] [2, 3, 7, 9])
(.seq
(.region [
⟨some 28, .mov (.tmp 6), none⟩,
⟨some 29, .fld 1 (.tmp 9), none⟩,
⟨some 30, .load 1 false (.tmp 29), none⟩,
⟨some 31, .fld 2 (.tmp 9), none⟩,
⟨some 32, .load 1 false (.tmp 31), none⟩,
⟨some 33, .build [.pv (.int .i64 0), .pv (.bool false), .pv (.int .i64 0)] [(0, 1, (.tmp 28)), (1, 1, (.tmp 30)), (2, 1, (.tmp 32))], none⟩,
⟨some 10, .alloc 10 [.pv (.int .i64 0), .pv (.bool false), .pv (.int .i64 0)], none⟩,
⟨none, .store 3 (.tmp 10) (.tmp 33), none⟩] [2, 3, 5, 6, 7, 9, 10, 13, 22, 23, 24] [2, 3, 7, 9, 10])
(.seq
(.seq
(.region [
⟨some 34, .fld 0 (.tmp 9), none⟩,
⟨some 35, .load 1 false (.tmp 34), none⟩,
⟨some 36, .fld 3 (.tmp 7), none⟩,
⟨some 37, .load 1 false (.tmp 36), none⟩,
⟨some 38, .bin .neq (.tmp 35) (.tmp 37), none⟩] [2, 3, 5, 6, 7, 10, 13, 22, 23, 24, 38] [2, 3, 7, 10])
(.cond (.tmp 38)
(.exit 3)
.skip))
(.seq
(.region [
⟨some 40, .load 7 true (.tmp 2), none⟩,
⟨some 41, .load 4 true (.tmp 3), none⟩,
⟨some 42, .load 3 true (.tmp 10), none⟩,
⟨some 43, .call (.val (.func 182 [])) [(.tmp 40), (.tmp 41), (.tmp 42)], none⟩,
⟨some 39, .mov (.tmp 43), none⟩,
⟨some 44, .ext (.tmp 39) 0, none⟩,
⟨some 45, .ext (.tmp 39) 1, none⟩,
⟨some 11, .alloc 11 [.pv (.int .i64 0), .pv (.int .i64 0), .tl [], .tl []], none⟩,
⟨none, .store 4 (.tmp 11) (.tmp 44), none⟩,
⟨some 12, .mov (.tmp 45), none⟩] [2, 3, 5, 6, 7, 10, 12, 13, 22, 23, 24] [2, 3, 7, 10])
(.seq
(.region [
⟨some 46, .mov (.tmp 12), none⟩] [2, 3, 5, 6, 7, 10, 13, 22, 23, 24, 46] [2, 3, 7, 10])
(.cond (.tmp 46)
(.region [
⟨some 47, .mov (.tmp 5), none⟩,
⟨some 48, .load 3 true (.tmp 10), none⟩,
⟨some 49, .lit 3 [.pv (.int .i64 0), .pv (.bool false), .pv (.int .i64 0)] 1 [(0, 3, (.tmp 48))], none⟩,
⟨some 50, .app 3 (.tmp 47) (.tmp 49), none⟩,
⟨some 5, .mov (.tmp 50), none⟩] [2, 3, 5, 6, 7, 13, 22, 23, 24] [2, 3, 7])
.skip)))))))
(.region [
⟨some 51, .bin .add (.tmp 24) (.val (.pv (.int .i64 1))), none⟩,
⟨some 24, .mov (.tmp 51), none⟩] [2, 3, 5, 6, 7, 13, 22, 23, 24] [2, 3, 7])))))))))))
(.region [
⟨some 52, .bin .add (.tmp 13) (.val (.pv (.int .i64 1))), none⟩,
⟨some 13, .mov (.tmp 52), none⟩] [2, 3, 5, 13] [2, 3]))))))))
(.seq
(.region [
⟨some 53, .mov (.tmp 5), none⟩,
⟨some 54, .call (.val (.func 196 [])) [(.tmp 53), (.val (.func 197 []))], none⟩] [5] [])
(.seq
(.region [
⟨some 55, .mov (.tmp 5), none⟩,
⟨some 4, .mov (.tmp 55), none⟩] [4] [])
.ret))))),
[.tmp 4], false, false, false⟩
def F188 : AFunc := ⟨1,
(.seq
(.region [
⟨some 2, .mov (.val (.pv (.bool false))), none⟩] [0] [])
(.seq
(.region [
⟨some 3, .mov (.tmp 0), none⟩,
⟨some 4, .bin .lss (.tmp 3) (.val (.pv (.int .i64 1))), none⟩,
⟨some 5, .mov (.tmp 4), none⟩,
⟨some 6, .mov (.tmp 0), some (5, false)⟩,
⟨some 7, .bin .gtr (.tmp 6) (.val (.pv (.int .i64 1000))), some (5, false)⟩,
⟨some 8, .pick (.tmp 5) (.val (.pv (.bool true))) (.tmp 7), none⟩,
⟨some 2, .mov (.tmp 8), none⟩] [2] [])
.ret)),
[.tmp 2], false, false, false⟩
def F189 : AFunc := ⟨3,
(.seq
(.region [
⟨some 3, .box 3 7 (.tmp 0), none⟩,
⟨some 4, .box 4 4 (.tmp 1), none⟩,
⟨some 6, .alloc 6 [.pv (.int .i64 0), .pv (.int .i64 0), .tl [], .pv (.int .i64 0), .tl [], .tl [], .pv (.int .i64 0)], none⟩] [2, 3, 4, 6] [3, 4, 6])
(.seq
(.seq
(.region [
⟨some 7, .mov (.tmp 2), none⟩,
⟨some 8, .bin .eql (.tmp 7) (.val (.pv (.int .i64 0))), none⟩] [3, 4, 6, 8] [3, 4, 6])
(.cond (.tmp 8)
(.seq
(.region [
⟨some 9, .fld 0 (.tmp 3), none⟩,
⟨some 10, .load 3 true (.tmp 9), none⟩,
⟨some 11, .fld 0 (.tmp 4), none⟩,
⟨some 12, .load 1 false (.tmp 11), none⟩,
⟨some 13, .fld 2 (.tmp 4), none⟩,
⟨some 14, .load 1 false (.tmp 13), none⟩,
⟨some 15, .fld 3 (.tmp 4), none⟩,
⟨some 16, .load 1 false (.tmp 15), none⟩,
⟨some 17, .fld 6 (.tmp 3), none⟩,
⟨some 18, .load 1 false (.tmp 17), none⟩,
⟨some 19, .build [.pv (.int .i64 0), .pv (.int .i64 0), .tl [], .pv (.int .i64 0), .tl [], .tl [], .pv (.int .i64 0)] [(0, 3, (.tmp 10)), (3, 1, (.tmp 12)), (4, 1, (.tmp 14)), (5, 1, (.tmp 16)), (6, 1, (.tmp 18))], none⟩,
⟨none, .store 7 (.tmp 6) (.tmp 19), none⟩] [6] [6])
.ret)
.skip))
(.seq
(.region [
⟨some 20, .fld 3 (.tmp 3), none⟩,
⟨some 21, .load 3 true (.tmp 20), none⟩,
⟨some 22, .fld 1 (.tmp 4), none⟩,
⟨some 23, .load 1 false (.tmp 22), none⟩,
⟨some 24, .fld 3 (.tmp 4), none⟩,
⟨some 25, .load 1 false (.tmp 24), none⟩,
⟨some 26, .fld 2 (.tmp 4), none⟩,
⟨some 27, .load 1 false (.tmp 26), none⟩,
⟨some 28, .fld 6 (.tmp 3), none⟩,
⟨some 29, .load 1 false (.tmp 28), none⟩,
⟨some 30, .build [.pv (.int .i64 0), .pv (.int .i64 0), .tl [], .pv (.int .i64 0), .tl [], .tl [], .pv (.int .i64 0)] [(0, 3, (.tmp 21)), (3, 1, (.tmp 23)), (4, 1, (.tmp 25)), (5, 1, (.tmp 27)), (6, 1, (.tmp 29))], none⟩,
⟨none, .store 7 (.tmp 6) (.tmp 30), none⟩] [6] [6])
.ret))),
[.cell 6 7 true], false, false, false⟩
def F190 : AFunc := ⟨5,
(.seq
(.region [
⟨some 5, .box 5 4 (.tmp 0), none⟩,
⟨some 10, .alloc 10 [.pv (.int .i64 0), .pv (.int .i64 0), .tl [], .tl []], none⟩] [1, 2, 3, 4, 5, 10] [5, 10])
(.seq
(.seq
(.region [
⟨some 11, .mov (.tmp 1), none⟩,
⟨some 12, .bin .eql (.tmp 11) (.val (.pv (.int .i64 0))), none⟩] [2, 3, 4, 5, 10, 12] [5, 10])
(.cond (.tmp 12)
(.seq
(.draw [
(⟨some 13, .mov (.tmp 2), none⟩, []),
(⟨some 14, .fld 1 (.tmp 5), none⟩, []),
(⟨some 15, .load 1 false (.tmp 14), none⟩, []),
(⟨some 16, .mov (.tmp 3), none⟩, []),
(⟨some 17, .call (.val (.func 191 [])) [(.tmp 16)], none⟩, [2]),
(⟨some 18, .mov (.tmp 4), none⟩, []),
(⟨some 19, .call (.val (.func 191 [])) [(.tmp 18)], none⟩, [2]),
(⟨some 20, .build [.pv (.int .i64 0), .pv (.int .i64 0), .tl [], .tl []] [(0, 1, (.tmp 13)), (1, 1, (.tmp 15)), (2, 1, (.tmp 17)), (3, 1, (.tmp 19))], none⟩, []),
(⟨none, .store 4 (.tmp 10) (.tmp 20), none⟩, [])] [10] [10])
.ret)
.skip))
(.seq
(.draw [
(⟨some 21, .fld 0 (.tmp 5), none⟩, []),
(⟨some 22, .load 1 false (.tmp 21), none⟩, []),
(⟨some 23, .mov (.tmp 2), none⟩, []),
(⟨some 24, .mov (.tmp 4), none⟩, []),
(⟨some 25, .call (.val (.func 191 [])) [(.tmp 24)], none⟩, [1]),
(⟨some 26, .mov (.tmp 3), none⟩, []),
(⟨some 27, .call (.val (.func 191 [])) [(.tmp 26)], none⟩, [1]),
(⟨some 28, .build [.pv (.int .i64 0), .pv (.int .i64 0), .tl [], .tl []] [(0, 1, (.tmp 22)), (1, 1, (.tmp 23)), (2, 1, (.tmp 25)), (3, 1, (.tmp 27))], none⟩, []),
(⟨none, .store 4 (.tmp 10) (.tmp 28), none⟩, [])] [10] [10])
.ret))),
[.cell 10 4 true], false, false, false⟩
def F194 : AFunc := ⟨1,
(.seq
(.region [
⟨some 2, .mov (.val (.pv (.str ⟨#[]⟩))), none⟩] [0] [])
(.seq
(.region [
⟨some 3, .mov (.tmp 0), none⟩,
⟨some 4, .call (.val (.func 200 [])) [(.tmp 3)], none⟩,
⟨some 2, .mov (.tmp 4), none⟩] [2] [])
.ret)),
[.tmp 2], false, false, false⟩
def F197 : AFunc := ⟨2,
(.seq
(.region [
⟨some 2, .box 2 3 (.tmp 0), none⟩,
⟨some 3, .box 3 3 (.tmp 1), none⟩,
⟨some 4, .mov (.val (.pv (.int .i64 0))), none⟩] [2, 3] [2, 3])
(.seq
(.draw [
(⟨some 5, .fld 0 (.tmp 2), none⟩, []),
(⟨some 6, .load 1 false (.tmp 5), none⟩, []),
(⟨some 7, .fld 0 (.tmp 3), none⟩, []),
(⟨some 8, .load 1 false (.tmp 7), none⟩, []),
(⟨some 9, .call (.val (.func 60 [])) [(.tmp 6), (.tmp 8)], none⟩, []),
(⟨some 10, .fld 1 (.tmp 2), none⟩, []),
(⟨some 11, .load 1 false (.tmp 10), none⟩, [4]),
(⟨some 12, .call (.val (.func 198 [])) [(.tmp 11)], none⟩, []),
(⟨some 13, .fld 1 (.tmp 3), none⟩, []),
(⟨some 14, .load 1 false (.tmp 13), none⟩, [4, 7]),
(⟨some 15, .call (.val (.func 198 [])) [(.tmp 14)], none⟩, []),
(⟨some 16, .call (.val (.func 60 [])) [(.tmp 12), (.tmp 15)], none⟩, []),
(⟨some 17, .fld 2 (.tmp 2), none⟩, []),
(⟨some 18, .load 1 false (.tmp 17), none⟩, [4, 7, 10, 11]),
(⟨some 19, .fld 2 (.tmp 3), none⟩, []),
(⟨some 20, .load 1 false (.tmp 19), none⟩, [4, 7, 10, 11]),
(⟨some 21, .call (.val (.func 60 [])) [(.tmp 18), (.tmp 20)], none⟩, []),
(⟨some 22, .lit 1 [.pv (.int .i64 0)] 3 [(0, 1, (.tmp 9)), (1, 1, (.tmp 16)), (2, 1, (.tmp 21))], none⟩, []),
(⟨some 23, .call (.val (.func 59 [])) [(.tmp 22)], none⟩, []),
(⟨some 4, .mov (.tmp 23), none⟩, [])] [4] [])
.ret)),
[.tmp 4], false, false, false⟩
def F198 : AFunc := ⟨1,
(.seq
(.region [
⟨some 2, .mov (.val (.pv (.int .i64 0))), none⟩] [0] [])
(.seq
(.seq
(.region [
⟨some 3, .mov (.tmp 0), none⟩] [3] [])
(.cond (.tmp 3)
(.seq
(.region [
⟨some 2, .mov (.val (.pv (.int .i64 1))), none⟩] [2] [])
.ret)
.skip))
(.seq
(.region [
⟨some 2, .mov (.val (.pv (.int .i64 0))), none⟩] [2] [])
.ret))),
[.tmp 2], false, false, false⟩
def F200 : AFunc := ⟨1,
(.seq
(.region [
⟨some 2, .mov (.val (.pv (.str ⟨#[]⟩))), none⟩] [0] [])
(.seq
(.region [
⟨some 3, .mov (.tmp 0), none⟩,
⟨some 4, .call (.val (.func 203 [])) [(.tmp 3), (.val (.pv (.int .i64 10)))], none⟩,
⟨some 2, .mov (.tmp 4), none⟩] [2] [])
.ret)),
[.tmp 2], false, false, false⟩
def F203 : AFunc := ⟨2,
(.seq
(.region [
⟨some 4, .mov (.val (.pv (.str ⟨#[]⟩))), none⟩] [0, 1] [])
(.seq
(.seq
(.region [
⟨some 10, .mov (.tmp 1), none⟩,
⟨some 11, .bin .eql (.tmp 10) (.val (.pv (.int .i64 10))), none⟩] [0, 1, 11] [])
(.cond (.tmp 11)
(.seq
(.seq
(.region [
⟨some 12, .mov (.tmp 0), none⟩,
⟨some 13, .bin .leq (.val (.pv (.int .i64 0))) (.tmp 12), none⟩,
⟨some 14, .mov (.tmp 13), none⟩,
⟨some 15, .mov (.tmp 0), some (14, true)⟩,
⟨some 16, .bin .lss (.tmp 15) (.val (.pv (.int .i64 100))), some (14, true)⟩,
⟨some 17, .pick (.tmp 14) (.tmp 16) (.val (.pv (.bool false))), none⟩] [0, 17] [])
(.cond (.tmp 17)
(.seq
(.region [
⟨some 18, .mov (.tmp 0), none⟩,
⟨some 19, .call (.val (.func 212 [])) [(.tmp 18)], none⟩,
⟨some 4, .mov (.tmp 19), none⟩] [4] [])
.ret)
.skip))
(.seq
(.region [
⟨some 5, .alloc 5 [.pv (.int .u8 0), .pv (.int .u8 0), .pv (.int .u8 0), .pv (.int .u8 0), .pv (.int .u8 0), .pv (.int .u8 0), .pv (.int .u8 0), .pv (.int .u8 0), .pv (.int .u8 0), .pv (.int .u8 0), .pv (.int .u8 0), .pv (.int .u8 0), .pv (.int .u8 0), .pv (.int .u8 0), .pv (.int .u8 0), .pv (.int .u8 0), .pv (.int .u8 0), .pv (.int .u8 0), .pv (.int .u8 0), .pv (.int .u8 0), .pv (.int .u8 0), .pv (.int .u8 0), .pv (.int .u8 0), .pv (.int .u8 0)], none⟩] [0, 5] [5])
(.seq
(.region [
⟨some 20, .mov (.tmp 0), none⟩,
⟨some 21, .conv .u64 (.tmp 20), none⟩,
⟨some 6, .mov (.tmp 21), none⟩] [0, 5, 6] [5])
(.seq
(.seq
(.region [
⟨some 22, .mov (.tmp 0), none⟩,
⟨some 23, .bin .lss (.tmp 22) (.val (.pv (.int .i64 0))), none⟩] [0, 5, 6, 23] [5])
(.cond (.tmp 23)
(.region [
⟨some 24, .mov (.tmp 6), none⟩,
⟨some 25, .un .neg (.tmp 24), none⟩,
⟨some 6, .mov (.tmp 25), none⟩] [0, 5, 6] [5])
.skip))
(.seq
(.region [
⟨some 26, .mov (.tmp 6), none⟩,
⟨some 27, .call (.val (.func 213 [])) [(.tmp 26)], none⟩,
⟨some 7, .mov (.tmp 27), none⟩] [0, 5, 6, 7] [5])
(.seq
(.region [
⟨none, .un .not (.val (.pv (.int .i64 0))), none⟩] [] [])
(.seq
(.seq
(.region [
⟨some 33, .mov (.tmp 0), none⟩,
⟨some 34, .bin .lss (.tmp 33) (.val (.pv (.int .i64 0))), none⟩] [5, 7, 34] [5])
(.cond (.tmp 34)
(.seq
(.region [
⟨some 35, .idxa 24 1 (.tmp 5) (.val (.pv (.int .i64 0))), none⟩,
⟨none, .store 1 (.tmp 35) (.val (.pv (.int .u8 45))), none⟩] [5, 7] [5])
(.seq
(.region [
⟨none, .un .not (.val (.pv (.int .i64 0))), none⟩] [] [])
.ret))
.skip))
(.seq
(.region [
⟨none, .un .not (.val (.pv (.int .i64 0))), none⟩] [] [])
.ret))))))))
.skip))
(.seq
(.region [
⟨some 45, .mov (.tmp 0), none⟩,
⟨some 46, .conv .u64 (.tmp 45), none⟩,
⟨some 47, .mov (.tmp 1), none⟩,
⟨some 48, .mov (.tmp 0), none⟩,
⟨some 49, .bin .lss (.tmp 48) (.val (.pv (.int .i64 0))), none⟩,
⟨some 50, .call (.val (.func 215 [])) [(.val (.tl [])), (.tmp 46), (.tmp 47), (.tmp 49), (.val (.pv (.bool false)))], none⟩,
⟨some 44, .mov (.tmp 50), none⟩,
⟨some 51, .ext (.tmp 44) 0, none⟩,
⟨some 52, .ext (.tmp 44) 1, none⟩,
⟨some 8, .mov (.tmp 51), none⟩,
⟨some 9, .mov (.tmp 52), none⟩] [9] [])
(.seq
(.region [
⟨some 53, .mov (.tmp 9), none⟩,
⟨some 4, .mov (.tmp 53), none⟩] [4] [])
.ret)))),
[.tmp 4], false, false, false⟩
def F212 : AFunc := ⟨1,
(.seq
(.region [
⟨some 2, .mov (.val (.pv (.str ⟨#[]⟩))), none⟩] [0] [])
(.seq
(.seq
(.region [
⟨some 3, .mov (.tmp 0), none⟩,
⟨some 4, .bin .lss (.tmp 3) (.val (.pv (.int .i64 10))), none⟩] [0, 4] [])
(.cond (.tmp 4)
(.seq
(.region [
⟨some 5, .mov (.tmp 0), none⟩,
⟨some 6, .mov (.tmp 0), none⟩,
⟨some 7, .bin .add (.tmp 6) (.val (.pv (.int .i64 1))), none⟩,
⟨some 8, .sls (.val (.pv (.str ⟨#[48, 49, 50, 51, 52, 53, 54, 55, 56, 57, 97, 98, 99, 100, 101, 102, 103, 104, 105, 106, 107, 108, 109, 110, 111, 112, 113, 114, 115, 116, 117, 118, 119, 120, 121, 122]⟩))) (some (.tmp 5)) (some (.tmp 7)), none⟩,
⟨some 2, .mov (.tmp 8), none⟩] [2] [])
.ret)
.skip))
(.seq
(.region [
⟨some 9, .mov (.tmp 0), none⟩,
⟨some 10, .bin .mul (.tmp 9) (.val (.pv (.int .i64 2))), none⟩,
⟨some 11, .mov (.tmp 0), none⟩,
⟨some 12, .bin .mul (.tmp 11) (.val (.pv (.int .i64 2))), none⟩,
⟨some 13, .bin .add (.tmp 12) (.val (.pv (.int .i64 2))), none⟩,
⟨some 14, .sls (.val (.pv (.str ⟨#[48, 48, 48, 49, 48, 50, 48, 51, 48, 52, 48, 53, 48, 54, 48, 55, 48, 56, 48, 57, 49, 48, 49, 49, 49, 50, 49, 51, 49, 52, 49, 53, 49, 54, 49, 55, 49, 56, 49, 57, 50, 48, 50, 49, 50, 50, 50, 51, 50, 52, 50, 53, 50, 54, 50, 55, 50, 56, 50, 57, 51, 48, 51, 49, 51, 50, 51, 51, 51, 52, 51, 53, 51, 54, 51, 55, 51, 56, 51, 57, 52, 48, 52, 49, 52, 50, 52, 51, 52, 52, 52, 53, 52, 54, 52, 55, 52, 56, 52, 57, 53, 48, 53, 49, 53, 50, 53, 51, 53, 52, 53, 53, 53, 54, 53, 55, 53, 56, 53, 57, 54, 48, 54, 49, 54, 50, 54, 51, 54, 52, 54, 53, 54, 54, 54, 55, 54, 56, 54, 57, 55, 48, 55, 49, 55, 50, 55, 51, 55, 52, 55, 53, 55, 54, 55, 55, 55, 56, 55, 57, 56, 48, 56, 49, 56, 50, 56, 51, 56, 52, 56, 53, 56, 54, 56, 55, 56, 56, 56, 57, 57, 48, 57, 49, 57, 50, 57, 51, 57, 52, 57, 53, 57, 54, 57, 55, 57, 56, 57, 57]⟩))) (some (.tmp 10)) (some (.tmp 13)), none⟩,
⟨some 2, .mov (.tmp 14), none⟩] [2] [])
.ret))),
[.tmp 2], false, false, false⟩
def F213 : AFunc := ⟨1,
(.seq
(.region [
⟨some 2, .mov (.val (.pv (.int .i64 0))), none⟩] [0] [])
(.seq
(.region [
⟨some 4, .mov (.tmp 0), none⟩,
⟨some 5, .call (.val (.func 76 [])) [(.tmp 4)], none⟩,
⟨some 6, .call (.val (.func 219 [])) [(.tmp 5)], none⟩,
⟨some 3, .mov (.tmp 6), none⟩] [0, 3] [])
(.seq
(.region [
⟨none, .un .not (.val (.pv (.int .i64 0))), none⟩] [] [])
.ret))),
[.tmp 2], false, false, false⟩
def F215 : AFunc := ⟨5,
(.seq
(.region [
⟨some 10, .mov (.val (.tl [])), none⟩,
⟨some 11, .mov (.val (.pv (.str ⟨#[]⟩))), none⟩] [0, 1, 2, 3, 4, 10, 11] [])
(.seq
(.seq
(.region [
⟨some 19, .mov (.tmp 2), none⟩,
⟨some 20, .bin .lss (.tmp 19) (.val (.pv (.int .i64 2))), none⟩,
⟨some 21, .mov (.tmp 20), none⟩,
⟨some 22, .mov (.tmp 2), some (21, false)⟩,
⟨some 23, .bin .eql (.tmp 22) (.val (.pv (.int .i64 10))), some (21, false)⟩,
⟨some 24, .pick (.tmp 21) (.val (.pv (.bool true))) (.tmp 23), none⟩,
⟨some 25, .mov (.tmp 24), none⟩,
⟨some 26, .mov (.tmp 2), some (25, false)⟩,
⟨some 27, .bin .gtr (.tmp 26) (.val (.pv (.int .i64 36))), some (25, false)⟩,
⟨some 28, .pick (.tmp 25) (.val (.pv (.bool true))) (.tmp 27), none⟩] [0, 1, 2, 3, 4, 10, 11, 28] [])
(.cond (.tmp 28)
(.region [
⟨some 29, .minmax true [], none⟩,
⟨none, .minmax true [], none⟩] [0, 1, 2, 3, 4, 10, 11] [])
.skip))
(.seq
(.region [
⟨some 12, .alloc 12 [.pv (.int .u8 0), .pv (.int .u8 0), .pv (.int .u8 0), .pv (.int .u8 0), .pv (.int .u8 0), .pv (.int .u8 0), .pv (.int .u8 0), .pv (.int .u8 0), .pv (.int .u8 0), .pv (.int .u8 0), .pv (.int .u8 0), .pv (.int .u8 0), .pv (.int .u8 0), .pv (.int .u8 0), .pv (.int .u8 0), .pv (.int .u8 0), .pv (.int .u8 0), .pv (.int .u8 0), .pv (.int .u8 0), .pv (.int .u8 0), .pv (.int .u8 0), .pv (.int .u8 0), .pv (.int .u8 0), .pv (.int .u8 0), .pv (.int .u8 0), .pv (.int .u8 0), .pv (.int .u8 0), .pv (.int .u8 0), .pv (.int .u8 0), .pv (.int .u8 0), .pv (.int .u8 0), .pv (.int .u8 0), .pv (.int .u8 0), .pv (.int .u8 0), .pv (.int .u8 0), .pv (.int .u8 0), .pv (.int .u8 0), .pv (.int .u8 0), .pv (.int .u8 0), .pv (.int .u8 0), .pv (.int .u8 0), .pv (.int .u8 0), .pv (.int .u8 0), .pv (.int .u8 0), .pv (.int .u8 0), .pv (.int .u8 0), .pv (.int .u8 0), .pv (.int .u8 0), .pv (.int .u8 0), .pv (.int .u8 0), .pv (.int .u8 0), .pv (.int .u8 0), .pv (.int .u8 0), .pv (.int .u8 0), .pv (.int .u8 0), .pv (.int .u8 0), .pv (.int .u8 0), .pv (.int .u8 0), .pv (.int .u8 0), .pv (.int .u8 0), .pv (.int .u8 0), .pv (.int .u8 0), .pv (.int .u8 0), .pv (.int .u8 0), .pv (.int .u8 0)], none⟩] [0, 1, 2, 3, 4, 10, 11, 12] [12])
(.seq
(.region [
⟨some 13, .mov (.val (.pv (.int .i64 65))), none⟩] [0, 1, 2, 3, 4, 10, 11, 12, 13] [12])
(.seq
(.seq
(.region [
⟨some 30, .mov (.tmp 3), none⟩] [0, 1, 2, 3, 4, 10, 11, 12, 13, 30] [12])
(.cond (.tmp 30)
(.region [
⟨some 31, .mov (.tmp 1), none⟩,
⟨some 32, .un .neg (.tmp 31), none⟩,
⟨some 1, .mov (.tmp 32), none⟩] [0, 1, 2, 3, 4, 10, 11, 12, 13] [12])
.skip))
(.seq
(.seq
(.region [
⟨some 33, .mov (.tmp 2), none⟩,
⟨some 34, .call (.val (.func 221 [])) [(.tmp 33)], none⟩] [0, 1, 2, 3, 4, 10, 11, 12, 13, 34] [12])
(.cond (.tmp 34)
(.seq
(.region [
⟨some 35, .mov (.tmp 2), none⟩,
⟨some 36, .conv .u64 (.tmp 35), none⟩,
⟨some 37, .call (.val (.func 222 [])) [(.tmp 36)], none⟩,
⟨some 38, .conv .u64 (.tmp 37), none⟩,
⟨some 14, .mov (.tmp 38), none⟩] [0, 1, 2, 3, 4, 10, 11, 12, 13, 14] [12])
(.seq
(.region [
⟨some 39, .mov (.tmp 2), none⟩,
⟨some 40, .conv .u64 (.tmp 39), none⟩,
⟨some 15, .mov (.tmp 40), none⟩] [0, 1, 2, 3, 4, 10, 11, 12, 13, 14, 15] [12])
(.seq
(.region [
⟨some 41, .mov (.tmp 2), none⟩,
⟨some 42, .conv .u64 (.tmp 41), none⟩,
⟨some 43, .bin .sub (.tmp 42) (.val (.pv (.int .u64 1))), none⟩,
⟨some 16, .mov (.tmp 43), none⟩] [0, 1, 3, 4, 10, 11, 12, 13, 14, 15, 16] [12])
(.seq
(.block 0
(.loop
(.mask [0, 1, 3, 4, 10, 11, 12, 13, 14, 15, 16] [12]
(.seq
(.seq
(.region [
⟨some 44, .mov (.tmp 1), none⟩,
⟨some 45, .mov (.tmp 15), none⟩,
⟨some 46, .bin .geq (.tmp 44) (.tmp 45), none⟩] [0, 1, 3, 4, 10, 11, 12, 13, 14, 15, 16, 46] [12])
(.cond (.tmp 46)
.skip
(.exit 0)))
(.block 1
(.seq
(.region [
⟨some 47, .mov (.tmp 13), none⟩,
⟨some 48, .bin .sub (.tmp 47) (.val (.pv (.int .i64 1))), none⟩,
⟨some 13, .mov (.tmp 48), none⟩] [0, 1, 3, 4, 10, 11, 12, 13, 14, 15, 16] [12])
(.seq
(.region [
⟨some 49, .mov (.tmp 13), none⟩,
⟨some 50, .mov (.tmp 1), none⟩,
⟨some 51, .mov (.tmp 16), none⟩,
⟨some 52, .bin .and (.tmp 50) (.tmp 51), none⟩,
⟨some 53, .ixs (.val (.pv (.str ⟨#[48, 49, 50, 51, 52, 53, 54, 55, 56, 57, 97, 98, 99, 100, 101, 102, 103, 104, 105, 106, 107, 108, 109, 110, 111, 112, 113, 114, 115, 116, 117, 118, 119, 120, 121, 122]⟩))) (.tmp 52), none⟩,
⟨some 54, .idxa 65 1 (.tmp 12) (.tmp 49), none⟩,
⟨none, .store 1 (.tmp 54) (.tmp 53), none⟩] [0, 1, 3, 4, 10, 11, 12, 13, 14, 15, 16] [12])
(.region [
⟨some 55, .mov (.tmp 1), none⟩,
⟨some 56, .mov (.tmp 14), none⟩,
⟨some 57, .bin .shr (.tmp 55) (.tmp 56), none⟩,
⟨some 1, .mov (.tmp 57), none⟩] [0, 1, 3, 4, 10, 11, 12, 13, 14, 15, 16] [12]))))))))
(.seq
(.region [
⟨some 58, .mov (.tmp 13), none⟩,
⟨some 59, .bin .sub (.tmp 58) (.val (.pv (.int .i64 1))), none⟩,
⟨some 13, .mov (.tmp 59), none⟩] [0, 1, 3, 4, 10, 11, 12, 13] [12])
(.region [
⟨some 60, .mov (.tmp 13), none⟩,
⟨some 61, .mov (.tmp 1), none⟩,
⟨some 62, .ixs (.val (.pv (.str ⟨#[48, 49, 50, 51, 52, 53, 54, 55, 56, 57, 97, 98, 99, 100, 101, 102, 103, 104, 105, 106, 107, 108, 109, 110, 111, 112, 113, 114, 115, 116, 117, 118, 119, 120, 121, 122]⟩))) (.tmp 61), none⟩,
⟨some 63, .idxa 65 1 (.tmp 12) (.tmp 60), none⟩,
⟨none, .store 1 (.tmp 63) (.tmp 62), none⟩] [0, 3, 4, 10, 11, 12, 13] [12]))))))
(.seq
(.region [
⟨some 64, .mov (.tmp 2), none⟩,
⟨some 65, .conv .u64 (.tmp 64), none⟩,
⟨some 17, .mov (.tmp 65), none⟩] [0, 1, 3, 4, 10, 11, 12, 13, 17] [12])
(.seq
(.block 2
(.loop
(.mask [0, 1, 3, 4, 10, 11, 12, 13, 17] [12]
(.seq
(.seq
(.region [
⟨some 66, .mov (.tmp 1), none⟩,
⟨some 67, .mov (.tmp 17), none⟩,
⟨some 68, .bin .geq (.tmp 66) (.tmp 67), none⟩] [0, 1, 3, 4, 10, 11, 12, 13, 17, 68] [12])
(.cond (.tmp 68)
.skip
(.exit 2)))
(.block 3
(.seq
(.region [
⟨some 69, .mov (.tmp 13), none⟩,
⟨some 70, .bin .sub (.tmp 69) (.val (.pv (.int .i64 1))), none⟩,
⟨some 13, .mov (.tmp 70), none⟩] [0, 1, 3, 4, 10, 11, 12, 13, 17] [12])
(.seq
(.region [
⟨some 71, .mov (.tmp 1), none⟩,
⟨some 72, .mov (.tmp 17), none⟩,
⟨some 73, .bin .quo (.tmp 71) (.tmp 72), none⟩,
⟨some 18, .mov (.tmp 73), none⟩] [0, 1, 3, 4, 10, 11, 12, 13, 17, 18] [12])
(.seq
(.region [
⟨some 74, .mov (.tmp 13), none⟩,
⟨some 75, .mov (.tmp 1), none⟩,
⟨some 76, .mov (.tmp 18), none⟩,
⟨some 77, .mov (.tmp 17), none⟩,
⟨some 78, .bin .mul (.tmp 76) (.tmp 77), none⟩,
⟨some 79, .bin .sub (.tmp 75) (.tmp 78), none⟩,
⟨some 80, .ixs (.val (.pv (.str ⟨#[48, 49, 50, 51, 52, 53, 54, 55, 56, 57, 97, 98, 99, 100, 101, 102, 103, 104, 105, 106, 107, 108, 109, 110, 111, 112, 113, 114, 115, 116, 117, 118, 119, 120, 121, 122]⟩))) (.tmp 79), none⟩,
⟨some 81, .idxa 65 1 (.tmp 12) (.tmp 74), none⟩,
⟨none, .store 1 (.tmp 81) (.tmp 80), none⟩] [0, 3, 4, 10, 11, 12, 13, 17, 18] [12])
(.region [
⟨some 82, .mov (.tmp 18), none⟩,
⟨some 1, .mov (.tmp 82), none⟩] [0, 1, 3, 4, 10, 11, 12, 13, 17] [12])))))))))
(.seq
(.region [
⟨some 83, .mov (.tmp 13), none⟩,
⟨some 84, .bin .sub (.tmp 83) (.val (.pv (.int .i64 1))), none⟩,
⟨some 13, .mov (.tmp 84), none⟩] [0, 1, 3, 4, 10, 11, 12, 13] [12])
(.region [
⟨some 85, .mov (.tmp 13), none⟩,
⟨some 86, .mov (.tmp 1), none⟩,
⟨some 87, .ixs (.val (.pv (.str ⟨#[48, 49, 50, 51, 52, 53, 54, 55, 56, 57, 97, 98, 99, 100, 101, 102, 103, 104, 105, 106, 107, 108, 109, 110, 111, 112, 113, 114, 115, 116, 117, 118, 119, 120, 121, 122]⟩))) (.tmp 86), none⟩,
⟨some 88, .idxa 65 1 (.tmp 12) (.tmp 85), none⟩,
⟨none, .store 1 (.tmp 88) (.tmp 87), none⟩] [0, 3, 4, 10, 11, 12, 13] [12]))))))
(.seq
(.seq
(.region [
⟨some 89, .mov (.tmp 3), none⟩] [0, 4, 10, 11, 12, 13, 89] [12])
(.cond (.tmp 89)
(.seq
(.region [
⟨some 90, .mov (.tmp 13), none⟩,
⟨some 91, .bin .sub (.tmp 90) (.val (.pv (.int .i64 1))), none⟩,
⟨some 13, .mov (.tmp 91), none⟩] [0, 4, 10, 11, 12, 13] [12])
(.region [
⟨some 92, .mov (.tmp 13), none⟩,
⟨some 93, .idxa 65 1 (.tmp 12) (.tmp 92), none⟩,
⟨none, .store 1 (.tmp 93) (.val (.pv (.int .u8 45))), none⟩] [0, 4, 10, 11, 12, 13] [12]))
.skip))
(.seq
(.seq
(.region [
⟨some 94, .mov (.tmp 4), none⟩] [0, 10, 11, 12, 13, 94] [12])
(.cond (.tmp 94)
(.seq
(.region [
⟨none, .un .not (.val (.pv (.int .i64 0))), none⟩] [] [])
.ret)
.skip))
(.seq
(.region [
⟨none, .un .not (.val (.pv (.int .i64 0))), none⟩] [] [])
.ret))))))))),
[.tmp 10, .tmp 11], false, false, false⟩
def F219 : AFunc := ⟨1,
(.seq
(.region [
⟨some 2, .mov (.val (.pv (.int .i64 0))), none⟩] [0] [])
(.seq
(.region [
⟨some 3, .mov (.tmp 0), none⟩,
⟨some 4, .bin .mul (.tmp 3) (.val (.pv (.int .i64 78913))), none⟩,
⟨some 5, .bin .shr (.tmp 4) (.val (.pv (.int .u64 18))), none⟩,
⟨some 2, .mov (.tmp 5), none⟩] [2] [])
.ret)),
[.tmp 2], false, false, false⟩
def F221 : AFunc := ⟨1,
(.seq
(.region [
⟨some 2, .mov (.val (.pv (.bool false))), none⟩] [0] [])
(.seq
(.region [
⟨some 3, .mov (.tmp 0), none⟩,
⟨some 4, .mov (.tmp 0), none⟩,
⟨some 5, .bin .sub (.tmp 4) (.val (.pv (.int .i64 1))), none⟩,
⟨some 6, .bin .and (.tmp 3) (.tmp 5), none⟩,
⟨some 7, .bin .eql (.tmp 6) (.val (.pv (.int .i64 0))), none⟩,
⟨some 2, .mov (.tmp 7), none⟩] [2] [])
.ret)),
[.tmp 2], false, false, false⟩
def F222 : AFunc := ⟨1,
(.seq
(.region [
⟨some 2, .mov (.val (.pv (.int .i64 0))), none⟩] [0] [])
(.seq
(.cond (.val (.pv (.bool false)))
(.seq
(.region [
⟨some 3, .mov (.tmp 0), none⟩,
⟨some 4, .conv .u32 (.tmp 3), none⟩,
⟨some 5, .call (.val (.func 224 [])) [(.tmp 4)], none⟩,
⟨some 2, .mov (.tmp 5), none⟩] [2] [])
.ret)
.skip)
(.seq
(.region [
⟨some 6, .mov (.tmp 0), none⟩,
⟨some 7, .call (.val (.func 225 [])) [(.tmp 6)], none⟩,
⟨some 2, .mov (.tmp 7), none⟩] [2] [])
.ret))),
[.tmp 2], false, false, false⟩
def F224 : AFunc := ⟨1,
(.seq
(.region [
⟨some 2, .mov (.val (.pv (.int .i64 0))), none⟩] [0] [])
(.seq
(.seq
(.region [
⟨some 3, .mov (.tmp 0), none⟩,
⟨some 4, .bin .eql (.tmp 3) (.val (.pv (.int .u32 0))), none⟩] [0, 4] [])
(.cond (.tmp 4)
(.seq
(.region [
⟨some 2, .mov (.val (.pv (.int .i64 32))), none⟩] [2] [])
.ret)
.skip))
(.seq
(.region [
⟨none, .un .not (.val (.pv (.int .i64 0))), none⟩] [] [])
.ret))),
[.tmp 2], false, false, false⟩
def F225 : AFunc := ⟨1,
(.seq
(.region [
⟨some 2, .mov (.val (.pv (.int .i64 0))), none⟩] [0] [])
(.seq
(.seq
(.region [
⟨some 3, .mov (.tmp 0), none⟩,
⟨some 4, .bin .eql (.tmp 3) (.val (.pv (.int .u64 0))), none⟩] [0, 4] [])
(.cond (.tmp 4)
(.seq
(.region [
⟨some 2, .mov (.val (.pv (.int .i64 64))), none⟩] [2] [])
.ret)
.skip))
(.seq
(.region [
⟨none, .un .not (.val (.pv (.int .i64 0))), none⟩] [] [])
.ret))),
[.tmp 2], false, false, false⟩
end Go.Pv
