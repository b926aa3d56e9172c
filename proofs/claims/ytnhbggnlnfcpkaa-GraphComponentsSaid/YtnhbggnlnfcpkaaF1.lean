/-
  Functions of the program, read for the interpreter.
-/
import Derived.Test.YtnhbggnlnfcpkaaA4
set_option linter.unusedSimpArgs false
set_option linter.unusedVariables false
namespace Go.Pv
def F14 : AFunc := ⟨2,
(.seq
(.region [
⟨some 4, .mov (.val (.pv (.bool false))), none⟩] [0, 1] [])
(.seq
(.seq
(.region [
⟨some 6, .mov (.tmp 0), none⟩,
⟨some 7, .len 0 (.tmp 6), none⟩,
⟨some 8, .mov (.tmp 1), none⟩,
⟨some 9, .len 0 (.tmp 8), none⟩,
⟨some 10, .bin .neq (.tmp 7) (.tmp 9), none⟩] [0, 1, 10] [])
(.cond (.tmp 10)
(.seq
(.region [
⟨some 4, .mov (.val (.pv (.bool false))), none⟩] [4] [])
.ret)
.skip))
(.seq
(.seq
(.region [
⟨some 11, .mov (.tmp 0), none⟩,
⟨some 12, .len 0 (.tmp 11), none⟩,
⟨some 13, .mov (.val (.pv (.int .i64 0))), none⟩] [0, 1, 12, 13] [])
(.block 0
(.loop
(.mask [0, 1, 12, 13] []
(.seq
(.region [
⟨some 14, .bin .lss (.tmp 13) (.tmp 12), none⟩] [0, 1, 12, 13, 14] [])
(.seq
(.cond (.tmp 14)
.skip
(.exit 0))
(.seq
(.block 1
(.seq
(.region [
⟨some 15, .mov (.tmp 13), none⟩,
⟨some 5, .mov (.tmp 15), none⟩] [0, 1, 5, 12, 13] [])
(.seq
(.draw [
(⟨some 16, .mov (.tmp 0), none⟩, []),
(⟨some 17, .mov (.tmp 5), none⟩, []),
(⟨some 18, .idx 1 (.tmp 16) (.tmp 17), none⟩, []),
(⟨some 19, .load 1 false (.tmp 18), none⟩, []),
(⟨some 20, .mov (.tmp 1), none⟩, []),
(⟨some 21, .mov (.tmp 5), none⟩, []),
(⟨some 22, .idx 1 (.tmp 20) (.tmp 21), none⟩, []),
(⟨some 23, .load 1 false (.tmp 22), none⟩, []),
(⟨some 24, .bin .neq (.tmp 19) (.tmp 23), none⟩, [])] [0, 1, 12, 13, 24] [])
(.cond (.tmp 24)
(.seq
(.region [
⟨some 4, .mov (.val (.pv (.bool false))), none⟩] [4] [])
.ret)
.skip))))
(.region [
⟨some 25, .bin .add (.tmp 13) (.val (.pv (.int .i64 1))), none⟩,
⟨some 13, .mov (.tmp 25), none⟩] [0, 1, 12, 13] []))))))))
(.seq
(.region [
⟨some 4, .mov (.val (.pv (.bool true))), none⟩] [4] [])
.ret)))),
[.tmp 4], false, false, false⟩
def F60 : AFunc := ⟨2,
(.seq
(.region [
⟨some 4, .mov (.val (.pv (.int .i64 0))), none⟩] [0, 1] [])
(.seq
(.region [
⟨some 7, .mov (.tmp 0), none⟩,
⟨some 8, .call (.val (.func 66 [])) [(.tmp 7)], none⟩,
⟨some 5, .mov (.tmp 8), none⟩] [0, 1, 5] [])
(.seq
(.region [
⟨some 9, .mov (.tmp 1), none⟩,
⟨some 10, .call (.val (.func 66 [])) [(.tmp 9)], none⟩,
⟨some 6, .mov (.tmp 10), none⟩] [0, 1, 5, 6] [])
(.seq
(.seq
(.region [
⟨some 11, .mov (.tmp 5), none⟩] [0, 1, 6, 11] [])
(.cond (.tmp 11)
(.seq
(.seq
(.region [
⟨some 12, .mov (.tmp 6), none⟩] [12] [])
(.cond (.tmp 12)
(.seq
(.region [
⟨some 4, .mov (.val (.pv (.int .i64 0))), none⟩] [4] [])
.ret)
.skip))
(.seq
(.region [
⟨some 4, .mov (.val (.pv (.int .i64 (-1)))), none⟩] [4] [])
.ret))
.skip))
(.seq
(.seq
(.region [
⟨some 13, .mov (.tmp 6), none⟩] [0, 1, 13] [])
(.cond (.tmp 13)
(.seq
(.region [
⟨some 4, .mov (.val (.pv (.int .i64 1))), none⟩] [4] [])
.ret)
.skip))
(.seq
(.seq
(.region [
⟨some 14, .mov (.tmp 0), none⟩,
⟨some 15, .mov (.tmp 1), none⟩,
⟨some 16, .bin .lss (.tmp 14) (.tmp 15), none⟩] [0, 1, 16] [])
(.cond (.tmp 16)
(.seq
(.region [
⟨some 4, .mov (.val (.pv (.int .i64 (-1)))), none⟩] [4] [])
.ret)
.skip))
(.seq
(.seq
(.region [
⟨some 17, .mov (.tmp 0), none⟩,
⟨some 18, .mov (.tmp 1), none⟩,
⟨some 19, .bin .gtr (.tmp 17) (.tmp 18), none⟩] [19] [])
(.cond (.tmp 19)
(.seq
(.region [
⟨some 4, .mov (.val (.pv (.int .i64 1))), none⟩] [4] [])
.ret)
.skip))
(.seq
(.region [
⟨some 4, .mov (.val (.pv (.int .i64 0))), none⟩] [4] [])
.ret)))))))),
[.tmp 4], false, false, false⟩
def F62 : AFunc := ⟨1,
(.seq
(.region [
⟨some 2, .mov (.val (.pv (.int .i64 0))), none⟩] [0] [])
(.seq
(.cond (.val (.pv (.bool false)))
(.seq
(.region [
⟨some 3, .mov (.tmp 0), none⟩,
⟨some 4, .conv .u32 (.tmp 3), none⟩,
⟨some 5, .call (.val (.func 75 [])) [(.tmp 4)], none⟩,
⟨some 2, .mov (.tmp 5), none⟩] [2] [])
.ret)
.skip)
(.seq
(.region [
⟨some 6, .mov (.tmp 0), none⟩,
⟨some 7, .call (.val (.func 76 [])) [(.tmp 6)], none⟩,
⟨some 2, .mov (.tmp 7), none⟩] [2] [])
.ret))),
[.tmp 2], false, false, false⟩
def F66 : AFunc := ⟨1,
(.seq
(.region [
⟨some 2, .mov (.val (.pv (.bool false))), none⟩] [0] [])
(.seq
(.region [
⟨some 3, .mov (.tmp 0), none⟩,
⟨some 4, .mov (.tmp 0), none⟩,
⟨some 5, .bin .neq (.tmp 3) (.tmp 4), none⟩,
⟨some 2, .mov (.tmp 5), none⟩] [2] [])
.ret)),
[.tmp 2], false, false, false⟩
def F75 : AFunc := ⟨1,
(.seq
(.region [
⟨some 2, .mov (.val (.pv (.int .i64 0))), none⟩] [0, 2] [])
(.seq
(.seq
(.region [
⟨some 3, .mov (.tmp 0), none⟩,
⟨some 4, .bin .geq (.tmp 3) (.val (.pv (.int .u32 65536))), none⟩] [0, 2, 4] [])
(.cond (.tmp 4)
(.seq
(.region [
⟨some 5, .mov (.tmp 0), none⟩,
⟨some 6, .bin .shr (.tmp 5) (.val (.pv (.int .u64 16))), none⟩,
⟨some 0, .mov (.tmp 6), none⟩] [0] [])
(.region [
⟨some 2, .mov (.val (.pv (.int .i64 16))), none⟩] [0, 2] []))
.skip))
(.seq
(.seq
(.region [
⟨some 7, .mov (.tmp 0), none⟩,
⟨some 8, .bin .geq (.tmp 7) (.val (.pv (.int .u32 256))), none⟩] [0, 2, 8] [])
(.cond (.tmp 8)
(.seq
(.region [
⟨some 9, .mov (.tmp 0), none⟩,
⟨some 10, .bin .shr (.tmp 9) (.val (.pv (.int .u64 8))), none⟩,
⟨some 0, .mov (.tmp 10), none⟩] [0, 2] [])
(.region [
⟨some 11, .mov (.tmp 2), none⟩,
⟨some 12, .bin .add (.tmp 11) (.val (.pv (.int .i64 8))), none⟩,
⟨some 2, .mov (.tmp 12), none⟩] [0, 2] []))
.skip))
(.seq
(.region [
⟨some 13, .mov (.tmp 2), none⟩,
⟨some 14, .mov (.tmp 0), none⟩,
⟨some 15, .conv .u8 (.tmp 14), none⟩,
⟨some 16, .ixs (.val (.pv (.str ⟨#[0, 1, 2, 2, 3, 3, 3, 3, 4, 4, 4, 4, 4, 4, 4, 4, 5, 5, 5, 5, 5, 5, 5, 5, 5, 5, 5, 5, 5, 5, 5, 5, 6, 6, 6, 6, 6, 6, 6, 6, 6, 6, 6, 6, 6, 6, 6, 6, 6, 6, 6, 6, 6, 6, 6, 6, 6, 6, 6, 6, 6, 6, 6, 6, 7, 7, 7, 7, 7, 7, 7, 7, 7, 7, 7, 7, 7, 7, 7, 7, 7, 7, 7, 7, 7, 7, 7, 7, 7, 7, 7, 7, 7, 7, 7, 7, 7, 7, 7, 7, 7, 7, 7, 7, 7, 7, 7, 7, 7, 7, 7, 7, 7, 7, 7, 7, 7, 7, 7, 7, 7, 7, 7, 7, 7, 7, 7, 7, 8, 8, 8, 8, 8, 8, 8, 8, 8, 8, 8, 8, 8, 8, 8, 8, 8, 8, 8, 8, 8, 8, 8, 8, 8, 8, 8, 8, 8, 8, 8, 8, 8, 8, 8, 8, 8, 8, 8, 8, 8, 8, 8, 8, 8, 8, 8, 8, 8, 8, 8, 8, 8, 8, 8, 8, 8, 8, 8, 8, 8, 8, 8, 8, 8, 8, 8, 8, 8, 8, 8, 8, 8, 8, 8, 8, 8, 8, 8, 8, 8, 8, 8, 8, 8, 8, 8, 8, 8, 8, 8, 8, 8, 8, 8, 8, 8, 8, 8, 8, 8, 8, 8, 8, 8, 8, 8, 8, 8, 8, 8, 8, 8, 8, 8, 8, 8, 8, 8, 8, 8, 8, 8, 8, 8, 8, 8, 8]⟩))) (.tmp 15), none⟩,
⟨some 17, .conv .i64 (.tmp 16), none⟩,
⟨some 18, .bin .add (.tmp 13) (.tmp 17), none⟩,
⟨some 2, .mov (.tmp 18), none⟩] [2] [])
.ret)))),
[.tmp 2], false, false, false⟩
def F76 : AFunc := ⟨1,
(.seq
(.region [
⟨some 2, .mov (.val (.pv (.int .i64 0))), none⟩] [0, 2] [])
(.seq
(.seq
(.region [
⟨some 3, .mov (.tmp 0), none⟩,
⟨some 4, .bin .geq (.tmp 3) (.val (.pv (.int .u64 4294967296))), none⟩] [0, 2, 4] [])
(.cond (.tmp 4)
(.seq
(.region [
⟨some 5, .mov (.tmp 0), none⟩,
⟨some 6, .bin .shr (.tmp 5) (.val (.pv (.int .u64 32))), none⟩,
⟨some 0, .mov (.tmp 6), none⟩] [0] [])
(.region [
⟨some 2, .mov (.val (.pv (.int .i64 32))), none⟩] [0, 2] []))
.skip))
(.seq
(.seq
(.region [
⟨some 7, .mov (.tmp 0), none⟩,
⟨some 8, .bin .geq (.tmp 7) (.val (.pv (.int .u64 65536))), none⟩] [0, 2, 8] [])
(.cond (.tmp 8)
(.seq
(.region [
⟨some 9, .mov (.tmp 0), none⟩,
⟨some 10, .bin .shr (.tmp 9) (.val (.pv (.int .u64 16))), none⟩,
⟨some 0, .mov (.tmp 10), none⟩] [0, 2] [])
(.region [
⟨some 11, .mov (.tmp 2), none⟩,
⟨some 12, .bin .add (.tmp 11) (.val (.pv (.int .i64 16))), none⟩,
⟨some 2, .mov (.tmp 12), none⟩] [0, 2] []))
.skip))
(.seq
(.seq
(.region [
⟨some 13, .mov (.tmp 0), none⟩,
⟨some 14, .bin .geq (.tmp 13) (.val (.pv (.int .u64 256))), none⟩] [0, 2, 14] [])
(.cond (.tmp 14)
(.seq
(.region [
⟨some 15, .mov (.tmp 0), none⟩,
⟨some 16, .bin .shr (.tmp 15) (.val (.pv (.int .u64 8))), none⟩,
⟨some 0, .mov (.tmp 16), none⟩] [0, 2] [])
(.region [
⟨some 17, .mov (.tmp 2), none⟩,
⟨some 18, .bin .add (.tmp 17) (.val (.pv (.int .i64 8))), none⟩,
⟨some 2, .mov (.tmp 18), none⟩] [0, 2] []))
.skip))
(.seq
(.region [
⟨some 19, .mov (.tmp 2), none⟩,
⟨some 20, .mov (.tmp 0), none⟩,
⟨some 21, .conv .u8 (.tmp 20), none⟩,
⟨some 22, .ixs (.val (.pv (.str ⟨#[0, 1, 2, 2, 3, 3, 3, 3, 4, 4, 4, 4, 4, 4, 4, 4, 5, 5, 5, 5, 5, 5, 5, 5, 5, 5, 5, 5, 5, 5, 5, 5, 6, 6, 6, 6, 6, 6, 6, 6, 6, 6, 6, 6, 6, 6, 6, 6, 6, 6, 6, 6, 6, 6, 6, 6, 6, 6, 6, 6, 6, 6, 6, 6, 7, 7, 7, 7, 7, 7, 7, 7, 7, 7, 7, 7, 7, 7, 7, 7, 7, 7, 7, 7, 7, 7, 7, 7, 7, 7, 7, 7, 7, 7, 7, 7, 7, 7, 7, 7, 7, 7, 7, 7, 7, 7, 7, 7, 7, 7, 7, 7, 7, 7, 7, 7, 7, 7, 7, 7, 7, 7, 7, 7, 7, 7, 7, 7, 8, 8, 8, 8, 8, 8, 8, 8, 8, 8, 8, 8, 8, 8, 8, 8, 8, 8, 8, 8, 8, 8, 8, 8, 8, 8, 8, 8, 8, 8, 8, 8, 8, 8, 8, 8, 8, 8, 8, 8, 8, 8, 8, 8, 8, 8, 8, 8, 8, 8, 8, 8, 8, 8, 8, 8, 8, 8, 8, 8, 8, 8, 8, 8, 8, 8, 8, 8, 8, 8, 8, 8, 8, 8, 8, 8, 8, 8, 8, 8, 8, 8, 8, 8, 8, 8, 8, 8, 8, 8, 8, 8, 8, 8, 8, 8, 8, 8, 8, 8, 8, 8, 8, 8, 8, 8, 8, 8, 8, 8, 8, 8, 8, 8, 8, 8, 8, 8, 8, 8, 8, 8, 8, 8, 8, 8, 8, 8]⟩))) (.tmp 21), none⟩,
⟨some 23, .conv .i64 (.tmp 22), none⟩,
⟨some 24, .bin .add (.tmp 19) (.tmp 23), none⟩,
⟨some 2, .mov (.tmp 24), none⟩] [2] [])
.ret))))),
[.tmp 2], false, false, false⟩
def F79 : AFunc := ⟨1,
(.seq
(.region [
⟨some 2, .mov (.val (.pv (.int .u64 0))), none⟩] [0] [])
(.seq
(.region [
⟨some 3, .mov (.tmp 0), none⟩,
⟨some 4, .conv .u64 (.tmp 3), none⟩,
⟨some 5, .call (.val (.func 62 [])) [(.tmp 4)], none⟩,
⟨some 6, .bin .shl (.val (.pv (.int .u64 1))) (.tmp 5), none⟩,
⟨some 2, .mov (.tmp 6), none⟩] [2] [])
.ret)),
[.tmp 2], false, false, false⟩
def F80 : AFunc := ⟨1,
(.seq
(.region [
⟨some 2, .mov (.val (.pv (.int .u64 0))), none⟩] [0] [])
(.seq
(.draw [
(⟨some 3, .mov (.tmp 0), none⟩, []),
(⟨some 4, .nilck (.tmp 3), none⟩, []),
(⟨some 5, .load 1 false (.tmp 4), none⟩, []),
(⟨some 6, .mov (.tmp 0), none⟩, []),
(⟨some 7, .nilck (.tmp 6), none⟩, []),
(⟨some 8, .load 1 false (.tmp 7), none⟩, []),
(⟨some 9, .bin .shl (.tmp 8) (.val (.pv (.int .u64 13))), none⟩, []),
(⟨some 10, .bin .xor (.tmp 5) (.tmp 9), none⟩, []),
(⟨some 11, .nilck (.tmp 3), none⟩, []),
(⟨none, .store 1 (.tmp 11) (.tmp 10), none⟩, [])] [0] [])
(.seq
(.draw [
(⟨some 12, .mov (.tmp 0), none⟩, []),
(⟨some 13, .nilck (.tmp 12), none⟩, []),
(⟨some 14, .load 1 false (.tmp 13), none⟩, []),
(⟨some 15, .mov (.tmp 0), none⟩, []),
(⟨some 16, .nilck (.tmp 15), none⟩, []),
(⟨some 17, .load 1 false (.tmp 16), none⟩, []),
(⟨some 18, .bin .shr (.tmp 17) (.val (.pv (.int .u64 7))), none⟩, []),
(⟨some 19, .bin .xor (.tmp 14) (.tmp 18), none⟩, []),
(⟨some 20, .nilck (.tmp 12), none⟩, []),
(⟨none, .store 1 (.tmp 20) (.tmp 19), none⟩, [])] [0] [])
(.seq
(.draw [
(⟨some 21, .mov (.tmp 0), none⟩, []),
(⟨some 22, .nilck (.tmp 21), none⟩, []),
(⟨some 23, .load 1 false (.tmp 22), none⟩, []),
(⟨some 24, .mov (.tmp 0), none⟩, []),
(⟨some 25, .nilck (.tmp 24), none⟩, []),
(⟨some 26, .load 1 false (.tmp 25), none⟩, []),
(⟨some 27, .bin .shl (.tmp 26) (.val (.pv (.int .u64 17))), none⟩, []),
(⟨some 28, .bin .xor (.tmp 23) (.tmp 27), none⟩, []),
(⟨some 29, .nilck (.tmp 21), none⟩, []),
(⟨none, .store 1 (.tmp 29) (.tmp 28), none⟩, [])] [0] [])
(.seq
(.region [
⟨some 30, .mov (.tmp 0), none⟩,
⟨some 31, .nilck (.tmp 30), none⟩,
⟨some 32, .load 1 false (.tmp 31), none⟩,
⟨some 2, .mov (.tmp 32), none⟩] [2] [])
.ret))))),
[.tmp 2], false, false, false⟩
def F104 : AFunc := ⟨1,
(.seq
(.region [
⟨some 2, .mov (.val (.tl [])), none⟩] [0] [])
(.seq
(.seq
(.region [
⟨some 6, .mov (.tmp 0), none⟩,
⟨some 7, .len 0 (.tmp 6), none⟩,
⟨some 8, .bin .lss (.tmp 7) (.val (.pv (.int .i64 2))), none⟩] [0, 8] [])
(.cond (.tmp 8)
(.seq
(.region [
⟨some 9, .mov (.tmp 0), none⟩,
⟨some 2, .mov (.tmp 9), none⟩] [2] [])
.ret)
.skip))
(.seq
(.seq
(.region [
⟨some 3, .mov (.val (.pv (.int .i64 1))), none⟩] [0, 3] [])
(.block 0
(.loop
(.mask [0, 3] []
(.seq
(.seq
(.region [
⟨some 10, .mov (.tmp 3), none⟩,
⟨some 11, .mov (.tmp 0), none⟩,
⟨some 12, .len 0 (.tmp 11), none⟩,
⟨some 13, .bin .lss (.tmp 10) (.tmp 12), none⟩] [0, 3, 13] [])
(.cond (.tmp 13)
.skip
(.exit 0)))
(.seq
(.block 1
(.seq
(.draw [
(⟨some 16, .mov (.tmp 0), none⟩, []),
(⟨some 17, .mov (.tmp 3), none⟩, []),
(⟨some 18, .idx 1 (.tmp 16) (.tmp 17), none⟩, []),
(⟨some 19, .load 1 false (.tmp 18), none⟩, []),
(⟨some 20, .mov (.tmp 0), none⟩, []),
(⟨some 21, .mov (.tmp 3), none⟩, []),
(⟨some 22, .bin .sub (.tmp 21) (.val (.pv (.int .i64 1))), none⟩, []),
(⟨some 23, .idx 1 (.tmp 20) (.tmp 22), none⟩, []),
(⟨some 24, .load 1 false (.tmp 23), none⟩, []),
(⟨some 25, .bin .eql (.tmp 19) (.tmp 24), none⟩, [])] [0, 3, 25] [])
(.cond (.tmp 25)
(.seq
(.region [
⟨some 26, .mov (.tmp 0), none⟩,
⟨some 27, .mov (.tmp 3), none⟩,
⟨some 28, .sl 1 (.tmp 26) (some (.tmp 27)) none none, none⟩,
⟨some 4, .mov (.tmp 28), none⟩] [0, 3, 4] [])
(.seq
(.seq
(.region [
⟨some 5, .mov (.val (.pv (.int .i64 1))), none⟩] [0, 3, 4, 5] [])
(.block 2
(.loop
(.mask [0, 3, 4, 5] []
(.seq
(.seq
(.region [
⟨some 29, .mov (.tmp 5), none⟩,
⟨some 30, .mov (.tmp 4), none⟩,
⟨some 31, .len 0 (.tmp 30), none⟩,
⟨some 32, .bin .lss (.tmp 29) (.tmp 31), none⟩] [0, 3, 4, 5, 32] [])
(.cond (.tmp 32)
.skip
(.exit 2)))
(.seq
(.block 3
(.seq
(.draw [
(⟨some 35, .mov (.tmp 4), none⟩, []),
(⟨some 36, .mov (.tmp 5), none⟩, []),
(⟨some 37, .idx 1 (.tmp 35) (.tmp 36), none⟩, []),
(⟨some 38, .load 1 false (.tmp 37), none⟩, []),
(⟨some 39, .mov (.tmp 4), none⟩, []),
(⟨some 40, .mov (.tmp 5), none⟩, []),
(⟨some 41, .bin .sub (.tmp 40) (.val (.pv (.int .i64 1))), none⟩, []),
(⟨some 42, .idx 1 (.tmp 39) (.tmp 41), none⟩, []),
(⟨some 43, .load 1 false (.tmp 42), none⟩, []),
(⟨some 44, .bin .neq (.tmp 38) (.tmp 43), none⟩, [])] [0, 3, 4, 5, 44] [])
(.cond (.tmp 44)
(.seq
(.region [
⟨some 45, .mov (.tmp 0), none⟩,
⟨some 46, .mov (.tmp 3), none⟩,
⟨some 47, .mov (.tmp 4), none⟩,
⟨some 48, .mov (.tmp 5), none⟩,
⟨some 49, .idx 1 (.tmp 47) (.tmp 48), none⟩,
⟨some 50, .load 1 false (.tmp 49), none⟩,
⟨some 51, .idx 1 (.tmp 45) (.tmp 46), none⟩,
⟨none, .store 1 (.tmp 51) (.tmp 50), none⟩] [0, 3, 4, 5] [])
(.region [
⟨some 52, .mov (.tmp 3), none⟩,
⟨some 53, .bin .add (.tmp 52) (.val (.pv (.int .i64 1))), none⟩,
⟨some 3, .mov (.tmp 53), none⟩] [0, 3, 4, 5] []))
.skip)))
(.region [
⟨some 33, .mov (.tmp 5), none⟩,
⟨some 34, .bin .add (.tmp 33) (.val (.pv (.int .i64 1))), none⟩,
⟨some 5, .mov (.tmp 34), none⟩] [0, 3, 4, 5] [])))))))
(.seq
(.region [
⟨some 54, .mov (.tmp 0), none⟩,
⟨some 55, .mov (.tmp 3), none⟩,
⟨some 56, .sl 1 (.tmp 54) (some (.tmp 55)) none none, none⟩,
⟨none, .clr 1 [.pv (.int .i64 0)] (.tmp 56), none⟩] [0, 3] [])
(.seq
(.region [
⟨some 57, .mov (.tmp 0), none⟩,
⟨some 58, .mov (.tmp 3), none⟩,
⟨some 59, .sl 1 (.tmp 57) none (some (.tmp 58)) none, none⟩,
⟨some 2, .mov (.tmp 59), none⟩] [2] [])
.ret))))
.skip)))
(.region [
⟨some 14, .mov (.tmp 3), none⟩,
⟨some 15, .bin .add (.tmp 14) (.val (.pv (.int .i64 1))), none⟩,
⟨some 3, .mov (.tmp 15), none⟩] [0, 3] [])))))))
(.seq
(.region [
⟨some 60, .mov (.tmp 0), none⟩,
⟨some 2, .mov (.tmp 60), none⟩] [2] [])
.ret)))),
[.tmp 2], true, true, false⟩
def F108 : AFunc := ⟨2,
(.seq
(.region [
⟨some 4, .mov (.val (.pv (.bool false))), none⟩] [0, 1] [])
(.seq
(.region [
⟨some 5, .mov (.tmp 0), none⟩,
⟨some 6, .mov (.tmp 1), none⟩,
⟨some 7, .call (.val (.func 117 [])) [(.tmp 5), (.tmp 6)], none⟩,
⟨some 8, .bin .geq (.tmp 7) (.val (.pv (.int .i64 0))), none⟩,
⟨some 4, .mov (.tmp 8), none⟩] [4] [])
.ret)),
[.tmp 4], false, false, false⟩
def F112 : AFunc := ⟨3,
(.seq
(.region [
⟨some 3, .box 3 1 (.tmp 0), none⟩,
⟨some 6, .mov (.val (.pv (.int .i64 0))), none⟩] [1, 2, 3] [3])
(.seq
(.seq
(.region [
⟨some 8, .load 1 false (.tmp 3), none⟩,
⟨some 9, .mov (.tmp 1), none⟩,
⟨some 10, .call (.val (.func 128 [])) [(.tmp 8), (.tmp 9)], none⟩,
⟨some 7, .mov (.tmp 10), none⟩] [2, 3, 7] [3])
(.seq
(.region [
⟨some 11, .mov (.tmp 7), none⟩,
⟨some 12, .bin .neq (.tmp 11) (.val (.pv (.int .i64 0))), none⟩] [2, 3, 7, 12] [3])
(.cond (.tmp 12)
(.seq
(.region [
⟨some 13, .mov (.tmp 7), none⟩,
⟨some 6, .mov (.tmp 13), none⟩] [6] [])
.ret)
.skip)))
(.seq
(.seq
(.region [
⟨some 14, .mov (.tmp 2), none⟩,
⟨some 15, .clos 129 [(.tmp 3)], none⟩,
⟨some 16, .call (.val (.func 108 [])) [(.tmp 14), (.tmp 15)], none⟩] [16] [])
(.cond (.tmp 16)
(.seq
(.region [
⟨some 6, .mov (.val (.pv (.int .i64 7))), none⟩] [6] [])
.ret)
.skip))
(.seq
(.region [
⟨some 6, .mov (.val (.pv (.int .i64 0))), none⟩] [6] [])
.ret)))),
[.tmp 6], false, false, false⟩
def F113 : AFunc := ⟨1,
(.seq
(.region [
⟨some 2, .mov (.val (.tl [])), none⟩] [0] [])
(.seq
(.region [
⟨some 3, .mov (.val (.tl [])), none⟩] [0, 3] [])
(.seq
(.seq
(.region [
⟨some 6, .mov (.tmp 0), none⟩,
⟨some 7, .len 0 (.tmp 6), none⟩,
⟨some 8, .mov (.val (.pv (.int .i64 0))), none⟩] [3, 6, 7, 8] [])
(.block 0
(.loop
(.mask [3, 6, 7, 8] []
(.seq
(.region [
⟨some 9, .bin .lss (.tmp 8) (.tmp 7), none⟩] [3, 6, 7, 8, 9] [])
(.seq
(.cond (.tmp 9)
.skip
(.exit 0))
(.seq
(.block 1
(.seq
(.region [
⟨some 10, .mov (.tmp 8), none⟩,
⟨some 11, .idx 1 (.tmp 6) (.tmp 8), none⟩,
⟨some 12, .load 1 false (.tmp 11), none⟩,
⟨some 4, .mov (.tmp 10), none⟩,
⟨some 5, .mov (.tmp 12), none⟩] [3, 4, 5, 6, 7, 8] [])
(.seq
(.region [
⟨some 13, .mov (.tmp 5), none⟩,
⟨some 14, .bin .geq (.tmp 13) (.val (.pv (.int .i64 0))), none⟩] [3, 4, 6, 7, 8, 14] [])
(.cond (.tmp 14)
(.region [
⟨some 15, .mov (.tmp 3), none⟩,
⟨some 16, .mov (.tmp 4), none⟩,
⟨some 17, .lit 1 [.pv (.int .i64 0)] 1 [(0, 1, (.tmp 16))], none⟩,
⟨some 18, .app 1 (.tmp 15) (.tmp 17), none⟩,
⟨some 3, .mov (.tmp 18), none⟩] [3, 6, 7, 8] [])
.skip))))
(.region [
⟨some 19, .bin .add (.tmp 8) (.val (.pv (.int .i64 1))), none⟩,
⟨some 8, .mov (.tmp 19), none⟩] [3, 6, 7, 8] []))))))))
(.seq
(.region [
⟨some 20, .mov (.tmp 3), none⟩,
⟨some 2, .mov (.tmp 20), none⟩] [2] [])
.ret)))),
[.tmp 2], false, false, false⟩
def F114 : AFunc := ⟨2,
(.seq
(.region [
⟨some 4, .mov (.val (.tl [])), none⟩] [0, 1] [])
(.seq
(.region [
⟨some 13, .lit 1 [.pv (.int .i64 0)] 1 [(0, 1, (.val (.pv (.int .i64 (-1)))))], none⟩,
⟨some 14, .mov (.tmp 0), none⟩,
⟨some 15, .len 0 (.tmp 14), none⟩,
⟨some 16, .call (.val (.func 130 [])) [(.tmp 13), (.tmp 15)], none⟩,
⟨some 5, .mov (.tmp 16), none⟩] [0, 1, 5] [])
(.seq
(.region [
⟨some 6, .mov (.val (.tl [])), none⟩] [0, 1, 5, 6] [])
(.seq
(.seq
(.region [
⟨some 17, .mov (.tmp 1), none⟩,
⟨some 18, .len 0 (.tmp 17), none⟩,
⟨some 19, .mov (.val (.pv (.int .i64 0))), none⟩] [0, 5, 6, 17, 18, 19] [])
(.block 0
(.loop
(.mask [0, 5, 6, 17, 18, 19] []
(.seq
(.region [
⟨some 20, .bin .lss (.tmp 19) (.tmp 18), none⟩] [0, 5, 6, 17, 18, 19, 20] [])
(.seq
(.cond (.tmp 20)
.skip
(.exit 0))
(.seq
(.block 1
(.seq
(.region [
⟨some 21, .idx 1 (.tmp 17) (.tmp 19), none⟩,
⟨some 22, .load 1 false (.tmp 21), none⟩,
⟨some 8, .mov (.tmp 22), none⟩] [0, 5, 6, 8, 17, 18, 19] [])
(.seq
(.region [
⟨some 23, .mov (.tmp 5), none⟩,
⟨some 24, .mov (.tmp 8), none⟩,
⟨some 25, .idx 1 (.tmp 23) (.tmp 24), none⟩,
⟨some 26, .load 1 false (.tmp 25), none⟩,
⟨some 27, .bin .lss (.tmp 26) (.val (.pv (.int .i64 0))), none⟩] [0, 5, 6, 8, 17, 18, 19, 27] [])
(.cond (.tmp 27)
(.seq
(.region [
⟨some 28, .mov (.tmp 5), none⟩,
⟨some 29, .mov (.tmp 8), none⟩,
⟨some 30, .idx 1 (.tmp 28) (.tmp 29), none⟩,
⟨none, .store 1 (.tmp 30) (.val (.pv (.int .i64 0))), none⟩] [0, 5, 6, 8, 17, 18, 19] [])
(.region [
⟨some 31, .mov (.tmp 6), none⟩,
⟨some 32, .mov (.tmp 8), none⟩,
⟨some 33, .lit 1 [.pv (.int .i64 0)] 1 [(0, 1, (.tmp 32))], none⟩,
⟨some 34, .app 1 (.tmp 31) (.tmp 33), none⟩,
⟨some 6, .mov (.tmp 34), none⟩] [0, 5, 6, 17, 18, 19] []))
.skip))))
(.region [
⟨some 35, .bin .add (.tmp 19) (.val (.pv (.int .i64 1))), none⟩,
⟨some 19, .mov (.tmp 35), none⟩] [0, 5, 6, 17, 18, 19] []))))))))
(.seq
(.seq
(.region [
⟨some 9, .mov (.val (.pv (.int .i64 0))), none⟩] [0, 5, 6, 9] [])
(.block 2
(.loop
(.mask [0, 5, 6, 9] []
(.seq
(.seq
(.region [
⟨some 36, .mov (.tmp 9), none⟩,
⟨some 37, .mov (.tmp 6), none⟩,
⟨some 38, .len 0 (.tmp 37), none⟩,
⟨some 39, .bin .lss (.tmp 36) (.tmp 38), none⟩] [0, 5, 6, 9, 39] [])
(.cond (.tmp 39)
.skip
(.exit 2)))
(.seq
(.block 3
(.seq
(.region [
⟨some 42, .mov (.tmp 6), none⟩,
⟨some 43, .mov (.tmp 9), none⟩,
⟨some 44, .idx 1 (.tmp 42) (.tmp 43), none⟩,
⟨some 45, .load 1 false (.tmp 44), none⟩,
⟨some 10, .mov (.tmp 45), none⟩] [0, 5, 6, 9, 10] [])
(.seq
(.region [
⟨some 46, .mov (.tmp 0), none⟩,
⟨some 47, .mov (.tmp 10), none⟩,
⟨some 48, .idx 1 (.tmp 46) (.tmp 47), none⟩,
⟨some 49, .load 1 false (.tmp 48), none⟩,
⟨some 50, .len 0 (.tmp 49), none⟩,
⟨some 51, .mov (.val (.pv (.int .i64 0))), none⟩] [0, 5, 6, 9, 10, 49, 50, 51] [])
(.block 4
(.loop
(.mask [0, 5, 6, 9, 10, 49, 50, 51] []
(.seq
(.region [
⟨some 52, .bin .lss (.tmp 51) (.tmp 50), none⟩] [0, 5, 6, 9, 10, 49, 50, 51, 52] [])
(.seq
(.cond (.tmp 52)
.skip
(.exit 4))
(.seq
(.block 5
(.seq
(.region [
⟨some 53, .idx 1 (.tmp 49) (.tmp 51), none⟩,
⟨some 54, .load 1 false (.tmp 53), none⟩,
⟨some 12, .mov (.tmp 54), none⟩] [0, 5, 6, 9, 10, 12, 49, 50, 51] [])
(.seq
(.region [
⟨some 55, .mov (.tmp 5), none⟩,
⟨some 56, .mov (.tmp 12), none⟩,
⟨some 57, .idx 1 (.tmp 55) (.tmp 56), none⟩,
⟨some 58, .load 1 false (.tmp 57), none⟩,
⟨some 59, .bin .lss (.tmp 58) (.val (.pv (.int .i64 0))), none⟩] [0, 5, 6, 9, 10, 12, 49, 50, 51, 59] [])
(.cond (.tmp 59)
(.seq
(.region [
⟨some 60, .mov (.tmp 5), none⟩,
⟨some 61, .mov (.tmp 12), none⟩,
⟨some 62, .mov (.tmp 5), none⟩,
⟨some 63, .mov (.tmp 10), none⟩,
⟨some 64, .idx 1 (.tmp 62) (.tmp 63), none⟩,
⟨some 65, .load 1 false (.tmp 64), none⟩,
⟨some 66, .bin .add (.tmp 65) (.val (.pv (.int .i64 1))), none⟩,
⟨some 67, .idx 1 (.tmp 60) (.tmp 61), none⟩,
⟨none, .store 1 (.tmp 67) (.tmp 66), none⟩] [0, 5, 6, 9, 10, 12, 49, 50, 51] [])
(.region [
⟨some 68, .mov (.tmp 6), none⟩,
⟨some 69, .mov (.tmp 12), none⟩,
⟨some 70, .lit 1 [.pv (.int .i64 0)] 1 [(0, 1, (.tmp 69))], none⟩,
⟨some 71, .app 1 (.tmp 68) (.tmp 70), none⟩,
⟨some 6, .mov (.tmp 71), none⟩] [0, 5, 6, 9, 10, 49, 50, 51] []))
.skip))))
(.region [
⟨some 72, .bin .add (.tmp 51) (.val (.pv (.int .i64 1))), none⟩,
⟨some 51, .mov (.tmp 72), none⟩] [0, 5, 6, 9, 10, 49, 50, 51] []))))))))))
(.region [
⟨some 40, .mov (.tmp 9), none⟩,
⟨some 41, .bin .add (.tmp 40) (.val (.pv (.int .i64 1))), none⟩,
⟨some 9, .mov (.tmp 41), none⟩] [0, 5, 6, 9] [])))))))
(.seq
(.region [
⟨some 73, .mov (.tmp 5), none⟩,
⟨some 4, .mov (.tmp 73), none⟩] [4] [])
.ret)))))),
[.tmp 4], false, false, false⟩
def F115 : AFunc := ⟨2,
(.seq
(.region [
⟨some 4, .mov (.val (.tl [])), none⟩] [0, 1] [])
(.seq
(.region [
⟨some 9, .mov (.tmp 0), none⟩,
⟨some 10, .make 1 [.tl []] (.tmp 9) (.tmp 9), none⟩,
⟨some 5, .mov (.tmp 10), none⟩] [1, 5] [])
(.seq
(.seq
(.region [
⟨some 11, .mov (.tmp 1), none⟩,
⟨some 12, .len 0 (.tmp 11), none⟩,
⟨some 13, .mov (.val (.pv (.int .i64 0))), none⟩] [5, 11, 12, 13] [])
(.block 0
(.loop
(.mask [5, 11, 12, 13] []
(.seq
(.region [
⟨some 14, .bin .lss (.tmp 13) (.tmp 12), none⟩] [5, 11, 12, 13, 14] [])
(.seq
(.cond (.tmp 14)
.skip
(.exit 0))
(.seq
(.block 1
(.seq
(.region [
⟨some 15, .idx 2 (.tmp 11) (.tmp 13), none⟩,
⟨some 16, .load 2 true (.tmp 15), none⟩,
⟨some 7, .alloc 7 [.pv (.int .i64 0), .pv (.int .i64 0)], none⟩,
⟨none, .store 2 (.tmp 7) (.tmp 16), none⟩] [5, 7, 11, 12, 13] [7])
(.draw [
(⟨some 17, .mov (.tmp 5), none⟩, []),
(⟨some 18, .idxa 2 1 (.tmp 7) (.val (.pv (.int .i64 0))), none⟩, []),
(⟨some 19, .load 1 false (.tmp 18), none⟩, []),
(⟨some 20, .mov (.tmp 5), none⟩, []),
(⟨some 21, .idxa 2 1 (.tmp 7) (.val (.pv (.int .i64 0))), none⟩, []),
(⟨some 22, .load 1 false (.tmp 21), none⟩, []),
(⟨some 23, .idx 1 (.tmp 20) (.tmp 22), none⟩, []),
(⟨some 24, .load 1 false (.tmp 23), none⟩, []),
(⟨some 25, .idxa 2 1 (.tmp 7) (.val (.pv (.int .i64 1))), none⟩, []),
(⟨some 26, .load 1 false (.tmp 25), none⟩, []),
(⟨some 27, .lit 1 [.pv (.int .i64 0)] 1 [(0, 1, (.tmp 26))], none⟩, [2, 5, 6, 7]),
(⟨some 28, .app 1 (.tmp 24) (.tmp 27), none⟩, [2]),
(⟨some 29, .idx 1 (.tmp 17) (.tmp 19), none⟩, []),
(⟨none, .store 1 (.tmp 29) (.tmp 28), none⟩, [])] [5, 11, 12, 13] [])))
(.region [
⟨some 30, .bin .add (.tmp 13) (.val (.pv (.int .i64 1))), none⟩,
⟨some 13, .mov (.tmp 30), none⟩] [5, 11, 12, 13] []))))))))
(.seq
(.seq
(.region [
⟨some 31, .mov (.tmp 5), none⟩,
⟨some 32, .len 0 (.tmp 31), none⟩,
⟨some 33, .mov (.val (.pv (.int .i64 0))), none⟩] [5, 32, 33] [])
(.block 2
(.loop
(.mask [5, 32, 33] []
(.seq
(.region [
⟨some 34, .bin .lss (.tmp 33) (.tmp 32), none⟩] [5, 32, 33, 34] [])
(.seq
(.cond (.tmp 34)
.skip
(.exit 2))
(.seq
(.block 3
(.seq
(.region [
⟨some 35, .mov (.tmp 33), none⟩,
⟨some 8, .mov (.tmp 35), none⟩] [5, 8, 32, 33] [])
(.seq
(.region [
⟨some 36, .mov (.tmp 5), none⟩,
⟨some 37, .mov (.tmp 8), none⟩,
⟨some 38, .idx 1 (.tmp 36) (.tmp 37), none⟩,
⟨some 39, .load 1 false (.tmp 38), none⟩,
⟨some 40, .call (.val (.func 103 [])) [(.tmp 39)], none⟩] [5, 8, 32, 33] [])
(.region [
⟨some 41, .mov (.tmp 5), none⟩,
⟨some 42, .mov (.tmp 8), none⟩,
⟨some 43, .mov (.tmp 5), none⟩,
⟨some 44, .mov (.tmp 8), none⟩,
⟨some 45, .idx 1 (.tmp 43) (.tmp 44), none⟩,
⟨some 46, .load 1 false (.tmp 45), none⟩,
⟨some 47, .call (.val (.func 104 [])) [(.tmp 46)], none⟩,
⟨some 48, .idx 1 (.tmp 41) (.tmp 42), none⟩,
⟨none, .store 1 (.tmp 48) (.tmp 47), none⟩] [5, 32, 33] []))))
(.region [
⟨some 49, .bin .add (.tmp 33) (.val (.pv (.int .i64 1))), none⟩,
⟨some 33, .mov (.tmp 49), none⟩] [5, 32, 33] []))))))))
(.seq
(.region [
⟨some 50, .mov (.tmp 5), none⟩,
⟨some 4, .mov (.tmp 50), none⟩] [4] [])
.ret))))),
[.tmp 4], false, false, false⟩
def F116 : AFunc := ⟨1,
(.seq
(.region [
⟨some 2, .mov (.val (.tl [])), none⟩] [0] [])
(.seq
(.region [
⟨some 6, .mov (.tmp 0), none⟩,
⟨some 7, .len 0 (.tmp 6), none⟩,
⟨some 8, .make 2 [.pv (.int .i64 0), .pv (.int .i64 0)] (.tmp 7) (.tmp 7), none⟩,
⟨some 3, .mov (.tmp 8), none⟩] [0, 3] [])
(.seq
(.seq
(.region [
⟨some 9, .mov (.tmp 0), none⟩,
⟨some 10, .len 0 (.tmp 9), none⟩,
⟨some 11, .mov (.val (.pv (.int .i64 0))), none⟩] [3, 9, 10, 11] [])
(.block 0
(.loop
(.mask [3, 9, 10, 11] []
(.seq
(.region [
⟨some 12, .bin .lss (.tmp 11) (.tmp 10), none⟩] [3, 9, 10, 11, 12] [])
(.seq
(.cond (.tmp 12)
.skip
(.exit 0))
(.seq
(.block 1
(.seq
(.region [
⟨some 13, .mov (.tmp 11), none⟩,
⟨some 14, .idx 2 (.tmp 9) (.tmp 11), none⟩,
⟨some 15, .load 2 true (.tmp 14), none⟩,
⟨some 5, .alloc 5 [.pv (.int .i64 0), .pv (.int .i64 0)], none⟩,
⟨some 4, .mov (.tmp 13), none⟩,
⟨none, .store 2 (.tmp 5) (.tmp 15), none⟩] [3, 4, 5, 9, 10, 11] [5])
(.region [
⟨some 16, .mov (.tmp 3), none⟩,
⟨some 17, .mov (.tmp 4), none⟩,
⟨some 18, .idxa 2 1 (.tmp 5) (.val (.pv (.int .i64 1))), none⟩,
⟨some 19, .load 1 false (.tmp 18), none⟩,
⟨some 20, .idxa 2 1 (.tmp 5) (.val (.pv (.int .i64 0))), none⟩,
⟨some 21, .load 1 false (.tmp 20), none⟩,
⟨some 22, .build [.pv (.int .i64 0), .pv (.int .i64 0)] [(0, 1, (.tmp 19)), (1, 1, (.tmp 21))], none⟩,
⟨some 23, .idx 2 (.tmp 16) (.tmp 17), none⟩,
⟨none, .store 2 (.tmp 23) (.tmp 22), none⟩] [3, 9, 10, 11] [])))
(.region [
⟨some 24, .bin .add (.tmp 11) (.val (.pv (.int .i64 1))), none⟩,
⟨some 11, .mov (.tmp 24), none⟩] [3, 9, 10, 11] []))))))))
(.seq
(.region [
⟨some 25, .mov (.tmp 3), none⟩,
⟨some 2, .mov (.tmp 25), none⟩] [2] [])
.ret)))),
[.tmp 2], false, false, false⟩
def F117 : AFunc := ⟨2,
(.seq
(.region [
⟨some 4, .mov (.val (.pv (.int .i64 0))), none⟩] [0, 1] [])
(.seq
(.seq
(.region [
⟨some 6, .mov (.tmp 0), none⟩,
⟨some 7, .len 0 (.tmp 6), none⟩,
⟨some 8, .mov (.val (.pv (.int .i64 0))), none⟩] [0, 1, 7, 8] [])
(.block 0
(.loop
(.mask [0, 1, 7, 8] []
(.seq
(.region [
⟨some 9, .bin .lss (.tmp 8) (.tmp 7), none⟩] [0, 1, 7, 8, 9] [])
(.seq
(.cond (.tmp 9)
.skip
(.exit 0))
(.seq
(.block 1
(.seq
(.region [
⟨some 10, .mov (.tmp 8), none⟩,
⟨some 5, .mov (.tmp 10), none⟩] [0, 1, 5, 7, 8] [])
(.seq
(.region [
⟨some 11, .mov (.tmp 1), none⟩,
⟨some 12, .mov (.tmp 0), none⟩,
⟨some 13, .mov (.tmp 5), none⟩,
⟨some 14, .idx 1 (.tmp 12) (.tmp 13), none⟩,
⟨some 15, .load 1 false (.tmp 14), none⟩,
⟨some 16, .call (.tmp 11) [(.tmp 15)], none⟩] [0, 1, 5, 7, 8, 16] [])
(.cond (.tmp 16)
(.seq
(.region [
⟨some 17, .mov (.tmp 5), none⟩,
⟨some 4, .mov (.tmp 17), none⟩] [4] [])
.ret)
.skip))))
(.region [
⟨some 18, .bin .add (.tmp 8) (.val (.pv (.int .i64 1))), none⟩,
⟨some 8, .mov (.tmp 18), none⟩] [0, 1, 7, 8] []))))))))
(.seq
(.region [
⟨some 4, .mov (.val (.pv (.int .i64 (-1)))), none⟩] [4] [])
.ret))),
[.tmp 4], false, false, false⟩
def F118 : AFunc := ⟨2,
(.seq
(.region [
⟨some 4, .mov (.val (.pv (.int .i64 0))), none⟩] [0, 1] [])
(.seq
(.seq
(.region [
⟨some 6, .mov (.tmp 0), none⟩,
⟨some 7, .len 0 (.tmp 6), none⟩,
⟨some 8, .mov (.val (.pv (.int .i64 0))), none⟩] [0, 1, 7, 8] [])
(.block 0
(.loop
(.mask [0, 1, 7, 8] []
(.seq
(.region [
⟨some 9, .bin .lss (.tmp 8) (.tmp 7), none⟩] [0, 1, 7, 8, 9] [])
(.seq
(.cond (.tmp 9)
.skip
(.exit 0))
(.seq
(.block 1
(.seq
(.region [
⟨some 10, .mov (.tmp 8), none⟩,
⟨some 5, .mov (.tmp 10), none⟩] [0, 1, 5, 7, 8] [])
(.seq
(.region [
⟨some 11, .mov (.tmp 1), none⟩,
⟨some 12, .mov (.tmp 0), none⟩,
⟨some 13, .mov (.tmp 5), none⟩,
⟨some 14, .idx 1 (.tmp 12) (.tmp 13), none⟩,
⟨some 15, .load 1 false (.tmp 14), none⟩,
⟨some 16, .bin .eql (.tmp 11) (.tmp 15), none⟩] [0, 1, 5, 7, 8, 16] [])
(.cond (.tmp 16)
(.seq
(.region [
⟨some 17, .mov (.tmp 5), none⟩,
⟨some 4, .mov (.tmp 17), none⟩] [4] [])
.ret)
.skip))))
(.region [
⟨some 18, .bin .add (.tmp 8) (.val (.pv (.int .i64 1))), none⟩,
⟨some 8, .mov (.tmp 18), none⟩] [0, 1, 7, 8] []))))))))
(.seq
(.region [
⟨some 4, .mov (.val (.pv (.int .i64 (-1)))), none⟩] [4] [])
.ret))),
[.tmp 4], false, false, false⟩
def F128 : AFunc := ⟨2,
(.seq
(.region [
⟨some 2, .box 2 1 (.tmp 0), none⟩,
⟨some 4, .mov (.val (.pv (.int .i64 0))), none⟩] [1, 2] [2])
(.seq
(.seq
(.region [
⟨some 5, .load 1 false (.tmp 2), none⟩,
⟨some 6, .bin .gtr (.tmp 5) (.val (.pv (.int .i64 2000))), none⟩,
⟨some 7, .mov (.tmp 6), none⟩,
⟨some 8, .mov (.tmp 1), some (7, false)⟩,
⟨some 9, .len 0 (.tmp 8), some (7, false)⟩,
⟨some 10, .bin .gtr (.tmp 9) (.val (.pv (.int .i64 40000))), some (7, false)⟩,
⟨some 11, .pick (.tmp 7) (.val (.pv (.bool true))) (.tmp 10), none⟩] [1, 2, 11] [2])
(.cond (.tmp 11)
(.seq
(.region [
⟨some 4, .mov (.val (.pv (.int .i64 3))), none⟩] [4] [])
.ret)
.skip))
(.seq
(.seq
(.region [
⟨some 12, .load 1 false (.tmp 2), none⟩,
⟨some 13, .bin .lss (.tmp 12) (.val (.pv (.int .i64 0))), none⟩,
⟨some 14, .mov (.tmp 13), none⟩,
⟨some 15, .mov (.tmp 1), some (14, false)⟩,
⟨some 16, .clos 135 [(.tmp 2)], some (14, false)⟩,
⟨some 17, .call (.val (.func 134 [])) [(.tmp 15), (.tmp 16)], some (14, false)⟩,
⟨some 18, .pick (.tmp 14) (.val (.pv (.bool true))) (.tmp 17), none⟩] [18] [])
(.cond (.tmp 18)
(.seq
(.region [
⟨some 4, .mov (.val (.pv (.int .i64 1))), none⟩] [4] [])
.ret)
.skip))
(.seq
(.region [
⟨some 4, .mov (.val (.pv (.int .i64 0))), none⟩] [4] [])
.ret)))),
[.tmp 4], false, false, false⟩
def F129 : AFunc := ⟨2,
(.seq
(.region [
⟨some 3, .mov (.val (.pv (.bool false))), none⟩] [0, 1] [])
(.seq
(.region [
⟨some 4, .mov (.tmp 0), none⟩,
⟨some 5, .bin .lss (.tmp 4) (.val (.pv (.int .i64 0))), none⟩,
⟨some 6, .mov (.tmp 5), none⟩,
⟨some 7, .mov (.tmp 0), some (6, false)⟩,
⟨some 8, .load 1 false (.tmp 1), some (6, false)⟩,
⟨some 9, .bin .geq (.tmp 7) (.tmp 8), some (6, false)⟩,
⟨some 10, .pick (.tmp 6) (.val (.pv (.bool true))) (.tmp 9), none⟩,
⟨some 3, .mov (.tmp 10), none⟩] [3] [])
.ret)),
[.tmp 3], false, false, false⟩
def F130 : AFunc := ⟨2,
(.seq
(.region [
⟨some 4, .mov (.val (.tl [])), none⟩] [0, 1] [])
(.seq
(.seq
(.region [
⟨some 9, .mov (.tmp 1), none⟩,
⟨some 10, .bin .lss (.tmp 9) (.val (.pv (.int .i64 0))), none⟩] [0, 1, 10] [])
(.cond (.tmp 10)
(.region [
⟨some 11, .minmax true [], none⟩,
⟨none, .minmax true [], none⟩] [0, 1] [])
.skip))
(.seq
(.region [
⟨some 13, .mov (.tmp 0), none⟩,
⟨some 14, .len 0 (.tmp 13), none⟩,
⟨some 15, .conv .u64 (.tmp 14), none⟩,
⟨some 16, .mov (.tmp 1), none⟩,
⟨some 17, .conv .u64 (.tmp 16), none⟩,
⟨some 18, .call (.val (.func 136 [])) [(.tmp 15), (.tmp 17)], none⟩,
⟨some 12, .mov (.tmp 18), none⟩,
⟨some 19, .ext (.tmp 12) 0, none⟩,
⟨some 20, .ext (.tmp 12) 1, none⟩,
⟨some 5, .mov (.tmp 19), none⟩,
⟨some 6, .mov (.tmp 20), none⟩] [0, 5, 6] [])
(.seq
(.seq
(.region [
⟨some 21, .mov (.tmp 5), none⟩,
⟨some 22, .bin .gtr (.tmp 21) (.val (.pv (.int .u64 0))), none⟩,
⟨some 23, .mov (.tmp 22), none⟩,
⟨some 24, .mov (.tmp 6), some (23, false)⟩,
⟨some 25, .bin .gtr (.tmp 24) (.val (.pv (.int .u64 9223372036854775807))), some (23, false)⟩,
⟨some 26, .pick (.tmp 23) (.val (.pv (.bool true))) (.tmp 25), none⟩] [0, 6, 26] [])
(.cond (.tmp 26)
(.region [
⟨some 27, .minmax true [], none⟩,
⟨none, .minmax true [], none⟩] [0, 6] [])
.skip))
(.seq
(.region [
⟨some 28, .mov (.tmp 6), none⟩,
⟨some 29, .conv .i64 (.tmp 28), none⟩,
⟨some 30, .make 1 [.pv (.int .i64 0)] (.tmp 29) (.tmp 29), none⟩,
⟨some 7, .mov (.tmp 30), none⟩] [0, 7] [])
(.seq
(.region [
⟨some 31, .mov (.tmp 7), none⟩,
⟨some 32, .mov (.tmp 0), none⟩,
⟨some 33, .copy 1 (.tmp 31) (.tmp 32), none⟩,
⟨some 8, .mov (.tmp 33), none⟩] [7, 8] [])
(.seq
(.block 0
(.loop
(.mask [7, 8] []
(.seq
(.seq
(.region [
⟨some 34, .mov (.tmp 8), none⟩,
⟨some 35, .mov (.tmp 7), none⟩,
⟨some 36, .len 0 (.tmp 35), none⟩,
⟨some 37, .bin .lss (.tmp 34) (.tmp 36), none⟩] [7, 8, 37] [])
(.cond (.tmp 37)
.skip
(.exit 0)))
(.block 1
(.draw [
(⟨some 38, .mov (.tmp 8), none⟩, []),
(⟨some 39, .mov (.tmp 7), none⟩, []),
(⟨some 40, .mov (.tmp 8), none⟩, []),
(⟨some 41, .sl 1 (.tmp 39) (some (.tmp 40)) none none, none⟩, []),
(⟨some 42, .mov (.tmp 7), none⟩, []),
(⟨some 43, .mov (.tmp 8), none⟩, []),
(⟨some 44, .sl 1 (.tmp 42) none (some (.tmp 43)) none, none⟩, []),
(⟨some 45, .copy 1 (.tmp 41) (.tmp 44), none⟩, []),
(⟨some 46, .bin .add (.tmp 38) (.tmp 45), none⟩, []),
(⟨some 8, .mov (.tmp 46), none⟩, [])] [7, 8] []))))))
(.seq
(.region [
⟨some 47, .mov (.tmp 7), none⟩,
⟨some 4, .mov (.tmp 47), none⟩] [4] [])
.ret)))))))),
[.tmp 4], true, false, false⟩
def F134 : AFunc := ⟨2,
(.seq
(.region [
⟨some 4, .mov (.val (.pv (.bool false))), none⟩] [0, 1] [])
(.seq
(.region [
⟨some 5, .mov (.tmp 0), none⟩,
⟨some 6, .mov (.tmp 1), none⟩,
⟨some 7, .call (.val (.func 138 [])) [(.tmp 5), (.tmp 6)], none⟩,
⟨some 8, .bin .geq (.tmp 7) (.val (.pv (.int .i64 0))), none⟩,
⟨some 4, .mov (.tmp 8), none⟩] [4] [])
.ret)),
[.tmp 4], false, false, false⟩
def F135 : AFunc := ⟨2,
(.seq
(.region [
⟨some 2, .box 2 2 (.tmp 0), none⟩,
⟨some 3, .mov (.val (.pv (.bool false))), none⟩] [1, 2] [2])
(.seq
(.region [
⟨some 4, .idxa 2 1 (.tmp 2) (.val (.pv (.int .i64 0))), none⟩,
⟨some 5, .load 1 false (.tmp 4), none⟩,
⟨some 6, .idxa 2 1 (.tmp 2) (.val (.pv (.int .i64 1))), none⟩,
⟨some 7, .load 1 false (.tmp 6), none⟩,
⟨some 8, .minmax false [(.tmp 5), (.tmp 7)], none⟩,
⟨some 9, .bin .lss (.tmp 8) (.val (.pv (.int .i64 0))), none⟩,
⟨some 10, .mov (.tmp 9), none⟩,
⟨some 11, .idxa 2 1 (.tmp 2) (.val (.pv (.int .i64 0))), some (10, false)⟩,
⟨some 12, .load 1 false (.tmp 11), some (10, false)⟩,
⟨some 13, .idxa 2 1 (.tmp 2) (.val (.pv (.int .i64 1))), some (10, false)⟩,
⟨some 14, .load 1 false (.tmp 13), some (10, false)⟩,
⟨some 15, .minmax true [(.tmp 12), (.tmp 14)], some (10, false)⟩,
⟨some 16, .load 1 false (.tmp 1), some (10, false)⟩,
⟨some 17, .bin .geq (.tmp 15) (.tmp 16), some (10, false)⟩,
⟨some 18, .pick (.tmp 10) (.val (.pv (.bool true))) (.tmp 17), none⟩,
⟨some 3, .mov (.tmp 18), none⟩] [3] [])
.ret)),
[.tmp 3], false, false, false⟩
def F136 : AFunc := ⟨2,
(.seq
(.region [
⟨some 4, .mov (.val (.pv (.int .u64 0))), none⟩,
⟨some 5, .mov (.val (.pv (.int .u64 0))), none⟩] [0, 1] [])
(.seq
(.cond (.val (.pv (.bool false)))
(.seq
(.region [
⟨some 11, .mov (.tmp 0), none⟩,
⟨some 12, .conv .u32 (.tmp 11), none⟩,
⟨some 13, .mov (.tmp 1), none⟩,
⟨some 14, .conv .u32 (.tmp 13), none⟩,
⟨some 15, .call (.val (.func 139 [])) [(.tmp 12), (.tmp 14)], none⟩,
⟨some 10, .mov (.tmp 15), none⟩,
⟨some 16, .ext (.tmp 10) 0, none⟩,
⟨some 17, .ext (.tmp 10) 1, none⟩,
⟨some 6, .mov (.tmp 16), none⟩,
⟨some 7, .mov (.tmp 17), none⟩] [6, 7] [])
(.seq
(.region [
⟨some 18, .mov (.tmp 6), none⟩,
⟨some 19, .conv .u64 (.tmp 18), none⟩,
⟨some 20, .mov (.tmp 7), none⟩,
⟨some 21, .conv .u64 (.tmp 20), none⟩,
⟨some 4, .mov (.tmp 19), none⟩,
⟨some 5, .mov (.tmp 21), none⟩] [4, 5] [])
.ret))
.skip)
(.seq
(.region [
⟨some 23, .mov (.tmp 0), none⟩,
⟨some 24, .mov (.tmp 1), none⟩,
⟨some 25, .call (.val (.func 140 [])) [(.tmp 23), (.tmp 24)], none⟩,
⟨some 22, .mov (.tmp 25), none⟩,
⟨some 26, .ext (.tmp 22) 0, none⟩,
⟨some 27, .ext (.tmp 22) 1, none⟩,
⟨some 8, .mov (.tmp 26), none⟩,
⟨some 9, .mov (.tmp 27), none⟩] [8, 9] [])
(.seq
(.region [
⟨some 28, .mov (.tmp 8), none⟩,
⟨some 29, .mov (.tmp 9), none⟩,
⟨some 4, .mov (.tmp 28), none⟩,
⟨some 5, .mov (.tmp 29), none⟩] [4, 5] [])
.ret)))),
[.tmp 4, .tmp 5], false, false, false⟩
def F138 : AFunc := ⟨2,
(.seq
(.region [
⟨some 4, .mov (.val (.pv (.int .i64 0))), none⟩] [0, 1] [])
(.seq
(.seq
(.region [
⟨some 6, .mov (.tmp 0), none⟩,
⟨some 7, .len 0 (.tmp 6), none⟩,
⟨some 8, .mov (.val (.pv (.int .i64 0))), none⟩] [0, 1, 7, 8] [])
(.block 0
(.loop
(.mask [0, 1, 7, 8] []
(.seq
(.region [
⟨some 9, .bin .lss (.tmp 8) (.tmp 7), none⟩] [0, 1, 7, 8, 9] [])
(.seq
(.cond (.tmp 9)
.skip
(.exit 0))
(.seq
(.block 1
(.seq
(.region [
⟨some 10, .mov (.tmp 8), none⟩,
⟨some 5, .mov (.tmp 10), none⟩] [0, 1, 5, 7, 8] [])
(.seq
(.region [
⟨some 11, .mov (.tmp 1), none⟩,
⟨some 12, .mov (.tmp 0), none⟩,
⟨some 13, .mov (.tmp 5), none⟩,
⟨some 14, .idx 2 (.tmp 12) (.tmp 13), none⟩,
⟨some 15, .load 2 true (.tmp 14), none⟩,
⟨some 16, .call (.tmp 11) [(.tmp 15)], none⟩] [0, 1, 5, 7, 8, 16] [])
(.cond (.tmp 16)
(.seq
(.region [
⟨some 17, .mov (.tmp 5), none⟩,
⟨some 4, .mov (.tmp 17), none⟩] [4] [])
.ret)
.skip))))
(.region [
⟨some 18, .bin .add (.tmp 8) (.val (.pv (.int .i64 1))), none⟩,
⟨some 8, .mov (.tmp 18), none⟩] [0, 1, 7, 8] []))))))))
(.seq
(.region [
⟨some 4, .mov (.val (.pv (.int .i64 (-1)))), none⟩] [4] [])
.ret))),
[.tmp 4], false, false, false⟩
def F139 : AFunc := ⟨2,
(.seq
(.region [
⟨some 4, .mov (.val (.pv (.int .u32 0))), none⟩,
⟨some 5, .mov (.val (.pv (.int .u32 0))), none⟩] [0, 1] [])
(.seq
(.region [
⟨some 7, .mov (.tmp 0), none⟩,
⟨some 8, .conv .u64 (.tmp 7), none⟩,
⟨some 9, .mov (.tmp 1), none⟩,
⟨some 10, .conv .u64 (.tmp 9), none⟩,
⟨some 11, .bin .mul (.tmp 8) (.tmp 10), none⟩,
⟨some 6, .mov (.tmp 11), none⟩] [6] [])
(.seq
(.region [
⟨some 12, .mov (.tmp 6), none⟩,
⟨some 13, .bin .shr (.tmp 12) (.val (.pv (.int .u64 32))), none⟩,
⟨some 14, .conv .u32 (.tmp 13), none⟩,
⟨some 15, .mov (.tmp 6), none⟩,
⟨some 16, .conv .u32 (.tmp 15), none⟩,
⟨some 4, .mov (.tmp 14), none⟩,
⟨some 5, .mov (.tmp 16), none⟩] [4, 5] [])
.ret))),
[.tmp 4, .tmp 5], false, false, false⟩
def F140 : AFunc := ⟨2,
(.seq
(.region [
⟨some 4, .mov (.val (.pv (.int .u64 0))), none⟩,
⟨some 5, .mov (.val (.pv (.int .u64 0))), none⟩] [0, 1] [])
(.seq
(.region [
⟨some 14, .mov (.tmp 0), none⟩,
⟨some 15, .bin .and (.tmp 14) (.val (.pv (.int .u64 4294967295))), none⟩,
⟨some 6, .mov (.tmp 15), none⟩] [0, 1, 6] [])
(.seq
(.region [
⟨some 16, .mov (.tmp 0), none⟩,
⟨some 17, .bin .shr (.tmp 16) (.val (.pv (.int .u64 32))), none⟩,
⟨some 7, .mov (.tmp 17), none⟩] [0, 1, 6, 7] [])
(.seq
(.region [
⟨some 18, .mov (.tmp 1), none⟩,
⟨some 19, .bin .and (.tmp 18) (.val (.pv (.int .u64 4294967295))), none⟩,
⟨some 8, .mov (.tmp 19), none⟩] [0, 1, 6, 7, 8] [])
(.seq
(.region [
⟨some 20, .mov (.tmp 1), none⟩,
⟨some 21, .bin .shr (.tmp 20) (.val (.pv (.int .u64 32))), none⟩,
⟨some 9, .mov (.tmp 21), none⟩] [0, 1, 6, 7, 8, 9] [])
(.seq
(.region [
⟨some 22, .mov (.tmp 6), none⟩,
⟨some 23, .mov (.tmp 8), none⟩,
⟨some 24, .bin .mul (.tmp 22) (.tmp 23), none⟩,
⟨some 10, .mov (.tmp 24), none⟩] [0, 1, 6, 7, 8, 9, 10] [])
(.seq
(.region [
⟨some 25, .mov (.tmp 7), none⟩,
⟨some 26, .mov (.tmp 8), none⟩,
⟨some 27, .bin .mul (.tmp 25) (.tmp 26), none⟩,
⟨some 28, .mov (.tmp 10), none⟩,
⟨some 29, .bin .shr (.tmp 28) (.val (.pv (.int .u64 32))), none⟩,
⟨some 30, .bin .add (.tmp 27) (.tmp 29), none⟩,
⟨some 11, .mov (.tmp 30), none⟩] [0, 1, 6, 7, 9, 11] [])
(.seq
(.region [
⟨some 31, .mov (.tmp 11), none⟩,
⟨some 32, .bin .and (.tmp 31) (.val (.pv (.int .u64 4294967295))), none⟩,
⟨some 12, .mov (.tmp 32), none⟩] [0, 1, 6, 7, 9, 11, 12] [])
(.seq
(.region [
⟨some 33, .mov (.tmp 11), none⟩,
⟨some 34, .bin .shr (.tmp 33) (.val (.pv (.int .u64 32))), none⟩,
⟨some 13, .mov (.tmp 34), none⟩] [0, 1, 6, 7, 9, 12, 13] [])
(.seq
(.region [
⟨some 35, .mov (.tmp 12), none⟩,
⟨some 36, .mov (.tmp 6), none⟩,
⟨some 37, .mov (.tmp 9), none⟩,
⟨some 38, .bin .mul (.tmp 36) (.tmp 37), none⟩,
⟨some 39, .bin .add (.tmp 35) (.tmp 38), none⟩,
⟨some 12, .mov (.tmp 39), none⟩] [0, 1, 7, 9, 12, 13] [])
(.seq
(.region [
⟨some 40, .mov (.tmp 7), none⟩,
⟨some 41, .mov (.tmp 9), none⟩,
⟨some 42, .bin .mul (.tmp 40) (.tmp 41), none⟩,
⟨some 43, .mov (.tmp 13), none⟩,
⟨some 44, .bin .add (.tmp 42) (.tmp 43), none⟩,
⟨some 45, .mov (.tmp 12), none⟩,
⟨some 46, .bin .shr (.tmp 45) (.val (.pv (.int .u64 32))), none⟩,
⟨some 47, .bin .add (.tmp 44) (.tmp 46), none⟩,
⟨some 4, .mov (.tmp 47), none⟩] [0, 1, 4] [])
(.seq
(.region [
⟨some 48, .mov (.tmp 0), none⟩,
⟨some 49, .mov (.tmp 1), none⟩,
⟨some 50, .bin .mul (.tmp 48) (.tmp 49), none⟩,
⟨some 5, .mov (.tmp 50), none⟩] [4, 5] [])
.ret)))))))))))),
[.tmp 4, .tmp 5], false, false, false⟩
def F340 : AFunc := ⟨2,
(.seq
(.region [
⟨some 4, .mov (.val (.pv (.bool false))), none⟩] [0, 1] [])
(.seq
(.seq
(.region [
⟨some 9, .call (.val (.func 345 [])) [], none⟩,
⟨some 10, .un .not (.tmp 9), none⟩,
⟨some 11, .mov (.tmp 10), none⟩,
⟨some 12, .mov (.tmp 0), some (11, false)⟩,
⟨some 13, .mov (.tmp 1), some (11, false)⟩,
⟨some 14, .call (.val (.func 346 [])) [(.tmp 12), (.tmp 13)], some (11, false)⟩,
⟨some 15, .un .not (.tmp 14), some (11, false)⟩,
⟨some 16, .pick (.tmp 11) (.val (.pv (.bool true))) (.tmp 15), none⟩] [0, 1, 16] [])
(.cond (.tmp 16)
(.seq
(.region [
⟨some 17, .call (.val (.func 345 [])) [], none⟩,
⟨some 4, .mov (.tmp 17), none⟩] [4] [])
.ret)
.skip))
(.seq
(.region [
⟨some 19, .mov (.tmp 0), none⟩,
⟨some 20, .mov (.tmp 1), none⟩,
⟨some 21, .call (.val (.func 347 [])) [(.tmp 20)], none⟩,
⟨some 22, .call (.val (.func 353 [])) [(.tmp 19), (.tmp 21)], none⟩,
⟨some 18, .mov (.tmp 22), none⟩,
⟨some 23, .ext (.tmp 18) 0, none⟩,
⟨some 24, .ext (.tmp 18) 1, none⟩,
⟨some 5, .mov (.tmp 23), none⟩,
⟨some 6, .mov (.tmp 24), none⟩] [0, 1, 5, 6] [])
(.seq
(.region [
⟨some 26, .mov (.tmp 0), none⟩,
⟨some 27, .mov (.tmp 1), none⟩,
⟨some 28, .call (.val (.func 354 [])) [(.tmp 26), (.tmp 27)], none⟩,
⟨some 25, .mov (.tmp 28), none⟩,
⟨some 29, .ext (.tmp 25) 0, none⟩,
⟨some 30, .ext (.tmp 25) 1, none⟩,
⟨some 7, .mov (.tmp 29), none⟩,
⟨some 8, .mov (.tmp 30), none⟩] [5, 6, 7, 8] [])
(.seq
(.region [
⟨some 31, .mov (.tmp 6), none⟩,
⟨some 32, .mov (.tmp 8), none⟩,
⟨some 33, .bin .eql (.tmp 31) (.tmp 32), none⟩,
⟨some 34, .mov (.tmp 33), none⟩,
⟨some 35, .mov (.tmp 5), some (34, true)⟩,
⟨some 36, .mov (.tmp 7), some (34, true)⟩,
⟨some 37, .call (.val (.func 355 [])) [(.tmp 35), (.tmp 36)], some (34, true)⟩,
⟨some 38, .pick (.tmp 34) (.tmp 37) (.val (.pv (.bool false))), none⟩,
⟨some 4, .mov (.tmp 38), none⟩] [4] [])
.ret))))),
[.tmp 4], false, false, false⟩
def F342 : AFunc := ⟨2,
(.seq
(.region [
⟨some 4, .mov (.val (.pv (.bool false))), none⟩] [0, 1] [])
(.seq
(.seq
(.region [
⟨some 11, .call (.val (.func 345 [])) [], none⟩,
⟨some 12, .un .not (.tmp 11), none⟩,
⟨some 13, .mov (.tmp 12), none⟩,
⟨some 14, .mov (.tmp 0), some (13, false)⟩,
⟨some 15, .mov (.tmp 1), some (13, false)⟩,
⟨some 16, .call (.val (.func 346 [])) [(.tmp 14), (.tmp 15)], some (13, false)⟩,
⟨some 17, .un .not (.tmp 16), some (13, false)⟩,
⟨some 18, .pick (.tmp 13) (.val (.pv (.bool true))) (.tmp 17), none⟩] [0, 1, 18] [])
(.cond (.tmp 18)
(.seq
(.region [
⟨some 19, .call (.val (.func 345 [])) [], none⟩,
⟨some 4, .mov (.tmp 19), none⟩] [4] [])
.ret)
.skip))
(.seq
(.region [
⟨some 21, .mov (.tmp 0), none⟩,
⟨some 22, .mov (.tmp 1), none⟩,
⟨some 23, .call (.val (.func 347 [])) [(.tmp 22)], none⟩,
⟨some 24, .call (.val (.func 358 [])) [(.tmp 21), (.tmp 23)], none⟩,
⟨some 20, .mov (.tmp 24), none⟩,
⟨some 25, .ext (.tmp 20) 0, none⟩,
⟨some 26, .ext (.tmp 20) 1, none⟩,
⟨some 27, .ext (.tmp 20) 2, none⟩,
⟨some 5, .mov (.tmp 25), none⟩,
⟨some 6, .mov (.tmp 26), none⟩,
⟨some 7, .mov (.tmp 27), none⟩] [0, 1, 5, 6, 7] [])
(.seq
(.seq
(.region [
⟨some 28, .mov (.tmp 0), none⟩,
⟨some 29, .mov (.tmp 1), none⟩,
⟨some 30, .call (.val (.func 348 [])) [(.tmp 28), (.tmp 29)], none⟩,
⟨some 8, .mov (.tmp 30), none⟩] [0, 1, 5, 6, 7, 8] [])
(.seq
(.region [
⟨some 31, .mov (.tmp 8), none⟩,
⟨some 32, .bin .neq (.tmp 31) (.val (.pv (.int .i64 0))), none⟩] [0, 1, 5, 6, 7, 8, 32] [])
(.cond (.tmp 32)
(.seq
(.region [
⟨some 33, .mov (.tmp 7), none⟩,
⟨some 34, .mov (.tmp 8), none⟩,
⟨some 35, .bin .eql (.tmp 33) (.tmp 34), none⟩,
⟨some 36, .mov (.tmp 35), none⟩,
⟨some 37, .mov (.tmp 6), some (36, true)⟩,
⟨some 38, .un .not (.tmp 37), some (36, true)⟩,
⟨some 39, .pick (.tmp 36) (.tmp 38) (.val (.pv (.bool false))), none⟩,
⟨some 40, .mov (.tmp 39), none⟩,
⟨some 41, .mov (.tmp 5), some (40, true)⟩,
⟨some 42, .len 0 (.tmp 41), some (40, true)⟩,
⟨some 43, .bin .eql (.tmp 42) (.val (.pv (.int .i64 0))), some (40, true)⟩,
⟨some 44, .pick (.tmp 40) (.tmp 43) (.val (.pv (.bool false))), none⟩,
⟨some 4, .mov (.tmp 44), none⟩] [4] [])
.ret)
.skip)))
(.seq
(.region [
⟨some 46, .mov (.tmp 0), none⟩,
⟨some 47, .mov (.tmp 1), none⟩,
⟨some 48, .call (.val (.func 356 [])) [(.tmp 46), (.tmp 47)], none⟩,
⟨some 45, .mov (.tmp 48), none⟩,
⟨some 49, .ext (.tmp 45) 0, none⟩,
⟨some 50, .ext (.tmp 45) 1, none⟩,
⟨some 9, .mov (.tmp 49), none⟩,
⟨some 10, .mov (.tmp 50), none⟩] [0, 1, 5, 6, 7, 10] [])
(.seq
(.seq
(.region [
⟨some 51, .mov (.tmp 6), none⟩] [0, 1, 5, 7, 10, 51] [])
(.cond (.tmp 51)
(.seq
(.region [
⟨some 52, .mov (.tmp 7), none⟩,
⟨some 53, .bin .eql (.tmp 52) (.val (.pv (.int .i64 0))), none⟩,
⟨some 54, .mov (.tmp 53), none⟩,
⟨some 55, .mov (.tmp 0), some (54, true)⟩,
⟨some 56, .mov (.tmp 1), some (54, true)⟩,
⟨some 57, .mov (.tmp 5), some (54, true)⟩,
⟨some 58, .call (.val (.func 359 [])) [(.tmp 55), (.tmp 56), (.tmp 57)], some (54, true)⟩,
⟨some 59, .pick (.tmp 54) (.tmp 58) (.val (.pv (.bool false))), none⟩,
⟨some 60, .mov (.tmp 59), none⟩,
⟨some 61, .mov (.tmp 10), some (60, true)⟩,
⟨some 62, .bin .eql (.tmp 61) (.val (.pv (.int .i64 9))), some (60, true)⟩,
⟨some 63, .pick (.tmp 60) (.tmp 62) (.val (.pv (.bool false))), none⟩,
⟨some 4, .mov (.tmp 63), none⟩] [4] [])
.ret)
.skip))
(.seq
(.region [
⟨some 64, .mov (.tmp 7), none⟩,
⟨some 65, .bin .eql (.tmp 64) (.val (.pv (.int .i64 0))), none⟩,
⟨some 66, .mov (.tmp 65), none⟩,
⟨some 67, .mov (.tmp 5), some (66, true)⟩,
⟨some 68, .len 0 (.tmp 67), some (66, true)⟩,
⟨some 69, .bin .eql (.tmp 68) (.val (.pv (.int .i64 0))), some (66, true)⟩,
⟨some 70, .pick (.tmp 66) (.tmp 69) (.val (.pv (.bool false))), none⟩,
⟨some 71, .mov (.tmp 70), none⟩,
⟨some 72, .mov (.tmp 0), some (71, true)⟩,
⟨some 73, .mov (.tmp 1), some (71, true)⟩,
⟨some 74, .call (.val (.func 360 [])) [(.tmp 72), (.tmp 73)], some (71, true)⟩,
⟨some 75, .un .not (.tmp 74), some (71, true)⟩,
⟨some 76, .pick (.tmp 71) (.tmp 75) (.val (.pv (.bool false))), none⟩,
⟨some 77, .mov (.tmp 76), none⟩,
⟨some 78, .mov (.tmp 10), some (77, true)⟩,
⟨some 79, .bin .eql (.tmp 78) (.val (.pv (.int .i64 0))), some (77, true)⟩,
⟨some 80, .pick (.tmp 77) (.tmp 79) (.val (.pv (.bool false))), none⟩,
⟨some 4, .mov (.tmp 80), none⟩] [4] [])
.ret))))))),
[.tmp 4], false, false, false⟩
def F343 : AFunc := ⟨1,
(.seq
(.region [
⟨some 1, .box 1 2 (.tmp 0), none⟩,
⟨some 2, .mov (.val (.pv (.bool false))), none⟩] [1] [1])
(.seq
(.region [
⟨some 21, .load 2 true (.tmp 1), none⟩,
⟨some 22, .call (.val (.func 361 [])) [(.tmp 21)], none⟩,
⟨some 20, .mov (.tmp 22), none⟩,
⟨some 23, .ext (.tmp 20) 0, none⟩,
⟨some 24, .ext (.tmp 20) 1, none⟩,
⟨some 25, .ext (.tmp 20) 2, none⟩,
⟨some 3, .mov (.tmp 23), none⟩,
⟨some 4, .mov (.tmp 24), none⟩,
⟨some 5, .mov (.tmp 25), none⟩] [3, 4, 5] [])
(.seq
(.seq
(.region [
⟨some 26, .call (.val (.func 345 [])) [], none⟩,
⟨some 27, .un .not (.tmp 26), none⟩,
⟨some 28, .mov (.tmp 27), none⟩,
⟨some 29, .mov (.tmp 5), some (28, false)⟩,
⟨some 30, .un .not (.tmp 29), some (28, false)⟩,
⟨some 31, .pick (.tmp 28) (.val (.pv (.bool true))) (.tmp 30), none⟩] [3, 4, 31] [])
(.cond (.tmp 31)
(.seq
(.region [
⟨some 32, .call (.val (.func 345 [])) [], none⟩,
⟨some 2, .mov (.tmp 32), none⟩] [2] [])
.ret)
.skip))
(.seq
(.region [
⟨some 34, .mov (.tmp 3), none⟩,
⟨some 35, .mov (.tmp 4), none⟩,
⟨some 36, .call (.val (.func 353 [])) [(.tmp 34), (.tmp 35)], none⟩,
⟨some 33, .mov (.tmp 36), none⟩,
⟨some 37, .ext (.tmp 33) 0, none⟩,
⟨some 38, .ext (.tmp 33) 1, none⟩,
⟨some 6, .mov (.tmp 37), none⟩,
⟨some 7, .mov (.tmp 38), none⟩] [3, 4, 6, 7] [])
(.seq
(.region [
⟨some 40, .mov (.tmp 3), none⟩,
⟨some 41, .mov (.tmp 4), none⟩,
⟨some 42, .call (.val (.func 358 [])) [(.tmp 40), (.tmp 41)], none⟩,
⟨some 39, .mov (.tmp 42), none⟩,
⟨some 43, .ext (.tmp 39) 0, none⟩,
⟨some 44, .ext (.tmp 39) 1, none⟩,
⟨some 45, .ext (.tmp 39) 2, none⟩,
⟨some 8, .mov (.tmp 43), none⟩,
⟨some 9, .mov (.tmp 44), none⟩,
⟨some 10, .mov (.tmp 45), none⟩] [3, 4, 6, 7, 9, 10] [])
(.seq
(.region [
⟨some 46, .mov (.tmp 4), none⟩,
⟨some 47, .call (.val (.func 134 [])) [(.tmp 46), (.val (.func 362 []))], none⟩,
⟨some 11, .mov (.tmp 47), none⟩] [3, 4, 6, 7, 9, 10, 11] [])
(.seq
(.seq
(.region [
⟨some 48, .mov (.tmp 7), none⟩,
⟨some 49, .bin .neq (.tmp 48) (.val (.pv (.int .i64 0))), none⟩,
⟨some 50, .mov (.tmp 49), none⟩,
⟨some 51, .mov (.tmp 10), some (50, false)⟩,
⟨some 52, .bin .neq (.tmp 51) (.val (.pv (.int .i64 0))), some (50, false)⟩,
⟨some 53, .pick (.tmp 50) (.val (.pv (.bool true))) (.tmp 52), none⟩,
⟨some 54, .mov (.tmp 53), none⟩,
⟨some 55, .mov (.tmp 9), some (54, false)⟩,
⟨some 56, .mov (.tmp 6), some (54, false)⟩,
⟨some 57, .len 0 (.tmp 56), some (54, false)⟩,
⟨some 58, .mov (.tmp 3), some (54, false)⟩,
⟨some 59, .bin .lss (.tmp 57) (.tmp 58), some (54, false)⟩,
⟨some 60, .mov (.tmp 59), some (54, false)⟩,
⟨some 61, .mov (.tmp 11), some (60, false)⟩,
⟨some 62, .pick (.tmp 60) (.val (.pv (.bool true))) (.tmp 61), some (54, false)⟩,
⟨some 63, .eqa false [0] true (.tmp 55) (.tmp 62), some (54, false)⟩,
⟨some 64, .pick (.tmp 54) (.val (.pv (.bool true))) (.tmp 63), none⟩] [3, 4, 6, 64] [])
(.cond (.tmp 64)
(.seq
(.region [
⟨some 2, .mov (.val (.pv (.bool false))), none⟩] [2] [])
.ret)
.skip))
(.seq
(.seq
(.region [
⟨some 65, .mov (.tmp 6), none⟩,
⟨some 66, .len 0 (.tmp 65), none⟩,
⟨some 67, .mov (.val (.pv (.int .i64 0))), none⟩] [3, 4, 65, 66, 67] [])
(.block 0
(.loop
(.mask [3, 4, 65, 66, 67] []
(.seq
(.region [
⟨some 68, .bin .lss (.tmp 67) (.tmp 66), none⟩] [3, 4, 65, 66, 67, 68] [])
(.seq
(.cond (.tmp 68)
.skip
(.exit 0))
(.seq
(.block 1
(.seq
(.region [
⟨some 69, .idx 1 (.tmp 65) (.tmp 67), none⟩,
⟨some 70, .load 1 false (.tmp 69), none⟩,
⟨some 13, .mov (.tmp 70), none⟩] [3, 4, 13, 65, 66, 67] [])
(.seq
(.region [
⟨some 71, .mov (.tmp 13), none⟩,
⟨some 72, .len 0 (.tmp 71), none⟩,
⟨some 73, .mov (.val (.pv (.int .i64 0))), none⟩] [3, 4, 13, 65, 66, 67, 71, 72, 73] [])
(.block 2
(.loop
(.mask [3, 4, 13, 65, 66, 67, 71, 72, 73] []
(.seq
(.region [
⟨some 74, .bin .lss (.tmp 73) (.tmp 72), none⟩] [3, 4, 13, 65, 66, 67, 71, 72, 73, 74] [])
(.seq
(.cond (.tmp 74)
.skip
(.exit 2))
(.seq
(.block 3
(.seq
(.region [
⟨some 75, .idx 1 (.tmp 71) (.tmp 73), none⟩,
⟨some 76, .load 1 false (.tmp 75), none⟩,
⟨some 15, .mov (.tmp 76), none⟩] [3, 4, 13, 15, 65, 66, 67, 71, 72, 73] [])
(.seq
(.region [
⟨some 78, .mov (.tmp 3), none⟩,
⟨some 79, .mov (.tmp 4), none⟩,
⟨some 80, .mov (.tmp 15), none⟩,
⟨some 81, .lit 1 [.pv (.int .i64 0)] 1 [(0, 1, (.tmp 80))], none⟩,
⟨some 82, .call (.val (.func 363 [])) [(.tmp 78), (.tmp 79), (.tmp 81)], none⟩,
⟨some 77, .mov (.tmp 82), none⟩,
⟨some 83, .ext (.tmp 77) 0, none⟩,
⟨some 84, .ext (.tmp 77) 1, none⟩,
⟨some 16, .mov (.tmp 83), none⟩,
⟨some 17, .mov (.tmp 84), none⟩] [3, 4, 13, 16, 17, 65, 66, 67, 71, 72, 73] [])
(.seq
(.region [
⟨some 86, .mov (.tmp 3), none⟩,
⟨some 87, .mov (.tmp 4), none⟩,
⟨some 88, .mov (.tmp 13), none⟩,
⟨some 89, .call (.val (.func 363 [])) [(.tmp 86), (.tmp 87), (.tmp 88)], none⟩,
⟨some 85, .mov (.tmp 89), none⟩,
⟨some 90, .ext (.tmp 85) 0, none⟩,
⟨some 91, .ext (.tmp 85) 1, none⟩,
⟨some 18, .mov (.tmp 90), none⟩,
⟨some 19, .mov (.tmp 91), none⟩] [3, 4, 13, 16, 17, 18, 19, 65, 66, 67, 71, 72, 73] [])
(.seq
(.region [
⟨some 92, .mov (.tmp 17), none⟩,
⟨some 93, .bin .neq (.tmp 92) (.val (.pv (.int .i64 0))), none⟩,
⟨some 94, .mov (.tmp 93), none⟩,
⟨some 95, .mov (.tmp 19), some (94, false)⟩,
⟨some 96, .bin .neq (.tmp 95) (.val (.pv (.int .i64 0))), some (94, false)⟩,
⟨some 97, .pick (.tmp 94) (.val (.pv (.bool true))) (.tmp 96), none⟩,
⟨some 98, .mov (.tmp 97), none⟩,
⟨some 99, .mov (.tmp 16), some (98, false)⟩,
⟨some 100, .mov (.tmp 18), some (98, false)⟩,
⟨some 101, .call (.val (.func 14 [])) [(.tmp 99), (.tmp 100)], some (98, false)⟩,
⟨some 102, .un .not (.tmp 101), some (98, false)⟩,
⟨some 103, .pick (.tmp 98) (.val (.pv (.bool true))) (.tmp 102), none⟩] [3, 4, 13, 65, 66, 67, 71, 72, 73, 103] [])
(.cond (.tmp 103)
(.seq
(.region [
⟨some 2, .mov (.val (.pv (.bool false))), none⟩] [2] [])
.ret)
.skip))))))
(.region [
⟨some 104, .bin .add (.tmp 73) (.val (.pv (.int .i64 1))), none⟩,
⟨some 73, .mov (.tmp 104), none⟩] [3, 4, 13, 65, 66, 67, 71, 72, 73] []))))))))))
(.region [
⟨some 105, .bin .add (.tmp 67) (.val (.pv (.int .i64 1))), none⟩,
⟨some 67, .mov (.tmp 105), none⟩] [3, 4, 65, 66, 67] []))))))))
(.seq
(.region [
⟨some 2, .mov (.val (.pv (.bool true))), none⟩] [2] [])
.ret))))))))),
[.tmp 2], false, false, false⟩
def F345 : AFunc := ⟨0,
(.seq
(.region [
⟨some 0, .mov (.val (.pv (.bool false))), none⟩] [] [])
(.seq
(.region [
⟨some 13, .build [.pv (.int .i64 0), .pv (.int .i64 0)] [(0, 1, (.val (.pv (.int .i64 0)))), (1, 1, (.val (.pv (.int .i64 1))))], none⟩,
⟨some 14, .build [.pv (.int .i64 0), .pv (.int .i64 0)] [(0, 1, (.val (.pv (.int .i64 1)))), (1, 1, (.val (.pv (.int .i64 2))))], none⟩,
⟨some 15, .build [.pv (.int .i64 0), .pv (.int .i64 0)] [(0, 1, (.val (.pv (.int .i64 2)))), (1, 1, (.val (.pv (.int .i64 1))))], none⟩,
⟨some 16, .build [.pv (.int .i64 0), .pv (.int .i64 0)] [(0, 1, (.val (.pv (.int .i64 3)))), (1, 1, (.val (.pv (.int .i64 2))))], none⟩,
⟨some 17, .lit 2 [.pv (.int .i64 0), .pv (.int .i64 0)] 4 [(0, 2, (.tmp 13)), (2, 2, (.tmp 14)), (4, 2, (.tmp 15)), (6, 2, (.tmp 16))], none⟩,
⟨some 1, .mov (.tmp 17), none⟩] [1] [])
(.seq
(.region [
⟨some 19, .mov (.tmp 1), none⟩,
⟨some 20, .lit 1 [.pv (.int .i64 0)] 1 [(0, 1, (.val (.pv (.int .i64 0))))], none⟩,
⟨some 21, .call (.val (.func 363 [])) [(.val (.pv (.int .i64 4))), (.tmp 19), (.tmp 20)], none⟩,
⟨some 18, .mov (.tmp 21), none⟩,
⟨some 22, .ext (.tmp 18) 0, none⟩,
⟨some 23, .ext (.tmp 18) 1, none⟩,
⟨some 2, .mov (.tmp 22), none⟩,
⟨some 3, .mov (.tmp 23), none⟩] [1, 2, 3] [])
(.seq
(.region [
⟨some 25, .mov (.tmp 1), none⟩,
⟨some 26, .lit 1 [.pv (.int .i64 0)] 1 [(0, 1, (.val (.pv (.int .i64 2))))], none⟩,
⟨some 27, .call (.val (.func 349 [])) [(.val (.pv (.int .i64 4))), (.tmp 25), (.tmp 26)], none⟩,
⟨some 24, .mov (.tmp 27), none⟩,
⟨some 28, .ext (.tmp 24) 0, none⟩,
⟨some 29, .ext (.tmp 24) 1, none⟩,
⟨some 4, .mov (.tmp 28), none⟩,
⟨some 5, .mov (.tmp 29), none⟩] [1, 2, 3, 4, 5] [])
(.seq
(.region [
⟨some 31, .mov (.tmp 1), none⟩,
⟨some 32, .call (.val (.func 353 [])) [(.val (.pv (.int .i64 4))), (.tmp 31)], none⟩,
⟨some 30, .mov (.tmp 32), none⟩,
⟨some 33, .ext (.tmp 30) 0, none⟩,
⟨some 34, .ext (.tmp 30) 1, none⟩,
⟨some 6, .mov (.tmp 33), none⟩,
⟨some 7, .mov (.tmp 34), none⟩] [1, 2, 3, 4, 5, 6, 7] [])
(.seq
(.region [
⟨some 36, .build [.pv (.int .i64 0), .pv (.int .i64 0)] [(0, 1, (.val (.pv (.int .i64 0)))), (1, 1, (.val (.pv (.int .i64 1))))], none⟩,
⟨some 37, .build [.pv (.int .i64 0), .pv (.int .i64 0)] [(0, 1, (.val (.pv (.int .i64 1)))), (1, 1, (.val (.pv (.int .i64 2))))], none⟩,
⟨some 38, .build [.pv (.int .i64 0), .pv (.int .i64 0)] [(0, 1, (.val (.pv (.int .i64 3)))), (1, 1, (.val (.pv (.int .i64 2))))], none⟩,
⟨some 39, .lit 2 [.pv (.int .i64 0), .pv (.int .i64 0)] 3 [(0, 2, (.tmp 36)), (2, 2, (.tmp 37)), (4, 2, (.tmp 38))], none⟩,
⟨some 40, .call (.val (.func 356 [])) [(.val (.pv (.int .i64 4))), (.tmp 39)], none⟩,
⟨some 35, .mov (.tmp 40), none⟩,
⟨some 41, .ext (.tmp 35) 0, none⟩,
⟨some 42, .ext (.tmp 35) 1, none⟩,
⟨some 8, .mov (.tmp 41), none⟩,
⟨some 9, .mov (.tmp 42), none⟩] [1, 2, 3, 4, 5, 6, 7, 8, 9] [])
(.seq
(.region [
⟨some 44, .mov (.tmp 1), none⟩,
⟨some 45, .call (.val (.func 358 [])) [(.val (.pv (.int .i64 4))), (.tmp 44)], none⟩,
⟨some 43, .mov (.tmp 45), none⟩,
⟨some 46, .ext (.tmp 43) 0, none⟩,
⟨some 47, .ext (.tmp 43) 1, none⟩,
⟨some 48, .ext (.tmp 43) 2, none⟩,
⟨some 10, .mov (.tmp 46), none⟩,
⟨some 11, .mov (.tmp 47), none⟩,
⟨some 12, .mov (.tmp 48), none⟩] [1, 2, 3, 4, 5, 6, 7, 8, 9, 10, 11, 12] [])
(.seq
(.region [
⟨some 49, .mov (.tmp 3), none⟩,
⟨some 50, .bin .eql (.tmp 49) (.val (.pv (.int .i64 0))), none⟩,
⟨some 51, .mov (.tmp 50), none⟩,
⟨some 52, .mov (.tmp 5), some (51, true)⟩,
⟨some 53, .bin .eql (.tmp 52) (.val (.pv (.int .i64 0))), some (51, true)⟩,
⟨some 54, .pick (.tmp 51) (.tmp 53) (.val (.pv (.bool false))), none⟩,
⟨some 55, .mov (.tmp 54), none⟩,
⟨some 56, .mov (.tmp 7), some (55, true)⟩,
⟨some 57, .bin .eql (.tmp 56) (.val (.pv (.int .i64 0))), some (55, true)⟩,
⟨some 58, .pick (.tmp 55) (.tmp 57) (.val (.pv (.bool false))), none⟩,
⟨some 59, .mov (.tmp 58), none⟩,
⟨some 60, .mov (.tmp 9), some (59, true)⟩,
⟨some 61, .bin .eql (.tmp 60) (.val (.pv (.int .i64 0))), some (59, true)⟩,
⟨some 62, .pick (.tmp 59) (.tmp 61) (.val (.pv (.bool false))), none⟩,
⟨some 63, .mov (.tmp 62), none⟩,
⟨some 64, .mov (.tmp 12), some (63, true)⟩,
⟨some 65, .bin .eql (.tmp 64) (.val (.pv (.int .i64 0))), some (63, true)⟩,
⟨some 66, .pick (.tmp 63) (.tmp 65) (.val (.pv (.bool false))), none⟩,
⟨some 67, .mov (.tmp 66), none⟩,
⟨some 68, .mov (.tmp 2), some (67, true)⟩,
⟨some 69, .lit 1 [.pv (.int .i64 0)] 3 [(0, 1, (.val (.pv (.int .i64 0)))), (1, 1, (.val (.pv (.int .i64 1)))), (2, 1, (.val (.pv (.int .i64 2))))], some (67, true)⟩,
⟨some 70, .call (.val (.func 14 [])) [(.tmp 68), (.tmp 69)], some (67, true)⟩,
⟨some 71, .pick (.tmp 67) (.tmp 70) (.val (.pv (.bool false))), none⟩,
⟨some 72, .mov (.tmp 71), none⟩,
⟨some 73, .mov (.tmp 4), some (72, true)⟩,
⟨some 74, .lit 1 [.pv (.int .i64 0)] 4 [(0, 1, (.val (.pv (.int .i64 2)))), (1, 1, (.val (.pv (.int .i64 1)))), (2, 1, (.val (.pv (.int .i64 0)))), (3, 1, (.val (.pv (.int .i64 1))))], some (72, true)⟩,
⟨some 75, .call (.val (.func 14 [])) [(.tmp 73), (.tmp 74)], some (72, true)⟩,
⟨some 76, .pick (.tmp 72) (.tmp 75) (.val (.pv (.bool false))), none⟩,
⟨some 77, .mov (.tmp 76), none⟩,
⟨some 78, .mov (.tmp 6), some (77, true)⟩,
⟨some 79, .lit 1 [.pv (.int .i64 0)] 1 [(0, 1, (.val (.pv (.int .i64 0))))], some (77, true)⟩,
⟨some 80, .lit 1 [.pv (.int .i64 0)] 2 [(0, 1, (.val (.pv (.int .i64 1)))), (1, 1, (.val (.pv (.int .i64 2))))], some (77, true)⟩,
⟨some 81, .lit 1 [.pv (.int .i64 0)] 1 [(0, 1, (.val (.pv (.int .i64 3))))], some (77, true)⟩,
⟨some 82, .lit 1 [.tl []] 3 [(0, 1, (.tmp 79)), (1, 1, (.tmp 80)), (2, 1, (.tmp 81))], some (77, true)⟩,
⟨some 83, .call (.val (.func 355 [])) [(.tmp 78), (.tmp 82)], some (77, true)⟩,
⟨some 84, .pick (.tmp 77) (.tmp 83) (.val (.pv (.bool false))), none⟩,
⟨some 85, .mov (.tmp 84), none⟩,
⟨some 86, .mov (.tmp 8), some (85, true)⟩,
⟨some 87, .lit 1 [.pv (.int .i64 0)] 4 [(0, 1, (.val (.pv (.int .i64 0)))), (1, 1, (.val (.pv (.int .i64 1)))), (2, 1, (.val (.pv (.int .i64 3)))), (3, 1, (.val (.pv (.int .i64 2))))], some (85, true)⟩,
⟨some 88, .call (.val (.func 14 [])) [(.tmp 86), (.tmp 87)], some (85, true)⟩,
⟨some 89, .pick (.tmp 85) (.tmp 88) (.val (.pv (.bool false))), none⟩,
⟨some 90, .mov (.tmp 89), none⟩,
⟨some 91, .mov (.tmp 11), some (90, true)⟩,
⟨some 92, .pick (.tmp 90) (.tmp 91) (.val (.pv (.bool false))), none⟩,
⟨some 93, .mov (.tmp 92), none⟩,
⟨some 94, .mov (.tmp 1), some (93, true)⟩,
⟨some 95, .mov (.tmp 10), some (93, true)⟩,
⟨some 96, .call (.val (.func 359 [])) [(.val (.pv (.int .i64 4))), (.tmp 94), (.tmp 95)], some (93, true)⟩,
⟨some 97, .pick (.tmp 93) (.tmp 96) (.val (.pv (.bool false))), none⟩,
⟨some 0, .mov (.tmp 97), none⟩] [0] [])
.ret)))))))),
[.tmp 0], false, false, false⟩
def F346 : AFunc := ⟨2,
(.seq
(.region [
⟨some 4, .mov (.val (.pv (.bool false))), none⟩] [0, 1] [])
(.seq
(.region [
⟨some 5, .mov (.tmp 1), none⟩,
⟨some 6, .len 0 (.tmp 5), none⟩,
⟨some 7, .bin .leq (.tmp 6) (.val (.pv (.int .i64 40))), none⟩,
⟨some 8, .mov (.tmp 7), none⟩,
⟨some 9, .mov (.tmp 0), some (8, true)⟩,
⟨some 10, .bin .leq (.tmp 9) (.val (.pv (.int .i64 10))), some (8, true)⟩,
⟨some 11, .mov (.tmp 10), some (8, true)⟩,
⟨some 12, .mov (.tmp 0), some (11, false)⟩,
⟨some 13, .bin .gtr (.tmp 12) (.val (.pv (.int .i64 2000))), some (11, false)⟩,
⟨some 14, .pick (.tmp 11) (.val (.pv (.bool true))) (.tmp 13), some (8, true)⟩,
⟨some 15, .pick (.tmp 8) (.tmp 14) (.val (.pv (.bool false))), none⟩,
⟨some 4, .mov (.tmp 15), none⟩] [4] [])
.ret)),
[.tmp 4], false, false, false⟩
def F348 : AFunc := ⟨2,
(.seq
(.region [
⟨some 4, .mov (.val (.pv (.int .i64 0))), none⟩] [0, 1] [])
(.seq
(.seq
(.region [
⟨some 6, .mov (.tmp 0), none⟩,
⟨some 7, .bin .gtr (.tmp 6) (.val (.pv (.int .i64 2000))), none⟩,
⟨some 8, .mov (.tmp 7), none⟩,
⟨some 9, .mov (.tmp 1), some (8, false)⟩,
⟨some 10, .len 0 (.tmp 9), some (8, false)⟩,
⟨some 11, .bin .gtr (.tmp 10) (.val (.pv (.int .i64 40000))), some (8, false)⟩,
⟨some 12, .pick (.tmp 8) (.val (.pv (.bool true))) (.tmp 11), none⟩] [0, 1, 12] [])
(.cond (.tmp 12)
(.seq
(.region [
⟨some 4, .mov (.val (.pv (.int .i64 3))), none⟩] [4] [])
.ret)
.skip))
(.seq
(.seq
(.region [
⟨some 13, .mov (.tmp 0), none⟩,
⟨some 14, .bin .lss (.tmp 13) (.val (.pv (.int .i64 0))), none⟩] [0, 1, 14] [])
(.cond (.tmp 14)
(.seq
(.region [
⟨some 4, .mov (.val (.pv (.int .i64 1))), none⟩] [4] [])
.ret)
.skip))
(.seq
(.seq
(.region [
⟨some 5, .mov (.val (.pv (.int .i64 0))), none⟩] [0, 1, 5] [])
(.block 0
(.loop
(.mask [0, 1, 5] []
(.seq
(.seq
(.region [
⟨some 15, .mov (.tmp 5), none⟩,
⟨some 16, .mov (.tmp 1), none⟩,
⟨some 17, .len 0 (.tmp 16), none⟩,
⟨some 18, .bin .lss (.tmp 15) (.tmp 17), none⟩] [0, 1, 5, 18] [])
(.cond (.tmp 18)
.skip
(.exit 0)))
(.seq
(.block 1
(.seq
(.region [
⟨some 21, .mov (.tmp 1), none⟩,
⟨some 22, .mov (.tmp 5), none⟩,
⟨some 23, .idx 2 (.tmp 21) (.tmp 22), none⟩,
⟨some 24, .idxa 2 1 (.tmp 23) (.val (.pv (.int .i64 0))), none⟩,
⟨some 25, .load 1 false (.tmp 24), none⟩,
⟨some 26, .bin .lss (.tmp 25) (.val (.pv (.int .i64 0))), none⟩,
⟨some 27, .mov (.tmp 26), none⟩,
⟨some 28, .mov (.tmp 1), some (27, false)⟩,
⟨some 29, .mov (.tmp 5), some (27, false)⟩,
⟨some 30, .idx 2 (.tmp 28) (.tmp 29), some (27, false)⟩,
⟨some 31, .idxa 2 1 (.tmp 30) (.val (.pv (.int .i64 0))), some (27, false)⟩,
⟨some 32, .load 1 false (.tmp 31), some (27, false)⟩,
⟨some 33, .mov (.tmp 0), some (27, false)⟩,
⟨some 34, .bin .geq (.tmp 32) (.tmp 33), some (27, false)⟩,
⟨some 35, .pick (.tmp 27) (.val (.pv (.bool true))) (.tmp 34), none⟩,
⟨some 36, .mov (.tmp 35), none⟩,
⟨some 37, .mov (.tmp 1), some (36, false)⟩,
⟨some 38, .mov (.tmp 5), some (36, false)⟩,
⟨some 39, .idx 2 (.tmp 37) (.tmp 38), some (36, false)⟩,
⟨some 40, .idxa 2 1 (.tmp 39) (.val (.pv (.int .i64 1))), some (36, false)⟩,
⟨some 41, .load 1 false (.tmp 40), some (36, false)⟩,
⟨some 42, .bin .lss (.tmp 41) (.val (.pv (.int .i64 0))), some (36, false)⟩,
⟨some 43, .pick (.tmp 36) (.val (.pv (.bool true))) (.tmp 42), none⟩,
⟨some 44, .mov (.tmp 43), none⟩,
⟨some 45, .mov (.tmp 1), some (44, false)⟩,
⟨some 46, .mov (.tmp 5), some (44, false)⟩,
⟨some 47, .idx 2 (.tmp 45) (.tmp 46), some (44, false)⟩,
⟨some 48, .idxa 2 1 (.tmp 47) (.val (.pv (.int .i64 1))), some (44, false)⟩,
⟨some 49, .load 1 false (.tmp 48), some (44, false)⟩,
⟨some 50, .mov (.tmp 0), some (44, false)⟩,
⟨some 51, .bin .geq (.tmp 49) (.tmp 50), some (44, false)⟩,
⟨some 52, .pick (.tmp 44) (.val (.pv (.bool true))) (.tmp 51), none⟩] [0, 1, 5, 52] [])
(.cond (.tmp 52)
(.seq
(.region [
⟨some 4, .mov (.val (.pv (.int .i64 1))), none⟩] [4] [])
.ret)
.skip)))
(.region [
⟨some 19, .mov (.tmp 5), none⟩,
⟨some 20, .bin .add (.tmp 19) (.val (.pv (.int .i64 1))), none⟩,
⟨some 5, .mov (.tmp 20), none⟩] [0, 1, 5] [])))))))
(.seq
(.region [
⟨some 4, .mov (.val (.pv (.int .i64 0))), none⟩] [4] [])
.ret))))),
[.tmp 4], false, false, false⟩
def F349 : AFunc := ⟨3,
(.seq
(.region [
⟨some 6, .mov (.val (.tl [])), none⟩,
⟨some 7, .mov (.val (.pv (.int .i64 0))), none⟩] [0, 1, 2] [])
(.seq
(.seq
(.region [
⟨some 9, .mov (.tmp 0), none⟩,
⟨some 10, .mov (.tmp 1), none⟩,
⟨some 11, .mov (.tmp 2), none⟩,
⟨some 12, .call (.val (.func 112 [])) [(.tmp 9), (.tmp 10), (.tmp 11)], none⟩,
⟨some 8, .mov (.tmp 12), none⟩] [0, 1, 2, 8] [])
(.seq
(.region [
⟨some 13, .mov (.tmp 8), none⟩,
⟨some 14, .bin .neq (.tmp 13) (.val (.pv (.int .i64 0))), none⟩] [0, 1, 2, 8, 14] [])
(.cond (.tmp 14)
(.seq
(.region [
⟨some 15, .mov (.tmp 8), none⟩,
⟨some 6, .mov (.val (.tl [])), none⟩,
⟨some 7, .mov (.tmp 15), none⟩] [6, 7] [])
.ret)
.skip)))
(.seq
(.region [
⟨some 16, .mov (.tmp 0), none⟩,
⟨some 17, .mov (.tmp 1), none⟩,
⟨some 18, .call (.val (.func 116 [])) [(.tmp 17)], none⟩,
⟨some 19, .call (.val (.func 115 [])) [(.tmp 16), (.tmp 18)], none⟩,
⟨some 20, .mov (.tmp 2), none⟩,
⟨some 21, .call (.val (.func 114 [])) [(.tmp 19), (.tmp 20)], none⟩,
⟨some 6, .mov (.tmp 21), none⟩,
⟨some 7, .mov (.val (.pv (.int .i64 0))), none⟩] [6, 7] [])
.ret))),
[.tmp 6, .tmp 7], false, false, false⟩
def F350 : AFunc := ⟨3,
(.seq
(.region [
⟨some 6, .mov (.val (.tl [])), none⟩,
⟨some 7, .mov (.val (.pv (.int .i64 0))), none⟩] [0, 1, 2] [])
(.seq
(.seq
(.region [
⟨some 16, .mov (.tmp 0), none⟩,
⟨some 17, .mov (.tmp 1), none⟩,
⟨some 18, .mov (.tmp 2), none⟩,
⟨some 19, .call (.val (.func 367 [])) [(.tmp 16), (.tmp 17), (.tmp 18)], none⟩,
⟨some 8, .mov (.tmp 19), none⟩] [0, 1, 2, 8] [])
(.seq
(.region [
⟨some 20, .mov (.tmp 8), none⟩,
⟨some 21, .bin .neq (.tmp 20) (.val (.pv (.int .i64 0))), none⟩] [0, 1, 2, 8, 21] [])
(.cond (.tmp 21)
(.seq
(.region [
⟨some 22, .mov (.tmp 8), none⟩,
⟨some 6, .mov (.val (.tl [])), none⟩,
⟨some 7, .mov (.tmp 22), none⟩] [6, 7] [])
.ret)
.skip)))
(.seq
(.region [
⟨some 9, .mov (.val (.tl [])), none⟩] [0, 1, 2, 9] [])
(.seq
(.seq
(.region [
⟨some 10, .mov (.val (.pv (.int .i64 0))), none⟩] [0, 1, 2, 9, 10] [])
(.block 0
(.loop
(.mask [0, 1, 2, 9, 10] []
(.seq
(.seq
(.region [
⟨some 23, .mov (.tmp 10), none⟩,
⟨some 24, .mov (.tmp 0), none⟩,
⟨some 25, .bin .lss (.tmp 23) (.tmp 24), none⟩] [0, 1, 2, 9, 10, 25] [])
(.cond (.tmp 25)
.skip
(.exit 0)))
(.seq
(.block 1
(.region [
⟨some 28, .mov (.tmp 9), none⟩,
⟨some 29, .lit 1 [.pv (.int .i64 0)] 1 [(0, 1, (.val (.pv (.int .i64 (-1)))))], none⟩,
⟨some 30, .app 1 (.tmp 28) (.tmp 29), none⟩,
⟨some 9, .mov (.tmp 30), none⟩] [0, 1, 2, 9, 10] []))
(.region [
⟨some 26, .mov (.tmp 10), none⟩,
⟨some 27, .bin .add (.tmp 26) (.val (.pv (.int .i64 1))), none⟩,
⟨some 10, .mov (.tmp 27), none⟩] [0, 1, 2, 9, 10] [])))))))
(.seq
(.seq
(.region [
⟨some 11, .mov (.val (.pv (.int .i64 0))), none⟩] [1, 2, 9, 11] [])
(.block 2
(.loop
(.mask [1, 2, 9, 11] []
(.seq
(.seq
(.region [
⟨some 31, .mov (.tmp 11), none⟩,
⟨some 32, .mov (.tmp 2), none⟩,
⟨some 33, .len 0 (.tmp 32), none⟩,
⟨some 34, .bin .lss (.tmp 31) (.tmp 33), none⟩] [1, 2, 9, 11, 34] [])
(.cond (.tmp 34)
.skip
(.exit 2)))
(.seq
(.block 3
(.region [
⟨some 37, .mov (.tmp 9), none⟩,
⟨some 38, .mov (.tmp 2), none⟩,
⟨some 39, .mov (.tmp 11), none⟩,
⟨some 40, .idx 1 (.tmp 38) (.tmp 39), none⟩,
⟨some 41, .load 1 false (.tmp 40), none⟩,
⟨some 42, .idx 1 (.tmp 37) (.tmp 41), none⟩,
⟨none, .store 1 (.tmp 42) (.val (.pv (.int .i64 0))), none⟩] [1, 2, 9, 11] []))
(.region [
⟨some 35, .mov (.tmp 11), none⟩,
⟨some 36, .bin .add (.tmp 35) (.val (.pv (.int .i64 1))), none⟩,
⟨some 11, .mov (.tmp 36), none⟩] [1, 2, 9, 11] [])))))))
(.seq
(.seq
(.region [
⟨some 12, .mov (.val (.pv (.bool true))), none⟩] [1, 9, 12] [])
(.block 4
(.loop
(.mask [1, 9, 12] []
(.seq
(.seq
(.region [
⟨some 43, .mov (.tmp 12), none⟩] [1, 9, 43] [])
(.cond (.tmp 43)
.skip
(.exit 4)))
(.block 5
(.seq
(.region [
⟨some 12, .mov (.val (.pv (.bool false))), none⟩] [1, 9, 12] [])
(.seq
(.region [
⟨some 13, .mov (.val (.pv (.int .i64 0))), none⟩] [1, 9, 12, 13] [])
(.block 6
(.loop
(.mask [1, 9, 12, 13] []
(.seq
(.seq
(.region [
⟨some 44, .mov (.tmp 13), none⟩,
⟨some 45, .mov (.tmp 1), none⟩,
⟨some 46, .len 0 (.tmp 45), none⟩,
⟨some 47, .bin .lss (.tmp 44) (.tmp 46), none⟩] [1, 9, 12, 13, 47] [])
(.cond (.tmp 47)
.skip
(.exit 6)))
(.seq
(.block 7
(.seq
(.draw [
(⟨some 50, .mov (.tmp 1), none⟩, []),
(⟨some 51, .mov (.tmp 13), none⟩, []),
(⟨some 52, .idx 2 (.tmp 50) (.tmp 51), none⟩, []),
(⟨some 53, .idxa 2 1 (.tmp 52) (.val (.pv (.int .i64 0))), none⟩, []),
(⟨some 54, .load 1 false (.tmp 53), none⟩, []),
(⟨some 55, .mov (.tmp 1), none⟩, []),
(⟨some 56, .mov (.tmp 13), none⟩, []),
(⟨some 57, .idx 2 (.tmp 55) (.tmp 56), none⟩, []),
(⟨some 58, .idxa 2 1 (.tmp 57) (.val (.pv (.int .i64 1))), none⟩, []),
(⟨some 59, .load 1 false (.tmp 58), none⟩, []),
(⟨some 14, .mov (.tmp 54), none⟩, []),
(⟨some 15, .mov (.tmp 59), none⟩, [])] [1, 9, 12, 13, 14, 15] [])
(.seq
(.draw [
(⟨some 60, .mov (.tmp 9), none⟩, []),
(⟨some 61, .mov (.tmp 15), none⟩, []),
(⟨some 62, .idx 1 (.tmp 60) (.tmp 61), none⟩, []),
(⟨some 63, .load 1 false (.tmp 62), none⟩, []),
(⟨some 64, .bin .geq (.tmp 63) (.val (.pv (.int .i64 0))), none⟩, []),
(⟨some 65, .mov (.tmp 64), none⟩, []),
(⟨some 66, .mov (.tmp 9), some (65, true)⟩, []),
(⟨some 67, .mov (.tmp 14), some (65, true)⟩, []),
(⟨some 68, .idx 1 (.tmp 66) (.tmp 67), some (65, true)⟩, []),
(⟨some 69, .load 1 false (.tmp 68), some (65, true)⟩, []),
(⟨some 70, .bin .lss (.tmp 69) (.val (.pv (.int .i64 0))), some (65, true)⟩, []),
(⟨some 71, .mov (.tmp 70), some (65, true)⟩, []),
(⟨some 72, .mov (.tmp 9), some (71, false)⟩, []),
(⟨some 73, .mov (.tmp 14), some (71, false)⟩, []),
(⟨some 74, .idx 1 (.tmp 72) (.tmp 73), some (71, false)⟩, []),
(⟨some 75, .load 1 false (.tmp 74), some (71, false)⟩, []),
(⟨some 76, .mov (.tmp 9), some (71, false)⟩, []),
(⟨some 77, .mov (.tmp 15), some (71, false)⟩, []),
(⟨some 78, .idx 1 (.tmp 76) (.tmp 77), some (71, false)⟩, []),
(⟨some 79, .load 1 false (.tmp 78), some (71, false)⟩, []),
(⟨some 80, .bin .add (.tmp 79) (.val (.pv (.int .i64 1))), some (71, false)⟩, []),
(⟨some 81, .bin .gtr (.tmp 75) (.tmp 80), some (71, false)⟩, []),
(⟨some 82, .pick (.tmp 71) (.val (.pv (.bool true))) (.tmp 81), some (65, true)⟩, []),
(⟨some 83, .pick (.tmp 65) (.tmp 82) (.val (.pv (.bool false))), none⟩, [])] [1, 9, 12, 13, 14, 15, 83] [])
(.cond (.tmp 83)
(.seq
(.region [
⟨some 84, .mov (.tmp 9), none⟩,
⟨some 85, .mov (.tmp 14), none⟩,
⟨some 86, .mov (.tmp 9), none⟩,
⟨some 87, .mov (.tmp 15), none⟩,
⟨some 88, .idx 1 (.tmp 86) (.tmp 87), none⟩,
⟨some 89, .load 1 false (.tmp 88), none⟩,
⟨some 90, .bin .add (.tmp 89) (.val (.pv (.int .i64 1))), none⟩,
⟨some 91, .idx 1 (.tmp 84) (.tmp 85), none⟩,
⟨none, .store 1 (.tmp 91) (.tmp 90), none⟩] [1, 9, 13] [])
(.region [
⟨some 12, .mov (.val (.pv (.bool true))), none⟩] [1, 9, 12, 13] []))
.skip))))
(.region [
⟨some 48, .mov (.tmp 13), none⟩,
⟨some 49, .bin .add (.tmp 48) (.val (.pv (.int .i64 1))), none⟩,
⟨some 13, .mov (.tmp 49), none⟩] [1, 9, 12, 13] []))))))))))))))
(.seq
(.region [
⟨some 92, .mov (.tmp 9), none⟩,
⟨some 6, .mov (.tmp 92), none⟩,
⟨some 7, .mov (.val (.pv (.int .i64 0))), none⟩] [6, 7] [])
.ret))))))),
[.tmp 6, .tmp 7], false, false, false⟩
def F351 : AFunc := ⟨4,
(.seq
(.region [
⟨some 8, .mov (.val (.tl [])), none⟩,
⟨some 9, .mov (.val (.pv (.int .i64 0))), none⟩] [0, 1, 2, 3] [])
(.seq
(.seq
(.region [
⟨some 15, .mov (.tmp 0), none⟩,
⟨some 16, .mov (.tmp 1), none⟩,
⟨some 17, .mov (.tmp 2), none⟩,
⟨some 18, .mov (.tmp 3), none⟩,
⟨some 19, .lit 1 [.pv (.int .i64 0)] 2 [(0, 1, (.tmp 17)), (1, 1, (.tmp 18))], none⟩,
⟨some 20, .call (.val (.func 112 [])) [(.tmp 15), (.tmp 16), (.tmp 19)], none⟩,
⟨some 10, .mov (.tmp 20), none⟩] [0, 1, 2, 3, 10] [])
(.seq
(.region [
⟨some 21, .mov (.tmp 10), none⟩,
⟨some 22, .bin .neq (.tmp 21) (.val (.pv (.int .i64 0))), none⟩] [0, 1, 2, 3, 10, 22] [])
(.cond (.tmp 22)
(.seq
(.region [
⟨some 23, .mov (.tmp 10), none⟩,
⟨some 8, .mov (.val (.tl [])), none⟩,
⟨some 9, .mov (.tmp 23), none⟩] [8, 9] [])
.ret)
.skip)))
(.seq
(.region [
⟨some 24, .mov (.tmp 0), none⟩,
⟨some 25, .mov (.tmp 1), none⟩,
⟨some 26, .call (.val (.func 116 [])) [(.tmp 25)], none⟩,
⟨some 27, .call (.val (.func 115 [])) [(.tmp 24), (.tmp 26)], none⟩,
⟨some 28, .mov (.tmp 3), none⟩,
⟨some 29, .lit 1 [.pv (.int .i64 0)] 1 [(0, 1, (.tmp 28))], none⟩,
⟨some 30, .call (.val (.func 114 [])) [(.tmp 27), (.tmp 29)], none⟩,
⟨some 11, .alloc 11 [.tl []], none⟩,
⟨none, .store 1 (.tmp 11) (.tmp 30), none⟩] [0, 1, 2, 3, 11] [11])
(.seq
(.seq
(.region [
⟨some 31, .load 1 false (.tmp 11), none⟩,
⟨some 32, .mov (.tmp 2), none⟩,
⟨some 33, .idx 1 (.tmp 31) (.tmp 32), none⟩,
⟨some 34, .load 1 false (.tmp 33), none⟩,
⟨some 35, .bin .lss (.tmp 34) (.val (.pv (.int .i64 0))), none⟩] [0, 1, 2, 3, 11, 35] [11])
(.cond (.tmp 35)
(.seq
(.region [
⟨some 8, .mov (.val (.tl [])), none⟩,
⟨some 9, .mov (.val (.pv (.int .i64 4))), none⟩] [8, 9] [])
.ret)
.skip))
(.seq
(.region [
⟨some 36, .mov (.tmp 0), none⟩,
⟨some 37, .mov (.tmp 1), none⟩,
⟨some 38, .call (.val (.func 115 [])) [(.tmp 36), (.tmp 37)], none⟩,
⟨some 12, .mov (.tmp 38), none⟩] [2, 3, 11, 12] [11])
(.seq
(.region [
⟨some 39, .mov (.tmp 2), none⟩,
⟨some 40, .lit 1 [.pv (.int .i64 0)] 1 [(0, 1, (.tmp 39))], none⟩,
⟨some 13, .mov (.tmp 40), none⟩] [2, 3, 11, 12, 13] [11])
(.seq
(.seq
(.region [
⟨some 41, .mov (.tmp 2), none⟩,
⟨some 14, .alloc 14 [.pv (.int .i64 0)], none⟩,
⟨none, .store 1 (.tmp 14) (.tmp 41), none⟩] [3, 11, 12, 13, 14] [11, 14])
(.block 0
(.loop
(.mask [3, 11, 12, 13, 14] [11, 14]
(.seq
(.seq
(.region [
⟨some 42, .load 1 false (.tmp 14), none⟩,
⟨some 43, .mov (.tmp 3), none⟩,
⟨some 44, .bin .neq (.tmp 42) (.tmp 43), none⟩] [3, 11, 12, 13, 14, 44] [11, 14])
(.cond (.tmp 44)
.skip
(.exit 0)))
(.seq
(.block 1
(.seq
(.draw [
(⟨some 45, .mov (.tmp 12), none⟩, []),
(⟨some 46, .load 1 false (.tmp 14), none⟩, []),
(⟨some 47, .idx 1 (.tmp 45) (.tmp 46), none⟩, []),
(⟨some 48, .load 1 false (.tmp 47), none⟩, []),
(⟨some 49, .mov (.tmp 12), none⟩, []),
(⟨some 50, .load 1 false (.tmp 14), none⟩, []),
(⟨some 51, .idx 1 (.tmp 49) (.tmp 50), none⟩, []),
(⟨some 52, .load 1 false (.tmp 51), none⟩, []),
(⟨some 53, .clos 368 [(.tmp 11), (.tmp 14)], none⟩, []),
(⟨some 54, .call (.val (.func 117 [])) [(.tmp 52), (.tmp 53)], none⟩, [1, 2, 3]),
(⟨some 55, .idx 1 (.tmp 48) (.tmp 54), none⟩, []),
(⟨some 56, .load 1 false (.tmp 55), none⟩, []),
(⟨none, .store 1 (.tmp 14) (.tmp 56), none⟩, [])] [3, 11, 12, 13, 14] [11, 14])
(.region [
⟨some 57, .mov (.tmp 13), none⟩,
⟨some 58, .load 1 false (.tmp 14), none⟩,
⟨some 59, .lit 1 [.pv (.int .i64 0)] 1 [(0, 1, (.tmp 58))], none⟩,
⟨some 60, .app 1 (.tmp 57) (.tmp 59), none⟩,
⟨some 13, .mov (.tmp 60), none⟩] [3, 11, 12, 13, 14] [11, 14])))
(.seq
(.region [
⟨some 61, .load 1 false (.tmp 14), none⟩] [3, 11, 12, 13, 61] [11])
(.region [
⟨some 14, .alloc 14 [.pv (.int .i64 0)], none⟩,
⟨none, .store 1 (.tmp 14) (.tmp 61), none⟩] [3, 11, 12, 13, 14] [11, 14]))))))))
(.seq
(.region [
⟨some 62, .mov (.tmp 13), none⟩,
⟨some 8, .mov (.tmp 62), none⟩,
⟨some 9, .mov (.val (.pv (.int .i64 0))), none⟩] [8, 9] [])
.ret)))))))),
[.tmp 8, .tmp 9], false, false, false⟩
def F353 : AFunc := ⟨2,
(.seq
(.region [
⟨some 4, .mov (.val (.tl [])), none⟩,
⟨some 5, .mov (.val (.pv (.int .i64 0))), none⟩] [0, 1] [])
(.seq
(.seq
(.region [
⟨some 9, .mov (.tmp 0), none⟩,
⟨some 10, .mov (.tmp 1), none⟩,
⟨some 11, .call (.val (.func 128 [])) [(.tmp 9), (.tmp 10)], none⟩,
⟨some 6, .mov (.tmp 11), none⟩] [0, 1, 6] [])
(.seq
(.region [
⟨some 12, .mov (.tmp 6), none⟩,
⟨some 13, .bin .neq (.tmp 12) (.val (.pv (.int .i64 0))), none⟩] [0, 1, 6, 13] [])
(.cond (.tmp 13)
(.seq
(.region [
⟨some 14, .mov (.tmp 6), none⟩,
⟨some 4, .mov (.val (.tl [])), none⟩,
⟨some 5, .mov (.tmp 14), none⟩] [4, 5] [])
.ret)
.skip)))
(.seq
(.drawR 3 [
(⟨some 15, .mov (.tmp 0), none⟩, []),
(⟨some 16, .mov (.tmp 1), none⟩, []),
(⟨some 17, .call (.val (.func 115 [])) [(.tmp 15), (.tmp 16)], none⟩, []),
(⟨some 18, .mov (.tmp 0), none⟩, []),
(⟨some 19, .makeAt 0 1 [.pv (.int .i64 0)] (.tmp 18) (.tmp 18), none⟩, [2]),
(⟨some 20, .mov (.tmp 0), none⟩, []),
(⟨some 21, .makeAt 1 1 [.pv (.int .i64 0)] (.tmp 20) (.tmp 20), none⟩, [2, 4]),
(⟨some 22, .mov (.tmp 0), none⟩, []),
(⟨some 23, .makeAt 2 1 [.pv (.bool false)] (.tmp 22) (.tmp 22), none⟩, [2, 4, 6]),
(⟨some 24, .build [.tl [], .tl [], .tl [], .tl [], .tl [], .pv (.int .i64 0), .tl []] [(0, 1, (.tmp 17)), (1, 1, (.tmp 19)), (2, 1, (.tmp 21)), (4, 1, (.tmp 23))], none⟩, []),
(⟨some 25, .box 25 7 (.tmp 24), none⟩, []),
(⟨some 7, .mov (.tmp 25), none⟩, [])] [0, 7] [25])
(.seq
(.seq
(.region [
⟨some 26, .mov (.tmp 0), none⟩,
⟨some 27, .mov (.val (.pv (.int .i64 0))), none⟩] [7, 26, 27] [25])
(.block 0
(.loop
(.mask [7, 26, 27] [25]
(.seq
(.region [
⟨some 28, .bin .lss (.tmp 27) (.tmp 26), none⟩] [7, 26, 27, 28] [25])
(.seq
(.cond (.tmp 28)
.skip
(.exit 0))
(.seq
(.block 1
(.seq
(.region [
⟨some 29, .mov (.tmp 27), none⟩,
⟨some 8, .mov (.tmp 29), none⟩] [7, 8, 26, 27] [25])
(.seq
(.region [
⟨some 30, .mov (.tmp 7), none⟩,
⟨some 31, .nilck (.tmp 30), none⟩,
⟨some 32, .fld 1 (.tmp 31), none⟩,
⟨some 33, .load 1 false (.tmp 32), none⟩,
⟨some 34, .mov (.tmp 8), none⟩,
⟨some 35, .idx 1 (.tmp 33) (.tmp 34), none⟩,
⟨some 36, .load 1 false (.tmp 35), none⟩,
⟨some 37, .bin .eql (.tmp 36) (.val (.pv (.int .i64 0))), none⟩] [7, 8, 26, 27, 37] [25])
(.cond (.tmp 37)
(.region [
⟨some 38, .mov (.tmp 7), none⟩,
⟨some 39, .mov (.tmp 8), none⟩,
⟨some 40, .call (.val (.func 370 [])) [(.tmp 38), (.tmp 39)], none⟩] [7, 26, 27] [25])
.skip))))
(.region [
⟨some 41, .bin .add (.tmp 27) (.val (.pv (.int .i64 1))), none⟩,
⟨some 27, .mov (.tmp 41), none⟩] [7, 26, 27] [25]))))))))
(.seq
(.region [
⟨some 42, .mov (.tmp 7), none⟩,
⟨some 43, .nilck (.tmp 42), none⟩,
⟨some 44, .fld 6 (.tmp 43), none⟩,
⟨some 45, .load 1 false (.tmp 44), none⟩,
⟨some 46, .call (.val (.func 371 [])) [(.tmp 45), (.val (.func 372 []))], none⟩] [7] [25])
(.seq
(.region [
⟨some 47, .mov (.tmp 7), none⟩,
⟨some 48, .nilck (.tmp 47), none⟩,
⟨some 49, .fld 6 (.tmp 48), none⟩,
⟨some 50, .load 1 false (.tmp 49), none⟩,
⟨some 4, .mov (.tmp 50), none⟩,
⟨some 5, .mov (.val (.pv (.int .i64 0))), none⟩] [4, 5] [])
.ret)))))),
[.tmp 4, .tmp 5], false, false, false⟩
def F354 : AFunc := ⟨2,
(.seq
(.region [
⟨some 4, .mov (.val (.tl [])), none⟩,
⟨some 5, .mov (.val (.pv (.int .i64 0))), none⟩] [0, 1] [])
(.seq
(.seq
(.region [
⟨some 11, .mov (.tmp 0), none⟩,
⟨some 12, .mov (.tmp 1), none⟩,
⟨some 13, .call (.val (.func 348 [])) [(.tmp 11), (.tmp 12)], none⟩,
⟨some 6, .mov (.tmp 13), none⟩] [0, 1, 6] [])
(.seq
(.region [
⟨some 14, .mov (.tmp 6), none⟩,
⟨some 15, .bin .neq (.tmp 14) (.val (.pv (.int .i64 0))), none⟩] [0, 1, 6, 15] [])
(.cond (.tmp 15)
(.seq
(.region [
⟨some 16, .mov (.tmp 6), none⟩,
⟨some 4, .mov (.val (.tl [])), none⟩,
⟨some 5, .mov (.tmp 16), none⟩] [4, 5] [])
.ret)
.skip)))
(.seq
(.region [
⟨some 7, .mov (.val (.tl [])), none⟩] [0, 1, 7] [])
(.seq
(.seq
(.region [
⟨some 8, .mov (.val (.pv (.int .i64 0))), none⟩] [0, 1, 7, 8] [])
(.block 0
(.loop
(.mask [0, 1, 7, 8] []
(.seq
(.seq
(.region [
⟨some 17, .mov (.tmp 8), none⟩,
⟨some 18, .mov (.tmp 0), none⟩,
⟨some 19, .bin .lss (.tmp 17) (.tmp 18), none⟩] [0, 1, 7, 8, 19] [])
(.cond (.tmp 19)
.skip
(.exit 0)))
(.seq
(.block 1
(.seq
(.region [
⟨some 9, .mov (.val (.pv (.int .i64 (-1)))), none⟩] [0, 1, 7, 8, 9] [])
(.seq
(.seq
(.region [
⟨some 10, .mov (.val (.pv (.int .i64 0))), none⟩] [0, 1, 7, 8, 9, 10] [])
(.block 2
(.loop
(.mask [0, 1, 7, 8, 9, 10] []
(.seq
(.seq
(.region [
⟨some 22, .mov (.tmp 10), none⟩,
⟨some 23, .mov (.tmp 7), none⟩,
⟨some 24, .len 0 (.tmp 23), none⟩,
⟨some 25, .bin .lss (.tmp 22) (.tmp 24), none⟩] [0, 1, 7, 8, 9, 10, 25] [])
(.cond (.tmp 25)
.skip
(.exit 2)))
(.seq
(.block 3
(.seq
(.region [
⟨some 28, .mov (.tmp 0), none⟩,
⟨some 29, .mov (.tmp 1), none⟩,
⟨some 30, .mov (.tmp 7), none⟩,
⟨some 31, .mov (.tmp 10), none⟩,
⟨some 32, .idx 1 (.tmp 30) (.tmp 31), none⟩,
⟨some 33, .load 1 false (.tmp 32), none⟩,
⟨some 34, .idx 1 (.tmp 33) (.val (.pv (.int .i64 0))), none⟩,
⟨some 35, .load 1 false (.tmp 34), none⟩,
⟨some 36, .mov (.tmp 8), none⟩,
⟨some 37, .call (.val (.func 373 [])) [(.tmp 28), (.tmp 29), (.tmp 35), (.tmp 36)], none⟩,
⟨some 38, .mov (.tmp 37), none⟩,
⟨some 39, .mov (.tmp 0), some (38, true)⟩,
⟨some 40, .mov (.tmp 1), some (38, true)⟩,
⟨some 41, .mov (.tmp 8), some (38, true)⟩,
⟨some 42, .mov (.tmp 7), some (38, true)⟩,
⟨some 43, .mov (.tmp 10), some (38, true)⟩,
⟨some 44, .idx 1 (.tmp 42) (.tmp 43), some (38, true)⟩,
⟨some 45, .load 1 false (.tmp 44), some (38, true)⟩,
⟨some 46, .idx 1 (.tmp 45) (.val (.pv (.int .i64 0))), some (38, true)⟩,
⟨some 47, .load 1 false (.tmp 46), some (38, true)⟩,
⟨some 48, .call (.val (.func 373 [])) [(.tmp 39), (.tmp 40), (.tmp 41), (.tmp 47)], some (38, true)⟩,
⟨some 49, .pick (.tmp 38) (.tmp 48) (.val (.pv (.bool false))), none⟩] [0, 1, 7, 8, 9, 10, 49] [])
(.cond (.tmp 49)
(.region [
⟨some 50, .mov (.tmp 10), none⟩,
⟨some 9, .mov (.tmp 50), none⟩] [0, 1, 7, 8, 9, 10] [])
.skip)))
(.region [
⟨some 26, .mov (.tmp 10), none⟩,
⟨some 27, .bin .add (.tmp 26) (.val (.pv (.int .i64 1))), none⟩,
⟨some 10, .mov (.tmp 27), none⟩] [0, 1, 7, 8, 9, 10] [])))))))
(.seq
(.seq
(.region [
⟨some 51, .mov (.tmp 9), none⟩,
⟨some 52, .bin .lss (.tmp 51) (.val (.pv (.int .i64 0))), none⟩] [0, 1, 7, 8, 9, 52] [])
(.cond (.tmp 52)
(.seq
(.region [
⟨some 53, .mov (.tmp 7), none⟩,
⟨some 54, .lit 1 [.tl []] 1 [(0, 1, (.val (.tl [])))], none⟩,
⟨some 55, .app 1 (.tmp 53) (.tmp 54), none⟩,
⟨some 7, .mov (.tmp 55), none⟩] [0, 1, 7, 8] [])
(.region [
⟨some 56, .mov (.tmp 7), none⟩,
⟨some 57, .len 0 (.tmp 56), none⟩,
⟨some 58, .bin .sub (.tmp 57) (.val (.pv (.int .i64 1))), none⟩,
⟨some 9, .mov (.tmp 58), none⟩] [0, 1, 7, 8, 9] []))
.skip))
(.region [
⟨some 59, .mov (.tmp 7), none⟩,
⟨some 60, .mov (.tmp 9), none⟩,
⟨some 61, .mov (.tmp 7), none⟩,
⟨some 62, .mov (.tmp 9), none⟩,
⟨some 63, .idx 1 (.tmp 61) (.tmp 62), none⟩,
⟨some 64, .load 1 false (.tmp 63), none⟩,
⟨some 65, .mov (.tmp 8), none⟩,
⟨some 66, .lit 1 [.pv (.int .i64 0)] 1 [(0, 1, (.tmp 65))], none⟩,
⟨some 67, .app 1 (.tmp 64) (.tmp 66), none⟩,
⟨some 68, .idx 1 (.tmp 59) (.tmp 60), none⟩,
⟨none, .store 1 (.tmp 68) (.tmp 67), none⟩] [0, 1, 7, 8] [])))))
(.region [
⟨some 20, .mov (.tmp 8), none⟩,
⟨some 21, .bin .add (.tmp 20) (.val (.pv (.int .i64 1))), none⟩,
⟨some 8, .mov (.tmp 21), none⟩] [0, 1, 7, 8] [])))))))
(.seq
(.region [
⟨some 69, .mov (.tmp 7), none⟩,
⟨some 4, .mov (.tmp 69), none⟩,
⟨some 5, .mov (.val (.pv (.int .i64 0))), none⟩] [4, 5] [])
.ret))))),
[.tmp 4, .tmp 5], false, false, false⟩
def F355 : AFunc := ⟨2,
(.seq
(.region [
⟨some 4, .mov (.val (.pv (.bool false))), none⟩] [0, 1] [])
(.seq
(.seq
(.region [
⟨some 6, .mov (.tmp 0), none⟩,
⟨some 7, .len 0 (.tmp 6), none⟩,
⟨some 8, .mov (.tmp 1), none⟩,
⟨some 9, .len 0 (.tmp 8), none⟩,
⟨some 10, .bin .neq (.tmp 7) (.tmp 9), none⟩] [0, 1, 10] [])
(.cond (.tmp 10)
(.seq
(.region [
⟨some 4, .mov (.val (.pv (.bool false))), none⟩] [4] [])
.ret)
.skip))
(.seq
(.seq
(.region [
⟨some 5, .mov (.val (.pv (.int .i64 0))), none⟩] [0, 1, 5] [])
(.block 0
(.loop
(.mask [0, 1, 5] []
(.seq
(.seq
(.region [
⟨some 11, .mov (.tmp 5), none⟩,
⟨some 12, .mov (.tmp 0), none⟩,
⟨some 13, .len 0 (.tmp 12), none⟩,
⟨some 14, .bin .lss (.tmp 11) (.tmp 13), none⟩] [0, 1, 5, 14] [])
(.cond (.tmp 14)
.skip
(.exit 0)))
(.seq
(.block 1
(.seq
(.draw [
(⟨some 17, .mov (.tmp 0), none⟩, []),
(⟨some 18, .mov (.tmp 5), none⟩, []),
(⟨some 19, .idx 1 (.tmp 17) (.tmp 18), none⟩, []),
(⟨some 20, .load 1 false (.tmp 19), none⟩, []),
(⟨some 21, .mov (.tmp 1), none⟩, []),
(⟨some 22, .mov (.tmp 5), none⟩, []),
(⟨some 23, .idx 1 (.tmp 21) (.tmp 22), none⟩, []),
(⟨some 24, .load 1 false (.tmp 23), none⟩, []),
(⟨some 25, .call (.val (.func 374 [])) [(.tmp 20), (.tmp 24)], none⟩, []),
(⟨some 26, .un .not (.tmp 25), none⟩, [])] [0, 1, 5, 26] [])
(.cond (.tmp 26)
(.seq
(.region [
⟨some 4, .mov (.val (.pv (.bool false))), none⟩] [4] [])
.ret)
.skip)))
(.region [
⟨some 15, .mov (.tmp 5), none⟩,
⟨some 16, .bin .add (.tmp 15) (.val (.pv (.int .i64 1))), none⟩,
⟨some 5, .mov (.tmp 16), none⟩] [0, 1, 5] [])))))))
(.seq
(.region [
⟨some 4, .mov (.val (.pv (.bool true))), none⟩] [4] [])
.ret)))),
[.tmp 4], false, false, false⟩
def F356 : AFunc := ⟨2,
(.seq
(.region [
⟨some 4, .mov (.val (.tl [])), none⟩,
⟨some 5, .mov (.val (.pv (.int .i64 0))), none⟩] [0, 1] [])
(.seq
(.seq
(.region [
⟨some 17, .mov (.tmp 0), none⟩,
⟨some 18, .mov (.tmp 1), none⟩,
⟨some 19, .call (.val (.func 128 [])) [(.tmp 17), (.tmp 18)], none⟩,
⟨some 6, .mov (.tmp 19), none⟩] [0, 1, 6] [])
(.seq
(.region [
⟨some 20, .mov (.tmp 6), none⟩,
⟨some 21, .bin .neq (.tmp 20) (.val (.pv (.int .i64 0))), none⟩] [0, 1, 6, 21] [])
(.cond (.tmp 21)
(.seq
(.region [
⟨some 22, .mov (.tmp 6), none⟩,
⟨some 4, .mov (.val (.tl [])), none⟩,
⟨some 5, .mov (.tmp 22), none⟩] [4, 5] [])
.ret)
.skip)))
(.seq
(.region [
⟨some 23, .mov (.tmp 0), none⟩,
⟨some 24, .mov (.tmp 1), none⟩,
⟨some 25, .call (.val (.func 115 [])) [(.tmp 23), (.tmp 24)], none⟩,
⟨some 7, .mov (.tmp 25), none⟩] [0, 7] [])
(.seq
(.region [
⟨some 26, .mov (.tmp 0), none⟩,
⟨some 27, .make 1 [.pv (.int .i64 0)] (.tmp 26) (.tmp 26), none⟩,
⟨some 8, .mov (.tmp 27), none⟩] [0, 7, 8] [])
(.seq
(.seq
(.region [
⟨some 28, .mov (.tmp 7), none⟩,
⟨some 29, .len 0 (.tmp 28), none⟩,
⟨some 30, .mov (.val (.pv (.int .i64 0))), none⟩] [0, 7, 8, 28, 29, 30] [])
(.block 0
(.loop
(.mask [0, 7, 8, 28, 29, 30] []
(.seq
(.region [
⟨some 31, .bin .lss (.tmp 30) (.tmp 29), none⟩] [0, 7, 8, 28, 29, 30, 31] [])
(.seq
(.cond (.tmp 31)
.skip
(.exit 0))
(.seq
(.block 1
(.seq
(.region [
⟨some 32, .idx 1 (.tmp 28) (.tmp 30), none⟩,
⟨some 33, .load 1 false (.tmp 32), none⟩,
⟨some 10, .mov (.tmp 33), none⟩] [0, 7, 8, 10, 28, 29, 30] [])
(.seq
(.region [
⟨some 34, .mov (.tmp 10), none⟩,
⟨some 35, .len 0 (.tmp 34), none⟩,
⟨some 36, .mov (.val (.pv (.int .i64 0))), none⟩] [0, 7, 8, 28, 29, 30, 34, 35, 36] [])
(.block 2
(.loop
(.mask [0, 7, 8, 28, 29, 30, 34, 35, 36] []
(.seq
(.region [
⟨some 37, .bin .lss (.tmp 36) (.tmp 35), none⟩] [0, 7, 8, 28, 29, 30, 34, 35, 36, 37] [])
(.seq
(.cond (.tmp 37)
.skip
(.exit 2))
(.seq
(.block 3
(.seq
(.region [
⟨some 38, .idx 1 (.tmp 34) (.tmp 36), none⟩,
⟨some 39, .load 1 false (.tmp 38), none⟩,
⟨some 12, .mov (.tmp 39), none⟩] [0, 7, 8, 12, 28, 29, 30, 34, 35, 36] [])
(.region [
⟨some 40, .mov (.tmp 8), none⟩,
⟨some 41, .mov (.tmp 12), none⟩,
⟨some 42, .idx 1 (.tmp 40) (.tmp 41), none⟩,
⟨some 43, .load 1 false (.tmp 42), none⟩,
⟨some 44, .bin .add (.tmp 43) (.val (.pv (.int .i64 1))), none⟩,
⟨some 45, .idx 1 (.tmp 40) (.tmp 41), none⟩,
⟨none, .store 1 (.tmp 45) (.tmp 44), none⟩] [0, 7, 8, 28, 29, 30, 34, 35, 36] [])))
(.region [
⟨some 46, .bin .add (.tmp 36) (.val (.pv (.int .i64 1))), none⟩,
⟨some 36, .mov (.tmp 46), none⟩] [0, 7, 8, 28, 29, 30, 34, 35, 36] []))))))))))
(.region [
⟨some 47, .bin .add (.tmp 30) (.val (.pv (.int .i64 1))), none⟩,
⟨some 30, .mov (.tmp 47), none⟩] [0, 7, 8, 28, 29, 30] []))))))))
(.seq
(.region [
⟨some 13, .mov (.val (.tl [])), none⟩] [0, 7, 8, 13] [])
(.seq
(.seq
(.region [
⟨some 48, .mov (.tmp 0), none⟩,
⟨some 49, .mov (.val (.pv (.int .i64 0))), none⟩] [7, 8, 13, 48, 49] [])
(.block 4
(.loop
(.mask [7, 8, 13, 48, 49] []
(.seq
(.region [
⟨some 50, .bin .lss (.tmp 49) (.tmp 48), none⟩] [7, 8, 13, 48, 49, 50] [])
(.seq
(.cond (.tmp 50)
.skip
(.exit 4))
(.seq
(.block 5
(.seq
(.region [
⟨some 51, .mov (.tmp 8), none⟩,
⟨some 52, .call (.val (.func 118 [])) [(.tmp 51), (.val (.pv (.int .i64 0)))], none⟩,
⟨some 14, .mov (.tmp 52), none⟩] [7, 8, 13, 14, 48, 49] [])
(.seq
(.seq
(.region [
⟨some 53, .mov (.tmp 14), none⟩,
⟨some 54, .bin .lss (.tmp 53) (.val (.pv (.int .i64 0))), none⟩] [7, 8, 13, 14, 48, 49, 54] [])
(.cond (.tmp 54)
(.seq
(.region [
⟨some 4, .mov (.val (.tl [])), none⟩,
⟨some 5, .mov (.val (.pv (.int .i64 9))), none⟩] [4, 5] [])
.ret)
.skip))
(.seq
(.region [
⟨some 55, .mov (.tmp 8), none⟩,
⟨some 56, .mov (.tmp 14), none⟩,
⟨some 57, .idx 1 (.tmp 55) (.tmp 56), none⟩,
⟨none, .store 1 (.tmp 57) (.val (.pv (.int .i64 (-1)))), none⟩] [7, 8, 13, 14, 48, 49] [])
(.seq
(.region [
⟨some 58, .mov (.tmp 13), none⟩,
⟨some 59, .mov (.tmp 14), none⟩,
⟨some 60, .lit 1 [.pv (.int .i64 0)] 1 [(0, 1, (.tmp 59))], none⟩,
⟨some 61, .app 1 (.tmp 58) (.tmp 60), none⟩,
⟨some 13, .mov (.tmp 61), none⟩] [7, 8, 13, 14, 48, 49] [])
(.seq
(.region [
⟨some 62, .mov (.tmp 7), none⟩,
⟨some 63, .mov (.tmp 14), none⟩,
⟨some 64, .idx 1 (.tmp 62) (.tmp 63), none⟩,
⟨some 65, .load 1 false (.tmp 64), none⟩,
⟨some 66, .len 0 (.tmp 65), none⟩,
⟨some 67, .mov (.val (.pv (.int .i64 0))), none⟩] [7, 8, 13, 48, 49, 65, 66, 67] [])
(.block 6
(.loop
(.mask [7, 8, 13, 48, 49, 65, 66, 67] []
(.seq
(.region [
⟨some 68, .bin .lss (.tmp 67) (.tmp 66), none⟩] [7, 8, 13, 48, 49, 65, 66, 67, 68] [])
(.seq
(.cond (.tmp 68)
.skip
(.exit 6))
(.seq
(.block 7
(.seq
(.region [
⟨some 69, .idx 1 (.tmp 65) (.tmp 67), none⟩,
⟨some 70, .load 1 false (.tmp 69), none⟩,
⟨some 16, .mov (.tmp 70), none⟩] [7, 8, 13, 16, 48, 49, 65, 66, 67] [])
(.region [
⟨some 71, .mov (.tmp 8), none⟩,
⟨some 72, .mov (.tmp 16), none⟩,
⟨some 73, .idx 1 (.tmp 71) (.tmp 72), none⟩,
⟨some 74, .load 1 false (.tmp 73), none⟩,
⟨some 75, .bin .sub (.tmp 74) (.val (.pv (.int .i64 1))), none⟩,
⟨some 76, .idx 1 (.tmp 71) (.tmp 72), none⟩,
⟨none, .store 1 (.tmp 76) (.tmp 75), none⟩] [7, 8, 13, 48, 49, 65, 66, 67] [])))
(.region [
⟨some 77, .bin .add (.tmp 67) (.val (.pv (.int .i64 1))), none⟩,
⟨some 67, .mov (.tmp 77), none⟩] [7, 8, 13, 48, 49, 65, 66, 67] [])))))))))))))
(.region [
⟨some 78, .bin .add (.tmp 49) (.val (.pv (.int .i64 1))), none⟩,
⟨some 49, .mov (.tmp 78), none⟩] [7, 8, 13, 48, 49] []))))))))
(.seq
(.region [
⟨some 79, .mov (.tmp 13), none⟩,
⟨some 4, .mov (.tmp 79), none⟩,
⟨some 5, .mov (.val (.pv (.int .i64 0))), none⟩] [4, 5] [])
.ret)))))))),
[.tmp 4, .tmp 5], false, false, false⟩
def F358 : AFunc := ⟨2,
(.seq
(.region [
⟨some 4, .mov (.val (.tl [])), none⟩,
⟨some 5, .mov (.val (.pv (.bool false))), none⟩,
⟨some 6, .mov (.val (.pv (.int .i64 0))), none⟩] [0, 1] [])
(.seq
(.region [
⟨some 19, .mov (.tmp 0), none⟩,
⟨some 20, .mov (.tmp 1), none⟩,
⟨some 21, .call (.val (.func 353 [])) [(.tmp 19), (.tmp 20)], none⟩,
⟨some 18, .mov (.tmp 21), none⟩,
⟨some 22, .ext (.tmp 18) 0, none⟩,
⟨some 23, .ext (.tmp 18) 1, none⟩,
⟨some 7, .mov (.tmp 22), none⟩,
⟨some 8, .mov (.tmp 23), none⟩] [0, 1, 7, 8] [])
(.seq
(.seq
(.region [
⟨some 24, .mov (.tmp 8), none⟩,
⟨some 25, .bin .neq (.tmp 24) (.val (.pv (.int .i64 0))), none⟩] [0, 1, 7, 8, 25] [])
(.cond (.tmp 25)
(.seq
(.region [
⟨some 26, .mov (.tmp 8), none⟩,
⟨some 4, .mov (.val (.tl [])), none⟩,
⟨some 5, .mov (.val (.pv (.bool false))), none⟩,
⟨some 6, .mov (.tmp 26), none⟩] [4, 5, 6] [])
.ret)
.skip))
(.seq
(.region [
⟨some 27, .mov (.tmp 0), none⟩,
⟨some 28, .make 1 [.pv (.int .i64 0)] (.tmp 27) (.tmp 27), none⟩,
⟨some 9, .mov (.tmp 28), none⟩] [0, 1, 7, 9] [])
(.seq
(.seq
(.region [
⟨some 29, .mov (.tmp 7), none⟩,
⟨some 30, .len 0 (.tmp 29), none⟩,
⟨some 31, .mov (.val (.pv (.int .i64 0))), none⟩] [0, 1, 9, 29, 30, 31] [])
(.block 0
(.loop
(.mask [0, 1, 9, 29, 30, 31] []
(.seq
(.region [
⟨some 32, .bin .lss (.tmp 31) (.tmp 30), none⟩] [0, 1, 9, 29, 30, 31, 32] [])
(.seq
(.cond (.tmp 32)
.skip
(.exit 0))
(.seq
(.block 1
(.seq
(.region [
⟨some 33, .mov (.tmp 31), none⟩,
⟨some 34, .idx 1 (.tmp 29) (.tmp 31), none⟩,
⟨some 35, .load 1 false (.tmp 34), none⟩,
⟨some 10, .mov (.tmp 33), none⟩,
⟨some 11, .mov (.tmp 35), none⟩] [0, 1, 9, 10, 11, 29, 30, 31] [])
(.seq
(.region [
⟨some 36, .mov (.tmp 11), none⟩,
⟨some 37, .len 0 (.tmp 36), none⟩,
⟨some 38, .mov (.val (.pv (.int .i64 0))), none⟩] [0, 1, 9, 10, 29, 30, 31, 36, 37, 38] [])
(.block 2
(.loop
(.mask [0, 1, 9, 10, 29, 30, 31, 36, 37, 38] []
(.seq
(.region [
⟨some 39, .bin .lss (.tmp 38) (.tmp 37), none⟩] [0, 1, 9, 10, 29, 30, 31, 36, 37, 38, 39] [])
(.seq
(.cond (.tmp 39)
.skip
(.exit 2))
(.seq
(.block 3
(.seq
(.region [
⟨some 40, .idx 1 (.tmp 36) (.tmp 38), none⟩,
⟨some 41, .load 1 false (.tmp 40), none⟩,
⟨some 13, .mov (.tmp 41), none⟩] [0, 1, 9, 10, 13, 29, 30, 31, 36, 37, 38] [])
(.region [
⟨some 42, .mov (.tmp 9), none⟩,
⟨some 43, .mov (.tmp 13), none⟩,
⟨some 44, .mov (.tmp 10), none⟩,
⟨some 45, .idx 1 (.tmp 42) (.tmp 43), none⟩,
⟨none, .store 1 (.tmp 45) (.tmp 44), none⟩] [0, 1, 9, 10, 29, 30, 31, 36, 37, 38] [])))
(.region [
⟨some 46, .bin .add (.tmp 38) (.val (.pv (.int .i64 1))), none⟩,
⟨some 38, .mov (.tmp 46), none⟩] [0, 1, 9, 10, 29, 30, 31, 36, 37, 38] []))))))))))
(.region [
⟨some 47, .bin .add (.tmp 31) (.val (.pv (.int .i64 1))), none⟩,
⟨some 31, .mov (.tmp 47), none⟩] [0, 1, 9, 29, 30, 31] []))))))))
(.seq
(.seq
(.region [
⟨some 48, .mov (.tmp 1), none⟩,
⟨some 49, .len 0 (.tmp 48), none⟩,
⟨some 50, .mov (.val (.pv (.int .i64 0))), none⟩] [0, 1, 9, 48, 49, 50] [])
(.block 4
(.loop
(.mask [0, 1, 9, 48, 49, 50] []
(.seq
(.region [
⟨some 51, .bin .lss (.tmp 50) (.tmp 49), none⟩] [0, 1, 9, 48, 49, 50, 51] [])
(.seq
(.cond (.tmp 51)
.skip
(.exit 4))
(.seq
(.block 5
(.seq
(.region [
⟨some 52, .idx 2 (.tmp 48) (.tmp 50), none⟩,
⟨some 53, .load 2 true (.tmp 52), none⟩,
⟨some 15, .alloc 15 [.pv (.int .i64 0), .pv (.int .i64 0)], none⟩,
⟨none, .store 2 (.tmp 15) (.tmp 53), none⟩] [0, 1, 9, 15, 48, 49, 50] [15])
(.seq
(.draw [
(⟨some 54, .mov (.tmp 9), none⟩, []),
(⟨some 55, .idxa 2 1 (.tmp 15) (.val (.pv (.int .i64 0))), none⟩, []),
(⟨some 56, .load 1 false (.tmp 55), none⟩, []),
(⟨some 57, .idx 1 (.tmp 54) (.tmp 56), none⟩, []),
(⟨some 58, .load 1 false (.tmp 57), none⟩, []),
(⟨some 59, .mov (.tmp 9), none⟩, []),
(⟨some 60, .idxa 2 1 (.tmp 15) (.val (.pv (.int .i64 1))), none⟩, []),
(⟨some 61, .load 1 false (.tmp 60), none⟩, []),
(⟨some 62, .idx 1 (.tmp 59) (.tmp 61), none⟩, []),
(⟨some 63, .load 1 false (.tmp 62), none⟩, []),
(⟨some 64, .bin .eql (.tmp 58) (.tmp 63), none⟩, [])] [0, 1, 9, 15, 48, 49, 50, 64] [15])
(.cond (.tmp 64)
(.seq
(.region [
⟨some 66, .mov (.tmp 0), none⟩,
⟨some 67, .mov (.tmp 1), none⟩,
⟨some 68, .idxa 2 1 (.tmp 15) (.val (.pv (.int .i64 1))), none⟩,
⟨some 69, .load 1 false (.tmp 68), none⟩,
⟨some 70, .idxa 2 1 (.tmp 15) (.val (.pv (.int .i64 0))), none⟩,
⟨some 71, .load 1 false (.tmp 70), none⟩,
⟨some 72, .call (.val (.func 351 [])) [(.tmp 66), (.tmp 67), (.tmp 69), (.tmp 71)], none⟩,
⟨some 65, .mov (.tmp 72), none⟩,
⟨some 73, .ext (.tmp 65) 0, none⟩,
⟨some 74, .ext (.tmp 65) 1, none⟩,
⟨some 16, .mov (.tmp 73), none⟩,
⟨some 17, .mov (.tmp 74), none⟩] [16, 17] [])
(.seq
(.region [
⟨some 75, .mov (.tmp 16), none⟩,
⟨some 76, .mov (.tmp 17), none⟩,
⟨some 77, .bin .eql (.tmp 76) (.val (.pv (.int .i64 0))), none⟩,
⟨some 78, .mov (.tmp 17), none⟩,
⟨some 4, .mov (.tmp 75), none⟩,
⟨some 5, .mov (.tmp 77), none⟩,
⟨some 6, .mov (.tmp 78), none⟩] [4, 5, 6] [])
.ret))
.skip))))
(.region [
⟨some 79, .bin .add (.tmp 50) (.val (.pv (.int .i64 1))), none⟩,
⟨some 50, .mov (.tmp 79), none⟩] [0, 1, 9, 48, 49, 50] []))))))))
(.seq
(.region [
⟨some 4, .mov (.val (.tl [])), none⟩,
⟨some 5, .mov (.val (.pv (.bool false))), none⟩,
⟨some 6, .mov (.val (.pv (.int .i64 0))), none⟩] [4, 5, 6] [])
.ret))))))),
[.tmp 4, .tmp 5, .tmp 6], false, false, false⟩
def F359 : AFunc := ⟨3,
(.seq
(.region [
⟨some 6, .mov (.val (.pv (.bool false))), none⟩] [1, 2] [])
(.seq
(.seq
(.region [
⟨some 7, .mov (.val (.pv (.int .i64 0))), none⟩] [1, 2, 7] [])
(.block 0
(.loop
(.mask [1, 2, 7] []
(.seq
(.seq
(.region [
⟨some 8, .mov (.tmp 7), none⟩,
⟨some 9, .mov (.tmp 2), none⟩,
⟨some 10, .len 0 (.tmp 9), none⟩,
⟨some 11, .bin .lss (.tmp 8) (.tmp 10), none⟩] [1, 2, 7, 11] [])
(.cond (.tmp 11)
.skip
(.exit 0)))
(.seq
(.block 1
(.seq
(.draw [
(⟨some 14, .mov (.tmp 2), none⟩, []),
(⟨some 15, .mov (.tmp 7), none⟩, []),
(⟨some 16, .sl 1 (.tmp 14) none (some (.tmp 15)) none, none⟩, []),
(⟨some 17, .mov (.tmp 2), none⟩, []),
(⟨some 18, .mov (.tmp 7), none⟩, []),
(⟨some 19, .idx 1 (.tmp 17) (.tmp 18), none⟩, []),
(⟨some 20, .load 1 false (.tmp 19), none⟩, []),
(⟨some 21, .call (.val (.func 375 [])) [(.tmp 16), (.tmp 20)], none⟩, []),
(⟨some 22, .mov (.tmp 21), none⟩, []),
(⟨some 23, .mov (.tmp 1), some (22, false)⟩, []),
(⟨some 24, .mov (.tmp 2), some (22, false)⟩, []),
(⟨some 25, .mov (.tmp 7), some (22, false)⟩, []),
(⟨some 26, .idx 1 (.tmp 24) (.tmp 25), some (22, false)⟩, []),
(⟨some 27, .load 1 false (.tmp 26), some (22, false)⟩, []),
(⟨some 28, .mov (.tmp 2), some (22, false)⟩, []),
(⟨some 29, .mov (.tmp 7), some (22, false)⟩, []),
(⟨some 30, .bin .add (.tmp 29) (.val (.pv (.int .i64 1))), some (22, false)⟩, []),
(⟨some 31, .mov (.tmp 2), some (22, false)⟩, []),
(⟨some 32, .len 0 (.tmp 31), some (22, false)⟩, []),
(⟨some 33, .bin .rem (.tmp 30) (.tmp 32), some (22, false)⟩, []),
(⟨some 34, .idx 1 (.tmp 28) (.tmp 33), some (22, false)⟩, []),
(⟨some 35, .load 1 false (.tmp 34), some (22, false)⟩, []),
(⟨some 36, .call (.val (.func 369 [])) [(.tmp 23), (.tmp 27), (.tmp 35)], some (22, false)⟩, []),
(⟨some 37, .un .not (.tmp 36), some (22, false)⟩, []),
(⟨some 38, .pick (.tmp 22) (.val (.pv (.bool true))) (.tmp 37), none⟩, [])] [1, 2, 7, 38] [])
(.cond (.tmp 38)
(.seq
(.region [
⟨some 6, .mov (.val (.pv (.bool false))), none⟩] [6] [])
.ret)
.skip)))
(.region [
⟨some 12, .mov (.tmp 7), none⟩,
⟨some 13, .bin .add (.tmp 12) (.val (.pv (.int .i64 1))), none⟩,
⟨some 7, .mov (.tmp 13), none⟩] [1, 2, 7] [])))))))
(.seq
(.region [
⟨some 39, .mov (.tmp 2), none⟩,
⟨some 40, .len 0 (.tmp 39), none⟩,
⟨some 41, .bin .gtr (.tmp 40) (.val (.pv (.int .i64 0))), none⟩,
⟨some 6, .mov (.tmp 41), none⟩] [6] [])
.ret))),
[.tmp 6], false, false, false⟩
def F360 : AFunc := ⟨2,
(.seq
(.region [
⟨some 4, .mov (.val (.pv (.bool false))), none⟩] [0, 1] [])
(.seq
(.seq
(.region [
⟨some 5, .mov (.val (.pv (.int .i64 0))), none⟩] [0, 1, 5] [])
(.block 0
(.loop
(.mask [0, 1, 5] []
(.seq
(.seq
(.region [
⟨some 6, .mov (.tmp 5), none⟩,
⟨some 7, .mov (.tmp 1), none⟩,
⟨some 8, .len 0 (.tmp 7), none⟩,
⟨some 9, .bin .lss (.tmp 6) (.tmp 8), none⟩] [0, 1, 5, 9] [])
(.cond (.tmp 9)
.skip
(.exit 0)))
(.seq
(.block 1
(.seq
(.draw [
(⟨some 12, .mov (.tmp 0), none⟩, []),
(⟨some 13, .mov (.tmp 1), none⟩, []),
(⟨some 14, .mov (.tmp 1), none⟩, []),
(⟨some 15, .mov (.tmp 5), none⟩, []),
(⟨some 16, .idx 2 (.tmp 14) (.tmp 15), none⟩, []),
(⟨some 17, .idxa 2 1 (.tmp 16) (.val (.pv (.int .i64 1))), none⟩, []),
(⟨some 18, .load 1 false (.tmp 17), none⟩, []),
(⟨some 19, .mov (.tmp 1), none⟩, []),
(⟨some 20, .mov (.tmp 5), none⟩, []),
(⟨some 21, .idx 2 (.tmp 19) (.tmp 20), none⟩, []),
(⟨some 22, .idxa 2 1 (.tmp 21) (.val (.pv (.int .i64 0))), none⟩, []),
(⟨some 23, .load 1 false (.tmp 22), none⟩, []),
(⟨some 24, .call (.val (.func 373 [])) [(.tmp 12), (.tmp 13), (.tmp 18), (.tmp 23)], none⟩, [])] [0, 1, 5, 24] [])
(.cond (.tmp 24)
(.seq
(.region [
⟨some 4, .mov (.val (.pv (.bool true))), none⟩] [4] [])
.ret)
.skip)))
(.region [
⟨some 10, .mov (.tmp 5), none⟩,
⟨some 11, .bin .add (.tmp 10) (.val (.pv (.int .i64 1))), none⟩,
⟨some 5, .mov (.tmp 11), none⟩] [0, 1, 5] [])))))))
(.seq
(.region [
⟨some 4, .mov (.val (.pv (.bool false))), none⟩] [4] [])
.ret))),
[.tmp 4], false, false, false⟩
def F361 : AFunc := ⟨1,
(.seq
(.region [
⟨some 1, .box 1 2 (.tmp 0), none⟩,
⟨some 2, .mov (.val (.pv (.int .i64 0))), none⟩,
⟨some 3, .mov (.val (.tl [])), none⟩,
⟨some 4, .mov (.val (.pv (.bool false))), none⟩] [1] [1])
(.seq
(.region [
⟨some 8, .fld 0 (.tmp 1), none⟩,
⟨some 9, .load 1 false (.tmp 8), none⟩,
⟨some 10, .bin .rem (.tmp 9) (.val (.pv (.int .u8 9))), none⟩,
⟨some 11, .conv .i64 (.tmp 10), none⟩,
⟨some 12, .bin .add (.val (.pv (.int .i64 1))) (.tmp 11), none⟩,
⟨some 5, .mov (.tmp 12), none⟩] [1, 5] [1])
(.seq
(.region [
⟨some 6, .mov (.val (.tl [])), none⟩] [1, 5, 6] [1])
(.seq
(.seq
(.region [
⟨some 7, .mov (.val (.pv (.int .i64 0))), none⟩] [1, 5, 6, 7] [1])
(.block 0
(.loop
(.mask [1, 5, 6, 7] [1]
(.seq
(.seq
(.region [
⟨some 13, .mov (.tmp 7), none⟩,
⟨some 14, .fld 1 (.tmp 1), none⟩,
⟨some 15, .load 1 false (.tmp 14), none⟩,
⟨some 16, .len 0 (.tmp 15), none⟩,
⟨some 17, .bin .lss (.tmp 13) (.tmp 16), none⟩,
⟨some 18, .mov (.tmp 17), none⟩,
⟨some 19, .mov (.tmp 7), some (18, true)⟩,
⟨some 20, .bin .lss (.tmp 19) (.val (.pv (.int .i64 30))), some (18, true)⟩,
⟨some 21, .pick (.tmp 18) (.tmp 20) (.val (.pv (.bool false))), none⟩] [1, 5, 6, 7, 21] [1])
(.cond (.tmp 21)
.skip
(.exit 0)))
(.seq
(.block 1
(.draw [
(⟨some 24, .mov (.tmp 6), none⟩, []),
(⟨some 25, .fld 1 (.tmp 1), none⟩, []),
(⟨some 26, .load 1 false (.tmp 25), none⟩, []),
(⟨some 27, .mov (.tmp 7), none⟩, []),
(⟨some 28, .idx 2 (.tmp 26) (.tmp 27), none⟩, []),
(⟨some 29, .idxa 2 1 (.tmp 28) (.val (.pv (.int .i64 0))), none⟩, []),
(⟨some 30, .load 1 false (.tmp 29), none⟩, []),
(⟨some 31, .conv .i64 (.tmp 30), none⟩, []),
(⟨some 32, .mov (.tmp 5), none⟩, []),
(⟨some 33, .bin .rem (.tmp 31) (.tmp 32), none⟩, []),
(⟨some 34, .fld 1 (.tmp 1), none⟩, []),
(⟨some 35, .load 1 false (.tmp 34), none⟩, []),
(⟨some 36, .mov (.tmp 7), none⟩, []),
(⟨some 37, .idx 2 (.tmp 35) (.tmp 36), none⟩, []),
(⟨some 38, .idxa 2 1 (.tmp 37) (.val (.pv (.int .i64 1))), none⟩, []),
(⟨some 39, .load 1 false (.tmp 38), none⟩, []),
(⟨some 40, .conv .i64 (.tmp 39), none⟩, []),
(⟨some 41, .mov (.tmp 5), none⟩, []),
(⟨some 42, .bin .rem (.tmp 40) (.tmp 41), none⟩, []),
(⟨some 43, .build [.pv (.int .i64 0), .pv (.int .i64 0)] [(0, 1, (.tmp 33)), (1, 1, (.tmp 42))], none⟩, []),
(⟨some 44, .lit 2 [.pv (.int .i64 0), .pv (.int .i64 0)] 1 [(0, 2, (.tmp 43))], none⟩, []),
(⟨some 45, .app 2 (.tmp 24) (.tmp 44), none⟩, []),
(⟨some 6, .mov (.tmp 45), none⟩, [])] [1, 5, 6, 7] [1]))
(.region [
⟨some 22, .mov (.tmp 7), none⟩,
⟨some 23, .bin .add (.tmp 22) (.val (.pv (.int .i64 1))), none⟩,
⟨some 7, .mov (.tmp 23), none⟩] [1, 5, 6, 7] [1])))))))
(.seq
(.draw [
(⟨some 46, .mov (.tmp 5), none⟩, []),
(⟨some 47, .mov (.tmp 6), none⟩, []),
(⟨some 48, .fld 1 (.tmp 1), none⟩, []),
(⟨some 49, .load 1 false (.tmp 48), none⟩, []),
(⟨some 50, .len 0 (.tmp 49), none⟩, []),
(⟨some 51, .bin .leq (.tmp 50) (.val (.pv (.int .i64 30))), none⟩, []),
(⟨some 2, .mov (.tmp 46), none⟩, []),
(⟨some 3, .mov (.tmp 47), none⟩, []),
(⟨some 4, .mov (.tmp 51), none⟩, [])] [2, 3, 4] [])
.ret))))),
[.tmp 2, .tmp 3, .tmp 4], false, false, false⟩
def F362 : AFunc := ⟨1,
(.seq
(.region [
⟨some 1, .box 1 2 (.tmp 0), none⟩,
⟨some 2, .mov (.val (.pv (.bool false))), none⟩] [1] [1])
(.seq
(.region [
⟨some 3, .idxa 2 1 (.tmp 1) (.val (.pv (.int .i64 0))), none⟩,
⟨some 4, .load 1 false (.tmp 3), none⟩,
⟨some 5, .idxa 2 1 (.tmp 1) (.val (.pv (.int .i64 1))), none⟩,
⟨some 6, .load 1 false (.tmp 5), none⟩,
⟨some 7, .bin .eql (.tmp 4) (.tmp 6), none⟩,
⟨some 2, .mov (.tmp 7), none⟩] [2] [])
.ret)),
[.tmp 2], false, false, false⟩
def F363 : AFunc := ⟨3,
(.seq
(.region [
⟨some 6, .mov (.val (.tl [])), none⟩,
⟨some 7, .mov (.val (.pv (.int .i64 0))), none⟩] [0, 1, 2] [])
(.seq
(.seq
(.region [
⟨some 9, .mov (.tmp 0), none⟩,
⟨some 10, .mov (.tmp 1), none⟩,
⟨some 11, .mov (.tmp 2), none⟩,
⟨some 12, .call (.val (.func 112 [])) [(.tmp 9), (.tmp 10), (.tmp 11)], none⟩,
⟨some 8, .mov (.tmp 12), none⟩] [0, 1, 2, 8] [])
(.seq
(.region [
⟨some 13, .mov (.tmp 8), none⟩,
⟨some 14, .bin .neq (.tmp 13) (.val (.pv (.int .i64 0))), none⟩] [0, 1, 2, 8, 14] [])
(.cond (.tmp 14)
(.seq
(.region [
⟨some 15, .mov (.tmp 8), none⟩,
⟨some 6, .mov (.val (.tl [])), none⟩,
⟨some 7, .mov (.tmp 15), none⟩] [6, 7] [])
.ret)
.skip)))
(.seq
(.region [
⟨some 16, .mov (.tmp 0), none⟩,
⟨some 17, .mov (.tmp 1), none⟩,
⟨some 18, .call (.val (.func 115 [])) [(.tmp 16), (.tmp 17)], none⟩,
⟨some 19, .mov (.tmp 2), none⟩,
⟨some 20, .call (.val (.func 114 [])) [(.tmp 18), (.tmp 19)], none⟩,
⟨some 21, .call (.val (.func 113 [])) [(.tmp 20)], none⟩,
⟨some 6, .mov (.tmp 21), none⟩,
⟨some 7, .mov (.val (.pv (.int .i64 0))), none⟩] [6, 7] [])
.ret))),
[.tmp 6, .tmp 7], false, false, false⟩
def F367 : AFunc := ⟨3,
(.seq
(.region [
⟨some 6, .mov (.val (.pv (.int .i64 0))), none⟩] [0, 1, 2] [])
(.seq
(.seq
(.region [
⟨some 9, .mov (.tmp 0), none⟩,
⟨some 10, .mov (.tmp 1), none⟩,
⟨some 11, .call (.val (.func 348 [])) [(.tmp 9), (.tmp 10)], none⟩,
⟨some 7, .mov (.tmp 11), none⟩] [0, 2, 7] [])
(.seq
(.region [
⟨some 12, .mov (.tmp 7), none⟩,
⟨some 13, .bin .neq (.tmp 12) (.val (.pv (.int .i64 0))), none⟩] [0, 2, 7, 13] [])
(.cond (.tmp 13)
(.seq
(.region [
⟨some 14, .mov (.tmp 7), none⟩,
⟨some 6, .mov (.tmp 14), none⟩] [6] [])
.ret)
.skip)))
(.seq
(.seq
(.region [
⟨some 8, .mov (.val (.pv (.int .i64 0))), none⟩] [0, 2, 8] [])
(.block 0
(.loop
(.mask [0, 2, 8] []
(.seq
(.seq
(.region [
⟨some 15, .mov (.tmp 8), none⟩,
⟨some 16, .mov (.tmp 2), none⟩,
⟨some 17, .len 0 (.tmp 16), none⟩,
⟨some 18, .bin .lss (.tmp 15) (.tmp 17), none⟩] [0, 2, 8, 18] [])
(.cond (.tmp 18)
.skip
(.exit 0)))
(.seq
(.block 1
(.seq
(.region [
⟨some 21, .mov (.tmp 2), none⟩,
⟨some 22, .mov (.tmp 8), none⟩,
⟨some 23, .idx 1 (.tmp 21) (.tmp 22), none⟩,
⟨some 24, .load 1 false (.tmp 23), none⟩,
⟨some 25, .bin .lss (.tmp 24) (.val (.pv (.int .i64 0))), none⟩,
⟨some 26, .mov (.tmp 25), none⟩,
⟨some 27, .mov (.tmp 2), some (26, false)⟩,
⟨some 28, .mov (.tmp 8), some (26, false)⟩,
⟨some 29, .idx 1 (.tmp 27) (.tmp 28), some (26, false)⟩,
⟨some 30, .load 1 false (.tmp 29), some (26, false)⟩,
⟨some 31, .mov (.tmp 0), some (26, false)⟩,
⟨some 32, .bin .geq (.tmp 30) (.tmp 31), some (26, false)⟩,
⟨some 33, .pick (.tmp 26) (.val (.pv (.bool true))) (.tmp 32), none⟩] [0, 2, 8, 33] [])
(.cond (.tmp 33)
(.seq
(.region [
⟨some 6, .mov (.val (.pv (.int .i64 7))), none⟩] [6] [])
.ret)
.skip)))
(.region [
⟨some 19, .mov (.tmp 8), none⟩,
⟨some 20, .bin .add (.tmp 19) (.val (.pv (.int .i64 1))), none⟩,
⟨some 8, .mov (.tmp 20), none⟩] [0, 2, 8] [])))))))
(.seq
(.region [
⟨some 6, .mov (.val (.pv (.int .i64 0))), none⟩] [6] [])
.ret)))),
[.tmp 6], false, false, false⟩
def F368 : AFunc := ⟨3,
(.seq
(.region [
⟨some 4, .mov (.val (.pv (.bool false))), none⟩] [0, 1, 2] [])
(.seq
(.draw [
(⟨some 5, .load 1 false (.tmp 1), none⟩, []),
(⟨some 6, .mov (.tmp 0), none⟩, []),
(⟨some 7, .idx 1 (.tmp 5) (.tmp 6), none⟩, []),
(⟨some 8, .load 1 false (.tmp 7), none⟩, []),
(⟨some 9, .load 1 false (.tmp 1), none⟩, []),
(⟨some 10, .load 1 false (.tmp 2), none⟩, []),
(⟨some 11, .idx 1 (.tmp 9) (.tmp 10), none⟩, []),
(⟨some 12, .load 1 false (.tmp 11), none⟩, []),
(⟨some 13, .bin .sub (.tmp 12) (.val (.pv (.int .i64 1))), none⟩, []),
(⟨some 14, .bin .eql (.tmp 8) (.tmp 13), none⟩, []),
(⟨some 4, .mov (.tmp 14), none⟩, [])] [4] [])
.ret)),
[.tmp 4], false, false, false⟩
def F369 : AFunc := ⟨3,
(.seq
(.region [
⟨some 6, .mov (.val (.pv (.bool false))), none⟩] [0, 1, 2] [])
(.seq
(.seq
(.region [
⟨some 7, .mov (.val (.pv (.int .i64 0))), none⟩] [0, 1, 2, 7] [])
(.block 0
(.loop
(.mask [0, 1, 2, 7] []
(.seq
(.seq
(.region [
⟨some 8, .mov (.tmp 7), none⟩,
⟨some 9, .mov (.tmp 0), none⟩,
⟨some 10, .len 0 (.tmp 9), none⟩,
⟨some 11, .bin .lss (.tmp 8) (.tmp 10), none⟩] [0, 1, 2, 7, 11] [])
(.cond (.tmp 11)
.skip
(.exit 0)))
(.seq
(.block 1
(.seq
(.region [
⟨some 14, .mov (.tmp 0), none⟩,
⟨some 15, .mov (.tmp 7), none⟩,
⟨some 16, .idx 2 (.tmp 14) (.tmp 15), none⟩,
⟨some 17, .idxa 2 1 (.tmp 16) (.val (.pv (.int .i64 0))), none⟩,
⟨some 18, .load 1 false (.tmp 17), none⟩,
⟨some 19, .mov (.tmp 1), none⟩,
⟨some 20, .bin .eql (.tmp 18) (.tmp 19), none⟩,
⟨some 21, .mov (.tmp 20), none⟩,
⟨some 22, .mov (.tmp 0), some (21, true)⟩,
⟨some 23, .mov (.tmp 7), some (21, true)⟩,
⟨some 24, .idx 2 (.tmp 22) (.tmp 23), some (21, true)⟩,
⟨some 25, .idxa 2 1 (.tmp 24) (.val (.pv (.int .i64 1))), some (21, true)⟩,
⟨some 26, .load 1 false (.tmp 25), some (21, true)⟩,
⟨some 27, .mov (.tmp 2), some (21, true)⟩,
⟨some 28, .bin .eql (.tmp 26) (.tmp 27), some (21, true)⟩,
⟨some 29, .pick (.tmp 21) (.tmp 28) (.val (.pv (.bool false))), none⟩] [0, 1, 2, 7, 29] [])
(.cond (.tmp 29)
(.seq
(.region [
⟨some 6, .mov (.val (.pv (.bool true))), none⟩] [6] [])
.ret)
.skip)))
(.region [
⟨some 12, .mov (.tmp 7), none⟩,
⟨some 13, .bin .add (.tmp 12) (.val (.pv (.int .i64 1))), none⟩,
⟨some 7, .mov (.tmp 13), none⟩] [0, 1, 2, 7] [])))))))
(.seq
(.region [
⟨some 6, .mov (.val (.pv (.bool false))), none⟩] [6] [])
.ret))),
[.tmp 6], false, false, false⟩
def F370 : AFunc := ⟨2,
(.seq
(.region [
⟨some 10, .mov (.tmp 0), none⟩,
⟨some 11, .nilck (.tmp 10), none⟩,
⟨some 12, .fld 5 (.tmp 11), none⟩,
⟨some 13, .load 1 false (.tmp 12), none⟩,
⟨some 14, .bin .add (.tmp 13) (.val (.pv (.int .i64 1))), none⟩,
⟨some 15, .nilck (.tmp 10), none⟩,
⟨some 16, .fld 5 (.tmp 15), none⟩,
⟨none, .store 1 (.tmp 16) (.tmp 14), none⟩] [0, 1] [])
(.seq
(.draw [
(⟨some 17, .mov (.tmp 0), none⟩, []),
(⟨some 18, .nilck (.tmp 17), none⟩, []),
(⟨some 19, .fld 1 (.tmp 18), none⟩, []),
(⟨some 20, .load 1 false (.tmp 19), none⟩, []),
(⟨some 21, .mov (.tmp 1), none⟩, []),
(⟨some 22, .mov (.tmp 0), none⟩, []),
(⟨some 23, .nilck (.tmp 22), none⟩, []),
(⟨some 24, .fld 2 (.tmp 23), none⟩, []),
(⟨some 25, .load 1 false (.tmp 24), none⟩, []),
(⟨some 26, .mov (.tmp 1), none⟩, []),
(⟨some 27, .mov (.tmp 0), none⟩, []),
(⟨some 28, .nilck (.tmp 27), none⟩, []),
(⟨some 29, .fld 5 (.tmp 28), none⟩, []),
(⟨some 30, .load 1 false (.tmp 29), none⟩, []),
(⟨some 31, .mov (.tmp 0), none⟩, []),
(⟨some 32, .nilck (.tmp 31), none⟩, []),
(⟨some 33, .fld 5 (.tmp 32), none⟩, []),
(⟨some 34, .load 1 false (.tmp 33), none⟩, []),
(⟨some 35, .idx 1 (.tmp 20) (.tmp 21), none⟩, []),
(⟨none, .store 1 (.tmp 35) (.tmp 30), none⟩, []),
(⟨some 36, .idx 1 (.tmp 25) (.tmp 26), none⟩, []),
(⟨none, .store 1 (.tmp 36) (.tmp 34), none⟩, [])] [0, 1] [])
(.seq
(.draw [
(⟨some 37, .mov (.tmp 0), none⟩, []),
(⟨some 38, .mov (.tmp 0), none⟩, []),
(⟨some 39, .nilck (.tmp 38), none⟩, []),
(⟨some 40, .fld 4 (.tmp 39), none⟩, []),
(⟨some 41, .load 1 false (.tmp 40), none⟩, []),
(⟨some 42, .mov (.tmp 1), none⟩, []),
(⟨some 43, .mov (.tmp 0), none⟩, []),
(⟨some 44, .nilck (.tmp 43), none⟩, []),
(⟨some 45, .fld 3 (.tmp 44), none⟩, []),
(⟨some 46, .load 1 false (.tmp 45), none⟩, []),
(⟨some 47, .mov (.tmp 1), none⟩, []),
(⟨some 48, .lit 1 [.pv (.int .i64 0)] 1 [(0, 1, (.tmp 47))], none⟩, [4, 9]),
(⟨some 49, .app 1 (.tmp 46) (.tmp 48), none⟩, [4]),
(⟨some 50, .nilck (.tmp 37), none⟩, []),
(⟨some 51, .fld 3 (.tmp 50), none⟩, []),
(⟨none, .store 1 (.tmp 51) (.tmp 49), none⟩, []),
(⟨some 52, .idx 1 (.tmp 41) (.tmp 42), none⟩, []),
(⟨none, .store 1 (.tmp 52) (.val (.pv (.bool true))), none⟩, [])] [0, 1] [])
(.seq
(.seq
(.region [
⟨some 53, .mov (.tmp 0), none⟩,
⟨some 54, .nilck (.tmp 53), none⟩,
⟨some 55, .fld 0 (.tmp 54), none⟩,
⟨some 56, .load 1 false (.tmp 55), none⟩,
⟨some 57, .mov (.tmp 1), none⟩,
⟨some 58, .idx 1 (.tmp 56) (.tmp 57), none⟩,
⟨some 59, .load 1 false (.tmp 58), none⟩,
⟨some 60, .len 0 (.tmp 59), none⟩,
⟨some 61, .mov (.val (.pv (.int .i64 0))), none⟩] [0, 1, 59, 60, 61] [])
(.block 0
(.loop
(.mask [0, 1, 59, 60, 61] []
(.seq
(.region [
⟨some 62, .bin .lss (.tmp 61) (.tmp 60), none⟩] [0, 1, 59, 60, 61, 62] [])
(.seq
(.cond (.tmp 62)
.skip
(.exit 0))
(.seq
(.block 1
(.seq
(.region [
⟨some 63, .idx 1 (.tmp 59) (.tmp 61), none⟩,
⟨some 64, .load 1 false (.tmp 63), none⟩,
⟨some 5, .mov (.tmp 64), none⟩] [0, 1, 5, 59, 60, 61] [])
(.seq
(.region [
⟨some 65, .mov (.tmp 0), none⟩,
⟨some 66, .nilck (.tmp 65), none⟩,
⟨some 67, .fld 1 (.tmp 66), none⟩,
⟨some 68, .load 1 false (.tmp 67), none⟩,
⟨some 69, .mov (.tmp 5), none⟩,
⟨some 70, .idx 1 (.tmp 68) (.tmp 69), none⟩,
⟨some 71, .load 1 false (.tmp 70), none⟩,
⟨some 72, .bin .eql (.tmp 71) (.val (.pv (.int .i64 0))), none⟩] [0, 1, 5, 59, 60, 61, 72] [])
(.cond (.tmp 72)
(.seq
(.region [
⟨some 73, .mov (.tmp 0), none⟩,
⟨some 74, .mov (.tmp 5), none⟩,
⟨some 75, .call (.val (.func 370 [])) [(.tmp 73), (.tmp 74)], none⟩] [0, 1, 5, 59, 60, 61] [])
(.draw [
(⟨some 76, .mov (.tmp 0), none⟩, []),
(⟨some 77, .nilck (.tmp 76), none⟩, []),
(⟨some 78, .fld 2 (.tmp 77), none⟩, []),
(⟨some 79, .load 1 false (.tmp 78), none⟩, []),
(⟨some 80, .mov (.tmp 1), none⟩, []),
(⟨some 81, .mov (.tmp 0), none⟩, []),
(⟨some 82, .nilck (.tmp 81), none⟩, []),
(⟨some 83, .fld 2 (.tmp 82), none⟩, []),
(⟨some 84, .load 1 false (.tmp 83), none⟩, []),
(⟨some 85, .mov (.tmp 1), none⟩, []),
(⟨some 86, .idx 1 (.tmp 84) (.tmp 85), none⟩, []),
(⟨some 87, .load 1 false (.tmp 86), none⟩, []),
(⟨some 88, .mov (.tmp 0), none⟩, []),
(⟨some 89, .nilck (.tmp 88), none⟩, []),
(⟨some 90, .fld 2 (.tmp 89), none⟩, []),
(⟨some 91, .load 1 false (.tmp 90), none⟩, []),
(⟨some 92, .mov (.tmp 5), none⟩, []),
(⟨some 93, .idx 1 (.tmp 91) (.tmp 92), none⟩, []),
(⟨some 94, .load 1 false (.tmp 93), none⟩, []),
(⟨some 95, .minmax false [(.tmp 87), (.tmp 94)], none⟩, []),
(⟨some 96, .idx 1 (.tmp 79) (.tmp 80), none⟩, []),
(⟨none, .store 1 (.tmp 96) (.tmp 95), none⟩, [])] [0, 1, 59, 60, 61] []))
(.seq
(.region [
⟨some 97, .mov (.tmp 0), none⟩,
⟨some 98, .nilck (.tmp 97), none⟩,
⟨some 99, .fld 4 (.tmp 98), none⟩,
⟨some 100, .load 1 false (.tmp 99), none⟩,
⟨some 101, .mov (.tmp 5), none⟩,
⟨some 102, .idx 1 (.tmp 100) (.tmp 101), none⟩,
⟨some 103, .load 1 false (.tmp 102), none⟩] [0, 1, 5, 59, 60, 61, 103] [])
(.cond (.tmp 103)
(.draw [
(⟨some 104, .mov (.tmp 0), none⟩, []),
(⟨some 105, .nilck (.tmp 104), none⟩, []),
(⟨some 106, .fld 2 (.tmp 105), none⟩, []),
(⟨some 107, .load 1 false (.tmp 106), none⟩, []),
(⟨some 108, .mov (.tmp 1), none⟩, []),
(⟨some 109, .mov (.tmp 0), none⟩, []),
(⟨some 110, .nilck (.tmp 109), none⟩, []),
(⟨some 111, .fld 2 (.tmp 110), none⟩, []),
(⟨some 112, .load 1 false (.tmp 111), none⟩, []),
(⟨some 113, .mov (.tmp 1), none⟩, []),
(⟨some 114, .idx 1 (.tmp 112) (.tmp 113), none⟩, []),
(⟨some 115, .load 1 false (.tmp 114), none⟩, []),
(⟨some 116, .mov (.tmp 0), none⟩, []),
(⟨some 117, .nilck (.tmp 116), none⟩, []),
(⟨some 118, .fld 1 (.tmp 117), none⟩, []),
(⟨some 119, .load 1 false (.tmp 118), none⟩, []),
(⟨some 120, .mov (.tmp 5), none⟩, []),
(⟨some 121, .idx 1 (.tmp 119) (.tmp 120), none⟩, []),
(⟨some 122, .load 1 false (.tmp 121), none⟩, []),
(⟨some 123, .minmax false [(.tmp 115), (.tmp 122)], none⟩, []),
(⟨some 124, .idx 1 (.tmp 107) (.tmp 108), none⟩, []),
(⟨none, .store 1 (.tmp 124) (.tmp 123), none⟩, [])] [0, 1, 59, 60, 61] [])
.skip))))))
(.region [
⟨some 125, .bin .add (.tmp 61) (.val (.pv (.int .i64 1))), none⟩,
⟨some 61, .mov (.tmp 125), none⟩] [0, 1, 59, 60, 61] []))))))))
(.seq
(.seq
(.draw [
(⟨some 126, .mov (.tmp 0), none⟩, []),
(⟨some 127, .nilck (.tmp 126), none⟩, []),
(⟨some 128, .fld 2 (.tmp 127), none⟩, []),
(⟨some 129, .load 1 false (.tmp 128), none⟩, []),
(⟨some 130, .mov (.tmp 1), none⟩, []),
(⟨some 131, .idx 1 (.tmp 129) (.tmp 130), none⟩, []),
(⟨some 132, .load 1 false (.tmp 131), none⟩, []),
(⟨some 133, .mov (.tmp 0), none⟩, []),
(⟨some 134, .nilck (.tmp 133), none⟩, []),
(⟨some 135, .fld 1 (.tmp 134), none⟩, []),
(⟨some 136, .load 1 false (.tmp 135), none⟩, []),
(⟨some 137, .mov (.tmp 1), none⟩, []),
(⟨some 138, .idx 1 (.tmp 136) (.tmp 137), none⟩, []),
(⟨some 139, .load 1 false (.tmp 138), none⟩, []),
(⟨some 140, .bin .lss (.tmp 132) (.tmp 139), none⟩, [])] [0, 1, 140] [])
(.cond (.tmp 140)
.ret
.skip))
(.seq
(.region [
⟨some 141, .mov (.tmp 0), none⟩,
⟨some 142, .nilck (.tmp 141), none⟩,
⟨some 143, .fld 3 (.tmp 142), none⟩,
⟨some 144, .load 1 false (.tmp 143), none⟩,
⟨some 145, .mov (.tmp 1), none⟩,
⟨some 146, .call (.val (.func 118 [])) [(.tmp 144), (.tmp 145)], none⟩,
⟨some 6, .mov (.tmp 146), none⟩] [0, 6] [])
(.seq
(.region [
⟨some 147, .mov (.tmp 0), none⟩,
⟨some 148, .nilck (.tmp 147), none⟩,
⟨some 149, .fld 3 (.tmp 148), none⟩,
⟨some 150, .load 1 false (.tmp 149), none⟩,
⟨some 151, .mov (.tmp 6), none⟩,
⟨some 152, .sl 1 (.tmp 150) (some (.tmp 151)) none none, none⟩,
⟨some 153, .call (.val (.func 191 [])) [(.tmp 152)], none⟩,
⟨some 7, .mov (.tmp 153), none⟩] [0, 6, 7] [])
(.seq
(.region [
⟨some 154, .mov (.tmp 0), none⟩,
⟨some 155, .mov (.tmp 0), none⟩,
⟨some 156, .nilck (.tmp 155), none⟩,
⟨some 157, .fld 3 (.tmp 156), none⟩,
⟨some 158, .load 1 false (.tmp 157), none⟩,
⟨some 159, .mov (.tmp 6), none⟩,
⟨some 160, .sl 1 (.tmp 158) none (some (.tmp 159)) none, none⟩,
⟨some 161, .nilck (.tmp 154), none⟩,
⟨some 162, .fld 3 (.tmp 161), none⟩,
⟨none, .store 1 (.tmp 162) (.tmp 160), none⟩] [0, 7] [])
(.seq
(.seq
(.region [
⟨some 163, .mov (.tmp 7), none⟩,
⟨some 164, .len 0 (.tmp 163), none⟩,
⟨some 165, .mov (.val (.pv (.int .i64 0))), none⟩] [0, 7, 163, 164, 165] [])
(.block 2
(.loop
(.mask [0, 7, 163, 164, 165] []
(.seq
(.region [
⟨some 166, .bin .lss (.tmp 165) (.tmp 164), none⟩] [0, 7, 163, 164, 165, 166] [])
(.seq
(.cond (.tmp 166)
.skip
(.exit 2))
(.seq
(.block 3
(.seq
(.region [
⟨some 167, .idx 1 (.tmp 163) (.tmp 165), none⟩,
⟨some 168, .load 1 false (.tmp 167), none⟩,
⟨some 9, .mov (.tmp 168), none⟩] [0, 7, 9, 163, 164, 165] [])
(.region [
⟨some 169, .mov (.tmp 0), none⟩,
⟨some 170, .nilck (.tmp 169), none⟩,
⟨some 171, .fld 4 (.tmp 170), none⟩,
⟨some 172, .load 1 false (.tmp 171), none⟩,
⟨some 173, .mov (.tmp 9), none⟩,
⟨some 174, .idx 1 (.tmp 172) (.tmp 173), none⟩,
⟨none, .store 1 (.tmp 174) (.val (.pv (.bool false))), none⟩] [0, 7, 163, 164, 165] [])))
(.region [
⟨some 175, .bin .add (.tmp 165) (.val (.pv (.int .i64 1))), none⟩,
⟨some 165, .mov (.tmp 175), none⟩] [0, 7, 163, 164, 165] []))))))))
(.seq
(.region [
⟨some 176, .mov (.tmp 7), none⟩,
⟨some 177, .call (.val (.func 103 [])) [(.tmp 176)], none⟩] [0, 7] [])
(.region [
⟨some 178, .mov (.tmp 0), none⟩,
⟨some 179, .mov (.tmp 0), none⟩,
⟨some 180, .nilck (.tmp 179), none⟩,
⟨some 181, .fld 6 (.tmp 180), none⟩,
⟨some 182, .load 1 false (.tmp 181), none⟩,
⟨some 183, .mov (.tmp 7), none⟩,
⟨some 184, .lit 1 [.tl []] 1 [(0, 1, (.tmp 183))], none⟩,
⟨some 185, .app 1 (.tmp 182) (.tmp 184), none⟩,
⟨some 186, .nilck (.tmp 178), none⟩,
⟨some 187, .fld 6 (.tmp 186), none⟩,
⟨none, .store 1 (.tmp 187) (.tmp 185), none⟩] [] []))))))))))),
[], false, false, true⟩
def F371 : AFunc := ⟨2,
(.seq
(.region [
⟨some 5, .mov (.tmp 0), none⟩,
⟨some 6, .len 0 (.tmp 5), none⟩,
⟨some 4, .mov (.tmp 6), none⟩] [0, 1, 4] [])
(.region [
⟨some 7, .mov (.tmp 0), none⟩,
⟨some 8, .mov (.tmp 4), none⟩,
⟨some 9, .mov (.tmp 4), none⟩,
⟨some 10, .conv .u64 (.tmp 9), none⟩,
⟨some 11, .call (.val (.func 62 [])) [(.tmp 10)], none⟩,
⟨some 12, .mov (.tmp 1), none⟩,
⟨some 13, .call (.val (.func 376 [])) [(.tmp 7), (.val (.pv (.int .i64 0))), (.tmp 8), (.tmp 11), (.tmp 12)], none⟩] [] [])),
[], false, false, true⟩
def F372 : AFunc := ⟨2,
(.seq
(.region [
⟨some 4, .mov (.val (.pv (.int .i64 0))), none⟩] [0, 1] [])
(.seq
(.draw [
(⟨some 5, .mov (.tmp 0), none⟩, []),
(⟨some 6, .idx 1 (.tmp 5) (.val (.pv (.int .i64 0))), none⟩, []),
(⟨some 7, .load 1 false (.tmp 6), none⟩, []),
(⟨some 8, .mov (.tmp 1), none⟩, []),
(⟨some 9, .idx 1 (.tmp 8) (.val (.pv (.int .i64 0))), none⟩, []),
(⟨some 10, .load 1 false (.tmp 9), none⟩, []),
(⟨some 11, .call (.val (.func 60 [])) [(.tmp 7), (.tmp 10)], none⟩, []),
(⟨some 4, .mov (.tmp 11), none⟩, [])] [4] [])
.ret)),
[.tmp 4], false, false, false⟩
def F373 : AFunc := ⟨4,
(.seq
(.region [
⟨some 8, .mov (.val (.pv (.bool false))), none⟩] [0, 1, 2, 3] [])
(.seq
(.region [
⟨some 12, .mov (.tmp 0), none⟩,
⟨some 13, .mov (.tmp 1), none⟩,
⟨some 14, .mov (.tmp 3), none⟩,
⟨some 15, .lit 1 [.pv (.int .i64 0)] 1 [(0, 1, (.tmp 14))], none⟩,
⟨some 16, .call (.val (.func 350 [])) [(.tmp 12), (.tmp 13), (.tmp 15)], none⟩,
⟨some 11, .mov (.tmp 16), none⟩,
⟨some 17, .ext (.tmp 11) 0, none⟩,
⟨some 18, .ext (.tmp 11) 1, none⟩,
⟨some 9, .mov (.tmp 17), none⟩,
⟨some 10, .mov (.tmp 18), none⟩] [2, 9] [])
(.seq
(.region [
⟨some 19, .mov (.tmp 9), none⟩,
⟨some 20, .mov (.tmp 2), none⟩,
⟨some 21, .idx 1 (.tmp 19) (.tmp 20), none⟩,
⟨some 22, .load 1 false (.tmp 21), none⟩,
⟨some 23, .bin .geq (.tmp 22) (.val (.pv (.int .i64 0))), none⟩,
⟨some 8, .mov (.tmp 23), none⟩] [8] [])
.ret))),
[.tmp 8], false, false, false⟩
def F374 : AFunc := ⟨2,
(.seq
(.region [
⟨some 4, .mov (.val (.pv (.bool false))), none⟩] [0, 1] [])
(.seq
(.seq
(.region [
⟨some 6, .mov (.tmp 0), none⟩,
⟨some 7, .len 0 (.tmp 6), none⟩,
⟨some 8, .mov (.tmp 1), none⟩,
⟨some 9, .len 0 (.tmp 8), none⟩,
⟨some 10, .bin .neq (.tmp 7) (.tmp 9), none⟩] [0, 1, 10] [])
(.cond (.tmp 10)
(.seq
(.region [
⟨some 4, .mov (.val (.pv (.bool false))), none⟩] [4] [])
.ret)
.skip))
(.seq
(.seq
(.region [
⟨some 5, .mov (.val (.pv (.int .i64 0))), none⟩] [0, 1, 5] [])
(.block 0
(.loop
(.mask [0, 1, 5] []
(.seq
(.seq
(.region [
⟨some 11, .mov (.tmp 5), none⟩,
⟨some 12, .mov (.tmp 0), none⟩,
⟨some 13, .len 0 (.tmp 12), none⟩,
⟨some 14, .bin .lss (.tmp 11) (.tmp 13), none⟩] [0, 1, 5, 14] [])
(.cond (.tmp 14)
.skip
(.exit 0)))
(.seq
(.block 1
(.seq
(.draw [
(⟨some 17, .mov (.tmp 0), none⟩, []),
(⟨some 18, .mov (.tmp 5), none⟩, []),
(⟨some 19, .idx 1 (.tmp 17) (.tmp 18), none⟩, []),
(⟨some 20, .load 1 false (.tmp 19), none⟩, []),
(⟨some 21, .mov (.tmp 1), none⟩, []),
(⟨some 22, .mov (.tmp 5), none⟩, []),
(⟨some 23, .idx 1 (.tmp 21) (.tmp 22), none⟩, []),
(⟨some 24, .load 1 false (.tmp 23), none⟩, []),
(⟨some 25, .bin .neq (.tmp 20) (.tmp 24), none⟩, [])] [0, 1, 5, 25] [])
(.cond (.tmp 25)
(.seq
(.region [
⟨some 4, .mov (.val (.pv (.bool false))), none⟩] [4] [])
.ret)
.skip)))
(.region [
⟨some 15, .mov (.tmp 5), none⟩,
⟨some 16, .bin .add (.tmp 15) (.val (.pv (.int .i64 1))), none⟩,
⟨some 5, .mov (.tmp 16), none⟩] [0, 1, 5] [])))))))
(.seq
(.region [
⟨some 4, .mov (.val (.pv (.bool true))), none⟩] [4] [])
.ret)))),
[.tmp 4], false, false, false⟩
def F375 : AFunc := ⟨2,
(.seq
(.region [
⟨some 4, .mov (.val (.pv (.bool false))), none⟩] [0, 1] [])
(.seq
(.seq
(.region [
⟨some 5, .mov (.val (.pv (.int .i64 0))), none⟩] [0, 1, 5] [])
(.block 0
(.loop
(.mask [0, 1, 5] []
(.seq
(.seq
(.region [
⟨some 6, .mov (.tmp 5), none⟩,
⟨some 7, .mov (.tmp 0), none⟩,
⟨some 8, .len 0 (.tmp 7), none⟩,
⟨some 9, .bin .lss (.tmp 6) (.tmp 8), none⟩] [0, 1, 5, 9] [])
(.cond (.tmp 9)
.skip
(.exit 0)))
(.seq
(.block 1
(.seq
(.region [
⟨some 12, .mov (.tmp 0), none⟩,
⟨some 13, .mov (.tmp 5), none⟩,
⟨some 14, .idx 1 (.tmp 12) (.tmp 13), none⟩,
⟨some 15, .load 1 false (.tmp 14), none⟩,
⟨some 16, .mov (.tmp 1), none⟩,
⟨some 17, .bin .eql (.tmp 15) (.tmp 16), none⟩] [0, 1, 5, 17] [])
(.cond (.tmp 17)
(.seq
(.region [
⟨some 4, .mov (.val (.pv (.bool true))), none⟩] [4] [])
.ret)
.skip)))
(.region [
⟨some 10, .mov (.tmp 5), none⟩,
⟨some 11, .bin .add (.tmp 10) (.val (.pv (.int .i64 1))), none⟩,
⟨some 5, .mov (.tmp 11), none⟩] [0, 1, 5] [])))))))
(.seq
(.region [
⟨some 4, .mov (.val (.pv (.bool false))), none⟩] [4] [])
.ret))),
[.tmp 4], false, false, false⟩
def F376 : AFunc := ⟨5,
(.seq
(.region [
⟨some 10, .mov (.val (.pv (.bool true))), none⟩] [0, 1, 2, 3, 4, 10] [])
(.seq
(.region [
⟨some 11, .mov (.val (.pv (.bool true))), none⟩] [0, 1, 2, 3, 4, 10, 11] [])
(.block 0
(.loop
(.mask [0, 1, 2, 3, 4, 10, 11] []
(.block 1
(.seq
(.region [
⟨some 21, .mov (.tmp 2), none⟩,
⟨some 22, .mov (.tmp 1), none⟩,
⟨some 23, .bin .sub (.tmp 21) (.tmp 22), none⟩,
⟨some 12, .mov (.tmp 23), none⟩] [0, 1, 2, 3, 4, 10, 11, 12] [])
(.seq
(.seq
(.region [
⟨some 24, .mov (.tmp 12), none⟩,
⟨some 25, .bin .leq (.tmp 24) (.val (.pv (.int .i64 12))), none⟩] [0, 1, 2, 3, 4, 10, 11, 12, 25] [])
(.cond (.tmp 25)
(.seq
(.region [
⟨some 26, .mov (.tmp 0), none⟩,
⟨some 27, .mov (.tmp 1), none⟩,
⟨some 28, .mov (.tmp 2), none⟩,
⟨some 29, .mov (.tmp 4), none⟩,
⟨some 30, .call (.val (.func 377 [])) [(.tmp 26), (.tmp 27), (.tmp 28), (.tmp 29)], none⟩] [] [])
.ret)
.skip))
(.seq
(.seq
(.region [
⟨some 31, .mov (.tmp 3), none⟩,
⟨some 32, .bin .eql (.tmp 31) (.val (.pv (.int .i64 0))), none⟩] [0, 1, 2, 3, 4, 10, 11, 12, 32] [])
(.cond (.tmp 32)
(.seq
(.region [
⟨some 33, .mov (.tmp 0), none⟩,
⟨some 34, .mov (.tmp 1), none⟩,
⟨some 35, .mov (.tmp 2), none⟩,
⟨some 36, .mov (.tmp 4), none⟩,
⟨some 37, .call (.val (.func 378 [])) [(.tmp 33), (.tmp 34), (.tmp 35), (.tmp 36)], none⟩] [] [])
.ret)
.skip))
(.seq
(.seq
(.region [
⟨some 38, .mov (.tmp 10), none⟩,
⟨some 39, .un .not (.tmp 38), none⟩] [0, 1, 2, 3, 4, 10, 11, 12, 39] [])
(.cond (.tmp 39)
(.seq
(.region [
⟨some 40, .mov (.tmp 0), none⟩,
⟨some 41, .mov (.tmp 1), none⟩,
⟨some 42, .mov (.tmp 2), none⟩,
⟨some 43, .mov (.tmp 4), none⟩,
⟨some 44, .call (.val (.func 379 [])) [(.tmp 40), (.tmp 41), (.tmp 42), (.tmp 43)], none⟩] [0, 1, 2, 3, 4, 10, 11, 12] [])
(.region [
⟨some 45, .mov (.tmp 3), none⟩,
⟨some 46, .bin .sub (.tmp 45) (.val (.pv (.int .i64 1))), none⟩,
⟨some 3, .mov (.tmp 46), none⟩] [0, 1, 2, 3, 4, 10, 11, 12] []))
.skip))
(.seq
(.region [
⟨some 48, .mov (.tmp 0), none⟩,
⟨some 49, .mov (.tmp 1), none⟩,
⟨some 50, .mov (.tmp 2), none⟩,
⟨some 51, .mov (.tmp 4), none⟩,
⟨some 52, .call (.val (.func 380 [])) [(.tmp 48), (.tmp 49), (.tmp 50), (.tmp 51)], none⟩,
⟨some 47, .mov (.tmp 52), none⟩,
⟨some 53, .ext (.tmp 47) 0, none⟩,
⟨some 54, .ext (.tmp 47) 1, none⟩,
⟨some 13, .mov (.tmp 53), none⟩,
⟨some 14, .mov (.tmp 54), none⟩] [0, 1, 2, 3, 4, 10, 11, 12, 13, 14] [])
(.seq
(.seq
(.region [
⟨some 55, .mov (.tmp 14), none⟩,
⟨some 56, .bin .eql (.tmp 55) (.val (.pv (.int .i64 2))), none⟩] [0, 1, 2, 3, 4, 10, 11, 12, 13, 14, 56] [])
(.cond (.tmp 56)
(.seq
(.region [
⟨some 57, .mov (.tmp 0), none⟩,
⟨some 58, .mov (.tmp 1), none⟩,
⟨some 59, .mov (.tmp 2), none⟩,
⟨some 60, .mov (.tmp 4), none⟩,
⟨some 61, .call (.val (.func 381 [])) [(.tmp 57), (.tmp 58), (.tmp 59), (.tmp 60)], none⟩] [0, 1, 2, 3, 4, 10, 11, 12, 13] [])
(.seq
(.region [
⟨some 62, .mov (.tmp 2), none⟩,
⟨some 63, .bin .sub (.tmp 62) (.val (.pv (.int .i64 1))), none⟩,
⟨some 64, .mov (.tmp 13), none⟩,
⟨some 65, .mov (.tmp 1), none⟩,
⟨some 66, .bin .sub (.tmp 64) (.tmp 65), none⟩,
⟨some 67, .bin .sub (.tmp 63) (.tmp 66), none⟩,
⟨some 13, .mov (.tmp 67), none⟩] [0, 1, 2, 3, 4, 10, 11, 12, 13] [])
(.region [
⟨some 14, .mov (.val (.pv (.int .i64 1))), none⟩] [0, 1, 2, 3, 4, 10, 11, 12, 13, 14] [])))
.skip))
(.seq
(.seq
(.region [
⟨some 68, .mov (.tmp 10), none⟩,
⟨some 69, .mov (.tmp 68), none⟩,
⟨some 70, .mov (.tmp 11), some (69, true)⟩,
⟨some 71, .pick (.tmp 69) (.tmp 70) (.val (.pv (.bool false))), none⟩,
⟨some 72, .mov (.tmp 71), none⟩,
⟨some 73, .mov (.tmp 14), some (72, true)⟩,
⟨some 74, .bin .eql (.tmp 73) (.val (.pv (.int .i64 1))), some (72, true)⟩,
⟨some 75, .pick (.tmp 72) (.tmp 74) (.val (.pv (.bool false))), none⟩] [0, 1, 2, 3, 4, 10, 11, 12, 13, 75] [])
(.cond (.tmp 75)
(.seq
(.region [
⟨some 76, .mov (.tmp 0), none⟩,
⟨some 77, .mov (.tmp 1), none⟩,
⟨some 78, .mov (.tmp 2), none⟩,
⟨some 79, .mov (.tmp 4), none⟩,
⟨some 80, .call (.val (.func 382 [])) [(.tmp 76), (.tmp 77), (.tmp 78), (.tmp 79)], none⟩] [0, 1, 2, 3, 4, 10, 11, 12, 13, 80] [])
(.cond (.tmp 80)
.ret
.skip))
.skip))
(.seq
(.seq
(.draw [
(⟨some 81, .mov (.tmp 1), none⟩, []),
(⟨some 82, .bin .gtr (.tmp 81) (.val (.pv (.int .i64 0))), none⟩, []),
(⟨some 83, .mov (.tmp 82), none⟩, []),
(⟨some 84, .mov (.tmp 4), some (83, true)⟩, []),
(⟨some 85, .mov (.tmp 0), some (83, true)⟩, []),
(⟨some 86, .mov (.tmp 1), some (83, true)⟩, []),
(⟨some 87, .bin .sub (.tmp 86) (.val (.pv (.int .i64 1))), some (83, true)⟩, []),
(⟨some 88, .idx 1 (.tmp 85) (.tmp 87), some (83, true)⟩, []),
(⟨some 89, .load 1 false (.tmp 88), some (83, true)⟩, []),
(⟨some 90, .mov (.tmp 0), some (83, true)⟩, []),
(⟨some 91, .mov (.tmp 13), some (83, true)⟩, []),
(⟨some 92, .idx 1 (.tmp 90) (.tmp 91), some (83, true)⟩, []),
(⟨some 93, .load 1 false (.tmp 92), some (83, true)⟩, []),
(⟨some 94, .call (.tmp 84) [(.tmp 89), (.tmp 93)], some (83, true)⟩, []),
(⟨some 95, .bin .lss (.tmp 94) (.val (.pv (.int .i64 0))), some (83, true)⟩, []),
(⟨some 96, .un .not (.tmp 95), some (83, true)⟩, []),
(⟨some 97, .pick (.tmp 83) (.tmp 96) (.val (.pv (.bool false))), none⟩, [])] [0, 1, 2, 3, 4, 10, 11, 12, 13, 97] [])
(.cond (.tmp 97)
(.seq
(.region [
⟨some 98, .mov (.tmp 0), none⟩,
⟨some 99, .mov (.tmp 1), none⟩,
⟨some 100, .mov (.tmp 2), none⟩,
⟨some 101, .mov (.tmp 13), none⟩,
⟨some 102, .mov (.tmp 4), none⟩,
⟨some 103, .call (.val (.func 383 [])) [(.tmp 98), (.tmp 99), (.tmp 100), (.tmp 101), (.tmp 102)], none⟩,
⟨some 15, .mov (.tmp 103), none⟩] [0, 2, 3, 4, 10, 11, 15] [])
(.seq
(.region [
⟨some 104, .mov (.tmp 15), none⟩,
⟨some 1, .mov (.tmp 104), none⟩] [0, 1, 2, 3, 4, 10, 11] [])
(.exit 1)))
.skip))
(.seq
(.region [
⟨some 106, .mov (.tmp 0), none⟩,
⟨some 107, .mov (.tmp 1), none⟩,
⟨some 108, .mov (.tmp 2), none⟩,
⟨some 109, .mov (.tmp 13), none⟩,
⟨some 110, .mov (.tmp 4), none⟩,
⟨some 111, .call (.val (.func 384 [])) [(.tmp 106), (.tmp 107), (.tmp 108), (.tmp 109), (.tmp 110)], none⟩,
⟨some 105, .mov (.tmp 111), none⟩,
⟨some 112, .ext (.tmp 105) 0, none⟩,
⟨some 113, .ext (.tmp 105) 1, none⟩,
⟨some 16, .mov (.tmp 112), none⟩,
⟨some 17, .mov (.tmp 113), none⟩] [0, 1, 2, 3, 4, 12, 16, 17] [])
(.seq
(.region [
⟨some 114, .mov (.tmp 17), none⟩,
⟨some 11, .mov (.tmp 114), none⟩] [0, 1, 2, 3, 4, 11, 12, 16] [])
(.seq
(.region [
⟨some 115, .mov (.tmp 16), none⟩,
⟨some 116, .mov (.tmp 1), none⟩,
⟨some 117, .bin .sub (.tmp 115) (.tmp 116), none⟩,
⟨some 118, .mov (.tmp 2), none⟩,
⟨some 119, .mov (.tmp 16), none⟩,
⟨some 120, .bin .sub (.tmp 118) (.tmp 119), none⟩,
⟨some 18, .mov (.tmp 117), none⟩,
⟨some 19, .mov (.tmp 120), none⟩] [0, 1, 2, 3, 4, 11, 12, 16, 18, 19] [])
(.seq
(.region [
⟨some 121, .mov (.tmp 12), none⟩,
⟨some 122, .bin .quo (.tmp 121) (.val (.pv (.int .i64 8))), none⟩,
⟨some 20, .mov (.tmp 122), none⟩] [0, 1, 2, 3, 4, 11, 16, 18, 19, 20] [])
(.seq
(.region [
⟨some 123, .mov (.tmp 18), none⟩,
⟨some 124, .mov (.tmp 19), none⟩,
⟨some 125, .bin .lss (.tmp 123) (.tmp 124), none⟩] [0, 1, 2, 3, 4, 11, 16, 18, 19, 20, 125] [])
(.cond (.tmp 125)
(.seq
(.region [
⟨some 126, .mov (.tmp 18), none⟩,
⟨some 127, .mov (.tmp 20), none⟩,
⟨some 128, .bin .geq (.tmp 126) (.tmp 127), none⟩,
⟨some 10, .mov (.tmp 128), none⟩] [0, 1, 2, 3, 4, 10, 11, 16] [])
(.seq
(.region [
⟨some 129, .mov (.tmp 0), none⟩,
⟨some 130, .mov (.tmp 1), none⟩,
⟨some 131, .mov (.tmp 16), none⟩,
⟨some 132, .mov (.tmp 3), none⟩,
⟨some 133, .mov (.tmp 4), none⟩,
⟨some 134, .call (.val (.func 376 [])) [(.tmp 129), (.tmp 130), (.tmp 131), (.tmp 132), (.tmp 133)], none⟩] [0, 2, 3, 4, 10, 11, 16] [])
(.region [
⟨some 135, .mov (.tmp 16), none⟩,
⟨some 136, .bin .add (.tmp 135) (.val (.pv (.int .i64 1))), none⟩,
⟨some 1, .mov (.tmp 136), none⟩] [0, 1, 2, 3, 4, 10, 11] [])))
(.seq
(.region [
⟨some 137, .mov (.tmp 19), none⟩,
⟨some 138, .mov (.tmp 20), none⟩,
⟨some 139, .bin .geq (.tmp 137) (.tmp 138), none⟩,
⟨some 10, .mov (.tmp 139), none⟩] [0, 1, 2, 3, 4, 10, 11, 16] [])
(.seq
(.region [
⟨some 140, .mov (.tmp 0), none⟩,
⟨some 141, .mov (.tmp 16), none⟩,
⟨some 142, .bin .add (.tmp 141) (.val (.pv (.int .i64 1))), none⟩,
⟨some 143, .mov (.tmp 2), none⟩,
⟨some 144, .mov (.tmp 3), none⟩,
⟨some 145, .mov (.tmp 4), none⟩,
⟨some 146, .call (.val (.func 376 [])) [(.tmp 140), (.tmp 142), (.tmp 143), (.tmp 144), (.tmp 145)], none⟩] [0, 1, 3, 4, 10, 11, 16] [])
(.region [
⟨some 147, .mov (.tmp 16), none⟩,
⟨some 2, .mov (.tmp 147), none⟩] [0, 1, 2, 3, 4, 10, 11] []))))))))))))))))))))))),
[], false, false, true⟩
def F377 : AFunc := ⟨4,
(.seq
(.region [
⟨some 10, .mov (.tmp 1), none⟩,
⟨some 11, .bin .add (.tmp 10) (.val (.pv (.int .i64 1))), none⟩,
⟨some 8, .mov (.tmp 11), none⟩] [0, 1, 2, 3, 8] [])
(.block 0
(.loop
(.mask [0, 1, 2, 3, 8] []
(.seq
(.seq
(.region [
⟨some 12, .mov (.tmp 8), none⟩,
⟨some 13, .mov (.tmp 2), none⟩,
⟨some 14, .bin .lss (.tmp 12) (.tmp 13), none⟩] [0, 1, 2, 3, 8, 14] [])
(.cond (.tmp 14)
.skip
(.exit 0)))
(.seq
(.block 1
(.seq
(.region [
⟨some 17, .mov (.tmp 8), none⟩,
⟨some 9, .mov (.tmp 17), none⟩] [0, 1, 2, 3, 8, 9] [])
(.block 2
(.loop
(.mask [0, 1, 2, 3, 8, 9] []
(.seq
(.seq
(.draw [
(⟨some 18, .mov (.tmp 9), none⟩, []),
(⟨some 19, .mov (.tmp 1), none⟩, []),
(⟨some 20, .bin .gtr (.tmp 18) (.tmp 19), none⟩, []),
(⟨some 21, .mov (.tmp 20), none⟩, []),
(⟨some 22, .mov (.tmp 3), some (21, true)⟩, []),
(⟨some 23, .mov (.tmp 0), some (21, true)⟩, []),
(⟨some 24, .mov (.tmp 9), some (21, true)⟩, []),
(⟨some 25, .idx 1 (.tmp 23) (.tmp 24), some (21, true)⟩, []),
(⟨some 26, .load 1 false (.tmp 25), some (21, true)⟩, []),
(⟨some 27, .mov (.tmp 0), some (21, true)⟩, []),
(⟨some 28, .mov (.tmp 9), some (21, true)⟩, []),
(⟨some 29, .bin .sub (.tmp 28) (.val (.pv (.int .i64 1))), some (21, true)⟩, []),
(⟨some 30, .idx 1 (.tmp 27) (.tmp 29), some (21, true)⟩, []),
(⟨some 31, .load 1 false (.tmp 30), some (21, true)⟩, []),
(⟨some 32, .call (.tmp 22) [(.tmp 26), (.tmp 31)], some (21, true)⟩, []),
(⟨some 33, .bin .lss (.tmp 32) (.val (.pv (.int .i64 0))), some (21, true)⟩, []),
(⟨some 34, .pick (.tmp 21) (.tmp 33) (.val (.pv (.bool false))), none⟩, [])] [0, 1, 2, 3, 8, 9, 34] [])
(.cond (.tmp 34)
.skip
(.exit 2)))
(.seq
(.block 3
(.draw [
(⟨some 37, .mov (.tmp 0), none⟩, []),
(⟨some 38, .mov (.tmp 9), none⟩, []),
(⟨some 39, .mov (.tmp 0), none⟩, []),
(⟨some 40, .mov (.tmp 9), none⟩, []),
(⟨some 41, .bin .sub (.tmp 40) (.val (.pv (.int .i64 1))), none⟩, []),
(⟨some 42, .mov (.tmp 0), none⟩, []),
(⟨some 43, .mov (.tmp 9), none⟩, []),
(⟨some 44, .bin .sub (.tmp 43) (.val (.pv (.int .i64 1))), none⟩, []),
(⟨some 45, .idx 1 (.tmp 42) (.tmp 44), none⟩, []),
(⟨some 46, .load 1 false (.tmp 45), none⟩, []),
(⟨some 47, .mov (.tmp 0), none⟩, []),
(⟨some 48, .mov (.tmp 9), none⟩, []),
(⟨some 49, .idx 1 (.tmp 47) (.tmp 48), none⟩, []),
(⟨some 50, .load 1 false (.tmp 49), none⟩, []),
(⟨some 51, .idx 1 (.tmp 37) (.tmp 38), none⟩, []),
(⟨none, .store 1 (.tmp 51) (.tmp 46), none⟩, []),
(⟨some 52, .idx 1 (.tmp 39) (.tmp 41), none⟩, []),
(⟨none, .store 1 (.tmp 52) (.tmp 50), none⟩, [])] [0, 1, 2, 3, 8, 9] []))
(.region [
⟨some 35, .mov (.tmp 9), none⟩,
⟨some 36, .bin .sub (.tmp 35) (.val (.pv (.int .i64 1))), none⟩,
⟨some 9, .mov (.tmp 36), none⟩] [0, 1, 2, 3, 8, 9] []))))))))
(.region [
⟨some 15, .mov (.tmp 8), none⟩,
⟨some 16, .bin .add (.tmp 15) (.val (.pv (.int .i64 1))), none⟩,
⟨some 8, .mov (.tmp 16), none⟩] [0, 1, 2, 3, 8] []))))))),
[], false, false, true⟩
def F378 : AFunc := ⟨4,
(.seq
(.region [
⟨some 13, .mov (.tmp 1), none⟩,
⟨some 8, .mov (.tmp 13), none⟩] [0, 1, 2, 3, 8] [])
(.seq
(.region [
⟨some 9, .mov (.val (.pv (.int .i64 0))), none⟩] [0, 1, 2, 3, 8, 9] [])
(.seq
(.region [
⟨some 14, .mov (.tmp 2), none⟩,
⟨some 15, .mov (.tmp 1), none⟩,
⟨some 16, .bin .sub (.tmp 14) (.tmp 15), none⟩,
⟨some 10, .mov (.tmp 16), none⟩] [0, 3, 8, 9, 10] [])
(.seq
(.seq
(.region [
⟨some 17, .mov (.tmp 10), none⟩,
⟨some 18, .bin .sub (.tmp 17) (.val (.pv (.int .i64 1))), none⟩,
⟨some 19, .bin .quo (.tmp 18) (.val (.pv (.int .i64 2))), none⟩,
⟨some 11, .mov (.tmp 19), none⟩] [0, 3, 8, 9, 10, 11] [])
(.block 0
(.loop
(.mask [0, 3, 8, 9, 10, 11] []
(.seq
(.seq
(.region [
⟨some 20, .mov (.tmp 11), none⟩,
⟨some 21, .bin .geq (.tmp 20) (.val (.pv (.int .i64 0))), none⟩] [0, 3, 8, 9, 10, 11, 21] [])
(.cond (.tmp 21)
.skip
(.exit 0)))
(.seq
(.block 1
(.region [
⟨some 24, .mov (.tmp 0), none⟩,
⟨some 25, .mov (.tmp 11), none⟩,
⟨some 26, .mov (.tmp 10), none⟩,
⟨some 27, .mov (.tmp 8), none⟩,
⟨some 28, .mov (.tmp 3), none⟩,
⟨some 29, .call (.val (.func 385 [])) [(.tmp 24), (.tmp 25), (.tmp 26), (.tmp 27), (.tmp 28)], none⟩] [0, 3, 8, 9, 10, 11] []))
(.region [
⟨some 22, .mov (.tmp 11), none⟩,
⟨some 23, .bin .sub (.tmp 22) (.val (.pv (.int .i64 1))), none⟩,
⟨some 11, .mov (.tmp 23), none⟩] [0, 3, 8, 9, 10, 11] [])))))))
(.seq
(.region [
⟨some 30, .mov (.tmp 10), none⟩,
⟨some 31, .bin .sub (.tmp 30) (.val (.pv (.int .i64 1))), none⟩,
⟨some 12, .mov (.tmp 31), none⟩] [0, 3, 8, 9, 12] [])
(.block 2
(.loop
(.mask [0, 3, 8, 9, 12] []
(.seq
(.seq
(.region [
⟨some 32, .mov (.tmp 12), none⟩,
⟨some 33, .bin .geq (.tmp 32) (.val (.pv (.int .i64 0))), none⟩] [0, 3, 8, 9, 12, 33] [])
(.cond (.tmp 33)
.skip
(.exit 2)))
(.seq
(.block 3
(.seq
(.draw [
(⟨some 36, .mov (.tmp 0), none⟩, []),
(⟨some 37, .mov (.tmp 8), none⟩, []),
(⟨some 38, .mov (.tmp 0), none⟩, []),
(⟨some 39, .mov (.tmp 8), none⟩, []),
(⟨some 40, .mov (.tmp 12), none⟩, []),
(⟨some 41, .bin .add (.tmp 39) (.tmp 40), none⟩, []),
(⟨some 42, .mov (.tmp 0), none⟩, []),
(⟨some 43, .mov (.tmp 8), none⟩, []),
(⟨some 44, .mov (.tmp 12), none⟩, []),
(⟨some 45, .bin .add (.tmp 43) (.tmp 44), none⟩, []),
(⟨some 46, .idx 1 (.tmp 42) (.tmp 45), none⟩, []),
(⟨some 47, .load 1 false (.tmp 46), none⟩, []),
(⟨some 48, .mov (.tmp 0), none⟩, []),
(⟨some 49, .mov (.tmp 8), none⟩, []),
(⟨some 50, .idx 1 (.tmp 48) (.tmp 49), none⟩, []),
(⟨some 51, .load 1 false (.tmp 50), none⟩, []),
(⟨some 52, .idx 1 (.tmp 36) (.tmp 37), none⟩, []),
(⟨none, .store 1 (.tmp 52) (.tmp 47), none⟩, []),
(⟨some 53, .idx 1 (.tmp 38) (.tmp 41), none⟩, []),
(⟨none, .store 1 (.tmp 53) (.tmp 51), none⟩, [])] [0, 3, 8, 9, 12] [])
(.region [
⟨some 54, .mov (.tmp 0), none⟩,
⟨some 55, .mov (.tmp 9), none⟩,
⟨some 56, .mov (.tmp 12), none⟩,
⟨some 57, .mov (.tmp 8), none⟩,
⟨some 58, .mov (.tmp 3), none⟩,
⟨some 59, .call (.val (.func 385 [])) [(.tmp 54), (.tmp 55), (.tmp 56), (.tmp 57), (.tmp 58)], none⟩] [0, 3, 8, 9, 12] [])))
(.region [
⟨some 34, .mov (.tmp 12), none⟩,
⟨some 35, .bin .sub (.tmp 34) (.val (.pv (.int .i64 1))), none⟩,
⟨some 12, .mov (.tmp 35), none⟩] [0, 3, 8, 9, 12] []))))))))))),
[], false, false, false⟩
def F379 : AFunc := ⟨4,
(.seq
(.region [
⟨some 13, .mov (.tmp 2), none⟩,
⟨some 14, .mov (.tmp 1), none⟩,
⟨some 15, .bin .sub (.tmp 13) (.tmp 14), none⟩,
⟨some 8, .mov (.tmp 15), none⟩] [0, 1, 8] [])
(.seq
(.region [
⟨some 16, .mov (.tmp 8), none⟩,
⟨some 17, .bin .geq (.tmp 16) (.val (.pv (.int .i64 8))), none⟩] [0, 1, 8, 17] [])
(.cond (.tmp 17)
(.seq
(.region [
⟨some 18, .mov (.tmp 8), none⟩,
⟨some 19, .conv .u64 (.tmp 18), none⟩,
⟨some 9, .alloc 9 [.pv (.int .u64 0)], none⟩,
⟨none, .store 1 (.tmp 9) (.tmp 19), none⟩] [0, 1, 8, 9] [9])
(.seq
(.region [
⟨some 20, .mov (.tmp 8), none⟩,
⟨some 21, .call (.val (.func 79 [])) [(.tmp 20)], none⟩,
⟨some 10, .mov (.tmp 21), none⟩] [0, 1, 8, 9, 10] [9])
(.seq
(.region [
⟨some 22, .mov (.tmp 1), none⟩,
⟨some 23, .mov (.tmp 8), none⟩,
⟨some 24, .bin .quo (.tmp 23) (.val (.pv (.int .i64 4))), none⟩,
⟨some 25, .bin .mul (.tmp 24) (.val (.pv (.int .i64 2))), none⟩,
⟨some 26, .bin .add (.tmp 22) (.tmp 25), none⟩,
⟨some 27, .bin .sub (.tmp 26) (.val (.pv (.int .i64 1))), none⟩,
⟨some 11, .mov (.tmp 27), none⟩] [0, 1, 8, 9, 10, 11] [9])
(.block 0
(.loop
(.mask [0, 1, 8, 9, 10, 11] [9]
(.seq
(.seq
(.region [
⟨some 28, .mov (.tmp 11), none⟩,
⟨some 29, .mov (.tmp 1), none⟩,
⟨some 30, .mov (.tmp 8), none⟩,
⟨some 31, .bin .quo (.tmp 30) (.val (.pv (.int .i64 4))), none⟩,
⟨some 32, .bin .mul (.tmp 31) (.val (.pv (.int .i64 2))), none⟩,
⟨some 33, .bin .add (.tmp 29) (.tmp 32), none⟩,
⟨some 34, .bin .add (.tmp 33) (.val (.pv (.int .i64 1))), none⟩,
⟨some 35, .bin .leq (.tmp 28) (.tmp 34), none⟩] [0, 1, 8, 9, 10, 11, 35] [9])
(.cond (.tmp 35)
.skip
(.exit 0)))
(.seq
(.block 1
(.seq
(.region [
⟨some 38, .call (.val (.func 80 [])) [(.tmp 9)], none⟩,
⟨some 39, .mov (.tmp 10), none⟩,
⟨some 40, .bin .sub (.tmp 39) (.val (.pv (.int .u64 1))), none⟩,
⟨some 41, .bin .and (.tmp 38) (.tmp 40), none⟩,
⟨some 42, .conv .i64 (.tmp 41), none⟩,
⟨some 12, .mov (.tmp 42), none⟩] [0, 1, 8, 9, 10, 11, 12] [9])
(.seq
(.seq
(.region [
⟨some 43, .mov (.tmp 12), none⟩,
⟨some 44, .mov (.tmp 8), none⟩,
⟨some 45, .bin .geq (.tmp 43) (.tmp 44), none⟩] [0, 1, 8, 9, 10, 11, 12, 45] [9])
(.cond (.tmp 45)
(.region [
⟨some 46, .mov (.tmp 12), none⟩,
⟨some 47, .mov (.tmp 8), none⟩,
⟨some 48, .bin .sub (.tmp 46) (.tmp 47), none⟩,
⟨some 12, .mov (.tmp 48), none⟩] [0, 1, 8, 9, 10, 11, 12] [9])
.skip))
(.draw [
(⟨some 49, .mov (.tmp 0), none⟩, []),
(⟨some 50, .mov (.tmp 11), none⟩, []),
(⟨some 51, .mov (.tmp 0), none⟩, []),
(⟨some 52, .mov (.tmp 1), none⟩, []),
(⟨some 53, .mov (.tmp 12), none⟩, []),
(⟨some 54, .bin .add (.tmp 52) (.tmp 53), none⟩, []),
(⟨some 55, .mov (.tmp 0), none⟩, []),
(⟨some 56, .mov (.tmp 1), none⟩, []),
(⟨some 57, .mov (.tmp 12), none⟩, []),
(⟨some 58, .bin .add (.tmp 56) (.tmp 57), none⟩, []),
(⟨some 59, .idx 1 (.tmp 55) (.tmp 58), none⟩, []),
(⟨some 60, .load 1 false (.tmp 59), none⟩, []),
(⟨some 61, .mov (.tmp 0), none⟩, []),
(⟨some 62, .mov (.tmp 11), none⟩, []),
(⟨some 63, .idx 1 (.tmp 61) (.tmp 62), none⟩, []),
(⟨some 64, .load 1 false (.tmp 63), none⟩, []),
(⟨some 65, .idx 1 (.tmp 49) (.tmp 50), none⟩, []),
(⟨none, .store 1 (.tmp 65) (.tmp 60), none⟩, []),
(⟨some 66, .idx 1 (.tmp 51) (.tmp 54), none⟩, []),
(⟨none, .store 1 (.tmp 66) (.tmp 64), none⟩, [])] [0, 1, 8, 9, 10, 11] [9]))))
(.region [
⟨some 36, .mov (.tmp 11), none⟩,
⟨some 37, .bin .add (.tmp 36) (.val (.pv (.int .i64 1))), none⟩,
⟨some 11, .mov (.tmp 37), none⟩] [0, 1, 8, 9, 10, 11] [9])))))))))
.skip))),
[], false, false, false⟩
def F380 : AFunc := ⟨4,
(.seq
(.region [
⟨some 8, .mov (.val (.pv (.int .i64 0))), none⟩,
⟨some 9, .mov (.val (.pv (.int .i64 0))), none⟩] [0, 1, 2, 3] [])
(.seq
(.region [
⟨some 15, .mov (.tmp 2), none⟩,
⟨some 16, .mov (.tmp 1), none⟩,
⟨some 17, .bin .sub (.tmp 15) (.tmp 16), none⟩,
⟨some 10, .mov (.tmp 17), none⟩] [0, 1, 3, 10] [])
(.seq
(.region [
⟨some 11, .alloc 11 [.pv (.int .i64 0)], none⟩] [0, 1, 3, 10, 11] [11])
(.seq
(.region [
⟨some 18, .mov (.tmp 1), none⟩,
⟨some 19, .mov (.tmp 10), none⟩,
⟨some 20, .bin .quo (.tmp 19) (.val (.pv (.int .i64 4))), none⟩,
⟨some 21, .bin .mul (.tmp 20) (.val (.pv (.int .i64 1))), none⟩,
⟨some 22, .bin .add (.tmp 18) (.tmp 21), none⟩,
⟨some 12, .mov (.tmp 22), none⟩] [0, 1, 3, 10, 11, 12] [11])
(.seq
(.region [
⟨some 23, .mov (.tmp 1), none⟩,
⟨some 24, .mov (.tmp 10), none⟩,
⟨some 25, .bin .quo (.tmp 24) (.val (.pv (.int .i64 4))), none⟩,
⟨some 26, .bin .mul (.tmp 25) (.val (.pv (.int .i64 2))), none⟩,
⟨some 27, .bin .add (.tmp 23) (.tmp 26), none⟩,
⟨some 13, .mov (.tmp 27), none⟩] [0, 1, 3, 10, 11, 12, 13] [11])
(.seq
(.region [
⟨some 28, .mov (.tmp 1), none⟩,
⟨some 29, .mov (.tmp 10), none⟩,
⟨some 30, .bin .quo (.tmp 29) (.val (.pv (.int .i64 4))), none⟩,
⟨some 31, .bin .mul (.tmp 30) (.val (.pv (.int .i64 3))), none⟩,
⟨some 32, .bin .add (.tmp 28) (.tmp 31), none⟩,
⟨some 14, .mov (.tmp 32), none⟩] [0, 3, 10, 11, 12, 13, 14] [11])
(.seq
(.seq
(.region [
⟨some 33, .mov (.tmp 10), none⟩,
⟨some 34, .bin .geq (.tmp 33) (.val (.pv (.int .i64 8))), none⟩] [0, 3, 10, 11, 12, 13, 14, 34] [11])
(.cond (.tmp 34)
(.seq
(.seq
(.region [
⟨some 35, .mov (.tmp 10), none⟩,
⟨some 36, .bin .geq (.tmp 35) (.val (.pv (.int .i64 50))), none⟩] [0, 3, 11, 12, 13, 14, 36] [11])
(.cond (.tmp 36)
(.seq
(.region [
⟨some 37, .mov (.tmp 0), none⟩,
⟨some 38, .mov (.tmp 12), none⟩,
⟨some 39, .mov (.tmp 3), none⟩,
⟨some 40, .call (.val (.func 386 [])) [(.tmp 37), (.tmp 38), (.tmp 11), (.tmp 39)], none⟩,
⟨some 12, .mov (.tmp 40), none⟩] [0, 3, 11, 12, 13, 14] [11])
(.seq
(.region [
⟨some 41, .mov (.tmp 0), none⟩,
⟨some 42, .mov (.tmp 13), none⟩,
⟨some 43, .mov (.tmp 3), none⟩,
⟨some 44, .call (.val (.func 386 [])) [(.tmp 41), (.tmp 42), (.tmp 11), (.tmp 43)], none⟩,
⟨some 13, .mov (.tmp 44), none⟩] [0, 3, 11, 12, 13, 14] [11])
(.region [
⟨some 45, .mov (.tmp 0), none⟩,
⟨some 46, .mov (.tmp 14), none⟩,
⟨some 47, .mov (.tmp 3), none⟩,
⟨some 48, .call (.val (.func 386 [])) [(.tmp 45), (.tmp 46), (.tmp 11), (.tmp 47)], none⟩,
⟨some 14, .mov (.tmp 48), none⟩] [0, 3, 11, 12, 13, 14] [11])))
.skip))
(.region [
⟨some 49, .mov (.tmp 0), none⟩,
⟨some 50, .mov (.tmp 12), none⟩,
⟨some 51, .mov (.tmp 13), none⟩,
⟨some 52, .mov (.tmp 14), none⟩,
⟨some 53, .mov (.tmp 3), none⟩,
⟨some 54, .call (.val (.func 387 [])) [(.tmp 49), (.tmp 50), (.tmp 51), (.tmp 52), (.tmp 11), (.tmp 53)], none⟩,
⟨some 13, .mov (.tmp 54), none⟩] [11, 13] [11]))
.skip))
(.seq
(.region [
⟨some 55, .load 1 false (.tmp 11), none⟩] [13, 55] [])
(.block 0
(.seq
(.region [
⟨some 58, .bin .eql (.tmp 55) (.val (.pv (.int .i64 0))), none⟩,
⟨some 57, .mov (.tmp 58), none⟩] [13, 55, 57] [])
(.cond (.tmp 57)
(.seq
(.region [
⟨some 59, .mov (.tmp 13), none⟩,
⟨some 8, .mov (.tmp 59), none⟩,
⟨some 9, .mov (.val (.pv (.int .i64 1))), none⟩] [8, 9] [])
.ret)
(.seq
(.region [
⟨some 61, .bin .eql (.tmp 55) (.val (.pv (.int .i64 12))), none⟩,
⟨some 60, .mov (.tmp 61), none⟩] [13, 60] [])
(.cond (.tmp 60)
(.seq
(.region [
⟨some 62, .mov (.tmp 13), none⟩,
⟨some 8, .mov (.tmp 62), none⟩,
⟨some 9, .mov (.val (.pv (.int .i64 2))), none⟩] [8, 9] [])
.ret)
(.seq
(.region [
⟨some 56, .mov (.tmp 13), none⟩,
⟨some 8, .mov (.tmp 56), none⟩,
⟨some 9, .mov (.val (.pv (.int .i64 0))), none⟩] [8, 9] [])
.ret)))))))))))))),
[.tmp 8, .tmp 9], false, false, false⟩
def F381 : AFunc := ⟨4,
(.seq
(.region [
⟨some 10, .mov (.tmp 1), none⟩,
⟨some 8, .mov (.tmp 10), none⟩] [0, 2, 8] [])
(.seq
(.region [
⟨some 11, .mov (.tmp 2), none⟩,
⟨some 12, .bin .sub (.tmp 11) (.val (.pv (.int .i64 1))), none⟩,
⟨some 9, .mov (.tmp 12), none⟩] [0, 8, 9] [])
(.block 0
(.loop
(.mask [0, 8, 9] []
(.seq
(.seq
(.region [
⟨some 13, .mov (.tmp 8), none⟩,
⟨some 14, .mov (.tmp 9), none⟩,
⟨some 15, .bin .lss (.tmp 13) (.tmp 14), none⟩] [0, 8, 9, 15] [])
(.cond (.tmp 15)
.skip
(.exit 0)))
(.block 1
(.seq
(.draw [
(⟨some 16, .mov (.tmp 0), none⟩, []),
(⟨some 17, .mov (.tmp 8), none⟩, []),
(⟨some 18, .mov (.tmp 0), none⟩, []),
(⟨some 19, .mov (.tmp 9), none⟩, []),
(⟨some 20, .mov (.tmp 0), none⟩, []),
(⟨some 21, .mov (.tmp 9), none⟩, []),
(⟨some 22, .idx 1 (.tmp 20) (.tmp 21), none⟩, []),
(⟨some 23, .load 1 false (.tmp 22), none⟩, []),
(⟨some 24, .mov (.tmp 0), none⟩, []),
(⟨some 25, .mov (.tmp 8), none⟩, []),
(⟨some 26, .idx 1 (.tmp 24) (.tmp 25), none⟩, []),
(⟨some 27, .load 1 false (.tmp 26), none⟩, []),
(⟨some 28, .idx 1 (.tmp 16) (.tmp 17), none⟩, []),
(⟨none, .store 1 (.tmp 28) (.tmp 23), none⟩, []),
(⟨some 29, .idx 1 (.tmp 18) (.tmp 19), none⟩, []),
(⟨none, .store 1 (.tmp 29) (.tmp 27), none⟩, [])] [0, 8, 9] [])
(.seq
(.region [
⟨some 30, .mov (.tmp 8), none⟩,
⟨some 31, .bin .add (.tmp 30) (.val (.pv (.int .i64 1))), none⟩,
⟨some 8, .mov (.tmp 31), none⟩] [0, 8, 9] [])
(.region [
⟨some 32, .mov (.tmp 9), none⟩,
⟨some 33, .bin .sub (.tmp 32) (.val (.pv (.int .i64 1))), none⟩,
⟨some 9, .mov (.tmp 33), none⟩] [0, 8, 9] [])))))))))),
[], false, false, false⟩
def F382 : AFunc := ⟨4,
(.seq
(.region [
⟨some 8, .mov (.val (.pv (.bool false))), none⟩] [0, 1, 2, 3] [])
(.seq
(.region [
⟨some 13, .mov (.tmp 1), none⟩,
⟨some 14, .bin .add (.tmp 13) (.val (.pv (.int .i64 1))), none⟩,
⟨some 9, .mov (.tmp 14), none⟩] [0, 1, 2, 3, 9] [])
(.seq
(.seq
(.region [
⟨some 10, .mov (.val (.pv (.int .i64 0))), none⟩] [0, 1, 2, 3, 9, 10] [])
(.block 0
(.loop
(.mask [0, 1, 2, 3, 9, 10] []
(.seq
(.seq
(.region [
⟨some 15, .mov (.tmp 10), none⟩,
⟨some 16, .bin .lss (.tmp 15) (.val (.pv (.int .i64 5))), none⟩] [0, 1, 2, 3, 9, 10, 16] [])
(.cond (.tmp 16)
.skip
(.exit 0)))
(.seq
(.block 1
(.seq
(.block 2
(.loop
(.mask [0, 1, 2, 3, 9, 10] []
(.seq
(.seq
(.draw [
(⟨some 19, .mov (.tmp 9), none⟩, []),
(⟨some 20, .mov (.tmp 2), none⟩, []),
(⟨some 21, .bin .lss (.tmp 19) (.tmp 20), none⟩, []),
(⟨some 22, .mov (.tmp 21), none⟩, []),
(⟨some 23, .mov (.tmp 3), some (22, true)⟩, []),
(⟨some 24, .mov (.tmp 0), some (22, true)⟩, []),
(⟨some 25, .mov (.tmp 9), some (22, true)⟩, []),
(⟨some 26, .idx 1 (.tmp 24) (.tmp 25), some (22, true)⟩, []),
(⟨some 27, .load 1 false (.tmp 26), some (22, true)⟩, []),
(⟨some 28, .mov (.tmp 0), some (22, true)⟩, []),
(⟨some 29, .mov (.tmp 9), some (22, true)⟩, []),
(⟨some 30, .bin .sub (.tmp 29) (.val (.pv (.int .i64 1))), some (22, true)⟩, []),
(⟨some 31, .idx 1 (.tmp 28) (.tmp 30), some (22, true)⟩, []),
(⟨some 32, .load 1 false (.tmp 31), some (22, true)⟩, []),
(⟨some 33, .call (.tmp 23) [(.tmp 27), (.tmp 32)], some (22, true)⟩, []),
(⟨some 34, .bin .lss (.tmp 33) (.val (.pv (.int .i64 0))), some (22, true)⟩, []),
(⟨some 35, .un .not (.tmp 34), some (22, true)⟩, []),
(⟨some 36, .pick (.tmp 22) (.tmp 35) (.val (.pv (.bool false))), none⟩, [])] [0, 1, 2, 3, 9, 10, 36] [])
(.cond (.tmp 36)
.skip
(.exit 2)))
(.block 3
(.region [
⟨some 37, .mov (.tmp 9), none⟩,
⟨some 38, .bin .add (.tmp 37) (.val (.pv (.int .i64 1))), none⟩,
⟨some 9, .mov (.tmp 38), none⟩] [0, 1, 2, 3, 9, 10] []))))))
(.seq
(.seq
(.region [
⟨some 39, .mov (.tmp 9), none⟩,
⟨some 40, .mov (.tmp 2), none⟩,
⟨some 41, .bin .eql (.tmp 39) (.tmp 40), none⟩] [0, 1, 2, 3, 9, 10, 41] [])
(.cond (.tmp 41)
(.seq
(.region [
⟨some 8, .mov (.val (.pv (.bool true))), none⟩] [8] [])
.ret)
.skip))
(.seq
(.seq
(.region [
⟨some 42, .mov (.tmp 2), none⟩,
⟨some 43, .mov (.tmp 1), none⟩,
⟨some 44, .bin .sub (.tmp 42) (.tmp 43), none⟩,
⟨some 45, .bin .lss (.tmp 44) (.val (.pv (.int .i64 50))), none⟩] [0, 1, 2, 3, 9, 10, 45] [])
(.cond (.tmp 45)
(.seq
(.region [
⟨some 8, .mov (.val (.pv (.bool false))), none⟩] [8] [])
.ret)
.skip))
(.seq
(.draw [
(⟨some 46, .mov (.tmp 0), none⟩, []),
(⟨some 47, .mov (.tmp 9), none⟩, []),
(⟨some 48, .mov (.tmp 0), none⟩, []),
(⟨some 49, .mov (.tmp 9), none⟩, []),
(⟨some 50, .bin .sub (.tmp 49) (.val (.pv (.int .i64 1))), none⟩, []),
(⟨some 51, .mov (.tmp 0), none⟩, []),
(⟨some 52, .mov (.tmp 9), none⟩, []),
(⟨some 53, .bin .sub (.tmp 52) (.val (.pv (.int .i64 1))), none⟩, []),
(⟨some 54, .idx 1 (.tmp 51) (.tmp 53), none⟩, []),
(⟨some 55, .load 1 false (.tmp 54), none⟩, []),
(⟨some 56, .mov (.tmp 0), none⟩, []),
(⟨some 57, .mov (.tmp 9), none⟩, []),
(⟨some 58, .idx 1 (.tmp 56) (.tmp 57), none⟩, []),
(⟨some 59, .load 1 false (.tmp 58), none⟩, []),
(⟨some 60, .idx 1 (.tmp 46) (.tmp 47), none⟩, []),
(⟨none, .store 1 (.tmp 60) (.tmp 55), none⟩, []),
(⟨some 61, .idx 1 (.tmp 48) (.tmp 50), none⟩, []),
(⟨none, .store 1 (.tmp 61) (.tmp 59), none⟩, [])] [0, 1, 2, 3, 9, 10] [])
(.seq
(.seq
(.region [
⟨some 62, .mov (.tmp 9), none⟩,
⟨some 63, .mov (.tmp 1), none⟩,
⟨some 64, .bin .sub (.tmp 62) (.tmp 63), none⟩,
⟨some 65, .bin .geq (.tmp 64) (.val (.pv (.int .i64 2))), none⟩] [0, 1, 2, 3, 9, 10, 65] [])
(.cond (.tmp 65)
(.seq
(.region [
⟨some 66, .mov (.tmp 9), none⟩,
⟨some 67, .bin .sub (.tmp 66) (.val (.pv (.int .i64 1))), none⟩,
⟨some 11, .mov (.tmp 67), none⟩] [0, 1, 2, 3, 9, 10, 11] [])
(.block 4
(.loop
(.mask [0, 1, 2, 3, 9, 10, 11] []
(.seq
(.seq
(.region [
⟨some 68, .mov (.tmp 11), none⟩,
⟨some 69, .bin .geq (.tmp 68) (.val (.pv (.int .i64 1))), none⟩] [0, 1, 2, 3, 9, 10, 11, 69] [])
(.cond (.tmp 69)
.skip
(.exit 4)))
(.seq
(.block 5
(.seq
(.seq
(.draw [
(⟨some 72, .mov (.tmp 3), none⟩, []),
(⟨some 73, .mov (.tmp 0), none⟩, []),
(⟨some 74, .mov (.tmp 11), none⟩, []),
(⟨some 75, .idx 1 (.tmp 73) (.tmp 74), none⟩, []),
(⟨some 76, .load 1 false (.tmp 75), none⟩, []),
(⟨some 77, .mov (.tmp 0), none⟩, []),
(⟨some 78, .mov (.tmp 11), none⟩, []),
(⟨some 79, .bin .sub (.tmp 78) (.val (.pv (.int .i64 1))), none⟩, []),
(⟨some 80, .idx 1 (.tmp 77) (.tmp 79), none⟩, []),
(⟨some 81, .load 1 false (.tmp 80), none⟩, []),
(⟨some 82, .call (.tmp 72) [(.tmp 76), (.tmp 81)], none⟩, []),
(⟨some 83, .bin .lss (.tmp 82) (.val (.pv (.int .i64 0))), none⟩, []),
(⟨some 84, .un .not (.tmp 83), none⟩, [])] [0, 1, 2, 3, 9, 10, 11, 84] [])
(.cond (.tmp 84)
(.exit 4)
.skip))
(.draw [
(⟨some 85, .mov (.tmp 0), none⟩, []),
(⟨some 86, .mov (.tmp 11), none⟩, []),
(⟨some 87, .mov (.tmp 0), none⟩, []),
(⟨some 88, .mov (.tmp 11), none⟩, []),
(⟨some 89, .bin .sub (.tmp 88) (.val (.pv (.int .i64 1))), none⟩, []),
(⟨some 90, .mov (.tmp 0), none⟩, []),
(⟨some 91, .mov (.tmp 11), none⟩, []),
(⟨some 92, .bin .sub (.tmp 91) (.val (.pv (.int .i64 1))), none⟩, []),
(⟨some 93, .idx 1 (.tmp 90) (.tmp 92), none⟩, []),
(⟨some 94, .load 1 false (.tmp 93), none⟩, []),
(⟨some 95, .mov (.tmp 0), none⟩, []),
(⟨some 96, .mov (.tmp 11), none⟩, []),
(⟨some 97, .idx 1 (.tmp 95) (.tmp 96), none⟩, []),
(⟨some 98, .load 1 false (.tmp 97), none⟩, []),
(⟨some 99, .idx 1 (.tmp 85) (.tmp 86), none⟩, []),
(⟨none, .store 1 (.tmp 99) (.tmp 94), none⟩, []),
(⟨some 100, .idx 1 (.tmp 87) (.tmp 89), none⟩, []),
(⟨none, .store 1 (.tmp 100) (.tmp 98), none⟩, [])] [0, 1, 2, 3, 9, 10, 11] [])))
(.region [
⟨some 70, .mov (.tmp 11), none⟩,
⟨some 71, .bin .sub (.tmp 70) (.val (.pv (.int .i64 1))), none⟩,
⟨some 11, .mov (.tmp 71), none⟩] [0, 1, 2, 3, 9, 10, 11] [])))))))
.skip))
(.seq
(.region [
⟨some 101, .mov (.tmp 2), none⟩,
⟨some 102, .mov (.tmp 9), none⟩,
⟨some 103, .bin .sub (.tmp 101) (.tmp 102), none⟩,
⟨some 104, .bin .geq (.tmp 103) (.val (.pv (.int .i64 2))), none⟩] [0, 1, 2, 3, 9, 10, 104] [])
(.cond (.tmp 104)
(.seq
(.region [
⟨some 105, .mov (.tmp 9), none⟩,
⟨some 106, .bin .add (.tmp 105) (.val (.pv (.int .i64 1))), none⟩,
⟨some 12, .mov (.tmp 106), none⟩] [0, 1, 2, 3, 9, 10, 12] [])
(.block 6
(.loop
(.mask [0, 1, 2, 3, 9, 10, 12] []
(.seq
(.seq
(.region [
⟨some 107, .mov (.tmp 12), none⟩,
⟨some 108, .mov (.tmp 2), none⟩,
⟨some 109, .bin .lss (.tmp 107) (.tmp 108), none⟩] [0, 1, 2, 3, 9, 10, 12, 109] [])
(.cond (.tmp 109)
.skip
(.exit 6)))
(.seq
(.block 7
(.seq
(.seq
(.draw [
(⟨some 112, .mov (.tmp 3), none⟩, []),
(⟨some 113, .mov (.tmp 0), none⟩, []),
(⟨some 114, .mov (.tmp 12), none⟩, []),
(⟨some 115, .idx 1 (.tmp 113) (.tmp 114), none⟩, []),
(⟨some 116, .load 1 false (.tmp 115), none⟩, []),
(⟨some 117, .mov (.tmp 0), none⟩, []),
(⟨some 118, .mov (.tmp 12), none⟩, []),
(⟨some 119, .bin .sub (.tmp 118) (.val (.pv (.int .i64 1))), none⟩, []),
(⟨some 120, .idx 1 (.tmp 117) (.tmp 119), none⟩, []),
(⟨some 121, .load 1 false (.tmp 120), none⟩, []),
(⟨some 122, .call (.tmp 112) [(.tmp 116), (.tmp 121)], none⟩, []),
(⟨some 123, .bin .lss (.tmp 122) (.val (.pv (.int .i64 0))), none⟩, []),
(⟨some 124, .un .not (.tmp 123), none⟩, [])] [0, 1, 2, 3, 9, 10, 12, 124] [])
(.cond (.tmp 124)
(.exit 6)
.skip))
(.draw [
(⟨some 125, .mov (.tmp 0), none⟩, []),
(⟨some 126, .mov (.tmp 12), none⟩, []),
(⟨some 127, .mov (.tmp 0), none⟩, []),
(⟨some 128, .mov (.tmp 12), none⟩, []),
(⟨some 129, .bin .sub (.tmp 128) (.val (.pv (.int .i64 1))), none⟩, []),
(⟨some 130, .mov (.tmp 0), none⟩, []),
(⟨some 131, .mov (.tmp 12), none⟩, []),
(⟨some 132, .bin .sub (.tmp 131) (.val (.pv (.int .i64 1))), none⟩, []),
(⟨some 133, .idx 1 (.tmp 130) (.tmp 132), none⟩, []),
(⟨some 134, .load 1 false (.tmp 133), none⟩, []),
(⟨some 135, .mov (.tmp 0), none⟩, []),
(⟨some 136, .mov (.tmp 12), none⟩, []),
(⟨some 137, .idx 1 (.tmp 135) (.tmp 136), none⟩, []),
(⟨some 138, .load 1 false (.tmp 137), none⟩, []),
(⟨some 139, .idx 1 (.tmp 125) (.tmp 126), none⟩, []),
(⟨none, .store 1 (.tmp 139) (.tmp 134), none⟩, []),
(⟨some 140, .idx 1 (.tmp 127) (.tmp 129), none⟩, []),
(⟨none, .store 1 (.tmp 140) (.tmp 138), none⟩, [])] [0, 1, 2, 3, 9, 10, 12] [])))
(.region [
⟨some 110, .mov (.tmp 12), none⟩,
⟨some 111, .bin .add (.tmp 110) (.val (.pv (.int .i64 1))), none⟩,
⟨some 12, .mov (.tmp 111), none⟩] [0, 1, 2, 3, 9, 10, 12] [])))))))
.skip))))))))
(.region [
⟨some 17, .mov (.tmp 10), none⟩,
⟨some 18, .bin .add (.tmp 17) (.val (.pv (.int .i64 1))), none⟩,
⟨some 10, .mov (.tmp 18), none⟩] [0, 1, 2, 3, 9, 10] [])))))))
(.seq
(.region [
⟨some 8, .mov (.val (.pv (.bool false))), none⟩] [8] [])
.ret)))),
[.tmp 8], false, false, false⟩
def F383 : AFunc := ⟨5,
(.seq
(.region [
⟨some 10, .mov (.val (.pv (.int .i64 0))), none⟩] [0, 1, 2, 3, 4] [])
(.seq
(.draw [
(⟨some 13, .mov (.tmp 0), none⟩, []),
(⟨some 14, .mov (.tmp 1), none⟩, []),
(⟨some 15, .mov (.tmp 0), none⟩, []),
(⟨some 16, .mov (.tmp 3), none⟩, []),
(⟨some 17, .mov (.tmp 0), none⟩, []),
(⟨some 18, .mov (.tmp 3), none⟩, []),
(⟨some 19, .idx 1 (.tmp 17) (.tmp 18), none⟩, []),
(⟨some 20, .load 1 false (.tmp 19), none⟩, []),
(⟨some 21, .mov (.tmp 0), none⟩, []),
(⟨some 22, .mov (.tmp 1), none⟩, []),
(⟨some 23, .idx 1 (.tmp 21) (.tmp 22), none⟩, []),
(⟨some 24, .load 1 false (.tmp 23), none⟩, []),
(⟨some 25, .idx 1 (.tmp 13) (.tmp 14), none⟩, []),
(⟨none, .store 1 (.tmp 25) (.tmp 20), none⟩, []),
(⟨some 26, .idx 1 (.tmp 15) (.tmp 16), none⟩, []),
(⟨none, .store 1 (.tmp 26) (.tmp 24), none⟩, [])] [0, 1, 2, 4] [])
(.seq
(.region [
⟨some 27, .mov (.tmp 1), none⟩,
⟨some 28, .bin .add (.tmp 27) (.val (.pv (.int .i64 1))), none⟩,
⟨some 29, .mov (.tmp 2), none⟩,
⟨some 30, .bin .sub (.tmp 29) (.val (.pv (.int .i64 1))), none⟩,
⟨some 11, .mov (.tmp 28), none⟩,
⟨some 12, .mov (.tmp 30), none⟩] [0, 1, 4, 11, 12] [])
(.seq
(.block 0
(.loop
(.mask [0, 1, 4, 11, 12] []
(.block 1
(.seq
(.block 2
(.loop
(.mask [0, 1, 4, 11, 12] []
(.seq
(.seq
(.draw [
(⟨some 31, .mov (.tmp 11), none⟩, []),
(⟨some 32, .mov (.tmp 12), none⟩, []),
(⟨some 33, .bin .leq (.tmp 31) (.tmp 32), none⟩, []),
(⟨some 34, .mov (.tmp 33), none⟩, []),
(⟨some 35, .mov (.tmp 4), some (34, true)⟩, []),
(⟨some 36, .mov (.tmp 0), some (34, true)⟩, []),
(⟨some 37, .mov (.tmp 1), some (34, true)⟩, []),
(⟨some 38, .idx 1 (.tmp 36) (.tmp 37), some (34, true)⟩, []),
(⟨some 39, .load 1 false (.tmp 38), some (34, true)⟩, []),
(⟨some 40, .mov (.tmp 0), some (34, true)⟩, []),
(⟨some 41, .mov (.tmp 11), some (34, true)⟩, []),
(⟨some 42, .idx 1 (.tmp 40) (.tmp 41), some (34, true)⟩, []),
(⟨some 43, .load 1 false (.tmp 42), some (34, true)⟩, []),
(⟨some 44, .call (.tmp 35) [(.tmp 39), (.tmp 43)], some (34, true)⟩, []),
(⟨some 45, .bin .lss (.tmp 44) (.val (.pv (.int .i64 0))), some (34, true)⟩, []),
(⟨some 46, .un .not (.tmp 45), some (34, true)⟩, []),
(⟨some 47, .pick (.tmp 34) (.tmp 46) (.val (.pv (.bool false))), none⟩, [])] [0, 1, 4, 11, 12, 47] [])
(.cond (.tmp 47)
.skip
(.exit 2)))
(.block 3
(.region [
⟨some 48, .mov (.tmp 11), none⟩,
⟨some 49, .bin .add (.tmp 48) (.val (.pv (.int .i64 1))), none⟩,
⟨some 11, .mov (.tmp 49), none⟩] [0, 1, 4, 11, 12] []))))))
(.seq
(.block 4
(.loop
(.mask [0, 1, 4, 11, 12] []
(.seq
(.seq
(.draw [
(⟨some 50, .mov (.tmp 11), none⟩, []),
(⟨some 51, .mov (.tmp 12), none⟩, []),
(⟨some 52, .bin .leq (.tmp 50) (.tmp 51), none⟩, []),
(⟨some 53, .mov (.tmp 52), none⟩, []),
(⟨some 54, .mov (.tmp 4), some (53, true)⟩, []),
(⟨some 55, .mov (.tmp 0), some (53, true)⟩, []),
(⟨some 56, .mov (.tmp 1), some (53, true)⟩, []),
(⟨some 57, .idx 1 (.tmp 55) (.tmp 56), some (53, true)⟩, []),
(⟨some 58, .load 1 false (.tmp 57), some (53, true)⟩, []),
(⟨some 59, .mov (.tmp 0), some (53, true)⟩, []),
(⟨some 60, .mov (.tmp 12), some (53, true)⟩, []),
(⟨some 61, .idx 1 (.tmp 59) (.tmp 60), some (53, true)⟩, []),
(⟨some 62, .load 1 false (.tmp 61), some (53, true)⟩, []),
(⟨some 63, .call (.tmp 54) [(.tmp 58), (.tmp 62)], some (53, true)⟩, []),
(⟨some 64, .bin .lss (.tmp 63) (.val (.pv (.int .i64 0))), some (53, true)⟩, []),
(⟨some 65, .pick (.tmp 53) (.tmp 64) (.val (.pv (.bool false))), none⟩, [])] [0, 1, 4, 11, 12, 65] [])
(.cond (.tmp 65)
.skip
(.exit 4)))
(.block 5
(.region [
⟨some 66, .mov (.tmp 12), none⟩,
⟨some 67, .bin .sub (.tmp 66) (.val (.pv (.int .i64 1))), none⟩,
⟨some 12, .mov (.tmp 67), none⟩] [0, 1, 4, 11, 12] []))))))
(.seq
(.seq
(.region [
⟨some 68, .mov (.tmp 11), none⟩,
⟨some 69, .mov (.tmp 12), none⟩,
⟨some 70, .bin .gtr (.tmp 68) (.tmp 69), none⟩] [0, 1, 4, 11, 12, 70] [])
(.cond (.tmp 70)
(.exit 0)
.skip))
(.seq
(.draw [
(⟨some 71, .mov (.tmp 0), none⟩, []),
(⟨some 72, .mov (.tmp 11), none⟩, []),
(⟨some 73, .mov (.tmp 0), none⟩, []),
(⟨some 74, .mov (.tmp 12), none⟩, []),
(⟨some 75, .mov (.tmp 0), none⟩, []),
(⟨some 76, .mov (.tmp 12), none⟩, []),
(⟨some 77, .idx 1 (.tmp 75) (.tmp 76), none⟩, []),
(⟨some 78, .load 1 false (.tmp 77), none⟩, []),
(⟨some 79, .mov (.tmp 0), none⟩, []),
(⟨some 80, .mov (.tmp 11), none⟩, []),
(⟨some 81, .idx 1 (.tmp 79) (.tmp 80), none⟩, []),
(⟨some 82, .load 1 false (.tmp 81), none⟩, []),
(⟨some 83, .idx 1 (.tmp 71) (.tmp 72), none⟩, []),
(⟨none, .store 1 (.tmp 83) (.tmp 78), none⟩, []),
(⟨some 84, .idx 1 (.tmp 73) (.tmp 74), none⟩, []),
(⟨none, .store 1 (.tmp 84) (.tmp 82), none⟩, [])] [0, 1, 4, 11, 12] [])
(.seq
(.region [
⟨some 85, .mov (.tmp 11), none⟩,
⟨some 86, .bin .add (.tmp 85) (.val (.pv (.int .i64 1))), none⟩,
⟨some 11, .mov (.tmp 86), none⟩] [0, 1, 4, 11, 12] [])
(.region [
⟨some 87, .mov (.tmp 12), none⟩,
⟨some 88, .bin .sub (.tmp 87) (.val (.pv (.int .i64 1))), none⟩,
⟨some 12, .mov (.tmp 88), none⟩] [0, 1, 4, 11, 12] []))))))))))
(.seq
(.region [
⟨some 89, .mov (.tmp 11), none⟩,
⟨some 10, .mov (.tmp 89), none⟩] [10] [])
.ret))))),
[.tmp 10], false, false, false⟩
def F384 : AFunc := ⟨5,
(.seq
(.region [
⟨some 10, .mov (.val (.pv (.int .i64 0))), none⟩,
⟨some 11, .mov (.val (.pv (.bool false))), none⟩] [0, 1, 2, 3, 4] [])
(.seq
(.draw [
(⟨some 14, .mov (.tmp 0), none⟩, []),
(⟨some 15, .mov (.tmp 1), none⟩, []),
(⟨some 16, .mov (.tmp 0), none⟩, []),
(⟨some 17, .mov (.tmp 3), none⟩, []),
(⟨some 18, .mov (.tmp 0), none⟩, []),
(⟨some 19, .mov (.tmp 3), none⟩, []),
(⟨some 20, .idx 1 (.tmp 18) (.tmp 19), none⟩, []),
(⟨some 21, .load 1 false (.tmp 20), none⟩, []),
(⟨some 22, .mov (.tmp 0), none⟩, []),
(⟨some 23, .mov (.tmp 1), none⟩, []),
(⟨some 24, .idx 1 (.tmp 22) (.tmp 23), none⟩, []),
(⟨some 25, .load 1 false (.tmp 24), none⟩, []),
(⟨some 26, .idx 1 (.tmp 14) (.tmp 15), none⟩, []),
(⟨none, .store 1 (.tmp 26) (.tmp 21), none⟩, []),
(⟨some 27, .idx 1 (.tmp 16) (.tmp 17), none⟩, []),
(⟨none, .store 1 (.tmp 27) (.tmp 25), none⟩, [])] [0, 1, 2, 4] [])
(.seq
(.region [
⟨some 28, .mov (.tmp 1), none⟩,
⟨some 29, .bin .add (.tmp 28) (.val (.pv (.int .i64 1))), none⟩,
⟨some 30, .mov (.tmp 2), none⟩,
⟨some 31, .bin .sub (.tmp 30) (.val (.pv (.int .i64 1))), none⟩,
⟨some 12, .mov (.tmp 29), none⟩,
⟨some 13, .mov (.tmp 31), none⟩] [0, 1, 4, 12, 13] [])
(.seq
(.block 0
(.loop
(.mask [0, 1, 4, 12, 13] []
(.seq
(.seq
(.draw [
(⟨some 32, .mov (.tmp 12), none⟩, []),
(⟨some 33, .mov (.tmp 13), none⟩, []),
(⟨some 34, .bin .leq (.tmp 32) (.tmp 33), none⟩, []),
(⟨some 35, .mov (.tmp 34), none⟩, []),
(⟨some 36, .mov (.tmp 4), some (35, true)⟩, []),
(⟨some 37, .mov (.tmp 0), some (35, true)⟩, []),
(⟨some 38, .mov (.tmp 12), some (35, true)⟩, []),
(⟨some 39, .idx 1 (.tmp 37) (.tmp 38), some (35, true)⟩, []),
(⟨some 40, .load 1 false (.tmp 39), some (35, true)⟩, []),
(⟨some 41, .mov (.tmp 0), some (35, true)⟩, []),
(⟨some 42, .mov (.tmp 1), some (35, true)⟩, []),
(⟨some 43, .idx 1 (.tmp 41) (.tmp 42), some (35, true)⟩, []),
(⟨some 44, .load 1 false (.tmp 43), some (35, true)⟩, []),
(⟨some 45, .call (.tmp 36) [(.tmp 40), (.tmp 44)], some (35, true)⟩, []),
(⟨some 46, .bin .lss (.tmp 45) (.val (.pv (.int .i64 0))), some (35, true)⟩, []),
(⟨some 47, .pick (.tmp 35) (.tmp 46) (.val (.pv (.bool false))), none⟩, [])] [0, 1, 4, 12, 13, 47] [])
(.cond (.tmp 47)
.skip
(.exit 0)))
(.block 1
(.region [
⟨some 48, .mov (.tmp 12), none⟩,
⟨some 49, .bin .add (.tmp 48) (.val (.pv (.int .i64 1))), none⟩,
⟨some 12, .mov (.tmp 49), none⟩] [0, 1, 4, 12, 13] []))))))
(.seq
(.block 2
(.loop
(.mask [0, 1, 4, 12, 13] []
(.seq
(.seq
(.draw [
(⟨some 50, .mov (.tmp 12), none⟩, []),
(⟨some 51, .mov (.tmp 13), none⟩, []),
(⟨some 52, .bin .leq (.tmp 50) (.tmp 51), none⟩, []),
(⟨some 53, .mov (.tmp 52), none⟩, []),
(⟨some 54, .mov (.tmp 4), some (53, true)⟩, []),
(⟨some 55, .mov (.tmp 0), some (53, true)⟩, []),
(⟨some 56, .mov (.tmp 13), some (53, true)⟩, []),
(⟨some 57, .idx 1 (.tmp 55) (.tmp 56), some (53, true)⟩, []),
(⟨some 58, .load 1 false (.tmp 57), some (53, true)⟩, []),
(⟨some 59, .mov (.tmp 0), some (53, true)⟩, []),
(⟨some 60, .mov (.tmp 1), some (53, true)⟩, []),
(⟨some 61, .idx 1 (.tmp 59) (.tmp 60), some (53, true)⟩, []),
(⟨some 62, .load 1 false (.tmp 61), some (53, true)⟩, []),
(⟨some 63, .call (.tmp 54) [(.tmp 58), (.tmp 62)], some (53, true)⟩, []),
(⟨some 64, .bin .lss (.tmp 63) (.val (.pv (.int .i64 0))), some (53, true)⟩, []),
(⟨some 65, .un .not (.tmp 64), some (53, true)⟩, []),
(⟨some 66, .pick (.tmp 53) (.tmp 65) (.val (.pv (.bool false))), none⟩, [])] [0, 1, 4, 12, 13, 66] [])
(.cond (.tmp 66)
.skip
(.exit 2)))
(.block 3
(.region [
⟨some 67, .mov (.tmp 13), none⟩,
⟨some 68, .bin .sub (.tmp 67) (.val (.pv (.int .i64 1))), none⟩,
⟨some 13, .mov (.tmp 68), none⟩] [0, 1, 4, 12, 13] []))))))
(.seq
(.seq
(.region [
⟨some 69, .mov (.tmp 12), none⟩,
⟨some 70, .mov (.tmp 13), none⟩,
⟨some 71, .bin .gtr (.tmp 69) (.tmp 70), none⟩] [0, 1, 4, 12, 13, 71] [])
(.cond (.tmp 71)
(.seq
(.draw [
(⟨some 72, .mov (.tmp 0), none⟩, []),
(⟨some 73, .mov (.tmp 13), none⟩, []),
(⟨some 74, .mov (.tmp 0), none⟩, []),
(⟨some 75, .mov (.tmp 1), none⟩, []),
(⟨some 76, .mov (.tmp 0), none⟩, []),
(⟨some 77, .mov (.tmp 1), none⟩, []),
(⟨some 78, .idx 1 (.tmp 76) (.tmp 77), none⟩, []),
(⟨some 79, .load 1 false (.tmp 78), none⟩, []),
(⟨some 80, .mov (.tmp 0), none⟩, []),
(⟨some 81, .mov (.tmp 13), none⟩, []),
(⟨some 82, .idx 1 (.tmp 80) (.tmp 81), none⟩, []),
(⟨some 83, .load 1 false (.tmp 82), none⟩, []),
(⟨some 84, .idx 1 (.tmp 72) (.tmp 73), none⟩, []),
(⟨none, .store 1 (.tmp 84) (.tmp 79), none⟩, []),
(⟨some 85, .idx 1 (.tmp 74) (.tmp 75), none⟩, []),
(⟨none, .store 1 (.tmp 85) (.tmp 83), none⟩, [])] [13] [])
(.seq
(.region [
⟨some 86, .mov (.tmp 13), none⟩,
⟨some 10, .mov (.tmp 86), none⟩,
⟨some 11, .mov (.val (.pv (.bool true))), none⟩] [10, 11] [])
.ret))
.skip))
(.seq
(.draw [
(⟨some 87, .mov (.tmp 0), none⟩, []),
(⟨some 88, .mov (.tmp 12), none⟩, []),
(⟨some 89, .mov (.tmp 0), none⟩, []),
(⟨some 90, .mov (.tmp 13), none⟩, []),
(⟨some 91, .mov (.tmp 0), none⟩, []),
(⟨some 92, .mov (.tmp 13), none⟩, []),
(⟨some 93, .idx 1 (.tmp 91) (.tmp 92), none⟩, []),
(⟨some 94, .load 1 false (.tmp 93), none⟩, []),
(⟨some 95, .mov (.tmp 0), none⟩, []),
(⟨some 96, .mov (.tmp 12), none⟩, []),
(⟨some 97, .idx 1 (.tmp 95) (.tmp 96), none⟩, []),
(⟨some 98, .load 1 false (.tmp 97), none⟩, []),
(⟨some 99, .idx 1 (.tmp 87) (.tmp 88), none⟩, []),
(⟨none, .store 1 (.tmp 99) (.tmp 94), none⟩, []),
(⟨some 100, .idx 1 (.tmp 89) (.tmp 90), none⟩, []),
(⟨none, .store 1 (.tmp 100) (.tmp 98), none⟩, [])] [0, 1, 4, 12, 13] [])
(.seq
(.region [
⟨some 101, .mov (.tmp 12), none⟩,
⟨some 102, .bin .add (.tmp 101) (.val (.pv (.int .i64 1))), none⟩,
⟨some 12, .mov (.tmp 102), none⟩] [0, 1, 4, 12, 13] [])
(.seq
(.region [
⟨some 103, .mov (.tmp 13), none⟩,
⟨some 104, .bin .sub (.tmp 103) (.val (.pv (.int .i64 1))), none⟩,
⟨some 13, .mov (.tmp 104), none⟩] [0, 1, 4, 12, 13] [])
(.seq
(.block 4
(.loop
(.mask [0, 1, 4, 12, 13] []
(.block 5
(.seq
(.block 6
(.loop
(.mask [0, 1, 4, 12, 13] []
(.seq
(.seq
(.draw [
(⟨some 105, .mov (.tmp 12), none⟩, []),
(⟨some 106, .mov (.tmp 13), none⟩, []),
(⟨some 107, .bin .leq (.tmp 105) (.tmp 106), none⟩, []),
(⟨some 108, .mov (.tmp 107), none⟩, []),
(⟨some 109, .mov (.tmp 4), some (108, true)⟩, []),
(⟨some 110, .mov (.tmp 0), some (108, true)⟩, []),
(⟨some 111, .mov (.tmp 12), some (108, true)⟩, []),
(⟨some 112, .idx 1 (.tmp 110) (.tmp 111), some (108, true)⟩, []),
(⟨some 113, .load 1 false (.tmp 112), some (108, true)⟩, []),
(⟨some 114, .mov (.tmp 0), some (108, true)⟩, []),
(⟨some 115, .mov (.tmp 1), some (108, true)⟩, []),
(⟨some 116, .idx 1 (.tmp 114) (.tmp 115), some (108, true)⟩, []),
(⟨some 117, .load 1 false (.tmp 116), some (108, true)⟩, []),
(⟨some 118, .call (.tmp 109) [(.tmp 113), (.tmp 117)], some (108, true)⟩, []),
(⟨some 119, .bin .lss (.tmp 118) (.val (.pv (.int .i64 0))), some (108, true)⟩, []),
(⟨some 120, .pick (.tmp 108) (.tmp 119) (.val (.pv (.bool false))), none⟩, [])] [0, 1, 4, 12, 13, 120] [])
(.cond (.tmp 120)
.skip
(.exit 6)))
(.block 7
(.region [
⟨some 121, .mov (.tmp 12), none⟩,
⟨some 122, .bin .add (.tmp 121) (.val (.pv (.int .i64 1))), none⟩,
⟨some 12, .mov (.tmp 122), none⟩] [0, 1, 4, 12, 13] []))))))
(.seq
(.block 8
(.loop
(.mask [0, 1, 4, 12, 13] []
(.seq
(.seq
(.draw [
(⟨some 123, .mov (.tmp 12), none⟩, []),
(⟨some 124, .mov (.tmp 13), none⟩, []),
(⟨some 125, .bin .leq (.tmp 123) (.tmp 124), none⟩, []),
(⟨some 126, .mov (.tmp 125), none⟩, []),
(⟨some 127, .mov (.tmp 4), some (126, true)⟩, []),
(⟨some 128, .mov (.tmp 0), some (126, true)⟩, []),
(⟨some 129, .mov (.tmp 13), some (126, true)⟩, []),
(⟨some 130, .idx 1 (.tmp 128) (.tmp 129), some (126, true)⟩, []),
(⟨some 131, .load 1 false (.tmp 130), some (126, true)⟩, []),
(⟨some 132, .mov (.tmp 0), some (126, true)⟩, []),
(⟨some 133, .mov (.tmp 1), some (126, true)⟩, []),
(⟨some 134, .idx 1 (.tmp 132) (.tmp 133), some (126, true)⟩, []),
(⟨some 135, .load 1 false (.tmp 134), some (126, true)⟩, []),
(⟨some 136, .call (.tmp 127) [(.tmp 131), (.tmp 135)], some (126, true)⟩, []),
(⟨some 137, .bin .lss (.tmp 136) (.val (.pv (.int .i64 0))), some (126, true)⟩, []),
(⟨some 138, .un .not (.tmp 137), some (126, true)⟩, []),
(⟨some 139, .pick (.tmp 126) (.tmp 138) (.val (.pv (.bool false))), none⟩, [])] [0, 1, 4, 12, 13, 139] [])
(.cond (.tmp 139)
.skip
(.exit 8)))
(.block 9
(.region [
⟨some 140, .mov (.tmp 13), none⟩,
⟨some 141, .bin .sub (.tmp 140) (.val (.pv (.int .i64 1))), none⟩,
⟨some 13, .mov (.tmp 141), none⟩] [0, 1, 4, 12, 13] []))))))
(.seq
(.seq
(.region [
⟨some 142, .mov (.tmp 12), none⟩,
⟨some 143, .mov (.tmp 13), none⟩,
⟨some 144, .bin .gtr (.tmp 142) (.tmp 143), none⟩] [0, 1, 4, 12, 13, 144] [])
(.cond (.tmp 144)
(.exit 4)
.skip))
(.seq
(.draw [
(⟨some 145, .mov (.tmp 0), none⟩, []),
(⟨some 146, .mov (.tmp 12), none⟩, []),
(⟨some 147, .mov (.tmp 0), none⟩, []),
(⟨some 148, .mov (.tmp 13), none⟩, []),
(⟨some 149, .mov (.tmp 0), none⟩, []),
(⟨some 150, .mov (.tmp 13), none⟩, []),
(⟨some 151, .idx 1 (.tmp 149) (.tmp 150), none⟩, []),
(⟨some 152, .load 1 false (.tmp 151), none⟩, []),
(⟨some 153, .mov (.tmp 0), none⟩, []),
(⟨some 154, .mov (.tmp 12), none⟩, []),
(⟨some 155, .idx 1 (.tmp 153) (.tmp 154), none⟩, []),
(⟨some 156, .load 1 false (.tmp 155), none⟩, []),
(⟨some 157, .idx 1 (.tmp 145) (.tmp 146), none⟩, []),
(⟨none, .store 1 (.tmp 157) (.tmp 152), none⟩, []),
(⟨some 158, .idx 1 (.tmp 147) (.tmp 148), none⟩, []),
(⟨none, .store 1 (.tmp 158) (.tmp 156), none⟩, [])] [0, 1, 4, 12, 13] [])
(.seq
(.region [
⟨some 159, .mov (.tmp 12), none⟩,
⟨some 160, .bin .add (.tmp 159) (.val (.pv (.int .i64 1))), none⟩,
⟨some 12, .mov (.tmp 160), none⟩] [0, 1, 4, 12, 13] [])
(.region [
⟨some 161, .mov (.tmp 13), none⟩,
⟨some 162, .bin .sub (.tmp 161) (.val (.pv (.int .i64 1))), none⟩,
⟨some 13, .mov (.tmp 162), none⟩] [0, 1, 4, 12, 13] []))))))))))
(.seq
(.draw [
(⟨some 163, .mov (.tmp 0), none⟩, []),
(⟨some 164, .mov (.tmp 13), none⟩, []),
(⟨some 165, .mov (.tmp 0), none⟩, []),
(⟨some 166, .mov (.tmp 1), none⟩, []),
(⟨some 167, .mov (.tmp 0), none⟩, []),
(⟨some 168, .mov (.tmp 1), none⟩, []),
(⟨some 169, .idx 1 (.tmp 167) (.tmp 168), none⟩, []),
(⟨some 170, .load 1 false (.tmp 169), none⟩, []),
(⟨some 171, .mov (.tmp 0), none⟩, []),
(⟨some 172, .mov (.tmp 13), none⟩, []),
(⟨some 173, .idx 1 (.tmp 171) (.tmp 172), none⟩, []),
(⟨some 174, .load 1 false (.tmp 173), none⟩, []),
(⟨some 175, .idx 1 (.tmp 163) (.tmp 164), none⟩, []),
(⟨none, .store 1 (.tmp 175) (.tmp 170), none⟩, []),
(⟨some 176, .idx 1 (.tmp 165) (.tmp 166), none⟩, []),
(⟨none, .store 1 (.tmp 176) (.tmp 174), none⟩, [])] [13] [])
(.seq
(.region [
⟨some 177, .mov (.tmp 13), none⟩,
⟨some 10, .mov (.tmp 177), none⟩,
⟨some 11, .mov (.val (.pv (.bool false))), none⟩] [10, 11] [])
.ret)))))))))))),
[.tmp 10, .tmp 11], false, false, false⟩
def F385 : AFunc := ⟨5,
(.seq
(.region [
⟨some 12, .mov (.tmp 1), none⟩,
⟨some 10, .mov (.tmp 12), none⟩] [0, 2, 3, 4, 10] [])
(.block 0
(.loop
(.mask [0, 2, 3, 4, 10] []
(.block 1
(.seq
(.region [
⟨some 13, .mov (.tmp 10), none⟩,
⟨some 14, .bin .mul (.val (.pv (.int .i64 2))) (.tmp 13), none⟩,
⟨some 15, .bin .add (.tmp 14) (.val (.pv (.int .i64 1))), none⟩,
⟨some 11, .mov (.tmp 15), none⟩] [0, 2, 3, 4, 10, 11] [])
(.seq
(.seq
(.region [
⟨some 16, .mov (.tmp 11), none⟩,
⟨some 17, .mov (.tmp 2), none⟩,
⟨some 18, .bin .geq (.tmp 16) (.tmp 17), none⟩] [0, 2, 3, 4, 10, 11, 18] [])
(.cond (.tmp 18)
(.exit 0)
.skip))
(.seq
(.seq
(.draw [
(⟨some 19, .mov (.tmp 11), none⟩, []),
(⟨some 20, .bin .add (.tmp 19) (.val (.pv (.int .i64 1))), none⟩, []),
(⟨some 21, .mov (.tmp 2), none⟩, []),
(⟨some 22, .bin .lss (.tmp 20) (.tmp 21), none⟩, []),
(⟨some 23, .mov (.tmp 22), none⟩, []),
(⟨some 24, .mov (.tmp 4), some (23, true)⟩, []),
(⟨some 25, .mov (.tmp 0), some (23, true)⟩, []),
(⟨some 26, .mov (.tmp 3), some (23, true)⟩, []),
(⟨some 27, .mov (.tmp 11), some (23, true)⟩, []),
(⟨some 28, .bin .add (.tmp 26) (.tmp 27), some (23, true)⟩, []),
(⟨some 29, .idx 1 (.tmp 25) (.tmp 28), some (23, true)⟩, []),
(⟨some 30, .load 1 false (.tmp 29), some (23, true)⟩, []),
(⟨some 31, .mov (.tmp 0), some (23, true)⟩, []),
(⟨some 32, .mov (.tmp 3), some (23, true)⟩, []),
(⟨some 33, .mov (.tmp 11), some (23, true)⟩, []),
(⟨some 34, .bin .add (.tmp 32) (.tmp 33), some (23, true)⟩, []),
(⟨some 35, .bin .add (.tmp 34) (.val (.pv (.int .i64 1))), some (23, true)⟩, []),
(⟨some 36, .idx 1 (.tmp 31) (.tmp 35), some (23, true)⟩, []),
(⟨some 37, .load 1 false (.tmp 36), some (23, true)⟩, []),
(⟨some 38, .call (.tmp 24) [(.tmp 30), (.tmp 37)], some (23, true)⟩, []),
(⟨some 39, .bin .lss (.tmp 38) (.val (.pv (.int .i64 0))), some (23, true)⟩, []),
(⟨some 40, .pick (.tmp 23) (.tmp 39) (.val (.pv (.bool false))), none⟩, [])] [0, 2, 3, 4, 10, 11, 40] [])
(.cond (.tmp 40)
(.region [
⟨some 41, .mov (.tmp 11), none⟩,
⟨some 42, .bin .add (.tmp 41) (.val (.pv (.int .i64 1))), none⟩,
⟨some 11, .mov (.tmp 42), none⟩] [0, 2, 3, 4, 10, 11] [])
.skip))
(.seq
(.seq
(.draw [
(⟨some 43, .mov (.tmp 4), none⟩, []),
(⟨some 44, .mov (.tmp 0), none⟩, []),
(⟨some 45, .mov (.tmp 3), none⟩, []),
(⟨some 46, .mov (.tmp 10), none⟩, []),
(⟨some 47, .bin .add (.tmp 45) (.tmp 46), none⟩, []),
(⟨some 48, .idx 1 (.tmp 44) (.tmp 47), none⟩, []),
(⟨some 49, .load 1 false (.tmp 48), none⟩, []),
(⟨some 50, .mov (.tmp 0), none⟩, []),
(⟨some 51, .mov (.tmp 3), none⟩, []),
(⟨some 52, .mov (.tmp 11), none⟩, []),
(⟨some 53, .bin .add (.tmp 51) (.tmp 52), none⟩, []),
(⟨some 54, .idx 1 (.tmp 50) (.tmp 53), none⟩, []),
(⟨some 55, .load 1 false (.tmp 54), none⟩, []),
(⟨some 56, .call (.tmp 43) [(.tmp 49), (.tmp 55)], none⟩, []),
(⟨some 57, .bin .lss (.tmp 56) (.val (.pv (.int .i64 0))), none⟩, []),
(⟨some 58, .un .not (.tmp 57), none⟩, [])] [0, 2, 3, 4, 10, 11, 58] [])
(.cond (.tmp 58)
.ret
.skip))
(.seq
(.draw [
(⟨some 59, .mov (.tmp 0), none⟩, []),
(⟨some 60, .mov (.tmp 3), none⟩, []),
(⟨some 61, .mov (.tmp 10), none⟩, []),
(⟨some 62, .bin .add (.tmp 60) (.tmp 61), none⟩, []),
(⟨some 63, .mov (.tmp 0), none⟩, []),
(⟨some 64, .mov (.tmp 3), none⟩, []),
(⟨some 65, .mov (.tmp 11), none⟩, []),
(⟨some 66, .bin .add (.tmp 64) (.tmp 65), none⟩, []),
(⟨some 67, .mov (.tmp 0), none⟩, []),
(⟨some 68, .mov (.tmp 3), none⟩, []),
(⟨some 69, .mov (.tmp 11), none⟩, []),
(⟨some 70, .bin .add (.tmp 68) (.tmp 69), none⟩, []),
(⟨some 71, .idx 1 (.tmp 67) (.tmp 70), none⟩, []),
(⟨some 72, .load 1 false (.tmp 71), none⟩, []),
(⟨some 73, .mov (.tmp 0), none⟩, []),
(⟨some 74, .mov (.tmp 3), none⟩, []),
(⟨some 75, .mov (.tmp 10), none⟩, []),
(⟨some 76, .bin .add (.tmp 74) (.tmp 75), none⟩, []),
(⟨some 77, .idx 1 (.tmp 73) (.tmp 76), none⟩, []),
(⟨some 78, .load 1 false (.tmp 77), none⟩, []),
(⟨some 79, .idx 1 (.tmp 59) (.tmp 62), none⟩, []),
(⟨none, .store 1 (.tmp 79) (.tmp 72), none⟩, []),
(⟨some 80, .idx 1 (.tmp 63) (.tmp 66), none⟩, []),
(⟨none, .store 1 (.tmp 80) (.tmp 78), none⟩, [])] [0, 2, 3, 4, 11] [])
(.region [
⟨some 81, .mov (.tmp 11), none⟩,
⟨some 10, .mov (.tmp 81), none⟩] [0, 2, 3, 4, 10] []))))))))))),
[], false, false, false⟩
def F386 : AFunc := ⟨4,
(.seq
(.region [
⟨some 8, .mov (.val (.pv (.int .i64 0))), none⟩] [0, 1, 2, 3] [])
(.seq
(.region [
⟨some 9, .mov (.tmp 0), none⟩,
⟨some 10, .mov (.tmp 1), none⟩,
⟨some 11, .bin .sub (.tmp 10) (.val (.pv (.int .i64 1))), none⟩,
⟨some 12, .mov (.tmp 1), none⟩,
⟨some 13, .mov (.tmp 1), none⟩,
⟨some 14, .bin .add (.tmp 13) (.val (.pv (.int .i64 1))), none⟩,
⟨some 15, .mov (.tmp 2), none⟩,
⟨some 16, .mov (.tmp 3), none⟩,
⟨some 17, .call (.val (.func 387 [])) [(.tmp 9), (.tmp 11), (.tmp 12), (.tmp 14), (.tmp 15), (.tmp 16)], none⟩,
⟨some 8, .mov (.tmp 17), none⟩] [8] [])
.ret)),
[.tmp 8], false, false, false⟩
def F387 : AFunc := ⟨6,
(.seq
(.region [
⟨some 12, .mov (.val (.pv (.int .i64 0))), none⟩] [0, 1, 2, 3, 4, 5] [])
(.seq
(.region [
⟨some 14, .mov (.tmp 0), none⟩,
⟨some 15, .mov (.tmp 1), none⟩,
⟨some 16, .mov (.tmp 2), none⟩,
⟨some 17, .mov (.tmp 4), none⟩,
⟨some 18, .mov (.tmp 5), none⟩,
⟨some 19, .call (.val (.func 388 [])) [(.tmp 14), (.tmp 15), (.tmp 16), (.tmp 17), (.tmp 18)], none⟩,
⟨some 13, .mov (.tmp 19), none⟩,
⟨some 20, .ext (.tmp 13) 0, none⟩,
⟨some 21, .ext (.tmp 13) 1, none⟩,
⟨some 1, .mov (.tmp 20), none⟩,
⟨some 2, .mov (.tmp 21), none⟩] [0, 1, 2, 3, 4, 5] [])
(.seq
(.region [
⟨some 23, .mov (.tmp 0), none⟩,
⟨some 24, .mov (.tmp 2), none⟩,
⟨some 25, .mov (.tmp 3), none⟩,
⟨some 26, .mov (.tmp 4), none⟩,
⟨some 27, .mov (.tmp 5), none⟩,
⟨some 28, .call (.val (.func 388 [])) [(.tmp 23), (.tmp 24), (.tmp 25), (.tmp 26), (.tmp 27)], none⟩,
⟨some 22, .mov (.tmp 28), none⟩,
⟨some 29, .ext (.tmp 22) 0, none⟩,
⟨some 30, .ext (.tmp 22) 1, none⟩,
⟨some 2, .mov (.tmp 29), none⟩,
⟨some 3, .mov (.tmp 30), none⟩] [0, 1, 2, 4, 5] [])
(.seq
(.region [
⟨some 32, .mov (.tmp 0), none⟩,
⟨some 33, .mov (.tmp 1), none⟩,
⟨some 34, .mov (.tmp 2), none⟩,
⟨some 35, .mov (.tmp 4), none⟩,
⟨some 36, .mov (.tmp 5), none⟩,
⟨some 37, .call (.val (.func 388 [])) [(.tmp 32), (.tmp 33), (.tmp 34), (.tmp 35), (.tmp 36)], none⟩,
⟨some 31, .mov (.tmp 37), none⟩,
⟨some 38, .ext (.tmp 31) 0, none⟩,
⟨some 39, .ext (.tmp 31) 1, none⟩,
⟨some 1, .mov (.tmp 38), none⟩,
⟨some 2, .mov (.tmp 39), none⟩] [2] [])
(.seq
(.region [
⟨some 40, .mov (.tmp 2), none⟩,
⟨some 12, .mov (.tmp 40), none⟩] [12] [])
.ret))))),
[.tmp 12], false, false, false⟩
def F388 : AFunc := ⟨5,
(.seq
(.region [
⟨some 10, .mov (.val (.pv (.int .i64 0))), none⟩,
⟨some 11, .mov (.val (.pv (.int .i64 0))), none⟩] [0, 1, 2, 3, 4] [])
(.seq
(.seq
(.draw [
(⟨some 12, .mov (.tmp 4), none⟩, []),
(⟨some 13, .mov (.tmp 0), none⟩, []),
(⟨some 14, .mov (.tmp 2), none⟩, []),
(⟨some 15, .idx 1 (.tmp 13) (.tmp 14), none⟩, []),
(⟨some 16, .load 1 false (.tmp 15), none⟩, []),
(⟨some 17, .mov (.tmp 0), none⟩, []),
(⟨some 18, .mov (.tmp 1), none⟩, []),
(⟨some 19, .idx 1 (.tmp 17) (.tmp 18), none⟩, []),
(⟨some 20, .load 1 false (.tmp 19), none⟩, []),
(⟨some 21, .call (.tmp 12) [(.tmp 16), (.tmp 20)], none⟩, []),
(⟨some 22, .bin .lss (.tmp 21) (.val (.pv (.int .i64 0))), none⟩, [])] [1, 2, 3, 22] [])
(.cond (.tmp 22)
(.seq
(.region [
⟨some 23, .mov (.tmp 3), none⟩,
⟨some 24, .nilck (.tmp 23), none⟩,
⟨some 25, .load 1 false (.tmp 24), none⟩,
⟨some 26, .bin .add (.tmp 25) (.val (.pv (.int .i64 1))), none⟩,
⟨some 27, .nilck (.tmp 23), none⟩,
⟨none, .store 1 (.tmp 27) (.tmp 26), none⟩] [1, 2] [])
(.seq
(.region [
⟨some 28, .mov (.tmp 2), none⟩,
⟨some 29, .mov (.tmp 1), none⟩,
⟨some 10, .mov (.tmp 28), none⟩,
⟨some 11, .mov (.tmp 29), none⟩] [10, 11] [])
.ret))
.skip))
(.seq
(.region [
⟨some 30, .mov (.tmp 1), none⟩,
⟨some 31, .mov (.tmp 2), none⟩,
⟨some 10, .mov (.tmp 30), none⟩,
⟨some 11, .mov (.tmp 31), none⟩] [10, 11] [])
.ret))),
[.tmp 10, .tmp 11], false, false, false⟩
end Go.Pv
