/-
  Functions of the program,read for the interpreter.
-/
import Derived.Test.YtppmbamefnacaaaDoorA4
namespace Go.Pv
def F25 : AFunc := ⟨1,(.seq
(.region [⟨some 1,.box 1 2 (.tmp 0),none⟩,⟨some 2,.alloc 2 [.pv (.int .i64 0),.pv (.int .i64 0),.tl []],none⟩,⟨some 3,.mov (.val (.pv (.bool false))),none⟩] [1,2] [1,2])
(.seq
(.region [⟨some 10,.fld 0 (.tmp 1),none⟩,⟨some 11,.load 1 false (.tmp 10),none⟩,⟨some 12,.bin .rem (.tmp 11) (.val (.pv (.int .u8 4))),none⟩,⟨some 13,.conv .i64 (.tmp 12),none⟩,⟨some 14,.bin .add (.val (.pv (.int .i64 1))) (.tmp 13),none⟩,⟨some 15,.build [.pv (.int .i64 0),.pv (.int .i64 0),.tl []] [(0,1,(.tmp 14))],none⟩,⟨some 4,.alloc 4 [.pv (.int .i64 0),.pv (.int .i64 0),.tl []],none⟩,⟨none,.store 3 (.tmp 4) (.tmp 15),none⟩] [1,2,4] [1,2,4])
(.seq
(.seq
(.region [⟨some 5,.mov (.val (.pv (.int .i64 0))),none⟩] [1,2,4,5] [1,2,4])
(.block 0
(.loop
(.mask [1,2,4,5] [1,2,4]
(.seq
(.seq
(.region [⟨some 16,.mov (.tmp 5),none⟩,⟨some 17,.fld 1 (.tmp 1),none⟩,⟨some 18,.load 1 false (.tmp 17),none⟩,⟨some 19,.len 0 (.tmp 18),none⟩,⟨some 20,.bin .lss (.tmp 16) (.tmp 19),none⟩,⟨some 21,.mov (.tmp 20),none⟩,⟨some 22,.mov (.tmp 5),some (21,true)⟩,⟨some 23,.bin .lss (.tmp 22) (.val (.pv (.int .i64 12))),some (21,true)⟩,⟨some 24,.pick (.tmp 21) (.tmp 23) (.val (.pv (.bool false))),none⟩] [1,2,4,5,24] [1,2,4])
(.cond (.tmp 24)
.skip
(.exit 0)))
(.seq
(.block 1
(.seq
(.region [⟨some 27,.fld 1 (.tmp 1),none⟩,⟨some 28,.load 1 false (.tmp 27),none⟩,⟨some 29,.mov (.tmp 5),none⟩,⟨some 30,.idx 3 (.tmp 28) (.tmp 29),none⟩,⟨some 31,.load 3 true (.tmp 30),none⟩,⟨some 6,.alloc 6 [.pv (.int .u8 0),.pv (.int .u8 0),.pv (.int .u8 0)],none⟩,⟨none,.store 3 (.tmp 6) (.tmp 31),none⟩] [1,2,4,5,6] [1,2,4,6])
(.seq
(.draw [(⟨some 32,.fld 0 (.tmp 6),none⟩,[]),(⟨some 33,.load 1 false (.tmp 32),none⟩,[]),(⟨some 34,.conv .i64 (.tmp 33),none⟩,[]),(⟨some 35,.fld 0 (.tmp 4),none⟩,[]),(⟨some 36,.load 1 false (.tmp 35),none⟩,[]),(⟨some 37,.bin .rem (.tmp 34) (.tmp 36),none⟩,[]),(⟨some 38,.fld 1 (.tmp 6),none⟩,[]),(⟨some 39,.load 1 false (.tmp 38),none⟩,[]),(⟨some 40,.bin .rem (.tmp 39) (.val (.pv (.int .u8 2))),none⟩,[]),(⟨some 41,.bin .eql (.tmp 40) (.val (.pv (.int .u8 1))),none⟩,[]),(⟨some 42,.fld 1 (.tmp 6),none⟩,[]),(⟨some 43,.load 1 false (.tmp 42),none⟩,[]),(⟨some 44,.bin .quo (.tmp 43) (.val (.pv (.int .u8 2))),none⟩,[]),(⟨some 45,.bin .rem (.tmp 44) (.val (.pv (.int .u8 3))),none⟩,[]),(⟨some 46,.conv .i64 (.tmp 45),none⟩,[]),(⟨some 47,.bin .add (.val (.pv (.int .i64 1))) (.tmp 46),none⟩,[]),(⟨some 48,.fld 2 (.tmp 6),none⟩,[]),(⟨some 49,.load 1 false (.tmp 48),none⟩,[]),(⟨some 50,.conv .i64 (.tmp 49),none⟩,[]),(⟨some 51,.fld 0 (.tmp 4),none⟩,[]),(⟨some 52,.load 1 false (.tmp 51),none⟩,[]),(⟨some 53,.bin .rem (.tmp 50) (.tmp 52),none⟩,[]),(⟨some 54,.build [.pv (.int .i64 0),.pv (.bool false),.pv (.int .i64 0),.pv (.int .i64 0)] [(0,1,(.tmp 37)),(1,1,(.tmp 41)),(2,1,(.tmp 47)),(3,1,(.tmp 53))],none⟩,[]),(⟨some 7,.alloc 7 [.pv (.int .i64 0),.pv (.bool false),.pv (.int .i64 0),.pv (.int .i64 0)],none⟩,[1,4,7,11,17,20]),(⟨none,.store 4 (.tmp 7) (.tmp 54),none⟩,[])] [1,2,4,5,7] [1,2,4,7])
(.seq
(.region [⟨some 56,.load 3 true (.tmp 4),none⟩,⟨some 57,.fld 0 (.tmp 7),none⟩,⟨some 58,.load 1 false (.tmp 57),none⟩,⟨some 59,.fld 1 (.tmp 7),none⟩,⟨some 60,.load 1 false (.tmp 59),none⟩,⟨some 61,.fld 2 (.tmp 7),none⟩,⟨some 62,.load 1 false (.tmp 61),none⟩,⟨some 63,.call (.val (.func 39 [])) [(.tmp 56),(.tmp 58),(.tmp 60),(.tmp 62)],none⟩,⟨some 55,.mov (.tmp 63),none⟩,⟨some 64,.ext (.tmp 55) 0,none⟩,⟨some 65,.ext (.tmp 55) 1,none⟩,⟨some 8,.mov (.tmp 64),none⟩,⟨some 9,.mov (.tmp 65),none⟩] [1,2,4,5,7,9] [1,2,4,7])
(.seq
(.region [⟨some 66,.mov (.tmp 9),none⟩,⟨some 67,.un .not (.tmp 66),none⟩] [1,2,4,5,7,67] [1,2,4,7])
(.cond (.tmp 67)
(.region [⟨some 68,.fld 2 (.tmp 4),none⟩,⟨some 69,.load 1 false (.tmp 68),none⟩,⟨some 70,.load 4 true (.tmp 7),none⟩,⟨some 71,.lit 4 [.pv (.int .i64 0),.pv (.bool false),.pv (.int .i64 0),.pv (.int .i64 0)] 1 [(0,4,(.tmp 70))],none⟩,⟨some 72,.app 4 (.tmp 69) (.tmp 71),none⟩,⟨some 73,.fld 2 (.tmp 4),none⟩,⟨none,.store 1 (.tmp 73) (.tmp 72),none⟩] [1,2,4,5] [1,2,4])
.skip))))))
(.region [⟨some 25,.mov (.tmp 5),none⟩,⟨some 26,.bin .add (.tmp 25) (.val (.pv (.int .i64 1))),none⟩,⟨some 5,.mov (.tmp 26),none⟩] [1,2,4,5] [1,2,4])))))))
(.seq
(.draw [(⟨some 74,.load 3 true (.tmp 4),none⟩,[]),(⟨some 75,.call (.val (.func 43 [])) [(.tmp 74)],none⟩,[]),(⟨some 76,.fld 1 (.tmp 1),none⟩,[]),(⟨some 77,.load 1 false (.tmp 76),none⟩,[1]),(⟨some 78,.len 0 (.tmp 77),none⟩,[1]),(⟨some 79,.bin .leq (.tmp 78) (.val (.pv (.int .i64 12))),none⟩,[]),(⟨none,.store 3 (.tmp 2) (.tmp 75),none⟩,[3,4]),(⟨some 3,.mov (.tmp 79),none⟩,[])] [2,3] [2])
.ret)))),[.cell 2 3 true,.tmp 3],false,false,false⟩
def F26 : AFunc := ⟨1,(.seq
(.region [⟨some 1,.box 1 3 (.tmp 0),none⟩,⟨some 2,.mov (.val (.pv (.int .i64 0))),none⟩] [1] [1])
(.seq
(.seq
(.region [⟨some 5,.fld 0 (.tmp 1),none⟩,⟨some 6,.load 1 false (.tmp 5),none⟩,⟨some 7,.bin .gtr (.tmp 6) (.val (.pv (.int .i64 12))),none⟩,⟨some 8,.mov (.tmp 7),none⟩,⟨some 9,.fld 2 (.tmp 1),some (8,false)⟩,⟨some 10,.load 1 false (.tmp 9),some (8,false)⟩,⟨some 11,.len 0 (.tmp 10),some (8,false)⟩,⟨some 12,.bin .gtr (.tmp 11) (.val (.pv (.int .i64 100))),some (8,false)⟩,⟨some 13,.pick (.tmp 8) (.val (.pv (.bool true))) (.tmp 12),none⟩] [1,13] [1])
(.cond (.tmp 13)
(.seq
(.region [⟨some 2,.mov (.val (.pv (.int .i64 3))),none⟩] [2] [])
.ret)
.skip))
(.seq
(.seq
(.region [⟨some 14,.fld 0 (.tmp 1),none⟩,⟨some 15,.load 1 false (.tmp 14),none⟩,⟨some 16,.bin .lss (.tmp 15) (.val (.pv (.int .i64 1))),none⟩,⟨some 17,.mov (.tmp 16),none⟩,⟨some 18,.fld 1 (.tmp 1),some (17,false)⟩,⟨some 19,.load 1 false (.tmp 18),some (17,false)⟩,⟨some 20,.bin .lss (.tmp 19) (.val (.pv (.int .i64 0))),some (17,false)⟩,⟨some 21,.pick (.tmp 17) (.val (.pv (.bool true))) (.tmp 20),none⟩,⟨some 22,.mov (.tmp 21),none⟩,⟨some 23,.fld 1 (.tmp 1),some (22,false)⟩,⟨some 24,.load 1 false (.tmp 23),some (22,false)⟩,⟨some 25,.fld 0 (.tmp 1),some (22,false)⟩,⟨some 26,.load 1 false (.tmp 25),some (22,false)⟩,⟨some 27,.bin .geq (.tmp 24) (.tmp 26),some (22,false)⟩,⟨some 28,.pick (.tmp 22) (.val (.pv (.bool true))) (.tmp 27),none⟩] [1,28] [1])
(.cond (.tmp 28)
(.seq
(.region [⟨some 2,.mov (.val (.pv (.int .i64 1))),none⟩] [2] [])
.ret)
.skip))
(.seq
(.seq
(.region [⟨some 3,.mov (.val (.pv (.int .i64 0))),none⟩] [1,3] [1])
(.block 0
(.loop
(.mask [1,3] [1]
(.seq
(.seq
(.region [⟨some 29,.mov (.tmp 3),none⟩,⟨some 30,.fld 2 (.tmp 1),none⟩,⟨some 31,.load 1 false (.tmp 30),none⟩,⟨some 32,.len 0 (.tmp 31),none⟩,⟨some 33,.bin .lss (.tmp 29) (.tmp 32),none⟩] [1,3,33] [1])
(.cond (.tmp 33)
.skip
(.exit 0)))
(.seq
(.block 1
(.seq
(.region [⟨some 36,.fld 2 (.tmp 1),none⟩,⟨some 37,.load 1 false (.tmp 36),none⟩,⟨some 38,.mov (.tmp 3),none⟩,⟨some 39,.idx 4 (.tmp 37) (.tmp 38),none⟩,⟨some 40,.load 4 true (.tmp 39),none⟩,⟨some 4,.alloc 4 [.pv (.int .i64 0),.pv (.bool false),.pv (.int .i64 0),.pv (.int .i64 0)],none⟩,⟨none,.store 4 (.tmp 4) (.tmp 40),none⟩] [1,3,4] [1,4])
(.seq
(.seq
(.region [⟨some 41,.fld 0 (.tmp 4),none⟩,⟨some 42,.load 1 false (.tmp 41),none⟩,⟨some 43,.bin .lss (.tmp 42) (.val (.pv (.int .i64 0))),none⟩,⟨some 44,.mov (.tmp 43),none⟩,⟨some 45,.fld 0 (.tmp 4),some (44,false)⟩,⟨some 46,.load 1 false (.tmp 45),some (44,false)⟩,⟨some 47,.fld 0 (.tmp 1),some (44,false)⟩,⟨some 48,.load 1 false (.tmp 47),some (44,false)⟩,⟨some 49,.bin .geq (.tmp 46) (.tmp 48),some (44,false)⟩,⟨some 50,.pick (.tmp 44) (.val (.pv (.bool true))) (.tmp 49),none⟩,⟨some 51,.mov (.tmp 50),none⟩,⟨some 52,.fld 3 (.tmp 4),some (51,false)⟩,⟨some 53,.load 1 false (.tmp 52),some (51,false)⟩,⟨some 54,.bin .lss (.tmp 53) (.val (.pv (.int .i64 0))),some (51,false)⟩,⟨some 55,.pick (.tmp 51) (.val (.pv (.bool true))) (.tmp 54),none⟩,⟨some 56,.mov (.tmp 55),none⟩,⟨some 57,.fld 3 (.tmp 4),some (56,false)⟩,⟨some 58,.load 1 false (.tmp 57),some (56,false)⟩,⟨some 59,.fld 0 (.tmp 1),some (56,false)⟩,⟨some 60,.load 1 false (.tmp 59),some (56,false)⟩,⟨some 61,.bin .geq (.tmp 58) (.tmp 60),some (56,false)⟩,⟨some 62,.pick (.tmp 56) (.val (.pv (.bool true))) (.tmp 61),none⟩,⟨some 63,.mov (.tmp 62),none⟩,⟨some 64,.fld 2 (.tmp 4),some (63,false)⟩,⟨some 65,.load 1 false (.tmp 64),some (63,false)⟩,⟨some 66,.bin .lss (.tmp 65) (.val (.pv (.int .i64 1))),some (63,false)⟩,⟨some 67,.pick (.tmp 63) (.val (.pv (.bool true))) (.tmp 66),none⟩,⟨some 68,.mov (.tmp 67),none⟩,⟨some 69,.fld 2 (.tmp 4),some (68,false)⟩,⟨some 70,.load 1 false (.tmp 69),some (68,false)⟩,⟨some 71,.bin .gtr (.tmp 70) (.val (.pv (.int .i64 1000))),some (68,false)⟩,⟨some 72,.pick (.tmp 68) (.val (.pv (.bool true))) (.tmp 71),none⟩] [1,3,4,72] [1,4])
(.cond (.tmp 72)
(.seq
(.region [⟨some 2,.mov (.val (.pv (.int .i64 1))),none⟩] [2] [])
.ret)
.skip))
(.seq
(.draw [(⟨some 73,.mov (.tmp 3),none⟩,[]),(⟨some 74,.bin .gtr (.tmp 73) (.val (.pv (.int .i64 0))),none⟩,[]),(⟨some 75,.mov (.tmp 74),none⟩,[]),(⟨some 76,.fld 2 (.tmp 1),some (75,true)⟩,[]),(⟨some 77,.load 1 false (.tmp 76),some (75,true)⟩,[]),(⟨some 78,.mov (.tmp 3),some (75,true)⟩,[]),(⟨some 79,.bin .sub (.tmp 78) (.val (.pv (.int .i64 1))),some (75,true)⟩,[]),(⟨some 80,.idx 4 (.tmp 77) (.tmp 79),some (75,true)⟩,[]),(⟨some 81,.load 4 true (.tmp 80),some (75,true)⟩,[]),(⟨some 82,.load 4 true (.tmp 4),some (75,true)⟩,[]),(⟨some 83,.call (.val (.func 44 [])) [(.tmp 81),(.tmp 82)],some (75,true)⟩,[]),(⟨some 84,.un .not (.tmp 83),some (75,true)⟩,[]),(⟨some 85,.pick (.tmp 75) (.tmp 84) (.val (.pv (.bool false))),none⟩,[])] [1,3,85] [1])
(.cond (.tmp 85)
(.seq
(.region [⟨some 2,.mov (.val (.pv (.int .i64 1))),none⟩] [2] [])
.ret)
.skip)))))
(.region [⟨some 34,.mov (.tmp 3),none⟩,⟨some 35,.bin .add (.tmp 34) (.val (.pv (.int .i64 1))),none⟩,⟨some 3,.mov (.tmp 35),none⟩] [1,3] [1])))))))
(.seq
(.region [⟨some 2,.mov (.val (.pv (.int .i64 0))),none⟩] [2] [])
.ret))))),[.tmp 2],false,false,false⟩
def F29 : AFunc := ⟨1,(.seq
(.region [⟨some 1,.box 1 3 (.tmp 0),none⟩,⟨some 2,.mov (.val (.pv (.int .i64 0))),none⟩] [1] [1])
(.seq
(.seq
(.region [⟨some 6,.fld 0 (.tmp 1),none⟩,⟨some 7,.load 1 false (.tmp 6),none⟩,⟨some 8,.bin .gtr (.tmp 7) (.val (.pv (.int .i64 12))),none⟩,⟨some 9,.mov (.tmp 8),none⟩,⟨some 10,.fld 2 (.tmp 1),some (9,false)⟩,⟨some 11,.load 1 false (.tmp 10),some (9,false)⟩,⟨some 12,.len 0 (.tmp 11),some (9,false)⟩,⟨some 13,.bin .gtr (.tmp 12) (.val (.pv (.int .i64 100))),some (9,false)⟩,⟨some 14,.pick (.tmp 9) (.val (.pv (.bool true))) (.tmp 13),none⟩] [1,14] [1])
(.cond (.tmp 14)
(.seq
(.region [⟨some 2,.mov (.val (.pv (.int .i64 3))),none⟩] [2] [])
.ret)
.skip))
(.seq
(.region [⟨some 15,.clos 46 [(.tmp 1)],none⟩,⟨some 3,.mov (.tmp 15),none⟩] [1,3] [1])
(.seq
(.seq
(.region [⟨some 16,.mov (.tmp 3),none⟩,⟨some 17,.fld 1 (.tmp 1),none⟩,⟨some 18,.load 1 false (.tmp 17),none⟩,⟨some 19,.call (.tmp 16) [(.tmp 18)],none⟩,⟨some 20,.un .not (.tmp 19),none⟩] [1,3,20] [1])
(.cond (.tmp 20)
(.seq
(.region [⟨some 2,.mov (.val (.pv (.int .i64 1))),none⟩] [2] [])
.ret)
.skip))
(.seq
(.seq
(.region [⟨some 21,.fld 2 (.tmp 1),none⟩,⟨some 22,.load 1 false (.tmp 21),none⟩,⟨some 23,.len 0 (.tmp 22),none⟩,⟨some 24,.mov (.val (.pv (.int .i64 0))),none⟩] [1,3,22,23,24] [1])
(.block 0
(.loop
(.mask [1,3,22,23,24] [1]
(.seq
(.region [⟨some 25,.bin .lss (.tmp 24) (.tmp 23),none⟩] [1,3,22,23,24,25] [1])
(.seq
(.cond (.tmp 25)
.skip
(.exit 0))
(.seq
(.block 1
(.seq
(.region [⟨some 26,.mov (.tmp 24),none⟩,⟨some 27,.idx 4 (.tmp 22) (.tmp 24),none⟩,⟨some 28,.load 4 true (.tmp 27),none⟩,⟨some 5,.alloc 5 [.pv (.int .i64 0),.pv (.bool false),.pv (.int .i64 0),.pv (.int .i64 0)],none⟩,⟨some 4,.mov (.tmp 26),none⟩,⟨none,.store 4 (.tmp 5) (.tmp 28),none⟩] [1,3,4,5,22,23,24] [1,5])
(.seq
(.draw [(⟨some 29,.mov (.tmp 3),none⟩,[]),(⟨some 30,.fld 0 (.tmp 5),none⟩,[]),(⟨some 31,.load 1 false (.tmp 30),none⟩,[]),(⟨some 32,.call (.tmp 29) [(.tmp 31)],none⟩,[]),(⟨some 33,.un .not (.tmp 32),none⟩,[]),(⟨some 34,.mov (.tmp 33),none⟩,[]),(⟨some 35,.mov (.tmp 3),some (34,false)⟩,[]),(⟨some 36,.fld 3 (.tmp 5),some (34,false)⟩,[]),(⟨some 37,.load 1 false (.tmp 36),some (34,false)⟩,[]),(⟨some 38,.call (.tmp 35) [(.tmp 37)],some (34,false)⟩,[]),(⟨some 39,.un .not (.tmp 38),some (34,false)⟩,[]),(⟨some 40,.pick (.tmp 34) (.val (.pv (.bool true))) (.tmp 39),none⟩,[]),(⟨some 41,.mov (.tmp 40),none⟩,[]),(⟨some 42,.fld 2 (.tmp 5),some (41,false)⟩,[]),(⟨some 43,.load 1 false (.tmp 42),some (41,false)⟩,[]),(⟨some 44,.bin .lss (.tmp 43) (.val (.pv (.int .i64 1))),some (41,false)⟩,[]),(⟨some 45,.pick (.tmp 41) (.val (.pv (.bool true))) (.tmp 44),none⟩,[]),(⟨some 46,.mov (.tmp 45),none⟩,[]),(⟨some 47,.fld 2 (.tmp 5),some (46,false)⟩,[]),(⟨some 48,.load 1 false (.tmp 47),some (46,false)⟩,[]),(⟨some 49,.bin .gtr (.tmp 48) (.val (.pv (.int .i64 1000))),some (46,false)⟩,[]),(⟨some 50,.pick (.tmp 46) (.val (.pv (.bool true))) (.tmp 49),none⟩,[]),(⟨some 51,.mov (.tmp 50),none⟩,[]),(⟨some 52,.mov (.tmp 4),some (51,false)⟩,[]),(⟨some 53,.bin .gtr (.tmp 52) (.val (.pv (.int .i64 0))),some (51,false)⟩,[]),(⟨some 54,.mov (.tmp 53),some (51,false)⟩,[]),(⟨some 55,.fld 2 (.tmp 1),some (54,true)⟩,[]),(⟨some 56,.load 1 false (.tmp 55),some (54,true)⟩,[]),(⟨some 57,.mov (.tmp 4),some (54,true)⟩,[]),(⟨some 58,.bin .sub (.tmp 57) (.val (.pv (.int .i64 1))),some (54,true)⟩,[]),(⟨some 59,.idx 4 (.tmp 56) (.tmp 58),some (54,true)⟩,[]),(⟨some 60,.load 4 true (.tmp 59),some (54,true)⟩,[]),(⟨some 61,.load 4 true (.tmp 5),some (54,true)⟩,[]),(⟨some 62,.call (.val (.func 47 [])) [(.tmp 60),(.tmp 61)],some (54,true)⟩,[]),(⟨some 63,.bin .geq (.tmp 62) (.val (.pv (.int .i64 0))),some (54,true)⟩,[]),(⟨some 64,.pick (.tmp 54) (.tmp 63) (.val (.pv (.bool false))),some (51,false)⟩,[]),(⟨some 65,.pick (.tmp 51) (.val (.pv (.bool true))) (.tmp 64),none⟩,[])] [1,3,22,23,24,65] [1])
(.cond (.tmp 65)
(.seq
(.region [⟨some 2,.mov (.val (.pv (.int .i64 1))),none⟩] [2] [])
.ret)
.skip))))
(.region [⟨some 66,.bin .add (.tmp 24) (.val (.pv (.int .i64 1))),none⟩,⟨some 24,.mov (.tmp 66),none⟩] [1,3,22,23,24] [1]))))))))
(.seq
(.region [⟨some 2,.mov (.val (.pv (.int .i64 0))),none⟩] [2] [])
.ret)))))),[.tmp 2],false,false,false⟩
def F39 : AFunc := ⟨4,(.seq
(.region [⟨some 4,.box 4 3 (.tmp 0),none⟩,⟨some 8,.mov (.val (.pv (.int .i64 0))),none⟩,⟨some 9,.mov (.val (.pv (.bool false))),none⟩] [1,2,3,4] [4])
(.seq
(.seq
(.region [⟨some 10,.mov (.val (.pv (.int .i64 0))),none⟩] [1,2,3,4,10] [4])
(.block 0
(.loop
(.mask [1,2,3,4,10] [4]
(.seq
(.seq
(.region [⟨some 12,.mov (.tmp 10),none⟩,⟨some 13,.fld 2 (.tmp 4),none⟩,⟨some 14,.load 1 false (.tmp 13),none⟩,⟨some 15,.len 0 (.tmp 14),none⟩,⟨some 16,.bin .lss (.tmp 12) (.tmp 15),none⟩] [1,2,3,4,10,16] [4])
(.cond (.tmp 16)
.skip
(.exit 0)))
(.seq
(.block 1
(.seq
(.region [⟨some 19,.fld 2 (.tmp 4),none⟩,⟨some 20,.load 1 false (.tmp 19),none⟩,⟨some 21,.mov (.tmp 10),none⟩,⟨some 22,.idx 4 (.tmp 20) (.tmp 21),none⟩,⟨some 23,.load 4 true (.tmp 22),none⟩,⟨some 11,.alloc 11 [.pv (.int .i64 0),.pv (.bool false),.pv (.int .i64 0),.pv (.int .i64 0)],none⟩,⟨none,.store 4 (.tmp 11) (.tmp 23),none⟩] [1,2,3,4,10,11] [4,11])
(.seq
(.region [⟨some 24,.fld 0 (.tmp 11),none⟩,⟨some 25,.load 1 false (.tmp 24),none⟩,⟨some 26,.mov (.tmp 1),none⟩,⟨some 27,.bin .eql (.tmp 25) (.tmp 26),none⟩,⟨some 28,.mov (.tmp 27),none⟩,⟨some 29,.fld 1 (.tmp 11),some (28,true)⟩,⟨some 30,.load 1 false (.tmp 29),some (28,true)⟩,⟨some 31,.mov (.tmp 2),some (28,true)⟩,⟨some 32,.eqa false [0] false (.tmp 30) (.tmp 31),some (28,true)⟩,⟨some 33,.pick (.tmp 28) (.tmp 32) (.val (.pv (.bool false))),none⟩,⟨some 34,.mov (.tmp 33),none⟩,⟨some 35,.fld 2 (.tmp 11),some (34,true)⟩,⟨some 36,.load 1 false (.tmp 35),some (34,true)⟩,⟨some 37,.mov (.tmp 3),some (34,true)⟩,⟨some 38,.bin .eql (.tmp 36) (.tmp 37),some (34,true)⟩,⟨some 39,.pick (.tmp 34) (.tmp 38) (.val (.pv (.bool false))),none⟩] [1,2,3,4,10,11,39] [4,11])
(.cond (.tmp 39)
(.seq
(.region [⟨some 40,.fld 3 (.tmp 11),none⟩,⟨some 41,.load 1 false (.tmp 40),none⟩,⟨some 8,.mov (.tmp 41),none⟩,⟨some 9,.mov (.val (.pv (.bool true))),none⟩] [8,9] [])
.ret)
.skip))))
(.region [⟨some 17,.mov (.tmp 10),none⟩,⟨some 18,.bin .add (.tmp 17) (.val (.pv (.int .i64 1))),none⟩,⟨some 10,.mov (.tmp 18),none⟩] [1,2,3,4,10] [4])))))))
(.seq
(.region [⟨some 8,.mov (.val (.pv (.int .i64 0))),none⟩,⟨some 9,.mov (.val (.pv (.bool false))),none⟩] [8,9] [])
.ret))),[.tmp 8,.tmp 9],false,false,false⟩
def F43 : AFunc := ⟨1,(.seq
(.region [⟨some 1,.box 1 3 (.tmp 0),none⟩,⟨some 2,.alloc 2 [.pv (.int .i64 0),.pv (.int .i64 0),.tl []],none⟩] [1,2] [1,2])
(.seq
(.region [⟨some 6,.fld 0 (.tmp 1),none⟩,⟨some 7,.load 1 false (.tmp 6),none⟩,⟨some 8,.fld 1 (.tmp 1),none⟩,⟨some 9,.load 1 false (.tmp 8),none⟩,⟨some 10,.build [.pv (.int .i64 0),.pv (.int .i64 0),.tl []] [(0,1,(.tmp 7)),(1,1,(.tmp 9))],none⟩,⟨some 3,.alloc 3 [.pv (.int .i64 0),.pv (.int .i64 0),.tl []],none⟩,⟨none,.store 3 (.tmp 3) (.tmp 10),none⟩] [1,2,3] [1,2,3])
(.seq
(.seq
(.region [⟨some 4,.mov (.val (.pv (.int .i64 0))),none⟩] [1,2,3,4] [1,2,3])
(.block 0
(.loop
(.mask [1,2,3,4] [1,2,3]
(.seq
(.seq
(.region [⟨some 11,.mov (.tmp 4),none⟩,⟨some 12,.fld 2 (.tmp 1),none⟩,⟨some 13,.load 1 false (.tmp 12),none⟩,⟨some 14,.len 0 (.tmp 13),none⟩,⟨some 15,.bin .lss (.tmp 11) (.tmp 14),none⟩] [1,2,3,4,15] [1,2,3])
(.cond (.tmp 15)
.skip
(.exit 0)))
(.seq
(.block 1
(.seq
(.draw [(⟨some 18,.fld 2 (.tmp 3),none⟩,[]),(⟨some 19,.load 1 false (.tmp 18),none⟩,[]),(⟨some 20,.fld 2 (.tmp 1),none⟩,[]),(⟨some 21,.load 1 false (.tmp 20),none⟩,[]),(⟨some 22,.mov (.tmp 4),none⟩,[]),(⟨some 23,.idx 4 (.tmp 21) (.tmp 22),none⟩,[]),(⟨some 24,.load 4 true (.tmp 23),none⟩,[]),(⟨some 25,.lit 4 [.pv (.int .i64 0),.pv (.bool false),.pv (.int .i64 0),.pv (.int .i64 0)] 1 [(0,4,(.tmp 24))],none⟩,[1]),(⟨some 26,.app 4 (.tmp 19) (.tmp 25),none⟩,[]),(⟨some 27,.fld 2 (.tmp 3),none⟩,[]),(⟨none,.store 1 (.tmp 27) (.tmp 26),none⟩,[])] [1,2,3,4] [1,2,3])
(.seq
(.region [⟨some 28,.fld 2 (.tmp 3),none⟩,⟨some 29,.load 1 false (.tmp 28),none⟩,⟨some 30,.len 0 (.tmp 29),none⟩,⟨some 31,.bin .sub (.tmp 30) (.val (.pv (.int .i64 1))),none⟩,⟨some 5,.mov (.tmp 31),none⟩] [1,2,3,4,5] [1,2,3])
(.block 2
(.loop
(.mask [1,2,3,4,5] [1,2,3]
(.seq
(.seq
(.draw [(⟨some 32,.mov (.tmp 5),none⟩,[]),(⟨some 33,.bin .gtr (.tmp 32) (.val (.pv (.int .i64 0))),none⟩,[]),(⟨some 34,.mov (.tmp 33),none⟩,[]),(⟨some 35,.fld 2 (.tmp 3),some (34,true)⟩,[]),(⟨some 36,.load 1 false (.tmp 35),some (34,true)⟩,[]),(⟨some 37,.mov (.tmp 5),some (34,true)⟩,[]),(⟨some 38,.idx 4 (.tmp 36) (.tmp 37),some (34,true)⟩,[]),(⟨some 39,.load 4 true (.tmp 38),some (34,true)⟩,[]),(⟨some 40,.fld 2 (.tmp 3),some (34,true)⟩,[]),(⟨some 41,.load 1 false (.tmp 40),some (34,true)⟩,[]),(⟨some 42,.mov (.tmp 5),some (34,true)⟩,[]),(⟨some 43,.bin .sub (.tmp 42) (.val (.pv (.int .i64 1))),some (34,true)⟩,[]),(⟨some 44,.idx 4 (.tmp 41) (.tmp 43),some (34,true)⟩,[]),(⟨some 45,.load 4 true (.tmp 44),some (34,true)⟩,[]),(⟨some 46,.call (.val (.func 44 [])) [(.tmp 39),(.tmp 45)],some (34,true)⟩,[]),(⟨some 47,.pick (.tmp 34) (.tmp 46) (.val (.pv (.bool false))),none⟩,[])] [1,2,3,4,5,47] [1,2,3])
(.cond (.tmp 47)
.skip
(.exit 2)))
(.seq
(.block 3
(.draw [(⟨some 50,.fld 2 (.tmp 3),none⟩,[]),(⟨some 51,.load 1 false (.tmp 50),none⟩,[]),(⟨some 52,.mov (.tmp 5),none⟩,[]),(⟨some 53,.fld 2 (.tmp 3),none⟩,[]),(⟨some 54,.load 1 false (.tmp 53),none⟩,[]),(⟨some 55,.mov (.tmp 5),none⟩,[]),(⟨some 56,.bin .sub (.tmp 55) (.val (.pv (.int .i64 1))),none⟩,[]),(⟨some 57,.fld 2 (.tmp 3),none⟩,[]),(⟨some 58,.load 1 false (.tmp 57),none⟩,[]),(⟨some 59,.mov (.tmp 5),none⟩,[]),(⟨some 60,.bin .sub (.tmp 59) (.val (.pv (.int .i64 1))),none⟩,[]),(⟨some 61,.idx 4 (.tmp 58) (.tmp 60),none⟩,[]),(⟨some 62,.load 4 true (.tmp 61),none⟩,[]),(⟨some 63,.fld 2 (.tmp 3),none⟩,[]),(⟨some 64,.load 1 false (.tmp 63),none⟩,[]),(⟨some 65,.mov (.tmp 5),none⟩,[]),(⟨some 66,.idx 4 (.tmp 64) (.tmp 65),none⟩,[]),(⟨some 67,.load 4 true (.tmp 66),none⟩,[]),(⟨some 68,.idx 4 (.tmp 51) (.tmp 52),none⟩,[]),(⟨none,.store 4 (.tmp 68) (.tmp 62),none⟩,[4]),(⟨some 69,.idx 4 (.tmp 54) (.tmp 56),none⟩,[]),(⟨none,.store 4 (.tmp 69) (.tmp 67),none⟩,[])] [1,2,3,4,5] [1,2,3]))
(.region [⟨some 48,.mov (.tmp 5),none⟩,⟨some 49,.bin .sub (.tmp 48) (.val (.pv (.int .i64 1))),none⟩,⟨some 5,.mov (.tmp 49),none⟩] [1,2,3,4,5] [1,2,3])))))))))
(.region [⟨some 16,.mov (.tmp 4),none⟩,⟨some 17,.bin .add (.tmp 16) (.val (.pv (.int .i64 1))),none⟩,⟨some 4,.mov (.tmp 17),none⟩] [1,2,3,4] [1,2,3])))))))
(.seq
(.region [⟨some 70,.load 3 true (.tmp 3),none⟩,⟨none,.store 3 (.tmp 2) (.tmp 70),none⟩] [2] [2])
.ret)))),[.cell 2 3 true],false,false,false⟩
def F44 : AFunc := ⟨2,(.seq
(.region [⟨some 2,.box 2 4 (.tmp 0),none⟩,⟨some 3,.box 3 4 (.tmp 1),none⟩,⟨some 4,.mov (.val (.pv (.bool false))),none⟩] [2,3] [2,3])
(.seq
(.seq
(.region [⟨some 5,.fld 0 (.tmp 2),none⟩,⟨some 6,.load 1 false (.tmp 5),none⟩,⟨some 7,.fld 0 (.tmp 3),none⟩,⟨some 8,.load 1 false (.tmp 7),none⟩,⟨some 9,.bin .neq (.tmp 6) (.tmp 8),none⟩] [2,3,9] [2,3])
(.cond (.tmp 9)
(.seq
(.region [⟨some 10,.fld 0 (.tmp 2),none⟩,⟨some 11,.load 1 false (.tmp 10),none⟩,⟨some 12,.fld 0 (.tmp 3),none⟩,⟨some 13,.load 1 false (.tmp 12),none⟩,⟨some 14,.bin .lss (.tmp 11) (.tmp 13),none⟩,⟨some 4,.mov (.tmp 14),none⟩] [4] [])
.ret)
.skip))
(.seq
(.seq
(.region [⟨some 15,.fld 1 (.tmp 2),none⟩,⟨some 16,.load 1 false (.tmp 15),none⟩,⟨some 17,.fld 1 (.tmp 3),none⟩,⟨some 18,.load 1 false (.tmp 17),none⟩,⟨some 19,.eqa false [0] true (.tmp 16) (.tmp 18),none⟩] [2,3,19] [2,3])
(.cond (.tmp 19)
(.seq
(.region [⟨some 20,.fld 1 (.tmp 3),none⟩,⟨some 21,.load 1 false (.tmp 20),none⟩,⟨some 4,.mov (.tmp 21),none⟩] [4] [])
.ret)
.skip))
(.seq
(.region [⟨some 22,.fld 2 (.tmp 2),none⟩,⟨some 23,.load 1 false (.tmp 22),none⟩,⟨some 24,.fld 2 (.tmp 3),none⟩,⟨some 25,.load 1 false (.tmp 24),none⟩,⟨some 26,.bin .lss (.tmp 23) (.tmp 25),none⟩,⟨some 4,.mov (.tmp 26),none⟩] [4] [])
.ret)))),[.tmp 4],false,false,false⟩
def F45 : AFunc := ⟨4,(.seq
(.region [⟨some 4,.box 4 3 (.tmp 0),none⟩,⟨some 8,.mov (.val (.pv (.int .i64 0))),none⟩,⟨some 9,.mov (.val (.pv (.bool false))),none⟩] [1,2,3,4] [4])
(.seq
(.seq
(.region [⟨some 12,.fld 2 (.tmp 4),none⟩,⟨some 13,.load 1 false (.tmp 12),none⟩,⟨some 14,.len 0 (.tmp 13),none⟩,⟨some 15,.mov (.val (.pv (.int .i64 0))),none⟩] [1,2,3,13,14,15] [])
(.block 0
(.loop
(.mask [1,2,3,13,14,15] []
(.seq
(.region [⟨some 16,.bin .lss (.tmp 15) (.tmp 14),none⟩] [1,2,3,13,14,15,16] [])
(.seq
(.cond (.tmp 16)
.skip
(.exit 0))
(.seq
(.block 1
(.seq
(.region [⟨some 17,.idx 4 (.tmp 13) (.tmp 15),none⟩,⟨some 18,.load 4 true (.tmp 17),none⟩,⟨some 11,.alloc 11 [.pv (.int .i64 0),.pv (.bool false),.pv (.int .i64 0),.pv (.int .i64 0)],none⟩,⟨none,.store 4 (.tmp 11) (.tmp 18),none⟩] [1,2,3,11,13,14,15] [11])
(.seq
(.region [⟨some 19,.fld 0 (.tmp 11),none⟩,⟨some 20,.load 1 false (.tmp 19),none⟩,⟨some 21,.mov (.tmp 1),none⟩,⟨some 22,.bin .eql (.tmp 20) (.tmp 21),none⟩,⟨some 23,.mov (.tmp 22),none⟩,⟨some 24,.fld 1 (.tmp 11),some (23,true)⟩,⟨some 25,.load 1 false (.tmp 24),some (23,true)⟩,⟨some 26,.mov (.tmp 2),some (23,true)⟩,⟨some 27,.eqa false [0] false (.tmp 25) (.tmp 26),some (23,true)⟩,⟨some 28,.pick (.tmp 23) (.tmp 27) (.val (.pv (.bool false))),none⟩,⟨some 29,.mov (.tmp 28),none⟩,⟨some 30,.fld 2 (.tmp 11),some (29,true)⟩,⟨some 31,.load 1 false (.tmp 30),some (29,true)⟩,⟨some 32,.mov (.tmp 3),some (29,true)⟩,⟨some 33,.bin .eql (.tmp 31) (.tmp 32),some (29,true)⟩,⟨some 34,.pick (.tmp 29) (.tmp 33) (.val (.pv (.bool false))),none⟩] [1,2,3,11,13,14,15,34] [11])
(.cond (.tmp 34)
(.seq
(.region [⟨some 35,.fld 3 (.tmp 11),none⟩,⟨some 36,.load 1 false (.tmp 35),none⟩,⟨some 8,.mov (.tmp 36),none⟩,⟨some 9,.mov (.val (.pv (.bool true))),none⟩] [8,9] [])
.ret)
.skip))))
(.region [⟨some 37,.bin .add (.tmp 15) (.val (.pv (.int .i64 1))),none⟩,⟨some 15,.mov (.tmp 37),none⟩] [1,2,3,13,14,15] []))))))))
(.seq
(.region [⟨some 8,.mov (.val (.pv (.int .i64 0))),none⟩,⟨some 9,.mov (.val (.pv (.bool false))),none⟩] [8,9] [])
.ret))),[.tmp 8,.tmp 9],false,false,false⟩
def F46 : AFunc := ⟨2,(.seq
(.region [⟨some 3,.mov (.val (.pv (.bool false))),none⟩] [0,1] [])
(.seq
(.region [⟨some 4,.mov (.tmp 0),none⟩,⟨some 5,.bin .geq (.tmp 4) (.val (.pv (.int .i64 0))),none⟩,⟨some 6,.mov (.tmp 5),none⟩,⟨some 7,.mov (.tmp 0),some (6,true)⟩,⟨some 8,.fld 0 (.tmp 1),some (6,true)⟩,⟨some 9,.load 1 false (.tmp 8),some (6,true)⟩,⟨some 10,.bin .lss (.tmp 7) (.tmp 9),some (6,true)⟩,⟨some 11,.pick (.tmp 6) (.tmp 10) (.val (.pv (.bool false))),none⟩,⟨some 3,.mov (.tmp 11),none⟩] [3] [])
.ret)),[.tmp 3],false,false,false⟩
def F47 : AFunc := ⟨2,(.seq
(.region [⟨some 2,.box 2 4 (.tmp 0),none⟩,⟨some 3,.box 3 4 (.tmp 1),none⟩,⟨some 4,.mov (.val (.pv (.int .i64 0))),none⟩] [2,3] [2,3])
(.seq
(.region [⟨some 5,.mov (.val (.func 58 [])),none⟩] [2,3,5] [2,3])
(.seq
(.draw [(⟨some 6,.fld 0 (.tmp 2),none⟩,[]),(⟨some 7,.load 1 false (.tmp 6),none⟩,[]),(⟨some 8,.fld 0 (.tmp 3),none⟩,[]),(⟨some 9,.load 1 false (.tmp 8),none⟩,[]),(⟨some 10,.call (.val (.func 60 [])) [(.tmp 7),(.tmp 9)],none⟩,[]),(⟨some 11,.mov (.tmp 5),none⟩,[]),(⟨some 12,.load 4 true (.tmp 2),none⟩,[4]),(⟨some 13,.call (.tmp 11) [(.tmp 12)],none⟩,[]),(⟨some 14,.mov (.tmp 5),none⟩,[]),(⟨some 15,.load 4 true (.tmp 3),none⟩,[4,7]),(⟨some 16,.call (.tmp 14) [(.tmp 15)],none⟩,[]),(⟨some 17,.call (.val (.func 60 [])) [(.tmp 13),(.tmp 16)],none⟩,[]),(⟨some 18,.fld 2 (.tmp 2),none⟩,[]),(⟨some 19,.load 1 false (.tmp 18),none⟩,[4,7,10,11]),(⟨some 20,.fld 2 (.tmp 3),none⟩,[]),(⟨some 21,.load 1 false (.tmp 20),none⟩,[4,7,10,11]),(⟨some 22,.call (.val (.func 60 [])) [(.tmp 19),(.tmp 21)],none⟩,[]),(⟨some 23,.lit 1 [.pv (.int .i64 0)] 3 [(0,1,(.tmp 10)),(1,1,(.tmp 17)),(2,1,(.tmp 22))],none⟩,[]),(⟨some 24,.call (.val (.func 59 [])) [(.tmp 23)],none⟩,[]),(⟨some 4,.mov (.tmp 24),none⟩,[])] [4] [])
.ret))),[.tmp 4],false,false,false⟩
def F58 : AFunc := ⟨1,(.seq
(.region [⟨some 1,.box 1 4 (.tmp 0),none⟩,⟨some 2,.mov (.val (.pv (.int .i64 0))),none⟩] [1] [1])
(.seq
(.seq
(.region [⟨some 3,.fld 1 (.tmp 1),none⟩,⟨some 4,.load 1 false (.tmp 3),none⟩] [4] [])
(.cond (.tmp 4)
(.seq
(.region [⟨some 2,.mov (.val (.pv (.int .i64 1))),none⟩] [2] [])
.ret)
.skip))
(.seq
(.region [⟨some 2,.mov (.val (.pv (.int .i64 0))),none⟩] [2] [])
.ret))),[.tmp 2],false,false,false⟩
def F59 : AFunc := ⟨1,(.seq
(.region [⟨some 2,.mov (.val (.pv (.int .i64 0))),none⟩] [0] [])
(.seq
(.region [⟨some 3,.mov (.val (.pv (.int .i64 0))),none⟩] [0,3] [])
(.seq
(.seq
(.region [⟨some 6,.mov (.tmp 0),none⟩,⟨some 7,.len 0 (.tmp 6),none⟩,⟨some 8,.mov (.val (.pv (.int .i64 0))),none⟩] [3,6,7,8] [])
(.block 0
(.loop
(.mask [3,6,7,8] []
(.seq
(.region [⟨some 9,.bin .lss (.tmp 8) (.tmp 7),none⟩] [3,6,7,8,9] [])
(.seq
(.cond (.tmp 9)
.skip
(.exit 0))
(.seq
(.block 1
(.seq
(.region [⟨some 10,.idx 1 (.tmp 6) (.tmp 8),none⟩,⟨some 11,.load 1 false (.tmp 10),none⟩,⟨some 5,.mov (.tmp 11),none⟩] [3,5,6,7,8] [])
(.seq
(.region [⟨some 12,.mov (.tmp 5),none⟩,⟨some 13,.mov (.tmp 3),none⟩,⟨some 14,.bin .neq (.tmp 12) (.tmp 13),none⟩] [3,5,6,7,8,14] [])
(.cond (.tmp 14)
(.seq
(.region [⟨some 15,.mov (.tmp 5),none⟩,⟨some 2,.mov (.tmp 15),none⟩] [2] [])
.ret)
.skip))))
(.region [⟨some 16,.bin .add (.tmp 8) (.val (.pv (.int .i64 1))),none⟩,⟨some 8,.mov (.tmp 16),none⟩] [3,6,7,8] []))))))))
(.seq
(.region [⟨some 17,.mov (.tmp 3),none⟩,⟨some 2,.mov (.tmp 17),none⟩] [2] [])
.ret)))),[.tmp 2],false,false,false⟩
def F60 : AFunc := ⟨2,(.seq
(.region [⟨some 4,.mov (.val (.pv (.int .i64 0))),none⟩] [0,1] [])
(.seq
(.region [⟨some 7,.mov (.tmp 0),none⟩,⟨some 8,.call (.val (.func 66 [])) [(.tmp 7)],none⟩,⟨some 5,.mov (.tmp 8),none⟩] [0,1,5] [])
(.seq
(.region [⟨some 9,.mov (.tmp 1),none⟩,⟨some 10,.call (.val (.func 66 [])) [(.tmp 9)],none⟩,⟨some 6,.mov (.tmp 10),none⟩] [0,1,5,6] [])
(.seq
(.seq
(.region [⟨some 11,.mov (.tmp 5),none⟩] [0,1,6,11] [])
(.cond (.tmp 11)
(.seq
(.seq
(.region [⟨some 12,.mov (.tmp 6),none⟩] [12] [])
(.cond (.tmp 12)
(.seq
(.region [⟨some 4,.mov (.val (.pv (.int .i64 0))),none⟩] [4] [])
.ret)
.skip))
(.seq
(.region [⟨some 4,.mov (.val (.pv (.int .i64 (-1)))),none⟩] [4] [])
.ret))
.skip))
(.seq
(.seq
(.region [⟨some 13,.mov (.tmp 6),none⟩] [0,1,13] [])
(.cond (.tmp 13)
(.seq
(.region [⟨some 4,.mov (.val (.pv (.int .i64 1))),none⟩] [4] [])
.ret)
.skip))
(.seq
(.seq
(.region [⟨some 14,.mov (.tmp 0),none⟩,⟨some 15,.mov (.tmp 1),none⟩,⟨some 16,.bin .lss (.tmp 14) (.tmp 15),none⟩] [0,1,16] [])
(.cond (.tmp 16)
(.seq
(.region [⟨some 4,.mov (.val (.pv (.int .i64 (-1)))),none⟩] [4] [])
.ret)
.skip))
(.seq
(.seq
(.region [⟨some 17,.mov (.tmp 0),none⟩,⟨some 18,.mov (.tmp 1),none⟩,⟨some 19,.bin .gtr (.tmp 17) (.tmp 18),none⟩] [19] [])
(.cond (.tmp 19)
(.seq
(.region [⟨some 4,.mov (.val (.pv (.int .i64 1))),none⟩] [4] [])
.ret)
.skip))
(.seq
(.region [⟨some 4,.mov (.val (.pv (.int .i64 0))),none⟩] [4] [])
.ret)))))))),[.tmp 4],false,false,false⟩
def F66 : AFunc := ⟨1,(.seq
(.region [⟨some 2,.mov (.val (.pv (.bool false))),none⟩] [0] [])
(.seq
(.region [⟨some 3,.mov (.tmp 0),none⟩,⟨some 4,.mov (.tmp 0),none⟩,⟨some 5,.bin .neq (.tmp 3) (.tmp 4),none⟩,⟨some 2,.mov (.tmp 5),none⟩] [2] [])
.ret)),[.tmp 2],false,false,false⟩
def F76 : AFunc := ⟨1,(.seq
(.region [⟨some 2,.mov (.val (.pv (.int .i64 0))),none⟩] [0,2] [])
(.seq
(.seq
(.region [⟨some 3,.mov (.tmp 0),none⟩,⟨some 4,.bin .geq (.tmp 3) (.val (.pv (.int .u64 4294967296))),none⟩] [0,2,4] [])
(.cond (.tmp 4)
(.seq
(.region [⟨some 5,.mov (.tmp 0),none⟩,⟨some 6,.bin .shr (.tmp 5) (.val (.pv (.int .u64 32))),none⟩,⟨some 0,.mov (.tmp 6),none⟩] [0] [])
(.region [⟨some 2,.mov (.val (.pv (.int .i64 32))),none⟩] [0,2] []))
.skip))
(.seq
(.seq
(.region [⟨some 7,.mov (.tmp 0),none⟩,⟨some 8,.bin .geq (.tmp 7) (.val (.pv (.int .u64 65536))),none⟩] [0,2,8] [])
(.cond (.tmp 8)
(.seq
(.region [⟨some 9,.mov (.tmp 0),none⟩,⟨some 10,.bin .shr (.tmp 9) (.val (.pv (.int .u64 16))),none⟩,⟨some 0,.mov (.tmp 10),none⟩] [0,2] [])
(.region [⟨some 11,.mov (.tmp 2),none⟩,⟨some 12,.bin .add (.tmp 11) (.val (.pv (.int .i64 16))),none⟩,⟨some 2,.mov (.tmp 12),none⟩] [0,2] []))
.skip))
(.seq
(.seq
(.region [⟨some 13,.mov (.tmp 0),none⟩,⟨some 14,.bin .geq (.tmp 13) (.val (.pv (.int .u64 256))),none⟩] [0,2,14] [])
(.cond (.tmp 14)
(.seq
(.region [⟨some 15,.mov (.tmp 0),none⟩,⟨some 16,.bin .shr (.tmp 15) (.val (.pv (.int .u64 8))),none⟩,⟨some 0,.mov (.tmp 16),none⟩] [0,2] [])
(.region [⟨some 17,.mov (.tmp 2),none⟩,⟨some 18,.bin .add (.tmp 17) (.val (.pv (.int .i64 8))),none⟩,⟨some 2,.mov (.tmp 18),none⟩] [0,2] []))
.skip))
(.seq
(.region [⟨some 19,.mov (.tmp 2),none⟩,⟨some 20,.mov (.tmp 0),none⟩,⟨some 21,.conv .u8 (.tmp 20),none⟩,⟨some 22,.ixs (.val (.pv (.str ⟨#[0,1,2,2,3,3,3,3,4,4,4,4,4,4,4,4,5,5,5,5,5,5,5,5,5,5,5,5,5,5,5,5,6,6,6,6,6,6,6,6,6,6,6,6,6,6,6,6,6,6,6,6,6,6,6,6,6,6,6,6,6,6,6,6,7,7,7,7,7,7,7,7,7,7,7,7,7,7,7,7,7,7,7,7,7,7,7,7,7,7,7,7,7,7,7,7,7,7,7,7,7,7,7,7,7,7,7,7,7,7,7,7,7,7,7,7,7,7,7,7,7,7,7,7,7,7,7,7,8,8,8,8,8,8,8,8,8,8,8,8,8,8,8,8,8,8,8,8,8,8,8,8,8,8,8,8,8,8,8,8,8,8,8,8,8,8,8,8,8,8,8,8,8,8,8,8,8,8,8,8,8,8,8,8,8,8,8,8,8,8,8,8,8,8,8,8,8,8,8,8,8,8,8,8,8,8,8,8,8,8,8,8,8,8,8,8,8,8,8,8,8,8,8,8,8,8,8,8,8,8,8,8,8,8,8,8,8,8,8,8,8,8,8,8,8,8,8,8,8,8,8,8,8,8,8,8]⟩))) (.tmp 21),none⟩,⟨some 23,.conv .i64 (.tmp 22),none⟩,⟨some 24,.bin .add (.tmp 19) (.tmp 23),none⟩,⟨some 2,.mov (.tmp 24),none⟩] [2] [])
.ret))))),[.tmp 2],false,false,false⟩
def F77 : AFunc := ⟨2,(.seq
(.region [⟨some 4,.mov (.val (.pv (.int .i64 0))),none⟩] [0,1] [])
(.seq
(.seq
(.region [⟨some 6,.mov (.tmp 0),none⟩,⟨some 7,.len 0 (.tmp 6),none⟩,⟨some 8,.mov (.val (.pv (.int .i64 0))),none⟩] [0,1,7,8] [])
(.block 0
(.loop
(.mask [0,1,7,8] []
(.seq
(.region [⟨some 9,.bin .lss (.tmp 8) (.tmp 7),none⟩] [0,1,7,8,9] [])
(.seq
(.cond (.tmp 9)
.skip
(.exit 0))
(.seq
(.block 1
(.seq
(.region [⟨some 10,.mov (.tmp 8),none⟩,⟨some 5,.mov (.tmp 10),none⟩] [0,1,5,7,8] [])
(.seq
(.region [⟨some 11,.mov (.tmp 1),none⟩,⟨some 12,.mov (.tmp 0),none⟩,⟨some 13,.mov (.tmp 5),none⟩,⟨some 14,.idx 4 (.tmp 12) (.tmp 13),none⟩,⟨some 15,.load 4 true (.tmp 14),none⟩,⟨some 16,.call (.tmp 11) [(.tmp 15)],none⟩] [0,1,5,7,8,16] [])
(.cond (.tmp 16)
(.seq
(.region [⟨some 17,.mov (.tmp 5),none⟩,⟨some 4,.mov (.tmp 17),none⟩] [4] [])
.ret)
.skip))))
(.region [⟨some 18,.bin .add (.tmp 8) (.val (.pv (.int .i64 1))),none⟩,⟨some 8,.mov (.tmp 18),none⟩] [0,1,7,8] []))))))))
(.seq
(.region [⟨some 4,.mov (.val (.pv (.int .i64 (-1)))),none⟩] [4] [])
.ret))),[.tmp 4],false,false,false⟩
def F95 : AFunc := ⟨1,(.seq
(.region [⟨some 1,.box 1 3 (.tmp 0),none⟩,⟨some 2,.mov (.val (.tl [])),none⟩] [1] [1])
(.seq
(.seq
(.region [⟨some 9,.fld 0 (.tmp 1),none⟩,⟨some 10,.load 1 false (.tmp 9),none⟩,⟨some 11,.bin .lss (.tmp 10) (.val (.pv (.int .i64 1))),none⟩,⟨some 12,.mov (.tmp 11),none⟩,⟨some 13,.fld 0 (.tmp 1),some (12,false)⟩,⟨some 14,.load 1 false (.tmp 13),some (12,false)⟩,⟨some 15,.bin .gtr (.tmp 14) (.val (.pv (.int .i64 12))),some (12,false)⟩,⟨some 16,.pick (.tmp 12) (.val (.pv (.bool true))) (.tmp 15),none⟩] [1,16] [1])
(.cond (.tmp 16)
(.seq
(.region [⟨some 2,.mov (.val (.tl [])),none⟩] [2] [])
.ret)
.skip))
(.seq
(.region [⟨some 17,.fld 0 (.tmp 1),none⟩,⟨some 18,.load 1 false (.tmp 17),none⟩,⟨some 19,.make 1 [.pv (.bool false)] (.tmp 18) (.tmp 18),none⟩,⟨some 3,.mov (.tmp 19),none⟩] [1,3] [1])
(.seq
(.seq
(.region [⟨some 20,.fld 2 (.tmp 1),none⟩,⟨some 21,.load 1 false (.tmp 20),none⟩,⟨some 22,.len 0 (.tmp 21),none⟩,⟨some 23,.mov (.val (.pv (.int .i64 0))),none⟩] [1,3,21,22,23] [1])
(.block 0
(.loop
(.mask [1,3,21,22,23] [1]
(.seq
(.region [⟨some 24,.bin .lss (.tmp 23) (.tmp 22),none⟩] [1,3,21,22,23,24] [1])
(.seq
(.cond (.tmp 24)
.skip
(.exit 0))
(.seq
(.block 1
(.seq
(.region [⟨some 25,.idx 4 (.tmp 21) (.tmp 23),none⟩,⟨some 26,.load 4 true (.tmp 25),none⟩,⟨some 5,.alloc 5 [.pv (.int .i64 0),.pv (.bool false),.pv (.int .i64 0),.pv (.int .i64 0)],none⟩,⟨none,.store 4 (.tmp 5) (.tmp 26),none⟩] [1,3,5,21,22,23] [1,5])
(.seq
(.region [⟨some 27,.fld 0 (.tmp 5),none⟩,⟨some 28,.load 1 false (.tmp 27),none⟩,⟨some 29,.bin .geq (.tmp 28) (.val (.pv (.int .i64 0))),none⟩,⟨some 30,.mov (.tmp 29),none⟩,⟨some 31,.fld 0 (.tmp 5),some (30,true)⟩,⟨some 32,.load 1 false (.tmp 31),some (30,true)⟩,⟨some 33,.fld 0 (.tmp 1),some (30,true)⟩,⟨some 34,.load 1 false (.tmp 33),some (30,true)⟩,⟨some 35,.bin .lss (.tmp 32) (.tmp 34),some (30,true)⟩,⟨some 36,.pick (.tmp 30) (.tmp 35) (.val (.pv (.bool false))),none⟩] [1,3,5,21,22,23,36] [1,5])
(.cond (.tmp 36)
(.region [⟨some 37,.mov (.tmp 3),none⟩,⟨some 38,.fld 0 (.tmp 5),none⟩,⟨some 39,.load 1 false (.tmp 38),none⟩,⟨some 40,.idx 1 (.tmp 37) (.tmp 39),none⟩,⟨none,.store 1 (.tmp 40) (.val (.pv (.bool true))),none⟩] [1,3,21,22,23] [1])
.skip))))
(.region [⟨some 41,.bin .add (.tmp 23) (.val (.pv (.int .i64 1))),none⟩,⟨some 23,.mov (.tmp 41),none⟩] [1,3,21,22,23] [1]))))))))
(.seq
(.region [⟨some 6,.mov (.val (.tl [])),none⟩] [3,6] [])
(.seq
(.seq
(.region [⟨some 42,.mov (.tmp 3),none⟩,⟨some 43,.len 0 (.tmp 42),none⟩,⟨some 44,.mov (.val (.pv (.int .i64 0))),none⟩] [6,42,43,44] [])
(.block 2
(.loop
(.mask [6,42,43,44] []
(.seq
(.region [⟨some 45,.bin .lss (.tmp 44) (.tmp 43),none⟩] [6,42,43,44,45] [])
(.seq
(.cond (.tmp 45)
.skip
(.exit 2))
(.seq
(.block 3
(.seq
(.region [⟨some 46,.mov (.tmp 44),none⟩,⟨some 47,.idx 1 (.tmp 42) (.tmp 44),none⟩,⟨some 48,.load 1 false (.tmp 47),none⟩,⟨some 7,.mov (.tmp 46),none⟩,⟨some 8,.mov (.tmp 48),none⟩] [6,7,8,42,43,44] [])
(.seq
(.region [⟨some 49,.mov (.tmp 8),none⟩,⟨some 50,.un .not (.tmp 49),none⟩] [6,7,42,43,44,50] [])
(.cond (.tmp 50)
(.region [⟨some 51,.mov (.tmp 6),none⟩,⟨some 52,.mov (.tmp 7),none⟩,⟨some 53,.lit 1 [.pv (.int .i64 0)] 1 [(0,1,(.tmp 52))],none⟩,⟨some 54,.app 1 (.tmp 51) (.tmp 53),none⟩,⟨some 6,.mov (.tmp 54),none⟩] [6,42,43,44] [])
.skip))))
(.region [⟨some 55,.bin .add (.tmp 44) (.val (.pv (.int .i64 1))),none⟩,⟨some 44,.mov (.tmp 55),none⟩] [6,42,43,44] []))))))))
(.seq
(.region [⟨some 56,.mov (.tmp 6),none⟩,⟨some 2,.mov (.tmp 56),none⟩] [2] [])
.ret))))))),[.tmp 2],false,false,false⟩
def F108 : AFunc := ⟨2,(.seq
(.region [⟨some 4,.mov (.val (.pv (.bool false))),none⟩] [0,1] [])
(.seq
(.region [⟨some 5,.mov (.tmp 0),none⟩,⟨some 6,.mov (.tmp 1),none⟩,⟨some 7,.call (.val (.func 117 [])) [(.tmp 5),(.tmp 6)],none⟩,⟨some 8,.bin .geq (.tmp 7) (.val (.pv (.int .i64 0))),none⟩,⟨some 4,.mov (.tmp 8),none⟩] [4] [])
.ret)),[.tmp 4],false,false,false⟩
def F110 : AFunc := ⟨2,(.seq
(.region [⟨some 4,.mov (.val (.pv (.bool false))),none⟩] [0,1] [])
(.seq
(.region [⟨some 5,.mov (.tmp 0),none⟩,⟨some 6,.mov (.tmp 1),none⟩,⟨some 7,.call (.val (.func 118 [])) [(.tmp 5),(.tmp 6)],none⟩,⟨some 8,.bin .geq (.tmp 7) (.val (.pv (.int .i64 0))),none⟩,⟨some 4,.mov (.tmp 8),none⟩] [4] [])
.ret)),[.tmp 4],false,false,false⟩
def F117 : AFunc := ⟨2,(.seq
(.region [⟨some 4,.mov (.val (.pv (.int .i64 0))),none⟩] [0,1] [])
(.seq
(.seq
(.region [⟨some 6,.mov (.tmp 0),none⟩,⟨some 7,.len 0 (.tmp 6),none⟩,⟨some 8,.mov (.val (.pv (.int .i64 0))),none⟩] [0,1,7,8] [])
(.block 0
(.loop
(.mask [0,1,7,8] []
(.seq
(.region [⟨some 9,.bin .lss (.tmp 8) (.tmp 7),none⟩] [0,1,7,8,9] [])
(.seq
(.cond (.tmp 9)
.skip
(.exit 0))
(.seq
(.block 1
(.seq
(.region [⟨some 10,.mov (.tmp 8),none⟩,⟨some 5,.mov (.tmp 10),none⟩] [0,1,5,7,8] [])
(.seq
(.region [⟨some 11,.mov (.tmp 1),none⟩,⟨some 12,.mov (.tmp 0),none⟩,⟨some 13,.mov (.tmp 5),none⟩,⟨some 14,.idx 1 (.tmp 12) (.tmp 13),none⟩,⟨some 15,.load 1 false (.tmp 14),none⟩,⟨some 16,.call (.tmp 11) [(.tmp 15)],none⟩] [0,1,5,7,8,16] [])
(.cond (.tmp 16)
(.seq
(.region [⟨some 17,.mov (.tmp 5),none⟩,⟨some 4,.mov (.tmp 17),none⟩] [4] [])
.ret)
.skip))))
(.region [⟨some 18,.bin .add (.tmp 8) (.val (.pv (.int .i64 1))),none⟩,⟨some 8,.mov (.tmp 18),none⟩] [0,1,7,8] []))))))))
(.seq
(.region [⟨some 4,.mov (.val (.pv (.int .i64 (-1)))),none⟩] [4] [])
.ret))),[.tmp 4],false,false,false⟩
def F118 : AFunc := ⟨2,(.seq
(.region [⟨some 4,.mov (.val (.pv (.int .i64 0))),none⟩] [0,1] [])
(.seq
(.seq
(.region [⟨some 6,.mov (.tmp 0),none⟩,⟨some 7,.len 0 (.tmp 6),none⟩,⟨some 8,.mov (.val (.pv (.int .i64 0))),none⟩] [0,1,7,8] [])
(.block 0
(.loop
(.mask [0,1,7,8] []
(.seq
(.region [⟨some 9,.bin .lss (.tmp 8) (.tmp 7),none⟩] [0,1,7,8,9] [])
(.seq
(.cond (.tmp 9)
.skip
(.exit 0))
(.seq
(.block 1
(.seq
(.region [⟨some 10,.mov (.tmp 8),none⟩,⟨some 5,.mov (.tmp 10),none⟩] [0,1,5,7,8] [])
(.seq
(.region [⟨some 11,.mov (.tmp 1),none⟩,⟨some 12,.mov (.tmp 0),none⟩,⟨some 13,.mov (.tmp 5),none⟩,⟨some 14,.idx 1 (.tmp 12) (.tmp 13),none⟩,⟨some 15,.load 1 false (.tmp 14),none⟩,⟨some 16,.bin .eql (.tmp 11) (.tmp 15),none⟩] [0,1,5,7,8,16] [])
(.cond (.tmp 16)
(.seq
(.region [⟨some 17,.mov (.tmp 5),none⟩,⟨some 4,.mov (.tmp 17),none⟩] [4] [])
.ret)
.skip))))
(.region [⟨some 18,.bin .add (.tmp 8) (.val (.pv (.int .i64 1))),none⟩,⟨some 8,.mov (.tmp 18),none⟩] [0,1,7,8] []))))))))
(.seq
(.region [⟨some 4,.mov (.val (.pv (.int .i64 (-1)))),none⟩] [4] [])
.ret))),[.tmp 4],false,false,false⟩
def F152 : AFunc := ⟨1,(.seq
(.region [⟨some 1,.box 1 7 (.tmp 0),none⟩,⟨some 2,.mov (.val (.pv (.int .i64 0))),none⟩] [1] [1])
(.seq
(.seq
(.region [⟨some 5,.fld 0 (.tmp 1),none⟩,⟨some 6,.load 3 true (.tmp 5),none⟩,⟨some 7,.call (.val (.func 29 [])) [(.tmp 6)],none⟩,⟨some 3,.mov (.tmp 7),none⟩] [1,3] [1])
(.seq
(.region [⟨some 8,.mov (.tmp 3),none⟩,⟨some 9,.bin .neq (.tmp 8) (.val (.pv (.int .i64 0))),none⟩] [1,3,9] [1])
(.cond (.tmp 9)
(.seq
(.region [⟨some 10,.mov (.tmp 3),none⟩,⟨some 2,.mov (.tmp 10),none⟩] [2] [])
.ret)
.skip)))
(.seq
(.seq
(.region [⟨some 11,.fld 3 (.tmp 1),none⟩,⟨some 12,.load 3 true (.tmp 11),none⟩,⟨some 13,.call (.val (.func 29 [])) [(.tmp 12)],none⟩,⟨some 4,.mov (.tmp 13),none⟩] [1,4] [1])
(.seq
(.region [⟨some 14,.mov (.tmp 4),none⟩,⟨some 15,.bin .neq (.tmp 14) (.val (.pv (.int .i64 0))),none⟩] [1,4,15] [1])
(.cond (.tmp 15)
(.seq
(.region [⟨some 16,.mov (.tmp 4),none⟩,⟨some 2,.mov (.tmp 16),none⟩] [2] [])
.ret)
.skip)))
(.seq
(.seq
(.region [⟨some 17,.fld 6 (.tmp 1),none⟩,⟨some 18,.load 1 false (.tmp 17),none⟩,⟨some 19,.bin .lss (.tmp 18) (.val (.pv (.int .i64 1))),none⟩,⟨some 20,.mov (.tmp 19),none⟩,⟨some 21,.fld 6 (.tmp 1),some (20,false)⟩,⟨some 22,.load 1 false (.tmp 21),some (20,false)⟩,⟨some 23,.bin .gtr (.tmp 22) (.val (.pv (.int .i64 3))),some (20,false)⟩,⟨some 24,.pick (.tmp 20) (.val (.pv (.bool true))) (.tmp 23),none⟩] [24] [])
(.cond (.tmp 24)
(.seq
(.region [⟨some 2,.mov (.val (.pv (.int .i64 7))),none⟩] [2] [])
.ret)
.skip))
(.seq
(.region [⟨some 2,.mov (.val (.pv (.int .i64 0))),none⟩] [2] [])
.ret))))),[.tmp 2],false,false,false⟩
def F153 : AFunc := ⟨1,(.seq
(.region [⟨some 1,.box 1 7 (.tmp 0),none⟩,⟨some 2,.mov (.val (.pv (.int .i64 0))),none⟩] [1] [1])
(.seq
(.seq
(.region [⟨some 5,.fld 0 (.tmp 1),none⟩,⟨some 6,.load 3 true (.tmp 5),none⟩,⟨some 7,.call (.val (.func 26 [])) [(.tmp 6)],none⟩,⟨some 3,.mov (.tmp 7),none⟩] [1,3] [1])
(.seq
(.region [⟨some 8,.mov (.tmp 3),none⟩,⟨some 9,.bin .neq (.tmp 8) (.val (.pv (.int .i64 0))),none⟩] [1,3,9] [1])
(.cond (.tmp 9)
(.seq
(.region [⟨some 10,.mov (.tmp 3),none⟩,⟨some 2,.mov (.tmp 10),none⟩] [2] [])
.ret)
.skip)))
(.seq
(.seq
(.region [⟨some 11,.fld 3 (.tmp 1),none⟩,⟨some 12,.load 3 true (.tmp 11),none⟩,⟨some 13,.call (.val (.func 26 [])) [(.tmp 12)],none⟩,⟨some 4,.mov (.tmp 13),none⟩] [1,4] [1])
(.seq
(.region [⟨some 14,.mov (.tmp 4),none⟩,⟨some 15,.bin .neq (.tmp 14) (.val (.pv (.int .i64 0))),none⟩] [1,4,15] [1])
(.cond (.tmp 15)
(.seq
(.region [⟨some 16,.mov (.tmp 4),none⟩,⟨some 2,.mov (.tmp 16),none⟩] [2] [])
.ret)
.skip)))
(.seq
(.seq
(.region [⟨some 17,.fld 6 (.tmp 1),none⟩,⟨some 18,.load 1 false (.tmp 17),none⟩,⟨some 19,.bin .lss (.tmp 18) (.val (.pv (.int .i64 1))),none⟩,⟨some 20,.mov (.tmp 19),none⟩,⟨some 21,.fld 6 (.tmp 1),some (20,false)⟩,⟨some 22,.load 1 false (.tmp 21),some (20,false)⟩,⟨some 23,.bin .gtr (.tmp 22) (.val (.pv (.int .i64 3))),some (20,false)⟩,⟨some 24,.pick (.tmp 20) (.val (.pv (.bool true))) (.tmp 23),none⟩] [24] [])
(.cond (.tmp 24)
(.seq
(.region [⟨some 2,.mov (.val (.pv (.int .i64 7))),none⟩] [2] [])
.ret)
.skip))
(.seq
(.region [⟨some 2,.mov (.val (.pv (.int .i64 0))),none⟩] [2] [])
.ret))))),[.tmp 2],false,false,false⟩
def F154 : AFunc := ⟨2,(.seq
(.region [⟨some 2,.box 2 4 (.tmp 0),none⟩,⟨some 3,.box 3 4 (.tmp 1),none⟩,⟨some 4,.mov (.val (.pv (.bool false))),none⟩] [2,3] [2,3])
(.seq
(.region [⟨some 5,.fld 0 (.tmp 2),none⟩,⟨some 6,.load 1 false (.tmp 5),none⟩,⟨some 7,.fld 0 (.tmp 3),none⟩,⟨some 8,.load 1 false (.tmp 7),none⟩,⟨some 9,.bin .eql (.tmp 6) (.tmp 8),none⟩,⟨some 10,.mov (.tmp 9),none⟩,⟨some 11,.fld 1 (.tmp 2),some (10,true)⟩,⟨some 12,.load 1 false (.tmp 11),some (10,true)⟩,⟨some 13,.fld 1 (.tmp 3),some (10,true)⟩,⟨some 14,.load 1 false (.tmp 13),some (10,true)⟩,⟨some 15,.bin .eql (.tmp 12) (.tmp 14),some (10,true)⟩,⟨some 16,.pick (.tmp 10) (.tmp 15) (.val (.pv (.bool false))),none⟩,⟨some 17,.mov (.tmp 16),none⟩,⟨some 18,.fld 2 (.tmp 2),some (17,true)⟩,⟨some 19,.load 1 false (.tmp 18),some (17,true)⟩,⟨some 20,.fld 2 (.tmp 3),some (17,true)⟩,⟨some 21,.load 1 false (.tmp 20),some (17,true)⟩,⟨some 22,.call (.val (.func 176 [])) [(.tmp 19),(.tmp 21)],some (17,true)⟩,⟨some 23,.pick (.tmp 17) (.tmp 22) (.val (.pv (.bool false))),none⟩,⟨some 24,.mov (.tmp 23),none⟩,⟨some 25,.fld 3 (.tmp 2),some (24,true)⟩,⟨some 26,.load 1 false (.tmp 25),some (24,true)⟩,⟨some 27,.fld 3 (.tmp 3),some (24,true)⟩,⟨some 28,.load 1 false (.tmp 27),some (24,true)⟩,⟨some 29,.call (.val (.func 176 [])) [(.tmp 26),(.tmp 28)],some (24,true)⟩,⟨some 30,.pick (.tmp 24) (.tmp 29) (.val (.pv (.bool false))),none⟩,⟨some 4,.mov (.tmp 30),none⟩] [4] [])
.ret)),[.tmp 4],false,false,false⟩
def F155 : AFunc := ⟨1,(.seq
(.region [⟨some 1,.box 1 7 (.tmp 0),none⟩,⟨some 2,.alloc 2 [.pv (.int .i64 0),.pv (.int .i64 0),.tl [],.tl []],none⟩] [1,2] [1,2])
(.seq
(.region [⟨some 3,.fld 0 (.tmp 1),none⟩,⟨some 4,.fld 1 (.tmp 3),none⟩,⟨some 5,.load 1 false (.tmp 4),none⟩,⟨some 6,.fld 3 (.tmp 1),none⟩,⟨some 7,.fld 1 (.tmp 6),none⟩,⟨some 8,.load 1 false (.tmp 7),none⟩,⟨some 9,.build [.pv (.int .i64 0),.pv (.int .i64 0),.tl [],.tl []] [(0,1,(.tmp 5)),(1,1,(.tmp 8))],none⟩,⟨none,.store 4 (.tmp 2) (.tmp 9),none⟩] [2] [2])
.ret)),[.cell 2 4 true],false,false,false⟩
def F157 : AFunc := ⟨2,(.seq
(.region [⟨some 2,.box 2 7 (.tmp 0),none⟩,⟨some 3,.box 3 4 (.tmp 1),none⟩,⟨some 4,.mov (.val (.pv (.bool false))),none⟩] [2,3] [2,3])
(.seq
(.region [⟨some 6,.fld 0 (.tmp 3),none⟩,⟨some 7,.load 1 false (.tmp 6),none⟩,⟨some 8,.fld 1 (.tmp 3),none⟩,⟨some 9,.load 1 false (.tmp 8),none⟩,⟨some 10,.minmax false [(.tmp 7),(.tmp 9)],none⟩,⟨some 11,.bin .geq (.tmp 10) (.val (.pv (.int .i64 0))),none⟩,⟨some 12,.mov (.tmp 11),none⟩,⟨some 13,.fld 0 (.tmp 3),some (12,true)⟩,⟨some 14,.load 1 false (.tmp 13),some (12,true)⟩,⟨some 15,.fld 0 (.tmp 2),some (12,true)⟩,⟨some 16,.fld 0 (.tmp 15),some (12,true)⟩,⟨some 17,.load 1 false (.tmp 16),some (12,true)⟩,⟨some 18,.bin .lss (.tmp 14) (.tmp 17),some (12,true)⟩,⟨some 19,.pick (.tmp 12) (.tmp 18) (.val (.pv (.bool false))),none⟩,⟨some 20,.mov (.tmp 19),none⟩,⟨some 21,.fld 1 (.tmp 3),some (20,true)⟩,⟨some 22,.load 1 false (.tmp 21),some (20,true)⟩,⟨some 23,.fld 3 (.tmp 2),some (20,true)⟩,⟨some 24,.fld 0 (.tmp 23),some (20,true)⟩,⟨some 25,.load 1 false (.tmp 24),some (20,true)⟩,⟨some 26,.bin .lss (.tmp 22) (.tmp 25),some (20,true)⟩,⟨some 27,.pick (.tmp 20) (.tmp 26) (.val (.pv (.bool false))),none⟩,⟨some 5,.mov (.tmp 27),none⟩] [2,3,5] [2,3])
(.seq
(.region [⟨some 28,.load 7 true (.tmp 2),none⟩,⟨some 29,.call (.val (.func 152 [])) [(.tmp 28)],none⟩,⟨some 30,.bin .eql (.tmp 29) (.val (.pv (.int .i64 0))),none⟩,⟨some 31,.mov (.tmp 30),none⟩,⟨some 32,.mov (.tmp 5),some (31,true)⟩,⟨some 33,.pick (.tmp 31) (.tmp 32) (.val (.pv (.bool false))),none⟩,⟨some 34,.mov (.tmp 33),none⟩,⟨some 35,.fld 2 (.tmp 3),some (34,true)⟩,⟨some 36,.load 1 false (.tmp 35),some (34,true)⟩,⟨some 37,.fld 6 (.tmp 2),some (34,true)⟩,⟨some 38,.load 1 false (.tmp 37),some (34,true)⟩,⟨some 39,.call (.val (.func 177 [])) [(.tmp 36),(.tmp 38)],some (34,true)⟩,⟨some 40,.pick (.tmp 34) (.tmp 39) (.val (.pv (.bool false))),none⟩,⟨some 41,.mov (.tmp 40),none⟩,⟨some 42,.fld 3 (.tmp 3),some (41,true)⟩,⟨some 43,.load 1 false (.tmp 42),some (41,true)⟩,⟨some 44,.fld 6 (.tmp 2),some (41,true)⟩,⟨some 45,.load 1 false (.tmp 44),some (41,true)⟩,⟨some 46,.call (.val (.func 177 [])) [(.tmp 43),(.tmp 45)],some (41,true)⟩,⟨some 47,.pick (.tmp 41) (.tmp 46) (.val (.pv (.bool false))),none⟩,⟨some 4,.mov (.tmp 47),none⟩] [4] [])
.ret))),[.tmp 4],false,false,false⟩
def F159 : AFunc := ⟨2,(.seq
(.region [⟨some 2,.box 2 7 (.tmp 0),none⟩,⟨some 3,.box 3 4 (.tmp 1),none⟩,⟨some 4,.mov (.val (.pv (.bool false))),none⟩] [2,3] [2,3])
(.seq
(.seq
(.region [⟨some 6,.load 7 true (.tmp 2),none⟩,⟨some 7,.load 4 true (.tmp 3),none⟩,⟨some 8,.call (.val (.func 157 [])) [(.tmp 6),(.tmp 7)],none⟩,⟨some 9,.un .not (.tmp 8),none⟩,⟨some 10,.mov (.tmp 9),none⟩,⟨some 11,.fld 2 (.tmp 3),some (10,false)⟩,⟨some 12,.load 1 false (.tmp 11),some (10,false)⟩,⟨some 13,.len 0 (.tmp 12),some (10,false)⟩,⟨some 14,.fld 3 (.tmp 3),some (10,false)⟩,⟨some 15,.load 1 false (.tmp 14),some (10,false)⟩,⟨some 16,.len 0 (.tmp 15),some (10,false)⟩,⟨some 17,.bin .add (.tmp 13) (.tmp 16),some (10,false)⟩,⟨some 18,.bin .gtr (.tmp 17) (.val (.pv (.int .i64 0))),some (10,false)⟩,⟨some 19,.pick (.tmp 10) (.val (.pv (.bool true))) (.tmp 18),none⟩] [2,3,19] [2,3])
(.cond (.tmp 19)
(.seq
(.region [⟨some 4,.mov (.val (.pv (.bool false))),none⟩] [4] [])
.ret)
.skip))
(.seq
(.region [⟨some 5,.mov (.val (.func 179 [])),none⟩] [2,3,5] [2,3])
(.seq
(.region [⟨some 20,.mov (.tmp 5),none⟩,⟨some 21,.fld 0 (.tmp 2),none⟩,⟨some 22,.load 3 true (.tmp 21),none⟩,⟨some 23,.fld 0 (.tmp 3),none⟩,⟨some 24,.load 1 false (.tmp 23),none⟩,⟨some 25,.call (.tmp 20) [(.tmp 22),(.tmp 24)],none⟩,⟨some 26,.un .not (.tmp 25),none⟩,⟨some 27,.mov (.tmp 26),none⟩,⟨some 28,.mov (.tmp 5),some (27,true)⟩,⟨some 29,.fld 3 (.tmp 2),some (27,true)⟩,⟨some 30,.load 3 true (.tmp 29),some (27,true)⟩,⟨some 31,.fld 1 (.tmp 3),some (27,true)⟩,⟨some 32,.load 1 false (.tmp 31),some (27,true)⟩,⟨some 33,.call (.tmp 28) [(.tmp 30),(.tmp 32)],some (27,true)⟩,⟨some 34,.un .not (.tmp 33),some (27,true)⟩,⟨some 35,.pick (.tmp 27) (.tmp 34) (.val (.pv (.bool false))),none⟩,⟨some 4,.mov (.tmp 35),none⟩] [4] [])
.ret)))),[.tmp 4],false,false,false⟩
def F161 : AFunc := ⟨2,(.seq
(.region [⟨some 2,.box 2 7 (.tmp 0),none⟩,⟨some 4,.alloc 4 [.pv (.int .i64 0),.pv (.int .i64 0),.tl [],.tl []],none⟩,⟨some 5,.mov (.val (.pv (.int .i64 0))),none⟩,⟨some 6,.mov (.val (.pv (.int .i64 0))),none⟩] [1,2,4] [2,4])
(.seq
(.seq
(.region [⟨some 13,.load 7 true (.tmp 2),none⟩,⟨some 14,.call (.val (.func 152 [])) [(.tmp 13)],none⟩,⟨some 7,.mov (.tmp 14),none⟩] [1,2,4,7] [2,4])
(.seq
(.region [⟨some 15,.mov (.tmp 7),none⟩,⟨some 16,.bin .neq (.tmp 15) (.val (.pv (.int .i64 0))),none⟩] [1,2,4,7,16] [2,4])
(.cond (.tmp 16)
(.seq
(.region [⟨some 17,.build [.pv (.int .i64 0),.pv (.int .i64 0),.tl [],.tl []] [],none⟩,⟨some 18,.mov (.tmp 7),none⟩,⟨none,.store 4 (.tmp 4) (.tmp 17),none⟩,⟨some 5,.mov (.val (.pv (.int .i64 0))),none⟩,⟨some 6,.mov (.tmp 18),none⟩] [4,5,6] [4])
.ret)
.skip)))
(.seq
(.region [⟨some 19,.load 7 true (.tmp 2),none⟩,⟨some 20,.call (.val (.func 155 [])) [(.tmp 19)],none⟩,⟨some 8,.alloc 8 [.pv (.int .i64 0),.pv (.int .i64 0),.tl [],.tl []],none⟩,⟨none,.store 4 (.tmp 8) (.tmp 20),none⟩] [1,2,4,8] [2,4,8])
(.seq
(.seq
(.region [⟨some 21,.mov (.tmp 1),none⟩,⟨some 22,.len 0 (.tmp 21),none⟩,⟨some 23,.mov (.val (.pv (.int .i64 0))),none⟩] [1,2,4,8,21,22,23] [2,4,8])
(.block 0
(.loop
(.mask [1,2,4,8,21,22,23] [2,4,8]
(.seq
(.region [⟨some 24,.bin .lss (.tmp 23) (.tmp 22),none⟩] [1,2,4,8,21,22,23,24] [2,4,8])
(.seq
(.cond (.tmp 24)
.skip
(.exit 0))
(.seq
(.block 1
(.seq
(.region [⟨some 25,.mov (.tmp 23),none⟩,⟨some 26,.idx 3 (.tmp 21) (.tmp 23),none⟩,⟨some 27,.load 3 true (.tmp 26),none⟩,⟨some 10,.alloc 10 [.pv (.int .i64 0),.pv (.bool false),.pv (.int .i64 0)],none⟩,⟨some 9,.mov (.tmp 25),none⟩,⟨none,.store 3 (.tmp 10) (.tmp 27),none⟩] [1,2,4,8,9,10,21,22,23] [2,4,8,10])
(.seq
(.region [⟨some 29,.load 7 true (.tmp 2),none⟩,⟨some 30,.load 4 true (.tmp 8),none⟩,⟨some 31,.load 3 true (.tmp 10),none⟩,⟨some 32,.call (.val (.func 182 [])) [(.tmp 29),(.tmp 30),(.tmp 31)],none⟩,⟨some 28,.mov (.tmp 32),none⟩,⟨some 33,.ext (.tmp 28) 0,none⟩,⟨some 34,.ext (.tmp 28) 1,none⟩,⟨some 11,.alloc 11 [.pv (.int .i64 0),.pv (.int .i64 0),.tl [],.tl []],none⟩,⟨none,.store 4 (.tmp 11) (.tmp 33),none⟩,⟨some 12,.mov (.tmp 34),none⟩] [1,2,4,8,9,11,12,21,22,23] [2,4,8,11])
(.seq
(.seq
(.region [⟨some 35,.mov (.tmp 12),none⟩,⟨some 36,.un .not (.tmp 35),none⟩] [1,2,4,8,9,11,21,22,23,36] [2,4,8,11])
(.cond (.tmp 36)
(.seq
(.region [⟨some 37,.load 4 true (.tmp 8),none⟩,⟨some 38,.mov (.tmp 9),none⟩,⟨none,.store 4 (.tmp 4) (.tmp 37),none⟩,⟨some 5,.mov (.tmp 38),none⟩,⟨some 6,.mov (.val (.pv (.int .i64 0))),none⟩] [4,5,6] [4])
.ret)
.skip))
(.region [⟨some 39,.load 4 true (.tmp 11),none⟩,⟨none,.store 4 (.tmp 8) (.tmp 39),none⟩] [1,2,4,8,21,22,23] [2,4,8])))))
(.region [⟨some 40,.bin .add (.tmp 23) (.val (.pv (.int .i64 1))),none⟩,⟨some 23,.mov (.tmp 40),none⟩] [1,2,4,8,21,22,23] [2,4,8]))))))))
(.seq
(.region [⟨some 41,.load 4 true (.tmp 8),none⟩,⟨some 42,.mov (.tmp 1),none⟩,⟨some 43,.len 0 (.tmp 42),none⟩,⟨none,.store 4 (.tmp 4) (.tmp 41),none⟩,⟨some 5,.mov (.tmp 43),none⟩,⟨some 6,.mov (.val (.pv (.int .i64 0))),none⟩] [4,5,6] [4])
.ret))))),[.cell 4 4 true,.tmp 5,.tmp 6],false,false,false⟩
def F164 : AFunc := ⟨1,(.seq
(.region [⟨some 1,.box 1 6 (.tmp 0),none⟩,⟨some 2,.alloc 2 [.pv (.int .i64 0),.pv (.int .i64 0),.tl [],.pv (.int .i64 0),.pv (.int .i64 0),.tl [],.pv (.int .i64 0)],none⟩,⟨some 3,.mov (.val (.pv (.bool false))),none⟩] [1,2] [1,2])
(.seq
(.seq
(.region [⟨some 13,.fld 0 (.tmp 1),none⟩,⟨some 14,.fld 1 (.tmp 13),none⟩,⟨some 15,.load 1 false (.tmp 14),none⟩,⟨some 16,.len 0 (.tmp 15),none⟩,⟨some 17,.bin .gtr (.tmp 16) (.val (.pv (.int .i64 12))),none⟩,⟨some 18,.mov (.tmp 17),none⟩,⟨some 19,.fld 2 (.tmp 1),some (18,false)⟩,⟨some 20,.load 1 false (.tmp 19),some (18,false)⟩,⟨some 21,.len 0 (.tmp 20),some (18,false)⟩,⟨some 22,.bin .gtr (.tmp 21) (.val (.pv (.int .i64 12))),some (18,false)⟩,⟨some 23,.pick (.tmp 18) (.val (.pv (.bool true))) (.tmp 22),none⟩] [1,2,23] [1,2])
(.cond (.tmp 23)
(.seq
(.region [⟨some 24,.build [.pv (.int .i64 0),.pv (.int .i64 0),.tl [],.pv (.int .i64 0),.pv (.int .i64 0),.tl [],.pv (.int .i64 0)] [],none⟩,⟨none,.store 7 (.tmp 2) (.tmp 24),none⟩,⟨some 3,.mov (.val (.pv (.bool false))),none⟩] [2,3] [2])
.ret)
.skip))
(.seq
(.region [⟨some 26,.fld 0 (.tmp 1),none⟩,⟨some 27,.fld 0 (.tmp 26),none⟩,⟨some 28,.load 1 false (.tmp 27),none⟩,⟨some 29,.fld 0 (.tmp 1),none⟩,⟨some 30,.fld 1 (.tmp 29),none⟩,⟨some 31,.load 1 false (.tmp 30),none⟩,⟨some 32,.call (.val (.func 184 [])) [(.tmp 28),(.tmp 31)],none⟩,⟨some 33,.call (.val (.func 25 [])) [(.tmp 32)],none⟩,⟨some 25,.mov (.tmp 33),none⟩,⟨some 34,.ext (.tmp 25) 0,none⟩,⟨some 35,.ext (.tmp 25) 1,none⟩,⟨some 4,.alloc 4 [.pv (.int .i64 0),.pv (.int .i64 0),.tl []],none⟩,⟨none,.store 3 (.tmp 4) (.tmp 34),none⟩,⟨some 5,.mov (.tmp 35),none⟩] [1,2,4] [1,2,4])
(.seq
(.region [⟨some 36,.fld 0 (.tmp 1),none⟩,⟨some 37,.fld 0 (.tmp 36),none⟩,⟨some 38,.load 1 false (.tmp 37),none⟩,⟨some 6,.mov (.tmp 38),none⟩] [1,2,4,6] [1,2,4])
(.seq
(.region [⟨some 7,.mov (.val (.tl [])),none⟩] [1,2,4,6,7] [1,2,4])
(.seq
(.seq
(.region [⟨some 39,.fld 3 (.tmp 1),none⟩,⟨some 40,.load 1 false (.tmp 39),none⟩] [1,2,4,6,7,40] [1,2,4])
(.cond (.tmp 40)
(.seq
(.region [⟨some 8,.mov (.val (.pv (.int .i64 0))),none⟩] [1,2,4,6,7,8] [1,2,4])
(.block 0
(.loop
(.mask [1,2,4,6,7,8] [1,2,4]
(.seq
(.seq
(.region [⟨some 41,.mov (.tmp 8),none⟩,⟨some 42,.fld 2 (.tmp 4),none⟩,⟨some 43,.load 1 false (.tmp 42),none⟩,⟨some 44,.len 0 (.tmp 43),none⟩,⟨some 45,.bin .lss (.tmp 41) (.tmp 44),none⟩] [1,2,4,6,7,8,45] [1,2,4])
(.cond (.tmp 45)
.skip
(.exit 0)))
(.seq
(.block 1
(.seq
(.region [⟨some 48,.fld 2 (.tmp 4),none⟩,⟨some 49,.load 1 false (.tmp 48),none⟩,⟨some 50,.mov (.tmp 8),none⟩,⟨some 51,.idx 4 (.tmp 49) (.tmp 50),none⟩,⟨some 52,.load 4 true (.tmp 51),none⟩,⟨some 9,.alloc 9 [.pv (.int .i64 0),.pv (.bool false),.pv (.int .i64 0),.pv (.int .i64 0)],none⟩,⟨none,.store 4 (.tmp 9) (.tmp 52),none⟩] [1,2,4,6,7,8,9] [1,2,4,9])
(.seq
(.region [⟨some 53,.fld 2 (.tmp 9),none⟩,⟨some 54,.load 1 false (.tmp 53),none⟩,⟨some 55,.bin .sub (.tmp 54) (.val (.pv (.int .i64 1))),none⟩,⟨some 56,.bin .mul (.val (.pv (.int .i64 2))) (.tmp 55),none⟩,⟨some 57,.conv .u8 (.tmp 56),none⟩,⟨some 10,.mov (.tmp 57),none⟩] [1,2,4,6,7,8,9,10] [1,2,4,9])
(.seq
(.seq
(.region [⟨some 58,.fld 1 (.tmp 9),none⟩,⟨some 59,.load 1 false (.tmp 58),none⟩,⟨some 60,.un .not (.tmp 59),none⟩] [1,2,4,6,7,8,9,10,60] [1,2,4,9])
(.cond (.tmp 60)
(.region [⟨some 61,.mov (.tmp 10),none⟩,⟨some 62,.bin .add (.tmp 61) (.val (.pv (.int .u8 1))),none⟩,⟨some 10,.mov (.tmp 62),none⟩] [1,2,4,6,7,8,9,10] [1,2,4,9])
.skip))
(.seq
(.region [⟨some 63,.fld 4 (.tmp 1),none⟩,⟨some 64,.load 1 false (.tmp 63),none⟩,⟨some 65,.mov (.tmp 8),none⟩,⟨some 66,.bin .rem (.tmp 65) (.val (.pv (.int .i64 8))),none⟩,⟨some 67,.bin .shr (.tmp 64) (.tmp 66),none⟩,⟨some 68,.bin .and (.tmp 67) (.val (.pv (.int .u8 1))),none⟩,⟨some 69,.bin .eql (.tmp 68) (.val (.pv (.int .u8 0))),none⟩] [1,2,4,6,7,8,9,10,69] [1,2,4,9])
(.cond (.tmp 69)
(.region [⟨some 70,.mov (.tmp 7),none⟩,⟨some 71,.fld 0 (.tmp 9),none⟩,⟨some 72,.load 1 false (.tmp 71),none⟩,⟨some 73,.conv .u8 (.tmp 72),none⟩,⟨some 74,.mov (.tmp 10),none⟩,⟨some 75,.fld 3 (.tmp 9),none⟩,⟨some 76,.load 1 false (.tmp 75),none⟩,⟨some 77,.conv .u8 (.tmp 76),none⟩,⟨some 78,.build [.pv (.int .u8 0),.pv (.int .u8 0),.pv (.int .u8 0)] [(0,1,(.tmp 73)),(1,1,(.tmp 74)),(2,1,(.tmp 77))],none⟩,⟨some 79,.lit 3 [.pv (.int .u8 0),.pv (.int .u8 0),.pv (.int .u8 0)] 1 [(0,3,(.tmp 78))],none⟩,⟨some 80,.app 3 (.tmp 70) (.tmp 79),none⟩,⟨some 7,.mov (.tmp 80),none⟩] [1,2,4,6,7,8] [1,2,4])
.skip))))))
(.region [⟨some 46,.mov (.tmp 8),none⟩,⟨some 47,.bin .add (.tmp 46) (.val (.pv (.int .i64 1))),none⟩,⟨some 8,.mov (.tmp 47),none⟩] [1,2,4,6,7,8] [1,2,4])))))))
(.region [⟨some 81,.fld 0 (.tmp 1),none⟩,⟨some 82,.fld 0 (.tmp 81),none⟩,⟨some 83,.load 1 false (.tmp 82),none⟩,⟨some 84,.fld 4 (.tmp 1),none⟩,⟨some 85,.load 1 false (.tmp 84),none⟩,⟨some 86,.bin .add (.tmp 83) (.tmp 85),none⟩,⟨some 6,.mov (.tmp 86),none⟩] [1,2,4,6,7] [1,2,4])))
(.seq
(.region [⟨some 87,.mov (.tmp 7),none⟩,⟨some 88,.fld 2 (.tmp 1),none⟩,⟨some 89,.load 1 false (.tmp 88),none⟩,⟨some 90,.app 3 (.tmp 87) (.tmp 89),none⟩,⟨some 7,.mov (.tmp 90),none⟩] [1,2,4,6,7] [1,2,4])
(.seq
(.region [⟨some 92,.mov (.tmp 6),none⟩,⟨some 93,.mov (.tmp 7),none⟩,⟨some 94,.call (.val (.func 184 [])) [(.tmp 92),(.tmp 93)],none⟩,⟨some 95,.call (.val (.func 25 [])) [(.tmp 94)],none⟩,⟨some 91,.mov (.tmp 95),none⟩,⟨some 96,.ext (.tmp 91) 0,none⟩,⟨some 97,.ext (.tmp 91) 1,none⟩,⟨some 11,.alloc 11 [.pv (.int .i64 0),.pv (.int .i64 0),.tl []],none⟩,⟨none,.store 3 (.tmp 11) (.tmp 96),none⟩,⟨some 12,.mov (.tmp 97),none⟩] [1,2,4,11] [1,2,4,11])
(.seq
(.region [⟨some 98,.load 3 true (.tmp 4),none⟩,⟨some 99,.load 3 true (.tmp 11),none⟩,⟨some 100,.fld 5 (.tmp 1),none⟩,⟨some 101,.load 1 false (.tmp 100),none⟩,⟨some 102,.bin .rem (.tmp 101) (.val (.pv (.int .u8 2))),none⟩,⟨some 103,.conv .i64 (.tmp 102),none⟩,⟨some 104,.bin .add (.val (.pv (.int .i64 1))) (.tmp 103),none⟩,⟨some 105,.build [.pv (.int .i64 0),.pv (.int .i64 0),.tl [],.pv (.int .i64 0),.pv (.int .i64 0),.tl [],.pv (.int .i64 0)] [(0,3,(.tmp 98)),(3,3,(.tmp 99)),(6,1,(.tmp 104))],none⟩,⟨none,.store 7 (.tmp 2) (.tmp 105),none⟩,⟨some 3,.mov (.val (.pv (.bool true))),none⟩] [2,3] [2])
.ret))))))))),[.cell 2 7 true,.tmp 3],false,false,false⟩
def F171 : AFunc := ⟨2,(.seq
(.region [⟨some 2,.box 2 7 (.tmp 0),none⟩,⟨some 3,.box 3 4 (.tmp 1),none⟩,⟨some 4,.mov (.val (.tl [])),none⟩,⟨some 5,.mov (.val (.pv (.int .i64 0))),none⟩] [2,3] [2,3])
(.seq
(.seq
(.region [⟨some 7,.load 7 true (.tmp 2),none⟩,⟨some 8,.load 4 true (.tmp 3),none⟩,⟨some 9,.call (.val (.func 187 [])) [(.tmp 7),(.tmp 8)],none⟩,⟨some 6,.mov (.tmp 9),none⟩] [2,3,6] [2,3])
(.seq
(.region [⟨some 10,.mov (.tmp 6),none⟩,⟨some 11,.bin .neq (.tmp 10) (.val (.pv (.int .i64 0))),none⟩] [2,3,6,11] [2,3])
(.cond (.tmp 11)
(.seq
(.region [⟨some 12,.mov (.tmp 6),none⟩,⟨some 4,.mov (.val (.tl [])),none⟩,⟨some 5,.mov (.tmp 12),none⟩] [4,5] [])
.ret)
.skip)))
(.seq
(.region [⟨some 13,.load 7 true (.tmp 2),none⟩,⟨some 14,.load 4 true (.tmp 3),none⟩,⟨some 15,.call (.val (.func 186 [])) [(.tmp 13),(.tmp 14)],none⟩,⟨some 4,.mov (.tmp 15),none⟩,⟨some 5,.mov (.val (.pv (.int .i64 0))),none⟩] [4,5] [])
.ret))),[.tmp 4,.tmp 5],false,false,false⟩
def F174 : AFunc := ⟨3,(.seq
(.region [⟨some 3,.box 3 7 (.tmp 0),none⟩,⟨some 4,.box 4 4 (.tmp 1),none⟩,⟨some 5,.box 5 3 (.tmp 2),none⟩,⟨some 6,.alloc 6 [.pv (.int .i64 0),.pv (.int .i64 0),.tl [],.tl []],none⟩,⟨some 7,.mov (.val (.pv (.int .i64 0))),none⟩] [3,4,5,6] [3,4,5,6])
(.seq
(.seq
(.region [⟨some 11,.load 7 true (.tmp 3),none⟩,⟨some 12,.load 4 true (.tmp 4),none⟩,⟨some 13,.call (.val (.func 187 [])) [(.tmp 11),(.tmp 12)],none⟩,⟨some 8,.mov (.tmp 13),none⟩] [3,4,5,6,8] [3,4,5,6])
(.seq
(.region [⟨some 14,.mov (.tmp 8),none⟩,⟨some 15,.bin .neq (.tmp 14) (.val (.pv (.int .i64 0))),none⟩] [3,4,5,6,8,15] [3,4,5,6])
(.cond (.tmp 15)
(.seq
(.region [⟨some 16,.build [.pv (.int .i64 0),.pv (.int .i64 0),.tl [],.tl []] [],none⟩,⟨some 17,.mov (.tmp 8),none⟩,⟨none,.store 4 (.tmp 6) (.tmp 16),none⟩,⟨some 7,.mov (.tmp 17),none⟩] [6,7] [6])
.ret)
.skip)))
(.seq
(.region [⟨some 19,.load 7 true (.tmp 3),none⟩,⟨some 20,.load 4 true (.tmp 4),none⟩,⟨some 21,.load 3 true (.tmp 5),none⟩,⟨some 22,.call (.val (.func 182 [])) [(.tmp 19),(.tmp 20),(.tmp 21)],none⟩,⟨some 18,.mov (.tmp 22),none⟩,⟨some 23,.ext (.tmp 18) 0,none⟩,⟨some 24,.ext (.tmp 18) 1,none⟩,⟨some 9,.alloc 9 [.pv (.int .i64 0),.pv (.int .i64 0),.tl [],.tl []],none⟩,⟨none,.store 4 (.tmp 9) (.tmp 23),none⟩,⟨some 10,.mov (.tmp 24),none⟩] [6,9,10] [6,9])
(.seq
(.seq
(.region [⟨some 25,.mov (.tmp 10),none⟩,⟨some 26,.un .not (.tmp 25),none⟩] [6,9,26] [6,9])
(.cond (.tmp 26)
(.seq
(.region [⟨some 27,.build [.pv (.int .i64 0),.pv (.int .i64 0),.tl [],.tl []] [],none⟩,⟨none,.store 4 (.tmp 6) (.tmp 27),none⟩,⟨some 7,.mov (.val (.pv (.int .i64 11))),none⟩] [6,7] [6])
.ret)
.skip))
(.seq
(.region [⟨some 28,.load 4 true (.tmp 9),none⟩,⟨none,.store 4 (.tmp 6) (.tmp 28),none⟩,⟨some 7,.mov (.val (.pv (.int .i64 0))),none⟩] [6,7] [6])
.ret))))),[.cell 6 4 true,.tmp 7],false,false,false⟩
def F176 : AFunc := ⟨2,(.seq
(.region [⟨some 4,.mov (.val (.pv (.bool false))),none⟩] [0,1] [])
(.seq
(.seq
(.region [⟨some 6,.mov (.tmp 0),none⟩,⟨some 7,.len 0 (.tmp 6),none⟩,⟨some 8,.mov (.tmp 1),none⟩,⟨some 9,.len 0 (.tmp 8),none⟩,⟨some 10,.bin .neq (.tmp 7) (.tmp 9),none⟩] [0,1,10] [])
(.cond (.tmp 10)
(.seq
(.region [⟨some 4,.mov (.val (.pv (.bool false))),none⟩] [4] [])
.ret)
.skip))
(.seq
(.seq
(.region [⟨some 5,.mov (.val (.pv (.int .i64 0))),none⟩] [0,1,5] [])
(.block 0
(.loop
(.mask [0,1,5] []
(.seq
(.seq
(.region [⟨some 11,.mov (.tmp 5),none⟩,⟨some 12,.mov (.tmp 0),none⟩,⟨some 13,.len 0 (.tmp 12),none⟩,⟨some 14,.bin .lss (.tmp 11) (.tmp 13),none⟩] [0,1,5,14] [])
(.cond (.tmp 14)
.skip
(.exit 0)))
(.seq
(.block 1
(.seq
(.draw [(⟨some 17,.mov (.tmp 0),none⟩,[]),(⟨some 18,.mov (.tmp 5),none⟩,[]),(⟨some 19,.idx 1 (.tmp 17) (.tmp 18),none⟩,[]),(⟨some 20,.load 1 false (.tmp 19),none⟩,[]),(⟨some 21,.mov (.tmp 1),none⟩,[]),(⟨some 22,.mov (.tmp 5),none⟩,[]),(⟨some 23,.idx 1 (.tmp 21) (.tmp 22),none⟩,[]),(⟨some 24,.load 1 false (.tmp 23),none⟩,[]),(⟨some 25,.bin .neq (.tmp 20) (.tmp 24),none⟩,[])] [0,1,5,25] [])
(.cond (.tmp 25)
(.seq
(.region [⟨some 4,.mov (.val (.pv (.bool false))),none⟩] [4] [])
.ret)
.skip)))
(.region [⟨some 15,.mov (.tmp 5),none⟩,⟨some 16,.bin .add (.tmp 15) (.val (.pv (.int .i64 1))),none⟩,⟨some 5,.mov (.tmp 16),none⟩] [0,1,5] [])))))))
(.seq
(.region [⟨some 4,.mov (.val (.pv (.bool true))),none⟩] [4] [])
.ret)))),[.tmp 4],false,false,false⟩
def F177 : AFunc := ⟨2,(.seq
(.region [⟨some 4,.mov (.val (.pv (.bool false))),none⟩] [0,1] [])
(.seq
(.region [⟨some 5,.mov (.tmp 0),none⟩,⟨some 6,.len 0 (.tmp 5),none⟩,⟨some 7,.mov (.tmp 1),none⟩,⟨some 8,.bin .leq (.tmp 6) (.tmp 7),none⟩,⟨some 9,.mov (.tmp 8),none⟩,⟨some 10,.mov (.tmp 0),some (9,true)⟩,⟨some 11,.call (.val (.func 108 [])) [(.tmp 10),(.val (.func 188 []))],some (9,true)⟩,⟨some 12,.un .not (.tmp 11),some (9,true)⟩,⟨some 13,.pick (.tmp 9) (.tmp 12) (.val (.pv (.bool false))),none⟩,⟨some 4,.mov (.tmp 13),none⟩] [4] [])
.ret)),[.tmp 4],false,false,false⟩
def F179 : AFunc := ⟨2,(.seq
(.region [⟨some 2,.box 2 3 (.tmp 0),none⟩,⟨some 3,.box 3 1 (.tmp 1),none⟩,⟨some 4,.mov (.val (.pv (.bool false))),none⟩] [2,3] [2,3])
(.seq
(.region [⟨some 5,.fld 2 (.tmp 2),none⟩,⟨some 6,.load 1 false (.tmp 5),none⟩,⟨some 7,.clos 181 [(.tmp 3)],none⟩,⟨some 8,.call (.val (.func 180 [])) [(.tmp 6),(.tmp 7)],none⟩,⟨some 4,.mov (.tmp 8),none⟩] [4] [])
.ret)),[.tmp 4],false,false,false⟩
def F180 : AFunc := ⟨2,(.seq
(.region [⟨some 4,.mov (.val (.pv (.bool false))),none⟩] [0,1] [])
(.seq
(.region [⟨some 5,.mov (.tmp 0),none⟩,⟨some 6,.mov (.tmp 1),none⟩,⟨some 7,.call (.val (.func 77 [])) [(.tmp 5),(.tmp 6)],none⟩,⟨some 8,.bin .geq (.tmp 7) (.val (.pv (.int .i64 0))),none⟩,⟨some 4,.mov (.tmp 8),none⟩] [4] [])
.ret)),[.tmp 4],false,false,false⟩
def F181 : AFunc := ⟨2,(.seq
(.region [⟨some 2,.box 2 4 (.tmp 0),none⟩,⟨some 3,.mov (.val (.pv (.bool false))),none⟩] [1,2] [2])
(.seq
(.region [⟨some 4,.fld 0 (.tmp 2),none⟩,⟨some 5,.load 1 false (.tmp 4),none⟩,⟨some 6,.load 1 false (.tmp 1),none⟩,⟨some 7,.bin .eql (.tmp 5) (.tmp 6),none⟩,⟨some 3,.mov (.tmp 7),none⟩] [3] [])
.ret)),[.tmp 3],false,false,false⟩
def F182 : AFunc := ⟨3,(.seq
(.region [⟨some 3,.box 3 7 (.tmp 0),none⟩,⟨some 4,.box 4 4 (.tmp 1),none⟩,⟨some 5,.box 5 3 (.tmp 2),none⟩,⟨some 6,.alloc 6 [.pv (.int .i64 0),.pv (.int .i64 0),.tl [],.tl []],none⟩,⟨some 7,.mov (.val (.pv (.bool false))),none⟩] [3,4,5,6] [3,4,5,6])
(.seq
(.seq
(.region [⟨some 11,.fld 0 (.tmp 5),none⟩,⟨some 12,.load 1 false (.tmp 11),none⟩,⟨some 13,.bin .neq (.tmp 12) (.val (.pv (.int .i64 0))),none⟩,⟨some 14,.mov (.tmp 13),none⟩,⟨some 15,.fld 0 (.tmp 5),some (14,true)⟩,⟨some 16,.load 1 false (.tmp 15),some (14,true)⟩,⟨some 17,.bin .neq (.tmp 16) (.val (.pv (.int .i64 1))),some (14,true)⟩,⟨some 18,.pick (.tmp 14) (.tmp 17) (.val (.pv (.bool false))),none⟩] [3,4,5,6,18] [3,4,5,6])
(.cond (.tmp 18)
(.seq
(.region [⟨some 19,.build [.pv (.int .i64 0),.pv (.int .i64 0),.tl [],.tl []] [],none⟩,⟨none,.store 4 (.tmp 6) (.tmp 19),none⟩,⟨some 7,.mov (.val (.pv (.bool false))),none⟩] [6,7] [6])
.ret)
.skip))
(.seq
(.region [⟨some 20,.load 7 true (.tmp 3),none⟩,⟨some 21,.load 4 true (.tmp 4),none⟩,⟨some 22,.fld 0 (.tmp 5),none⟩,⟨some 23,.load 1 false (.tmp 22),none⟩,⟨some 24,.call (.val (.func 189 [])) [(.tmp 20),(.tmp 21),(.tmp 23)],none⟩,⟨some 8,.alloc 8 [.pv (.int .i64 0),.pv (.int .i64 0),.tl [],.pv (.int .i64 0),.tl [],.tl [],.pv (.int .i64 0)],none⟩,⟨none,.store 7 (.tmp 8) (.tmp 24),none⟩] [4,5,6,8] [4,5,6,8])
(.seq
(.region [⟨some 26,.fld 0 (.tmp 8),none⟩,⟨some 27,.load 3 true (.tmp 26),none⟩,⟨some 28,.fld 3 (.tmp 8),none⟩,⟨some 29,.load 1 false (.tmp 28),none⟩,⟨some 30,.fld 1 (.tmp 5),none⟩,⟨some 31,.load 1 false (.tmp 30),none⟩,⟨some 32,.fld 2 (.tmp 5),none⟩,⟨some 33,.load 1 false (.tmp 32),none⟩,⟨some 34,.call (.val (.func 45 [])) [(.tmp 27),(.tmp 29),(.tmp 31),(.tmp 33)],none⟩,⟨some 25,.mov (.tmp 34),none⟩,⟨some 35,.ext (.tmp 25) 0,none⟩,⟨some 36,.ext (.tmp 25) 1,none⟩,⟨some 9,.mov (.tmp 35),none⟩,⟨some 10,.mov (.tmp 36),none⟩] [4,5,6,8,9,10] [4,5,6,8])
(.seq
(.block 0
(.seq
(.region [⟨some 38,.mov (.tmp 10),none⟩,⟨some 39,.un .not (.tmp 38),none⟩,⟨some 37,.mov (.tmp 39),none⟩] [4,5,6,8,9,37] [4,5,6,8])
(.cond (.tmp 37)
(.seq
(.region [⟨some 40,.build [.pv (.int .i64 0),.pv (.int .i64 0),.tl [],.tl []] [],none⟩,⟨none,.store 4 (.tmp 6) (.tmp 40),none⟩,⟨some 7,.mov (.val (.pv (.bool false))),none⟩] [6,7] [6])
.ret)
(.seq
(.region [⟨some 42,.fld 1 (.tmp 5),none⟩,⟨some 43,.load 1 false (.tmp 42),none⟩,⟨some 41,.mov (.tmp 43),none⟩] [4,5,6,8,9,41] [4,5,6,8])
(.cond (.tmp 41)
(.seq
(.draw [(⟨some 44,.load 4 true (.tmp 4),none⟩,[]),(⟨some 45,.fld 0 (.tmp 5),none⟩,[]),(⟨some 46,.load 1 false (.tmp 45),none⟩,[]),(⟨some 47,.mov (.tmp 9),none⟩,[]),(⟨some 48,.fld 4 (.tmp 8),none⟩,[]),(⟨some 49,.load 1 false (.tmp 48),none⟩,[]),(⟨some 50,.fld 5 (.tmp 8),none⟩,[]),(⟨some 51,.load 1 false (.tmp 50),none⟩,[]),(⟨some 52,.call (.val (.func 191 [])) [(.tmp 51)],none⟩,[0,2,5]),(⟨some 53,.fld 2 (.tmp 5),none⟩,[]),(⟨some 54,.load 1 false (.tmp 53),none⟩,[8]),(⟨some 55,.lit 1 [.pv (.int .i64 0)] 1 [(0,1,(.tmp 54))],none⟩,[0,2,5,7,8]),(⟨some 56,.app 1 (.tmp 52) (.tmp 55),none⟩,[0,2,5]),(⟨some 57,.call (.val (.func 190 [])) [(.tmp 44),(.tmp 46),(.tmp 47),(.tmp 49),(.tmp 56)],none⟩,[]),(⟨some 58,.fld 5 (.tmp 8),none⟩,[]),(⟨some 59,.load 1 false (.tmp 58),none⟩,[8,11,12,13]),(⟨some 60,.len 0 (.tmp 59),none⟩,[8,11,12,13]),(⟨some 61,.fld 6 (.tmp 8),none⟩,[]),(⟨some 62,.load 1 false (.tmp 61),none⟩,[8,11,12,13]),(⟨some 63,.bin .lss (.tmp 60) (.tmp 62),none⟩,[]),(⟨none,.store 4 (.tmp 6) (.tmp 57),none⟩,[15,16,18]),(⟨some 7,.mov (.tmp 63),none⟩,[])] [6,7] [6])
.ret)
(.seq
(.draw [(⟨some 65,.fld 4 (.tmp 8),none⟩,[]),(⟨some 66,.load 1 false (.tmp 65),none⟩,[]),(⟨some 67,.len 0 (.tmp 66),none⟩,[]),(⟨some 68,.bin .eql (.tmp 67) (.val (.pv (.int .i64 0))),none⟩,[]),(⟨some 69,.mov (.tmp 68),none⟩,[]),(⟨some 70,.fld 4 (.tmp 8),some (69,false)⟩,[]),(⟨some 71,.load 1 false (.tmp 70),some (69,false)⟩,[]),(⟨some 72,.idx 1 (.tmp 71) (.val (.pv (.int .i64 0))),some (69,false)⟩,[]),(⟨some 73,.load 1 false (.tmp 72),some (69,false)⟩,[]),(⟨some 74,.fld 2 (.tmp 5),some (69,false)⟩,[]),(⟨some 75,.load 1 false (.tmp 74),some (69,false)⟩,[]),(⟨some 76,.bin .neq (.tmp 73) (.tmp 75),some (69,false)⟩,[]),(⟨some 77,.pick (.tmp 69) (.val (.pv (.bool true))) (.tmp 76),none⟩,[]),(⟨some 64,.mov (.tmp 77),none⟩,[])] [4,5,6,8,9,64] [4,5,6,8])
(.cond (.tmp 64)
(.seq
(.region [⟨some 78,.build [.pv (.int .i64 0),.pv (.int .i64 0),.tl [],.tl []] [],none⟩,⟨none,.store 4 (.tmp 6) (.tmp 78),none⟩,⟨some 7,.mov (.val (.pv (.bool false))),none⟩] [6,7] [6])
.ret)
.skip)))))))
(.seq
(.draw [(⟨some 79,.load 4 true (.tmp 4),none⟩,[]),(⟨some 80,.fld 0 (.tmp 5),none⟩,[]),(⟨some 81,.load 1 false (.tmp 80),none⟩,[]),(⟨some 82,.mov (.tmp 9),none⟩,[]),(⟨some 83,.fld 4 (.tmp 8),none⟩,[]),(⟨some 84,.load 1 false (.tmp 83),none⟩,[]),(⟨some 85,.sl 1 (.tmp 84) (some (.val (.pv (.int .i64 1)))) none none,none⟩,[]),(⟨some 86,.fld 5 (.tmp 8),none⟩,[]),(⟨some 87,.load 1 false (.tmp 86),none⟩,[]),(⟨some 88,.call (.val (.func 190 [])) [(.tmp 79),(.tmp 81),(.tmp 82),(.tmp 85),(.tmp 87)],none⟩,[]),(⟨none,.store 4 (.tmp 6) (.tmp 88),none⟩,[]),(⟨some 7,.mov (.val (.pv (.bool true))),none⟩,[])] [6,7] [6])
.ret)))))),[.cell 6 4 true,.tmp 7],false,false,false⟩
def F184 : AFunc := ⟨2,(.seq
(.region [⟨some 4,.alloc 4 [.pv (.int .u8 0),.tl []],none⟩] [0,1,4] [4])
(.seq
(.region [⟨some 8,.mov (.tmp 0),none⟩,⟨some 9,.bin .rem (.tmp 8) (.val (.pv (.int .u8 3))),none⟩,⟨some 10,.build [.pv (.int .u8 0),.tl []] [(0,1,(.tmp 9))],none⟩,⟨some 5,.alloc 5 [.pv (.int .u8 0),.tl []],none⟩,⟨none,.store 2 (.tmp 5) (.tmp 10),none⟩] [1,4,5] [4,5])
(.seq
(.seq
(.region [⟨some 6,.mov (.val (.pv (.int .i64 0))),none⟩] [1,4,5,6] [4,5])
(.block 0
(.loop
(.mask [1,4,5,6] [4,5]
(.seq
(.seq
(.region [⟨some 11,.mov (.tmp 6),none⟩,⟨some 12,.mov (.tmp 1),none⟩,⟨some 13,.len 0 (.tmp 12),none⟩,⟨some 14,.bin .lss (.tmp 11) (.tmp 13),none⟩,⟨some 15,.mov (.tmp 14),none⟩,⟨some 16,.mov (.tmp 6),some (15,true)⟩,⟨some 17,.bin .lss (.tmp 16) (.val (.pv (.int .i64 12))),some (15,true)⟩,⟨some 18,.pick (.tmp 15) (.tmp 17) (.val (.pv (.bool false))),none⟩] [1,4,5,6,18] [4,5])
(.cond (.tmp 18)
.skip
(.exit 0)))
(.seq
(.block 1
(.seq
(.region [⟨some 21,.mov (.tmp 1),none⟩,⟨some 22,.mov (.tmp 6),none⟩,⟨some 23,.idx 3 (.tmp 21) (.tmp 22),none⟩,⟨some 24,.load 3 true (.tmp 23),none⟩,⟨some 7,.alloc 7 [.pv (.int .u8 0),.pv (.int .u8 0),.pv (.int .u8 0)],none⟩,⟨none,.store 3 (.tmp 7) (.tmp 24),none⟩] [1,4,5,6,7] [4,5,7])
(.seq
(.draw [(⟨some 25,.fld 0 (.tmp 7),none⟩,[]),(⟨some 26,.load 1 false (.tmp 25),none⟩,[]),(⟨some 27,.fld 0 (.tmp 5),none⟩,[]),(⟨some 28,.load 1 false (.tmp 27),none⟩,[]),(⟨some 29,.bin .add (.tmp 28) (.val (.pv (.int .u8 1))),none⟩,[]),(⟨some 30,.bin .rem (.tmp 26) (.tmp 29),none⟩,[]),(⟨some 31,.fld 2 (.tmp 7),none⟩,[]),(⟨some 32,.load 1 false (.tmp 31),none⟩,[]),(⟨some 33,.fld 0 (.tmp 5),none⟩,[]),(⟨some 34,.load 1 false (.tmp 33),none⟩,[]),(⟨some 35,.bin .add (.tmp 34) (.val (.pv (.int .u8 1))),none⟩,[]),(⟨some 36,.bin .rem (.tmp 32) (.tmp 35),none⟩,[]),(⟨some 37,.fld 1 (.tmp 7),none⟩,[]),(⟨some 38,.load 1 false (.tmp 37),none⟩,[]),(⟨some 39,.bin .rem (.tmp 38) (.val (.pv (.int .u8 4))),none⟩,[]),(⟨some 40,.fld 0 (.tmp 7),none⟩,[]),(⟨none,.store 1 (.tmp 40) (.tmp 30),none⟩,[9]),(⟨some 41,.fld 2 (.tmp 7),none⟩,[]),(⟨none,.store 1 (.tmp 41) (.tmp 36),none⟩,[]),(⟨some 42,.fld 1 (.tmp 7),none⟩,[]),(⟨none,.store 1 (.tmp 42) (.tmp 39),none⟩,[])] [1,4,5,6,7] [4,5,7])
(.region [⟨some 43,.fld 1 (.tmp 5),none⟩,⟨some 44,.load 1 false (.tmp 43),none⟩,⟨some 45,.load 3 true (.tmp 7),none⟩,⟨some 46,.lit 3 [.pv (.int .u8 0),.pv (.int .u8 0),.pv (.int .u8 0)] 1 [(0,3,(.tmp 45))],none⟩,⟨some 47,.app 3 (.tmp 44) (.tmp 46),none⟩,⟨some 48,.fld 1 (.tmp 5),none⟩,⟨none,.store 1 (.tmp 48) (.tmp 47),none⟩] [1,4,5,6] [4,5]))))
(.region [⟨some 19,.mov (.tmp 6),none⟩,⟨some 20,.bin .add (.tmp 19) (.val (.pv (.int .i64 1))),none⟩,⟨some 6,.mov (.tmp 20),none⟩] [1,4,5,6] [4,5])))))))
(.seq
(.region [⟨some 49,.load 2 true (.tmp 5),none⟩,⟨none,.store 2 (.tmp 4) (.tmp 49),none⟩] [4] [4])
.ret)))),[.cell 4 2 true],false,false,false⟩
def F186 : AFunc := ⟨2,(.seq
(.region [⟨some 2,.box 2 7 (.tmp 0),none⟩,⟨some 3,.box 3 4 (.tmp 1),none⟩,⟨some 4,.mov (.val (.tl [])),none⟩] [2,3] [2,3])
(.seq
(.region [⟨some 5,.mov (.val (.tl [])),none⟩] [2,3,5] [2,3])
(.seq
(.seq
(.region [⟨some 13,.mov (.val (.pv (.int .i64 0))),none⟩] [2,3,5,13] [2,3])
(.block 0
(.loop
(.mask [2,3,5,13] [2,3]
(.seq
(.region [⟨some 14,.bin .lss (.tmp 13) (.val (.pv (.int .i64 2))),none⟩] [2,3,5,13,14] [2,3])
(.seq
(.cond (.tmp 14)
.skip
(.exit 0))
(.seq
(.block 1
(.seq
(.region [⟨some 15,.mov (.tmp 13),none⟩,⟨some 6,.mov (.tmp 15),none⟩] [2,3,5,6,13] [2,3])
(.seq
(.region [⟨some 16,.load 7 true (.tmp 2),none⟩,⟨some 17,.load 4 true (.tmp 3),none⟩,⟨some 18,.mov (.tmp 6),none⟩,⟨some 19,.call (.val (.func 189 [])) [(.tmp 16),(.tmp 17),(.tmp 18)],none⟩,⟨some 7,.alloc 7 [.pv (.int .i64 0),.pv (.int .i64 0),.tl [],.pv (.int .i64 0),.tl [],.tl [],.pv (.int .i64 0)],none⟩,⟨none,.store 7 (.tmp 7) (.tmp 19),none⟩] [2,3,5,6,7,13] [2,3,7])
(.seq
(.region [⟨some 20,.fld 0 (.tmp 7),none⟩,⟨some 21,.fld 2 (.tmp 20),none⟩,⟨some 22,.load 1 false (.tmp 21),none⟩,⟨some 23,.len 0 (.tmp 22),none⟩,⟨some 24,.mov (.val (.pv (.int .i64 0))),none⟩] [2,3,5,6,7,13,22,23,24] [2,3,7])
(.block 2
(.loop
(.mask [2,3,5,6,7,13,22,23,24] [2,3,7]
(.seq
(.region [⟨some 25,.bin .lss (.tmp 24) (.tmp 23),none⟩] [2,3,5,6,7,13,22,23,24,25] [2,3,7])
(.seq
(.cond (.tmp 25)
.skip
(.exit 2))
(.seq
(.block 3
(.seq
(.region [⟨some 26,.idx 4 (.tmp 22) (.tmp 24),none⟩,⟨some 27,.load 4 true (.tmp 26),none⟩,⟨some 9,.alloc 9 [.pv (.int .i64 0),.pv (.bool false),.pv (.int .i64 0),.pv (.int .i64 0)],none⟩,⟨none,.store 4 (.tmp 9) (.tmp 27),none⟩] [2,3,5,6,7,9,13,22,23,24] [2,3,7,9])
(.seq
(.region [⟨some 28,.mov (.tmp 6),none⟩,⟨some 29,.fld 1 (.tmp 9),none⟩,⟨some 30,.load 1 false (.tmp 29),none⟩,⟨some 31,.fld 2 (.tmp 9),none⟩,⟨some 32,.load 1 false (.tmp 31),none⟩,⟨some 33,.build [.pv (.int .i64 0),.pv (.bool false),.pv (.int .i64 0)] [(0,1,(.tmp 28)),(1,1,(.tmp 30)),(2,1,(.tmp 32))],none⟩,⟨some 10,.alloc 10 [.pv (.int .i64 0),.pv (.bool false),.pv (.int .i64 0)],none⟩,⟨none,.store 3 (.tmp 10) (.tmp 33),none⟩] [2,3,5,6,7,9,10,13,22,23,24] [2,3,7,9,10])
(.seq
(.seq
(.region [⟨some 34,.fld 0 (.tmp 9),none⟩,⟨some 35,.load 1 false (.tmp 34),none⟩,⟨some 36,.fld 3 (.tmp 7),none⟩,⟨some 37,.load 1 false (.tmp 36),none⟩,⟨some 38,.bin .neq (.tmp 35) (.tmp 37),none⟩] [2,3,5,6,7,10,13,22,23,24,38] [2,3,7,10])
(.cond (.tmp 38)
(.exit 3)
.skip))
(.seq
(.region [⟨some 40,.load 7 true (.tmp 2),none⟩,⟨some 41,.load 4 true (.tmp 3),none⟩,⟨some 42,.load 3 true (.tmp 10),none⟩,⟨some 43,.call (.val (.func 182 [])) [(.tmp 40),(.tmp 41),(.tmp 42)],none⟩,⟨some 39,.mov (.tmp 43),none⟩,⟨some 44,.ext (.tmp 39) 0,none⟩,⟨some 45,.ext (.tmp 39) 1,none⟩,⟨some 11,.alloc 11 [.pv (.int .i64 0),.pv (.int .i64 0),.tl [],.tl []],none⟩,⟨none,.store 4 (.tmp 11) (.tmp 44),none⟩,⟨some 12,.mov (.tmp 45),none⟩] [2,3,5,6,7,10,12,13,22,23,24] [2,3,7,10])
(.seq
(.region [⟨some 46,.mov (.tmp 12),none⟩] [2,3,5,6,7,10,13,22,23,24,46] [2,3,7,10])
(.cond (.tmp 46)
(.region [⟨some 47,.mov (.tmp 5),none⟩,⟨some 48,.load 3 true (.tmp 10),none⟩,⟨some 49,.lit 3 [.pv (.int .i64 0),.pv (.bool false),.pv (.int .i64 0)] 1 [(0,3,(.tmp 48))],none⟩,⟨some 50,.app 3 (.tmp 47) (.tmp 49),none⟩,⟨some 5,.mov (.tmp 50),none⟩] [2,3,5,6,7,13,22,23,24] [2,3,7])
.skip)))))))
(.region [⟨some 51,.bin .add (.tmp 24) (.val (.pv (.int .i64 1))),none⟩,⟨some 24,.mov (.tmp 51),none⟩] [2,3,5,6,7,13,22,23,24] [2,3,7])))))))))))
(.region [⟨some 52,.bin .add (.tmp 13) (.val (.pv (.int .i64 1))),none⟩,⟨some 13,.mov (.tmp 52),none⟩] [2,3,5,13] [2,3]))))))))
(.seq
(.region [⟨some 53,.mov (.tmp 5),none⟩,⟨some 54,.call (.val (.func 196 [])) [(.tmp 53),(.val (.func 197 []))],none⟩] [5] [])
(.seq
(.region [⟨some 55,.mov (.tmp 5),none⟩,⟨some 4,.mov (.tmp 55),none⟩] [4] [])
.ret))))),[.tmp 4],false,false,false⟩
def F187 : AFunc := ⟨2,(.seq
(.region [⟨some 2,.box 2 7 (.tmp 0),none⟩,⟨some 3,.box 3 4 (.tmp 1),none⟩,⟨some 4,.mov (.val (.pv (.int .i64 0))),none⟩] [2,3] [2,3])
(.seq
(.seq
(.region [⟨some 6,.load 7 true (.tmp 2),none⟩,⟨some 7,.call (.val (.func 152 [])) [(.tmp 6)],none⟩,⟨some 5,.mov (.tmp 7),none⟩] [2,3,5] [2,3])
(.seq
(.region [⟨some 8,.mov (.tmp 5),none⟩,⟨some 9,.bin .neq (.tmp 8) (.val (.pv (.int .i64 0))),none⟩] [2,3,5,9] [2,3])
(.cond (.tmp 9)
(.seq
(.region [⟨some 10,.mov (.tmp 5),none⟩,⟨some 4,.mov (.tmp 10),none⟩] [4] [])
.ret)
.skip)))
(.seq
(.seq
(.region [⟨some 11,.load 7 true (.tmp 2),none⟩,⟨some 12,.load 4 true (.tmp 3),none⟩,⟨some 13,.call (.val (.func 157 [])) [(.tmp 11),(.tmp 12)],none⟩,⟨some 14,.un .not (.tmp 13),none⟩] [14] [])
(.cond (.tmp 14)
(.seq
(.region [⟨some 4,.mov (.val (.pv (.int .i64 1))),none⟩] [4] [])
.ret)
.skip))
(.seq
(.region [⟨some 4,.mov (.val (.pv (.int .i64 0))),none⟩] [4] [])
.ret)))),[.tmp 4],false,false,false⟩
def F188 : AFunc := ⟨1,(.seq
(.region [⟨some 2,.mov (.val (.pv (.bool false))),none⟩] [0] [])
(.seq
(.region [⟨some 3,.mov (.tmp 0),none⟩,⟨some 4,.bin .lss (.tmp 3) (.val (.pv (.int .i64 1))),none⟩,⟨some 5,.mov (.tmp 4),none⟩,⟨some 6,.mov (.tmp 0),some (5,false)⟩,⟨some 7,.bin .gtr (.tmp 6) (.val (.pv (.int .i64 1000))),some (5,false)⟩,⟨some 8,.pick (.tmp 5) (.val (.pv (.bool true))) (.tmp 7),none⟩,⟨some 2,.mov (.tmp 8),none⟩] [2] [])
.ret)),[.tmp 2],false,false,false⟩
def F189 : AFunc := ⟨3,(.seq
(.region [⟨some 3,.box 3 7 (.tmp 0),none⟩,⟨some 4,.box 4 4 (.tmp 1),none⟩,⟨some 6,.alloc 6 [.pv (.int .i64 0),.pv (.int .i64 0),.tl [],.pv (.int .i64 0),.tl [],.tl [],.pv (.int .i64 0)],none⟩] [2,3,4,6] [3,4,6])
(.seq
(.seq
(.region [⟨some 7,.mov (.tmp 2),none⟩,⟨some 8,.bin .eql (.tmp 7) (.val (.pv (.int .i64 0))),none⟩] [3,4,6,8] [3,4,6])
(.cond (.tmp 8)
(.seq
(.region [⟨some 9,.fld 0 (.tmp 3),none⟩,⟨some 10,.load 3 true (.tmp 9),none⟩,⟨some 11,.fld 0 (.tmp 4),none⟩,⟨some 12,.load 1 false (.tmp 11),none⟩,⟨some 13,.fld 2 (.tmp 4),none⟩,⟨some 14,.load 1 false (.tmp 13),none⟩,⟨some 15,.fld 3 (.tmp 4),none⟩,⟨some 16,.load 1 false (.tmp 15),none⟩,⟨some 17,.fld 6 (.tmp 3),none⟩,⟨some 18,.load 1 false (.tmp 17),none⟩,⟨some 19,.build [.pv (.int .i64 0),.pv (.int .i64 0),.tl [],.pv (.int .i64 0),.tl [],.tl [],.pv (.int .i64 0)] [(0,3,(.tmp 10)),(3,1,(.tmp 12)),(4,1,(.tmp 14)),(5,1,(.tmp 16)),(6,1,(.tmp 18))],none⟩,⟨none,.store 7 (.tmp 6) (.tmp 19),none⟩] [6] [6])
.ret)
.skip))
(.seq
(.region [⟨some 20,.fld 3 (.tmp 3),none⟩,⟨some 21,.load 3 true (.tmp 20),none⟩,⟨some 22,.fld 1 (.tmp 4),none⟩,⟨some 23,.load 1 false (.tmp 22),none⟩,⟨some 24,.fld 3 (.tmp 4),none⟩,⟨some 25,.load 1 false (.tmp 24),none⟩,⟨some 26,.fld 2 (.tmp 4),none⟩,⟨some 27,.load 1 false (.tmp 26),none⟩,⟨some 28,.fld 6 (.tmp 3),none⟩,⟨some 29,.load 1 false (.tmp 28),none⟩,⟨some 30,.build [.pv (.int .i64 0),.pv (.int .i64 0),.tl [],.pv (.int .i64 0),.tl [],.tl [],.pv (.int .i64 0)] [(0,3,(.tmp 21)),(3,1,(.tmp 23)),(4,1,(.tmp 25)),(5,1,(.tmp 27)),(6,1,(.tmp 29))],none⟩,⟨none,.store 7 (.tmp 6) (.tmp 30),none⟩] [6] [6])
.ret))),[.cell 6 7 true],false,false,false⟩
def F190 : AFunc := ⟨5,(.seq
(.region [⟨some 5,.box 5 4 (.tmp 0),none⟩,⟨some 10,.alloc 10 [.pv (.int .i64 0),.pv (.int .i64 0),.tl [],.tl []],none⟩] [1,2,3,4,5,10] [5,10])
(.seq
(.seq
(.region [⟨some 11,.mov (.tmp 1),none⟩,⟨some 12,.bin .eql (.tmp 11) (.val (.pv (.int .i64 0))),none⟩] [2,3,4,5,10,12] [5,10])
(.cond (.tmp 12)
(.seq
(.draw [(⟨some 13,.mov (.tmp 2),none⟩,[]),(⟨some 14,.fld 1 (.tmp 5),none⟩,[]),(⟨some 15,.load 1 false (.tmp 14),none⟩,[]),(⟨some 16,.mov (.tmp 3),none⟩,[]),(⟨some 17,.call (.val (.func 191 [])) [(.tmp 16)],none⟩,[2]),(⟨some 18,.mov (.tmp 4),none⟩,[]),(⟨some 19,.call (.val (.func 191 [])) [(.tmp 18)],none⟩,[2]),(⟨some 20,.build [.pv (.int .i64 0),.pv (.int .i64 0),.tl [],.tl []] [(0,1,(.tmp 13)),(1,1,(.tmp 15)),(2,1,(.tmp 17)),(3,1,(.tmp 19))],none⟩,[]),(⟨none,.store 4 (.tmp 10) (.tmp 20),none⟩,[])] [10] [10])
.ret)
.skip))
(.seq
(.draw [(⟨some 21,.fld 0 (.tmp 5),none⟩,[]),(⟨some 22,.load 1 false (.tmp 21),none⟩,[]),(⟨some 23,.mov (.tmp 2),none⟩,[]),(⟨some 24,.mov (.tmp 4),none⟩,[]),(⟨some 25,.call (.val (.func 191 [])) [(.tmp 24)],none⟩,[1]),(⟨some 26,.mov (.tmp 3),none⟩,[]),(⟨some 27,.call (.val (.func 191 [])) [(.tmp 26)],none⟩,[1]),(⟨some 28,.build [.pv (.int .i64 0),.pv (.int .i64 0),.tl [],.tl []] [(0,1,(.tmp 22)),(1,1,(.tmp 23)),(2,1,(.tmp 25)),(3,1,(.tmp 27))],none⟩,[]),(⟨none,.store 4 (.tmp 10) (.tmp 28),none⟩,[])] [10] [10])
.ret))),[.cell 10 4 true],false,false,false⟩
def F194 : AFunc := ⟨1,(.seq
(.region [⟨some 2,.mov (.val (.pv (.str ⟨#[]⟩))),none⟩] [0] [])
(.seq
(.region [⟨some 3,.mov (.tmp 0),none⟩,⟨some 4,.call (.val (.func 200 [])) [(.tmp 3)],none⟩,⟨some 2,.mov (.tmp 4),none⟩] [2] [])
.ret)),[.tmp 2],false,false,false⟩
def F197 : AFunc := ⟨2,(.seq
(.region [⟨some 2,.box 2 3 (.tmp 0),none⟩,⟨some 3,.box 3 3 (.tmp 1),none⟩,⟨some 4,.mov (.val (.pv (.int .i64 0))),none⟩] [2,3] [2,3])
(.seq
(.draw [(⟨some 5,.fld 0 (.tmp 2),none⟩,[]),(⟨some 6,.load 1 false (.tmp 5),none⟩,[]),(⟨some 7,.fld 0 (.tmp 3),none⟩,[]),(⟨some 8,.load 1 false (.tmp 7),none⟩,[]),(⟨some 9,.call (.val (.func 60 [])) [(.tmp 6),(.tmp 8)],none⟩,[]),(⟨some 10,.fld 1 (.tmp 2),none⟩,[]),(⟨some 11,.load 1 false (.tmp 10),none⟩,[4]),(⟨some 12,.call (.val (.func 198 [])) [(.tmp 11)],none⟩,[]),(⟨some 13,.fld 1 (.tmp 3),none⟩,[]),(⟨some 14,.load 1 false (.tmp 13),none⟩,[4,7]),(⟨some 15,.call (.val (.func 198 [])) [(.tmp 14)],none⟩,[]),(⟨some 16,.call (.val (.func 60 [])) [(.tmp 12),(.tmp 15)],none⟩,[]),(⟨some 17,.fld 2 (.tmp 2),none⟩,[]),(⟨some 18,.load 1 false (.tmp 17),none⟩,[4,7,10,11]),(⟨some 19,.fld 2 (.tmp 3),none⟩,[]),(⟨some 20,.load 1 false (.tmp 19),none⟩,[4,7,10,11]),(⟨some 21,.call (.val (.func 60 [])) [(.tmp 18),(.tmp 20)],none⟩,[]),(⟨some 22,.lit 1 [.pv (.int .i64 0)] 3 [(0,1,(.tmp 9)),(1,1,(.tmp 16)),(2,1,(.tmp 21))],none⟩,[]),(⟨some 23,.call (.val (.func 59 [])) [(.tmp 22)],none⟩,[]),(⟨some 4,.mov (.tmp 23),none⟩,[])] [4] [])
.ret)),[.tmp 4],false,false,false⟩
def F198 : AFunc := ⟨1,(.seq
(.region [⟨some 2,.mov (.val (.pv (.int .i64 0))),none⟩] [0] [])
(.seq
(.seq
(.region [⟨some 3,.mov (.tmp 0),none⟩] [3] [])
(.cond (.tmp 3)
(.seq
(.region [⟨some 2,.mov (.val (.pv (.int .i64 1))),none⟩] [2] [])
.ret)
.skip))
(.seq
(.region [⟨some 2,.mov (.val (.pv (.int .i64 0))),none⟩] [2] [])
.ret))),[.tmp 2],false,false,false⟩
def F200 : AFunc := ⟨1,(.seq
(.region [⟨some 2,.mov (.val (.pv (.str ⟨#[]⟩))),none⟩] [0] [])
(.seq
(.region [⟨some 3,.mov (.tmp 0),none⟩,⟨some 4,.call (.val (.func 203 [])) [(.tmp 3),(.val (.pv (.int .i64 10)))],none⟩,⟨some 2,.mov (.tmp 4),none⟩] [2] [])
.ret)),[.tmp 2],false,false,false⟩
def F203 : AFunc := ⟨2,(.seq
(.region [⟨some 4,.mov (.val (.pv (.str ⟨#[]⟩))),none⟩] [0,1] [])
(.seq
(.seq
(.region [⟨some 10,.mov (.tmp 1),none⟩,⟨some 11,.bin .eql (.tmp 10) (.val (.pv (.int .i64 10))),none⟩] [0,1,11] [])
(.cond (.tmp 11)
(.seq
(.seq
(.region [⟨some 12,.mov (.tmp 0),none⟩,⟨some 13,.bin .leq (.val (.pv (.int .i64 0))) (.tmp 12),none⟩,⟨some 14,.mov (.tmp 13),none⟩,⟨some 15,.mov (.tmp 0),some (14,true)⟩,⟨some 16,.bin .lss (.tmp 15) (.val (.pv (.int .i64 100))),some (14,true)⟩,⟨some 17,.pick (.tmp 14) (.tmp 16) (.val (.pv (.bool false))),none⟩] [0,17] [])
(.cond (.tmp 17)
(.seq
(.region [⟨some 18,.mov (.tmp 0),none⟩,⟨some 19,.call (.val (.func 212 [])) [(.tmp 18)],none⟩,⟨some 4,.mov (.tmp 19),none⟩] [4] [])
.ret)
.skip))
(.seq
(.region [⟨some 5,.alloc 5 [.pv (.int .u8 0),.pv (.int .u8 0),.pv (.int .u8 0),.pv (.int .u8 0),.pv (.int .u8 0),.pv (.int .u8 0),.pv (.int .u8 0),.pv (.int .u8 0),.pv (.int .u8 0),.pv (.int .u8 0),.pv (.int .u8 0),.pv (.int .u8 0),.pv (.int .u8 0),.pv (.int .u8 0),.pv (.int .u8 0),.pv (.int .u8 0),.pv (.int .u8 0),.pv (.int .u8 0),.pv (.int .u8 0),.pv (.int .u8 0),.pv (.int .u8 0),.pv (.int .u8 0),.pv (.int .u8 0),.pv (.int .u8 0)],none⟩] [0,5] [5])
(.seq
(.region [⟨some 20,.mov (.tmp 0),none⟩,⟨some 21,.conv .u64 (.tmp 20),none⟩,⟨some 6,.mov (.tmp 21),none⟩] [0,5,6] [5])
(.seq
(.seq
(.region [⟨some 22,.mov (.tmp 0),none⟩,⟨some 23,.bin .lss (.tmp 22) (.val (.pv (.int .i64 0))),none⟩] [0,5,6,23] [5])
(.cond (.tmp 23)
(.region [⟨some 24,.mov (.tmp 6),none⟩,⟨some 25,.un .neg (.tmp 24),none⟩,⟨some 6,.mov (.tmp 25),none⟩] [0,5,6] [5])
.skip))
(.seq
(.region [⟨some 26,.mov (.tmp 6),none⟩,⟨some 27,.call (.val (.func 213 [])) [(.tmp 26)],none⟩,⟨some 7,.mov (.tmp 27),none⟩] [0,5,6,7] [5])
(.seq
(.region [⟨none,.un .not (.val (.pv (.int .i64 0))),none⟩] [] [])
(.seq
(.seq
(.region [⟨some 33,.mov (.tmp 0),none⟩,⟨some 34,.bin .lss (.tmp 33) (.val (.pv (.int .i64 0))),none⟩] [5,7,34] [5])
(.cond (.tmp 34)
(.seq
(.region [⟨some 35,.idxa 24 1 (.tmp 5) (.val (.pv (.int .i64 0))),none⟩,⟨none,.store 1 (.tmp 35) (.val (.pv (.int .u8 45))),none⟩] [5,7] [5])
(.seq
(.region [⟨none,.un .not (.val (.pv (.int .i64 0))),none⟩] [] [])
.ret))
.skip))
(.seq
(.region [⟨none,.un .not (.val (.pv (.int .i64 0))),none⟩] [] [])
.ret))))))))
.skip))
(.seq
(.region [⟨some 45,.mov (.tmp 0),none⟩,⟨some 46,.conv .u64 (.tmp 45),none⟩,⟨some 47,.mov (.tmp 1),none⟩,⟨some 48,.mov (.tmp 0),none⟩,⟨some 49,.bin .lss (.tmp 48) (.val (.pv (.int .i64 0))),none⟩,⟨some 50,.call (.val (.func 215 [])) [(.val (.tl [])),(.tmp 46),(.tmp 47),(.tmp 49),(.val (.pv (.bool false)))],none⟩,⟨some 44,.mov (.tmp 50),none⟩,⟨some 51,.ext (.tmp 44) 0,none⟩,⟨some 52,.ext (.tmp 44) 1,none⟩,⟨some 8,.mov (.tmp 51),none⟩,⟨some 9,.mov (.tmp 52),none⟩] [9] [])
(.seq
(.region [⟨some 53,.mov (.tmp 9),none⟩,⟨some 4,.mov (.tmp 53),none⟩] [4] [])
.ret)))),[.tmp 4],false,false,false⟩
def F212 : AFunc := ⟨1,(.seq
(.region [⟨some 2,.mov (.val (.pv (.str ⟨#[]⟩))),none⟩] [0] [])
(.seq
(.seq
(.region [⟨some 3,.mov (.tmp 0),none⟩,⟨some 4,.bin .lss (.tmp 3) (.val (.pv (.int .i64 10))),none⟩] [0,4] [])
(.cond (.tmp 4)
(.seq
(.region [⟨some 5,.mov (.tmp 0),none⟩,⟨some 6,.mov (.tmp 0),none⟩,⟨some 7,.bin .add (.tmp 6) (.val (.pv (.int .i64 1))),none⟩,⟨some 8,.sls (.val (.pv (.str ⟨#[48,49,50,51,52,53,54,55,56,57,97,98,99,100,101,102,103,104,105,106,107,108,109,110,111,112,113,114,115,116,117,118,119,120,121,122]⟩))) (some (.tmp 5)) (some (.tmp 7)),none⟩,⟨some 2,.mov (.tmp 8),none⟩] [2] [])
.ret)
.skip))
(.seq
(.region [⟨some 9,.mov (.tmp 0),none⟩,⟨some 10,.bin .mul (.tmp 9) (.val (.pv (.int .i64 2))),none⟩,⟨some 11,.mov (.tmp 0),none⟩,⟨some 12,.bin .mul (.tmp 11) (.val (.pv (.int .i64 2))),none⟩,⟨some 13,.bin .add (.tmp 12) (.val (.pv (.int .i64 2))),none⟩,⟨some 14,.sls (.val (.pv (.str ⟨#[48,48,48,49,48,50,48,51,48,52,48,53,48,54,48,55,48,56,48,57,49,48,49,49,49,50,49,51,49,52,49,53,49,54,49,55,49,56,49,57,50,48,50,49,50,50,50,51,50,52,50,53,50,54,50,55,50,56,50,57,51,48,51,49,51,50,51,51,51,52,51,53,51,54,51,55,51,56,51,57,52,48,52,49,52,50,52,51,52,52,52,53,52,54,52,55,52,56,52,57,53,48,53,49,53,50,53,51,53,52,53,53,53,54,53,55,53,56,53,57,54,48,54,49,54,50,54,51,54,52,54,53,54,54,54,55,54,56,54,57,55,48,55,49,55,50,55,51,55,52,55,53,55,54,55,55,55,56,55,57,56,48,56,49,56,50,56,51,56,52,56,53,56,54,56,55,56,56,56,57,57,48,57,49,57,50,57,51,57,52,57,53,57,54,57,55,57,56,57,57]⟩))) (some (.tmp 10)) (some (.tmp 13)),none⟩,⟨some 2,.mov (.tmp 14),none⟩] [2] [])
.ret))),[.tmp 2],false,false,false⟩
def F213 : AFunc := ⟨1,(.seq
(.region [⟨some 2,.mov (.val (.pv (.int .i64 0))),none⟩] [0] [])
(.seq
(.region [⟨some 4,.mov (.tmp 0),none⟩,⟨some 5,.call (.val (.func 76 [])) [(.tmp 4)],none⟩,⟨some 6,.call (.val (.func 219 [])) [(.tmp 5)],none⟩,⟨some 3,.mov (.tmp 6),none⟩] [0,3] [])
(.seq
(.region [⟨none,.un .not (.val (.pv (.int .i64 0))),none⟩] [] [])
.ret))),[.tmp 2],false,false,false⟩
def F215 : AFunc := ⟨5,(.seq
(.region [⟨some 10,.mov (.val (.tl [])),none⟩,⟨some 11,.mov (.val (.pv (.str ⟨#[]⟩))),none⟩] [0,1,2,3,4,10,11] [])
(.seq
(.seq
(.region [⟨some 19,.mov (.tmp 2),none⟩,⟨some 20,.bin .lss (.tmp 19) (.val (.pv (.int .i64 2))),none⟩,⟨some 21,.mov (.tmp 20),none⟩,⟨some 22,.mov (.tmp 2),some (21,false)⟩,⟨some 23,.bin .eql (.tmp 22) (.val (.pv (.int .i64 10))),some (21,false)⟩,⟨some 24,.pick (.tmp 21) (.val (.pv (.bool true))) (.tmp 23),none⟩,⟨some 25,.mov (.tmp 24),none⟩,⟨some 26,.mov (.tmp 2),some (25,false)⟩,⟨some 27,.bin .gtr (.tmp 26) (.val (.pv (.int .i64 36))),some (25,false)⟩,⟨some 28,.pick (.tmp 25) (.val (.pv (.bool true))) (.tmp 27),none⟩] [0,1,2,3,4,10,11,28] [])
(.cond (.tmp 28)
(.region [⟨some 29,.minmax true [],none⟩,⟨none,.minmax true [],none⟩] [0,1,2,3,4,10,11] [])
.skip))
(.seq
(.region [⟨some 12,.alloc 12 [.pv (.int .u8 0),.pv (.int .u8 0),.pv (.int .u8 0),.pv (.int .u8 0),.pv (.int .u8 0),.pv (.int .u8 0),.pv (.int .u8 0),.pv (.int .u8 0),.pv (.int .u8 0),.pv (.int .u8 0),.pv (.int .u8 0),.pv (.int .u8 0),.pv (.int .u8 0),.pv (.int .u8 0),.pv (.int .u8 0),.pv (.int .u8 0),.pv (.int .u8 0),.pv (.int .u8 0),.pv (.int .u8 0),.pv (.int .u8 0),.pv (.int .u8 0),.pv (.int .u8 0),.pv (.int .u8 0),.pv (.int .u8 0),.pv (.int .u8 0),.pv (.int .u8 0),.pv (.int .u8 0),.pv (.int .u8 0),.pv (.int .u8 0),.pv (.int .u8 0),.pv (.int .u8 0),.pv (.int .u8 0),.pv (.int .u8 0),.pv (.int .u8 0),.pv (.int .u8 0),.pv (.int .u8 0),.pv (.int .u8 0),.pv (.int .u8 0),.pv (.int .u8 0),.pv (.int .u8 0),.pv (.int .u8 0),.pv (.int .u8 0),.pv (.int .u8 0),.pv (.int .u8 0),.pv (.int .u8 0),.pv (.int .u8 0),.pv (.int .u8 0),.pv (.int .u8 0),.pv (.int .u8 0),.pv (.int .u8 0),.pv (.int .u8 0),.pv (.int .u8 0),.pv (.int .u8 0),.pv (.int .u8 0),.pv (.int .u8 0),.pv (.int .u8 0),.pv (.int .u8 0),.pv (.int .u8 0),.pv (.int .u8 0),.pv (.int .u8 0),.pv (.int .u8 0),.pv (.int .u8 0),.pv (.int .u8 0),.pv (.int .u8 0),.pv (.int .u8 0)],none⟩] [0,1,2,3,4,10,11,12] [12])
(.seq
(.region [⟨some 13,.mov (.val (.pv (.int .i64 65))),none⟩] [0,1,2,3,4,10,11,12,13] [12])
(.seq
(.seq
(.region [⟨some 30,.mov (.tmp 3),none⟩] [0,1,2,3,4,10,11,12,13,30] [12])
(.cond (.tmp 30)
(.region [⟨some 31,.mov (.tmp 1),none⟩,⟨some 32,.un .neg (.tmp 31),none⟩,⟨some 1,.mov (.tmp 32),none⟩] [0,1,2,3,4,10,11,12,13] [12])
.skip))
(.seq
(.seq
(.region [⟨some 33,.mov (.tmp 2),none⟩,⟨some 34,.call (.val (.func 221 [])) [(.tmp 33)],none⟩] [0,1,2,3,4,10,11,12,13,34] [12])
(.cond (.tmp 34)
(.seq
(.region [⟨some 35,.mov (.tmp 2),none⟩,⟨some 36,.conv .u64 (.tmp 35),none⟩,⟨some 37,.call (.val (.func 222 [])) [(.tmp 36)],none⟩,⟨some 38,.conv .u64 (.tmp 37),none⟩,⟨some 14,.mov (.tmp 38),none⟩] [0,1,2,3,4,10,11,12,13,14] [12])
(.seq
(.region [⟨some 39,.mov (.tmp 2),none⟩,⟨some 40,.conv .u64 (.tmp 39),none⟩,⟨some 15,.mov (.tmp 40),none⟩] [0,1,2,3,4,10,11,12,13,14,15] [12])
(.seq
(.region [⟨some 41,.mov (.tmp 2),none⟩,⟨some 42,.conv .u64 (.tmp 41),none⟩,⟨some 43,.bin .sub (.tmp 42) (.val (.pv (.int .u64 1))),none⟩,⟨some 16,.mov (.tmp 43),none⟩] [0,1,3,4,10,11,12,13,14,15,16] [12])
(.seq
(.block 0
(.loop
(.mask [0,1,3,4,10,11,12,13,14,15,16] [12]
(.seq
(.seq
(.region [⟨some 44,.mov (.tmp 1),none⟩,⟨some 45,.mov (.tmp 15),none⟩,⟨some 46,.bin .geq (.tmp 44) (.tmp 45),none⟩] [0,1,3,4,10,11,12,13,14,15,16,46] [12])
(.cond (.tmp 46)
.skip
(.exit 0)))
(.block 1
(.seq
(.region [⟨some 47,.mov (.tmp 13),none⟩,⟨some 48,.bin .sub (.tmp 47) (.val (.pv (.int .i64 1))),none⟩,⟨some 13,.mov (.tmp 48),none⟩] [0,1,3,4,10,11,12,13,14,15,16] [12])
(.seq
(.region [⟨some 49,.mov (.tmp 13),none⟩,⟨some 50,.mov (.tmp 1),none⟩,⟨some 51,.mov (.tmp 16),none⟩,⟨some 52,.bin .and (.tmp 50) (.tmp 51),none⟩,⟨some 53,.ixs (.val (.pv (.str ⟨#[48,49,50,51,52,53,54,55,56,57,97,98,99,100,101,102,103,104,105,106,107,108,109,110,111,112,113,114,115,116,117,118,119,120,121,122]⟩))) (.tmp 52),none⟩,⟨some 54,.idxa 65 1 (.tmp 12) (.tmp 49),none⟩,⟨none,.store 1 (.tmp 54) (.tmp 53),none⟩] [0,1,3,4,10,11,12,13,14,15,16] [12])
(.region [⟨some 55,.mov (.tmp 1),none⟩,⟨some 56,.mov (.tmp 14),none⟩,⟨some 57,.bin .shr (.tmp 55) (.tmp 56),none⟩,⟨some 1,.mov (.tmp 57),none⟩] [0,1,3,4,10,11,12,13,14,15,16] [12]))))))))
(.seq
(.region [⟨some 58,.mov (.tmp 13),none⟩,⟨some 59,.bin .sub (.tmp 58) (.val (.pv (.int .i64 1))),none⟩,⟨some 13,.mov (.tmp 59),none⟩] [0,1,3,4,10,11,12,13] [12])
(.region [⟨some 60,.mov (.tmp 13),none⟩,⟨some 61,.mov (.tmp 1),none⟩,⟨some 62,.ixs (.val (.pv (.str ⟨#[48,49,50,51,52,53,54,55,56,57,97,98,99,100,101,102,103,104,105,106,107,108,109,110,111,112,113,114,115,116,117,118,119,120,121,122]⟩))) (.tmp 61),none⟩,⟨some 63,.idxa 65 1 (.tmp 12) (.tmp 60),none⟩,⟨none,.store 1 (.tmp 63) (.tmp 62),none⟩] [0,3,4,10,11,12,13] [12]))))))
(.seq
(.region [⟨some 64,.mov (.tmp 2),none⟩,⟨some 65,.conv .u64 (.tmp 64),none⟩,⟨some 17,.mov (.tmp 65),none⟩] [0,1,3,4,10,11,12,13,17] [12])
(.seq
(.block 2
(.loop
(.mask [0,1,3,4,10,11,12,13,17] [12]
(.seq
(.seq
(.region [⟨some 66,.mov (.tmp 1),none⟩,⟨some 67,.mov (.tmp 17),none⟩,⟨some 68,.bin .geq (.tmp 66) (.tmp 67),none⟩] [0,1,3,4,10,11,12,13,17,68] [12])
(.cond (.tmp 68)
.skip
(.exit 2)))
(.block 3
(.seq
(.region [⟨some 69,.mov (.tmp 13),none⟩,⟨some 70,.bin .sub (.tmp 69) (.val (.pv (.int .i64 1))),none⟩,⟨some 13,.mov (.tmp 70),none⟩] [0,1,3,4,10,11,12,13,17] [12])
(.seq
(.region [⟨some 71,.mov (.tmp 1),none⟩,⟨some 72,.mov (.tmp 17),none⟩,⟨some 73,.bin .quo (.tmp 71) (.tmp 72),none⟩,⟨some 18,.mov (.tmp 73),none⟩] [0,1,3,4,10,11,12,13,17,18] [12])
(.seq
(.region [⟨some 74,.mov (.tmp 13),none⟩,⟨some 75,.mov (.tmp 1),none⟩,⟨some 76,.mov (.tmp 18),none⟩,⟨some 77,.mov (.tmp 17),none⟩,⟨some 78,.bin .mul (.tmp 76) (.tmp 77),none⟩,⟨some 79,.bin .sub (.tmp 75) (.tmp 78),none⟩,⟨some 80,.ixs (.val (.pv (.str ⟨#[48,49,50,51,52,53,54,55,56,57,97,98,99,100,101,102,103,104,105,106,107,108,109,110,111,112,113,114,115,116,117,118,119,120,121,122]⟩))) (.tmp 79),none⟩,⟨some 81,.idxa 65 1 (.tmp 12) (.tmp 74),none⟩,⟨none,.store 1 (.tmp 81) (.tmp 80),none⟩] [0,3,4,10,11,12,13,17,18] [12])
(.region [⟨some 82,.mov (.tmp 18),none⟩,⟨some 1,.mov (.tmp 82),none⟩] [0,1,3,4,10,11,12,13,17] [12])))))))))
(.seq
(.region [⟨some 83,.mov (.tmp 13),none⟩,⟨some 84,.bin .sub (.tmp 83) (.val (.pv (.int .i64 1))),none⟩,⟨some 13,.mov (.tmp 84),none⟩] [0,1,3,4,10,11,12,13] [12])
(.region [⟨some 85,.mov (.tmp 13),none⟩,⟨some 86,.mov (.tmp 1),none⟩,⟨some 87,.ixs (.val (.pv (.str ⟨#[48,49,50,51,52,53,54,55,56,57,97,98,99,100,101,102,103,104,105,106,107,108,109,110,111,112,113,114,115,116,117,118,119,120,121,122]⟩))) (.tmp 86),none⟩,⟨some 88,.idxa 65 1 (.tmp 12) (.tmp 85),none⟩,⟨none,.store 1 (.tmp 88) (.tmp 87),none⟩] [0,3,4,10,11,12,13] [12]))))))
(.seq
(.seq
(.region [⟨some 89,.mov (.tmp 3),none⟩] [0,4,10,11,12,13,89] [12])
(.cond (.tmp 89)
(.seq
(.region [⟨some 90,.mov (.tmp 13),none⟩,⟨some 91,.bin .sub (.tmp 90) (.val (.pv (.int .i64 1))),none⟩,⟨some 13,.mov (.tmp 91),none⟩] [0,4,10,11,12,13] [12])
(.region [⟨some 92,.mov (.tmp 13),none⟩,⟨some 93,.idxa 65 1 (.tmp 12) (.tmp 92),none⟩,⟨none,.store 1 (.tmp 93) (.val (.pv (.int .u8 45))),none⟩] [0,4,10,11,12,13] [12]))
.skip))
(.seq
(.seq
(.region [⟨some 94,.mov (.tmp 4),none⟩] [0,10,11,12,13,94] [12])
(.cond (.tmp 94)
(.seq
(.region [⟨none,.un .not (.val (.pv (.int .i64 0))),none⟩] [] [])
.ret)
.skip))
(.seq
(.region [⟨none,.un .not (.val (.pv (.int .i64 0))),none⟩] [] [])
.ret))))))))),[.tmp 10,.tmp 11],false,false,false⟩
def F219 : AFunc := ⟨1,(.seq
(.region [⟨some 2,.mov (.val (.pv (.int .i64 0))),none⟩] [0] [])
(.seq
(.region [⟨some 3,.mov (.tmp 0),none⟩,⟨some 4,.bin .mul (.tmp 3) (.val (.pv (.int .i64 78913))),none⟩,⟨some 5,.bin .shr (.tmp 4) (.val (.pv (.int .u64 18))),none⟩,⟨some 2,.mov (.tmp 5),none⟩] [2] [])
.ret)),[.tmp 2],false,false,false⟩
def F221 : AFunc := ⟨1,(.seq
(.region [⟨some 2,.mov (.val (.pv (.bool false))),none⟩] [0] [])
(.seq
(.region [⟨some 3,.mov (.tmp 0),none⟩,⟨some 4,.mov (.tmp 0),none⟩,⟨some 5,.bin .sub (.tmp 4) (.val (.pv (.int .i64 1))),none⟩,⟨some 6,.bin .and (.tmp 3) (.tmp 5),none⟩,⟨some 7,.bin .eql (.tmp 6) (.val (.pv (.int .i64 0))),none⟩,⟨some 2,.mov (.tmp 7),none⟩] [2] [])
.ret)),[.tmp 2],false,false,false⟩
def F222 : AFunc := ⟨1,(.seq
(.region [⟨some 2,.mov (.val (.pv (.int .i64 0))),none⟩] [0] [])
(.seq
(.cond (.val (.pv (.bool false)))
(.seq
(.region [⟨some 3,.mov (.tmp 0),none⟩,⟨some 4,.conv .u32 (.tmp 3),none⟩,⟨some 5,.call (.val (.func 224 [])) [(.tmp 4)],none⟩,⟨some 2,.mov (.tmp 5),none⟩] [2] [])
.ret)
.skip)
(.seq
(.region [⟨some 6,.mov (.tmp 0),none⟩,⟨some 7,.call (.val (.func 225 [])) [(.tmp 6)],none⟩,⟨some 2,.mov (.tmp 7),none⟩] [2] [])
.ret))),[.tmp 2],false,false,false⟩
def F224 : AFunc := ⟨1,(.seq
(.region [⟨some 2,.mov (.val (.pv (.int .i64 0))),none⟩] [0] [])
(.seq
(.seq
(.region [⟨some 3,.mov (.tmp 0),none⟩,⟨some 4,.bin .eql (.tmp 3) (.val (.pv (.int .u32 0))),none⟩] [0,4] [])
(.cond (.tmp 4)
(.seq
(.region [⟨some 2,.mov (.val (.pv (.int .i64 32))),none⟩] [2] [])
.ret)
.skip))
(.seq
(.region [⟨none,.un .not (.val (.pv (.int .i64 0))),none⟩] [] [])
.ret))),[.tmp 2],false,false,false⟩
def F225 : AFunc := ⟨1,(.seq
(.region [⟨some 2,.mov (.val (.pv (.int .i64 0))),none⟩] [0] [])
(.seq
(.seq
(.region [⟨some 3,.mov (.tmp 0),none⟩,⟨some 4,.bin .eql (.tmp 3) (.val (.pv (.int .u64 0))),none⟩] [0,4] [])
(.cond (.tmp 4)
(.seq
(.region [⟨some 2,.mov (.val (.pv (.int .i64 64))),none⟩] [2] [])
.ret)
.skip))
(.seq
(.region [⟨none,.un .not (.val (.pv (.int .i64 0))),none⟩] [] [])
.ret))),[.tmp 2],false,false,false⟩
def F233 : AFunc := ⟨1,(.seq
(.region [⟨some 1,.box 1 6 (.tmp 0),none⟩,⟨some 2,.mov (.val (.pv (.bool false))),none⟩] [1] [1])
(.seq
(.region [⟨some 21,.load 6 true (.tmp 1),none⟩,⟨some 22,.call (.val (.func 164 [])) [(.tmp 21)],none⟩,⟨some 20,.mov (.tmp 22),none⟩,⟨some 23,.ext (.tmp 20) 0,none⟩,⟨some 24,.ext (.tmp 20) 1,none⟩,⟨some 3,.alloc 3 [.pv (.int .i64 0),.pv (.int .i64 0),.tl [],.pv (.int .i64 0),.pv (.int .i64 0),.tl [],.pv (.int .i64 0)],none⟩,⟨none,.store 7 (.tmp 3) (.tmp 23),none⟩,⟨some 4,.mov (.tmp 24),none⟩] [3,4] [3])
(.seq
(.seq
(.region [⟨some 25,.call (.val (.func 235 [])) [],none⟩,⟨some 26,.un .not (.tmp 25),none⟩,⟨some 27,.mov (.tmp 26),none⟩,⟨some 28,.mov (.tmp 4),some (27,false)⟩,⟨some 29,.un .not (.tmp 28),some (27,false)⟩,⟨some 30,.pick (.tmp 27) (.val (.pv (.bool true))) (.tmp 29),none⟩] [3,30] [3])
(.cond (.tmp 30)
(.seq
(.region [⟨some 31,.call (.val (.func 235 [])) [],none⟩,⟨some 2,.mov (.tmp 31),none⟩] [2] [])
.ret)
.skip))
(.seq
(.region [⟨some 33,.load 7 true (.tmp 3),none⟩,⟨some 34,.call (.val (.func 240 [])) [(.tmp 33)],none⟩,⟨some 32,.mov (.tmp 34),none⟩,⟨some 35,.ext (.tmp 32) 0,none⟩,⟨some 36,.ext (.tmp 32) 1,none⟩,⟨some 37,.ext (.tmp 32) 2,none⟩,⟨some 38,.ext (.tmp 32) 3,none⟩,⟨some 6,.alloc 6 [.pv (.int .i64 0),.pv (.int .i64 0),.tl [],.tl []],none⟩,⟨some 5,.mov (.tmp 35),none⟩,⟨none,.store 4 (.tmp 6) (.tmp 36),none⟩,⟨some 7,.mov (.tmp 37),none⟩,⟨some 8,.mov (.tmp 38),none⟩] [3,5,6,8] [3,6])
(.seq
(.seq
(.region [⟨some 39,.mov (.tmp 8),none⟩,⟨some 40,.bin .neq (.tmp 39) (.val (.pv (.int .i64 0))),none⟩] [3,5,6,8,40] [3,6])
(.cond (.tmp 40)
(.seq
(.region [⟨some 41,.mov (.tmp 8),none⟩,⟨some 42,.bin .eql (.tmp 41) (.val (.pv (.int .i64 15))),none⟩,⟨some 2,.mov (.tmp 42),none⟩] [2] [])
.ret)
.skip))
(.seq
(.region [⟨some 44,.load 7 true (.tmp 3),none⟩,⟨some 45,.mov (.tmp 5),none⟩,⟨some 46,.call (.val (.func 161 [])) [(.tmp 44),(.tmp 45)],none⟩,⟨some 43,.mov (.tmp 46),none⟩,⟨some 47,.ext (.tmp 43) 0,none⟩,⟨some 48,.ext (.tmp 43) 1,none⟩,⟨some 49,.ext (.tmp 43) 2,none⟩,⟨some 9,.alloc 9 [.pv (.int .i64 0),.pv (.int .i64 0),.tl [],.tl []],none⟩,⟨none,.store 4 (.tmp 9) (.tmp 47),none⟩,⟨some 10,.mov (.tmp 48),none⟩,⟨some 11,.mov (.tmp 49),none⟩] [3,5,6,9,10,11] [3,6,9])
(.seq
(.region [⟨some 51,.load 7 true (.tmp 3),none⟩,⟨some 52,.load 4 true (.tmp 6),none⟩,⟨some 53,.call (.val (.func 237 [])) [(.tmp 51),(.tmp 52)],none⟩,⟨some 50,.mov (.tmp 53),none⟩,⟨some 54,.ext (.tmp 50) 0,none⟩,⟨some 55,.ext (.tmp 50) 1,none⟩,⟨some 12,.mov (.tmp 54),none⟩,⟨some 13,.mov (.tmp 55),none⟩] [3,5,6,9,10,11,13] [3,6,9])
(.seq
(.seq
(.region [⟨some 56,.mov (.tmp 11),none⟩,⟨some 57,.bin .neq (.tmp 56) (.val (.pv (.int .i64 0))),none⟩,⟨some 58,.mov (.tmp 57),none⟩,⟨some 59,.mov (.tmp 10),some (58,false)⟩,⟨some 60,.mov (.tmp 5),some (58,false)⟩,⟨some 61,.len 0 (.tmp 60),some (58,false)⟩,⟨some 62,.bin .neq (.tmp 59) (.tmp 61),some (58,false)⟩,⟨some 63,.pick (.tmp 58) (.val (.pv (.bool true))) (.tmp 62),none⟩,⟨some 64,.mov (.tmp 63),none⟩,⟨some 65,.load 4 true (.tmp 9),some (64,false)⟩,⟨some 66,.load 4 true (.tmp 6),some (64,false)⟩,⟨some 67,.call (.val (.func 154 [])) [(.tmp 65),(.tmp 66)],some (64,false)⟩,⟨some 68,.un .not (.tmp 67),some (64,false)⟩,⟨some 69,.pick (.tmp 64) (.val (.pv (.bool true))) (.tmp 68),none⟩,⟨some 70,.mov (.tmp 69),none⟩,⟨some 71,.mov (.tmp 13),some (70,false)⟩,⟨some 72,.bin .neq (.tmp 71) (.val (.pv (.int .i64 18))),some (70,false)⟩,⟨some 73,.pick (.tmp 70) (.val (.pv (.bool true))) (.tmp 72),none⟩] [3,5,73] [3])
(.cond (.tmp 73)
(.seq
(.region [⟨some 2,.mov (.val (.pv (.bool false))),none⟩] [2] [])
.ret)
.skip))
(.seq
(.seq
(.region [⟨some 74,.mov (.tmp 5),none⟩,⟨some 75,.len 0 (.tmp 74),none⟩,⟨some 76,.mov (.val (.pv (.int .i64 0))),none⟩] [3,5,75,76] [3])
(.block 0
(.loop
(.mask [3,5,75,76] [3]
(.seq
(.region [⟨some 77,.bin .lss (.tmp 76) (.tmp 75),none⟩] [3,5,75,76,77] [3])
(.seq
(.cond (.tmp 77)
.skip
(.exit 0))
(.seq
(.block 1
(.seq
(.region [⟨some 78,.mov (.tmp 76),none⟩,⟨some 14,.mov (.tmp 78),none⟩] [3,5,14,75,76] [3])
(.seq
(.draw [(⟨some 80,.load 7 true (.tmp 3),none⟩,[]),(⟨some 81,.mov (.tmp 5),none⟩,[]),(⟨some 82,.mov (.tmp 14),none⟩,[]),(⟨some 83,.sl 3 (.tmp 81) none (some (.tmp 82)) none,none⟩,[]),(⟨some 84,.call (.val (.func 161 [])) [(.tmp 80),(.tmp 83)],none⟩,[]),(⟨some 79,.mov (.tmp 84),none⟩,[]),(⟨some 85,.ext (.tmp 79) 0,none⟩,[]),(⟨some 86,.ext (.tmp 79) 1,none⟩,[]),(⟨some 87,.ext (.tmp 79) 2,none⟩,[]),(⟨some 15,.alloc 15 [.pv (.int .i64 0),.pv (.int .i64 0),.tl [],.tl []],none⟩,[0,3,4]),(⟨none,.store 4 (.tmp 15) (.tmp 85),none⟩,[]),(⟨some 16,.mov (.tmp 86),none⟩,[]),(⟨some 17,.mov (.tmp 87),none⟩,[])] [3,5,15,17,75,76] [3,15])
(.seq
(.region [⟨some 89,.load 7 true (.tmp 3),none⟩,⟨some 90,.load 4 true (.tmp 15),none⟩,⟨some 91,.call (.val (.func 241 [])) [(.tmp 89),(.tmp 90)],none⟩,⟨some 88,.mov (.tmp 91),none⟩,⟨some 92,.ext (.tmp 88) 0,none⟩,⟨some 93,.ext (.tmp 88) 1,none⟩,⟨some 18,.mov (.tmp 92),none⟩,⟨some 19,.mov (.tmp 93),none⟩] [3,5,17,19,75,76] [3])
(.seq
(.region [⟨some 94,.mov (.tmp 17),none⟩,⟨some 95,.bin .neq (.tmp 94) (.val (.pv (.int .i64 0))),none⟩,⟨some 96,.mov (.tmp 95),none⟩,⟨some 97,.mov (.tmp 19),some (96,false)⟩,⟨some 98,.bin .neq (.tmp 97) (.val (.pv (.int .i64 15))),some (96,false)⟩,⟨some 99,.pick (.tmp 96) (.val (.pv (.bool true))) (.tmp 98),none⟩] [3,5,75,76,99] [3])
(.cond (.tmp 99)
(.seq
(.region [⟨some 2,.mov (.val (.pv (.bool false))),none⟩] [2] [])
.ret)
.skip))))))
(.region [⟨some 100,.bin .add (.tmp 76) (.val (.pv (.int .i64 1))),none⟩,⟨some 76,.mov (.tmp 100),none⟩] [3,5,75,76] [3]))))))))
(.seq
(.region [⟨some 2,.mov (.val (.pv (.bool true))),none⟩] [2] [])
.ret)))))))))),[.tmp 2],false,false,false⟩
def F234 : AFunc := ⟨2,(.seq
(.region [⟨some 2,.box 2 7 (.tmp 0),none⟩,⟨some 3,.box 3 4 (.tmp 1),none⟩,⟨some 4,.mov (.val (.pv (.bool false))),none⟩] [2,3] [2,3])
(.seq
(.region [⟨some 18,.load 7 true (.tmp 2),none⟩,⟨some 19,.call (.val (.func 153 [])) [(.tmp 18)],none⟩,⟨some 5,.mov (.tmp 19),none⟩] [2,3,5] [2,3])
(.seq
(.seq
(.region [⟨some 20,.call (.val (.func 235 [])) [],none⟩,⟨some 21,.un .not (.tmp 20),none⟩,⟨some 22,.mov (.tmp 21),none⟩,⟨some 23,.mov (.tmp 5),some (22,false)⟩,⟨some 24,.bin .eql (.tmp 23) (.val (.pv (.int .i64 0))),some (22,false)⟩,⟨some 25,.pick (.tmp 22) (.val (.pv (.bool true))) (.tmp 24),none⟩,⟨some 26,.mov (.tmp 25),none⟩,⟨some 27,.fld 0 (.tmp 2),some (26,false)⟩,⟨some 28,.fld 2 (.tmp 27),some (26,false)⟩,⟨some 29,.load 1 false (.tmp 28),some (26,false)⟩,⟨some 30,.len 0 (.tmp 29),some (26,false)⟩,⟨some 31,.bin .gtr (.tmp 30) (.val (.pv (.int .i64 110))),some (26,false)⟩,⟨some 32,.pick (.tmp 26) (.val (.pv (.bool true))) (.tmp 31),none⟩,⟨some 33,.mov (.tmp 32),none⟩,⟨some 34,.fld 3 (.tmp 2),some (33,false)⟩,⟨some 35,.fld 2 (.tmp 34),some (33,false)⟩,⟨some 36,.load 1 false (.tmp 35),some (33,false)⟩,⟨some 37,.len 0 (.tmp 36),some (33,false)⟩,⟨some 38,.bin .gtr (.tmp 37) (.val (.pv (.int .i64 110))),some (33,false)⟩,⟨some 39,.pick (.tmp 33) (.val (.pv (.bool true))) (.tmp 38),none⟩,⟨some 40,.mov (.tmp 39),none⟩,⟨some 41,.fld 2 (.tmp 3),some (40,false)⟩,⟨some 42,.load 1 false (.tmp 41),some (40,false)⟩,⟨some 43,.len 0 (.tmp 42),some (40,false)⟩,⟨some 44,.fld 3 (.tmp 3),some (40,false)⟩,⟨some 45,.load 1 false (.tmp 44),some (40,false)⟩,⟨some 46,.len 0 (.tmp 45),some (40,false)⟩,⟨some 47,.bin .add (.tmp 43) (.tmp 46),some (40,false)⟩,⟨some 48,.bin .gtr (.tmp 47) (.val (.pv (.int .i64 20))),some (40,false)⟩,⟨some 49,.pick (.tmp 40) (.val (.pv (.bool true))) (.tmp 48),none⟩] [2,3,5,49] [2,3])
(.cond (.tmp 49)
(.seq
(.region [⟨some 50,.call (.val (.func 235 [])) [],none⟩,⟨some 4,.mov (.tmp 50),none⟩] [4] [])
.ret)
.skip))
(.seq
(.region [⟨some 52,.load 7 true (.tmp 2),none⟩,⟨some 53,.call (.val (.func 242 [])) [(.tmp 52)],none⟩,⟨some 51,.mov (.tmp 53),none⟩,⟨some 54,.ext (.tmp 51) 0,none⟩,⟨some 55,.ext (.tmp 51) 1,none⟩,⟨some 6,.mov (.tmp 54),none⟩,⟨some 7,.mov (.tmp 55),none⟩] [2,3,5,6,7] [2,3])
(.seq
(.region [⟨some 57,.load 7 true (.tmp 2),none⟩,⟨some 58,.call (.val (.func 240 [])) [(.tmp 57)],none⟩,⟨some 56,.mov (.tmp 58),none⟩,⟨some 59,.ext (.tmp 56) 0,none⟩,⟨some 60,.ext (.tmp 56) 1,none⟩,⟨some 61,.ext (.tmp 56) 2,none⟩,⟨some 62,.ext (.tmp 56) 3,none⟩,⟨some 9,.alloc 9 [.pv (.int .i64 0),.pv (.int .i64 0),.tl [],.tl []],none⟩,⟨some 8,.mov (.tmp 59),none⟩,⟨none,.store 4 (.tmp 9) (.tmp 60),none⟩,⟨some 10,.mov (.tmp 61),none⟩,⟨some 11,.mov (.tmp 62),none⟩] [2,3,5,6,7,8,9,10,11] [2,3,9])
(.seq
(.region [⟨some 64,.load 7 true (.tmp 2),none⟩,⟨some 65,.call (.val (.func 236 [])) [(.tmp 64)],none⟩,⟨some 63,.mov (.tmp 65),none⟩,⟨some 66,.ext (.tmp 63) 0,none⟩,⟨some 67,.ext (.tmp 63) 1,none⟩,⟨some 12,.mov (.tmp 66),none⟩,⟨some 13,.mov (.tmp 67),none⟩] [2,3,5,6,7,8,9,10,11,12,13] [2,3,9])
(.seq
(.region [⟨some 69,.load 7 true (.tmp 2),none⟩,⟨some 70,.load 4 true (.tmp 3),none⟩,⟨some 71,.call (.val (.func 237 [])) [(.tmp 69),(.tmp 70)],none⟩,⟨some 68,.mov (.tmp 71),none⟩,⟨some 72,.ext (.tmp 68) 0,none⟩,⟨some 73,.ext (.tmp 68) 1,none⟩,⟨some 14,.mov (.tmp 72),none⟩,⟨some 15,.mov (.tmp 73),none⟩] [2,3,5,6,7,8,9,10,11,12,13,14,15] [2,3,9])
(.seq
(.region [⟨some 75,.load 7 true (.tmp 2),none⟩,⟨some 76,.load 4 true (.tmp 3),none⟩,⟨some 77,.call (.val (.func 241 [])) [(.tmp 75),(.tmp 76)],none⟩,⟨some 74,.mov (.tmp 77),none⟩,⟨some 78,.ext (.tmp 74) 0,none⟩,⟨some 79,.ext (.tmp 74) 1,none⟩,⟨some 16,.mov (.tmp 78),none⟩,⟨some 17,.mov (.tmp 79),none⟩] [2,5,6,7,8,9,10,11,12,13,14,15,16,17] [2,9])
(.seq
(.region [⟨some 80,.mov (.tmp 6),none⟩,⟨some 81,.un .not (.tmp 80),none⟩,⟨some 82,.mov (.tmp 81),none⟩,⟨some 83,.mov (.tmp 7),some (82,true)⟩,⟨some 84,.mov (.tmp 5),some (82,true)⟩,⟨some 85,.bin .eql (.tmp 83) (.tmp 84),some (82,true)⟩,⟨some 86,.pick (.tmp 82) (.tmp 85) (.val (.pv (.bool false))),none⟩,⟨some 87,.mov (.tmp 86),none⟩,⟨some 88,.mov (.tmp 11),some (87,true)⟩,⟨some 89,.mov (.tmp 5),some (87,true)⟩,⟨some 90,.bin .eql (.tmp 88) (.tmp 89),some (87,true)⟩,⟨some 91,.pick (.tmp 87) (.tmp 90) (.val (.pv (.bool false))),none⟩,⟨some 92,.mov (.tmp 91),none⟩,⟨some 93,.mov (.tmp 13),some (92,true)⟩,⟨some 94,.mov (.tmp 5),some (92,true)⟩,⟨some 95,.bin .eql (.tmp 93) (.tmp 94),some (92,true)⟩,⟨some 96,.pick (.tmp 92) (.tmp 95) (.val (.pv (.bool false))),none⟩,⟨some 97,.mov (.tmp 96),none⟩,⟨some 98,.mov (.tmp 15),some (97,true)⟩,⟨some 99,.mov (.tmp 5),some (97,true)⟩,⟨some 100,.bin .eql (.tmp 98) (.tmp 99),some (97,true)⟩,⟨some 101,.pick (.tmp 97) (.tmp 100) (.val (.pv (.bool false))),none⟩,⟨some 102,.mov (.tmp 101),none⟩,⟨some 103,.mov (.tmp 17),some (102,true)⟩,⟨some 104,.mov (.tmp 5),some (102,true)⟩,⟨some 105,.bin .eql (.tmp 103) (.tmp 104),some (102,true)⟩,⟨some 106,.pick (.tmp 102) (.tmp 105) (.val (.pv (.bool false))),none⟩,⟨some 107,.mov (.tmp 106),none⟩,⟨some 108,.mov (.tmp 8),some (107,true)⟩,⟨some 109,.len 0 (.tmp 108),some (107,true)⟩,⟨some 110,.mov (.tmp 12),some (107,true)⟩,⟨some 111,.len 0 (.tmp 110),some (107,true)⟩,⟨some 112,.bin .add (.tmp 109) (.tmp 111),some (107,true)⟩,⟨some 113,.mov (.tmp 14),some (107,true)⟩,⟨some 114,.len 0 (.tmp 113),some (107,true)⟩,⟨some 115,.bin .add (.tmp 112) (.tmp 114),some (107,true)⟩,⟨some 116,.mov (.tmp 10),some (107,true)⟩,⟨some 117,.bin .add (.tmp 115) (.tmp 116),some (107,true)⟩,⟨some 118,.mov (.tmp 16),some (107,true)⟩,⟨some 119,.bin .add (.tmp 117) (.tmp 118),some (107,true)⟩,⟨some 120,.bin .eql (.tmp 119) (.val (.pv (.int .i64 0))),some (107,true)⟩,⟨some 121,.pick (.tmp 107) (.tmp 120) (.val (.pv (.bool false))),none⟩,⟨some 122,.mov (.tmp 121),none⟩,⟨some 123,.load 4 true (.tmp 9),some (122,true)⟩,⟨some 124,.build [.pv (.int .i64 0),.pv (.int .i64 0),.tl [],.tl []] [],some (122,true)⟩,⟨some 125,.call (.val (.func 154 [])) [(.tmp 123),(.tmp 124)],some (122,true)⟩,⟨some 126,.pick (.tmp 122) (.tmp 125) (.val (.pv (.bool false))),none⟩,⟨some 127,.mov (.tmp 126),none⟩,⟨some 128,.load 7 true (.tmp 2),some (127,true)⟩,⟨some 129,.call (.val (.func 243 [])) [(.tmp 128),(.val (.tl []))],some (127,true)⟩,⟨some 130,.un .not (.tmp 129),some (127,true)⟩,⟨some 131,.pick (.tmp 127) (.tmp 130) (.val (.pv (.bool false))),none⟩,⟨some 4,.mov (.tmp 131),none⟩] [4] [])
.ret))))))))),[.tmp 4],false,false,false⟩
def F235 : AFunc := ⟨0,(.seq
(.region [⟨some 0,.mov (.val (.pv (.bool false))),none⟩] [] [])
(.seq
(.region [⟨some 11,.call (.val (.func 244 [])) [(.val (.pv (.bool false)))],none⟩,⟨some 12,.call (.val (.func 236 [])) [(.tmp 11)],none⟩,⟨some 10,.mov (.tmp 12),none⟩,⟨some 13,.ext (.tmp 10) 0,none⟩,⟨some 14,.ext (.tmp 10) 1,none⟩,⟨some 1,.mov (.tmp 13),none⟩,⟨some 2,.mov (.tmp 14),none⟩] [1,2] [])
(.seq
(.region [⟨some 16,.call (.val (.func 244 [])) [(.val (.pv (.bool true)))],none⟩,⟨some 17,.call (.val (.func 240 [])) [(.tmp 16)],none⟩,⟨some 15,.mov (.tmp 17),none⟩,⟨some 18,.ext (.tmp 15) 0,none⟩,⟨some 19,.ext (.tmp 15) 1,none⟩,⟨some 20,.ext (.tmp 15) 2,none⟩,⟨some 21,.ext (.tmp 15) 3,none⟩,⟨some 4,.alloc 4 [.pv (.int .i64 0),.pv (.int .i64 0),.tl [],.tl []],none⟩,⟨some 3,.mov (.tmp 18),none⟩,⟨none,.store 4 (.tmp 4) (.tmp 19),none⟩,⟨some 5,.mov (.tmp 20),none⟩,⟨some 6,.mov (.tmp 21),none⟩] [1,2,3,5,6] [])
(.seq
(.region [⟨some 23,.call (.val (.func 244 [])) [(.val (.pv (.bool true)))],none⟩,⟨some 24,.lit 1 [.pv (.int .i64 0)] 1 [(0,1,(.val (.pv (.int .i64 3))))],none⟩,⟨some 25,.lit 1 [.pv (.int .i64 0)] 1 [(0,1,(.val (.pv (.int .i64 1))))],none⟩,⟨some 26,.build [.pv (.int .i64 0),.pv (.int .i64 0),.tl [],.tl []] [(0,1,(.val (.pv (.int .i64 1)))),(1,1,(.val (.pv (.int .i64 2)))),(2,1,(.tmp 24)),(3,1,(.tmp 25))],none⟩,⟨some 27,.call (.val (.func 241 [])) [(.tmp 23),(.tmp 26)],none⟩,⟨some 22,.mov (.tmp 27),none⟩,⟨some 28,.ext (.tmp 22) 0,none⟩,⟨some 29,.ext (.tmp 22) 1,none⟩,⟨some 7,.mov (.tmp 28),none⟩,⟨some 8,.mov (.tmp 29),none⟩] [1,2,3,5,6,7,8] [])
(.seq
(.region [⟨some 30,.mov (.tmp 2),none⟩,⟨some 31,.bin .eql (.tmp 30) (.val (.pv (.int .i64 0))),none⟩,⟨some 32,.mov (.tmp 31),none⟩,⟨some 33,.mov (.tmp 6),some (32,true)⟩,⟨some 34,.bin .eql (.tmp 33) (.val (.pv (.int .i64 0))),some (32,true)⟩,⟨some 35,.pick (.tmp 32) (.tmp 34) (.val (.pv (.bool false))),none⟩,⟨some 36,.mov (.tmp 35),none⟩,⟨some 37,.mov (.tmp 8),some (36,true)⟩,⟨some 38,.bin .eql (.tmp 37) (.val (.pv (.int .i64 0))),some (36,true)⟩,⟨some 39,.pick (.tmp 36) (.tmp 38) (.val (.pv (.bool false))),none⟩,⟨some 40,.mov (.tmp 39),none⟩,⟨some 41,.mov (.tmp 1),some (40,true)⟩,⟨some 42,.len 0 (.tmp 41),some (40,true)⟩,⟨some 43,.bin .eql (.tmp 42) (.val (.pv (.int .i64 5))),some (40,true)⟩,⟨some 44,.pick (.tmp 40) (.tmp 43) (.val (.pv (.bool false))),none⟩,⟨some 9,.mov (.tmp 44),none⟩] [1,3,5,7,9] [])
(.seq
(.region [⟨some 45,.mov (.tmp 9),none⟩,⟨some 46,.mov (.tmp 45),none⟩,⟨some 47,.mov (.tmp 1),some (46,true)⟩,⟨some 48,.idx 5 (.tmp 47) (.val (.pv (.int .i64 0))),some (46,true)⟩,⟨some 49,.fld 4 (.tmp 48),some (46,true)⟩,⟨some 50,.load 1 false (.tmp 49),some (46,true)⟩,⟨some 51,.bin .eql (.tmp 50) (.val (.pv (.int .i64 4))),some (46,true)⟩,⟨some 52,.pick (.tmp 46) (.tmp 51) (.val (.pv (.bool false))),none⟩,⟨some 53,.mov (.tmp 52),none⟩,⟨some 54,.mov (.tmp 1),some (53,true)⟩,⟨some 55,.idx 5 (.tmp 54) (.val (.pv (.int .i64 4))),some (53,true)⟩,⟨some 56,.fld 4 (.tmp 55),some (53,true)⟩,⟨some 57,.load 1 false (.tmp 56),some (53,true)⟩,⟨some 58,.bin .eql (.tmp 57) (.val (.pv (.int .i64 0))),some (53,true)⟩,⟨some 59,.pick (.tmp 53) (.tmp 58) (.val (.pv (.bool false))),none⟩,⟨some 60,.mov (.tmp 59),none⟩,⟨some 61,.mov (.tmp 3),some (60,true)⟩,⟨some 62,.build [.pv (.int .i64 0),.pv (.bool false),.pv (.int .i64 0)] [(0,1,(.val (.pv (.int .i64 1)))),(1,1,(.val (.pv (.bool true)))),(2,1,(.val (.pv (.int .i64 3))))],some (60,true)⟩,⟨some 63,.lit 3 [.pv (.int .i64 0),.pv (.bool false),.pv (.int .i64 0)] 1 [(0,3,(.tmp 62))],some (60,true)⟩,⟨some 64,.call (.val (.func 245 [])) [(.tmp 61),(.tmp 63)],some (60,true)⟩,⟨some 65,.pick (.tmp 60) (.tmp 64) (.val (.pv (.bool false))),none⟩,⟨some 66,.mov (.tmp 65),none⟩,⟨some 67,.mov (.tmp 5),some (66,true)⟩,⟨some 68,.bin .eql (.tmp 67) (.val (.pv (.int .i64 4))),some (66,true)⟩,⟨some 69,.pick (.tmp 66) (.tmp 68) (.val (.pv (.bool false))),none⟩,⟨some 70,.mov (.tmp 69),none⟩,⟨some 71,.mov (.tmp 7),some (70,true)⟩,⟨some 72,.bin .eql (.tmp 71) (.val (.pv (.int .i64 1))),some (70,true)⟩,⟨some 73,.pick (.tmp 70) (.tmp 72) (.val (.pv (.bool false))),none⟩,⟨some 0,.mov (.tmp 73),none⟩] [0] [])
.ret)))))),[.tmp 0],false,false,false⟩
def F236 : AFunc := ⟨1,(.seq
(.region [⟨some 1,.box 1 7 (.tmp 0),none⟩,⟨some 2,.mov (.val (.tl [])),none⟩,⟨some 3,.mov (.val (.pv (.int .i64 0))),none⟩] [1] [1])
(.seq
(.region [⟨some 10,.load 7 true (.tmp 1),none⟩,⟨some 11,.call (.val (.func 246 [])) [(.tmp 10)],none⟩,⟨some 9,.mov (.tmp 11),none⟩,⟨some 12,.ext (.tmp 9) 0,none⟩,⟨some 13,.ext (.tmp 9) 1,none⟩,⟨some 4,.mov (.tmp 12),none⟩,⟨some 5,.mov (.tmp 13),none⟩] [4,5] [])
(.seq
(.seq
(.region [⟨some 14,.mov (.tmp 5),none⟩,⟨some 15,.bin .neq (.tmp 14) (.val (.pv (.int .i64 0))),none⟩] [4,5,15] [])
(.cond (.tmp 15)
(.seq
(.region [⟨some 16,.mov (.tmp 5),none⟩,⟨some 2,.mov (.val (.tl [])),none⟩,⟨some 3,.mov (.tmp 16),none⟩] [2,3] [])
.ret)
.skip))
(.seq
(.region [⟨some 6,.mov (.val (.tl [])),none⟩] [4,6] [])
(.seq
(.seq
(.region [⟨some 17,.mov (.tmp 4),none⟩,⟨some 18,.call (.val (.func 247 [])) [(.tmp 17)],none⟩,⟨some 19,.len 0 (.tmp 18),none⟩,⟨some 20,.mov (.val (.pv (.int .i64 0))),none⟩] [4,6,18,19,20] [])
(.block 0
(.loop
(.mask [4,6,18,19,20] []
(.seq
(.region [⟨some 21,.bin .lss (.tmp 20) (.tmp 19),none⟩] [4,6,18,19,20,21] [])
(.seq
(.cond (.tmp 21)
.skip
(.exit 0))
(.seq
(.block 1
(.seq
(.region [⟨some 22,.mov (.tmp 20),none⟩,⟨some 23,.idx 1 (.tmp 18) (.tmp 20),none⟩,⟨some 24,.load 1 false (.tmp 23),none⟩,⟨some 7,.mov (.tmp 22),none⟩,⟨some 8,.mov (.tmp 24),none⟩] [4,6,7,8,18,19,20] [])
(.seq
(.seq
(.region [⟨some 25,.mov (.tmp 8),none⟩,⟨some 26,.bin .lss (.tmp 25) (.val (.pv (.int .i64 0))),none⟩] [4,6,7,8,18,19,20,26] [])
(.cond (.tmp 26)
(.seq
(.region [⟨some 2,.mov (.val (.tl [])),none⟩,⟨some 3,.mov (.val (.pv (.int .i64 18))),none⟩] [2,3] [])
.ret)
.skip))
(.region [⟨some 27,.mov (.tmp 6),none⟩,⟨some 28,.mov (.tmp 4),none⟩,⟨some 29,.nilck (.tmp 28),none⟩,⟨some 30,.fld 7 (.tmp 29),none⟩,⟨some 31,.load 1 false (.tmp 30),none⟩,⟨some 32,.mov (.tmp 7),none⟩,⟨some 33,.idx 4 (.tmp 31) (.tmp 32),none⟩,⟨some 34,.load 4 true (.tmp 33),none⟩,⟨some 35,.mov (.tmp 8),none⟩,⟨some 36,.build [.pv (.int .i64 0),.pv (.int .i64 0),.tl [],.tl [],.pv (.int .i64 0)] [(0,4,(.tmp 34)),(4,1,(.tmp 35))],none⟩,⟨some 37,.lit 5 [.pv (.int .i64 0),.pv (.int .i64 0),.tl [],.tl [],.pv (.int .i64 0)] 1 [(0,5,(.tmp 36))],none⟩,⟨some 38,.app 5 (.tmp 27) (.tmp 37),none⟩,⟨some 6,.mov (.tmp 38),none⟩] [4,6,18,19,20] []))))
(.region [⟨some 39,.bin .add (.tmp 20) (.val (.pv (.int .i64 1))),none⟩,⟨some 20,.mov (.tmp 39),none⟩] [4,6,18,19,20] []))))))))
(.seq
(.region [⟨some 40,.mov (.tmp 6),none⟩,⟨some 2,.mov (.tmp 40),none⟩,⟨some 3,.mov (.val (.pv (.int .i64 0))),none⟩] [2,3] [])
.ret)))))),[.tmp 2,.tmp 3],false,false,false⟩
def F237 : AFunc := ⟨2,(.seq
(.region [⟨some 2,.box 2 7 (.tmp 0),none⟩,⟨some 3,.box 3 4 (.tmp 1),none⟩,⟨some 4,.mov (.val (.tl [])),none⟩,⟨some 5,.mov (.val (.pv (.int .i64 0))),none⟩] [2,3] [2,3])
(.seq
(.region [⟨some 10,.load 7 true (.tmp 2),none⟩,⟨some 11,.load 4 true (.tmp 3),none⟩,⟨some 12,.call (.val (.func 248 [])) [(.tmp 10),(.tmp 11)],none⟩,⟨some 9,.mov (.tmp 12),none⟩,⟨some 13,.ext (.tmp 9) 0,none⟩,⟨some 14,.ext (.tmp 9) 1,none⟩,⟨some 6,.mov (.tmp 13),none⟩,⟨some 7,.mov (.tmp 14),none⟩] [6,7] [])
(.seq
(.seq
(.region [⟨some 15,.mov (.tmp 7),none⟩,⟨some 16,.bin .neq (.tmp 15) (.val (.pv (.int .i64 0))),none⟩] [6,7,16] [])
(.cond (.tmp 16)
(.seq
(.region [⟨some 17,.mov (.tmp 7),none⟩,⟨some 4,.mov (.val (.tl [])),none⟩,⟨some 5,.mov (.tmp 17),none⟩] [4,5] [])
.ret)
.skip))
(.seq
(.region [⟨some 18,.mov (.tmp 6),none⟩,⟨some 19,.call (.val (.func 247 [])) [(.tmp 18)],none⟩,⟨some 20,.call (.val (.func 118 [])) [(.tmp 19),(.val (.pv (.int .i64 0)))],none⟩,⟨some 8,.mov (.tmp 20),none⟩] [6,8] [])
(.seq
(.seq
(.region [⟨some 21,.mov (.tmp 8),none⟩,⟨some 22,.bin .lss (.tmp 21) (.val (.pv (.int .i64 0))),none⟩] [6,8,22] [])
(.cond (.tmp 22)
(.seq
(.region [⟨some 4,.mov (.val (.tl [])),none⟩,⟨some 5,.mov (.val (.pv (.int .i64 18))),none⟩] [4,5] [])
.ret)
.skip))
(.seq
(.region [⟨some 23,.mov (.tmp 6),none⟩,⟨some 24,.mov (.tmp 8),none⟩,⟨some 25,.call (.val (.func 249 [])) [(.tmp 23),(.tmp 24)],none⟩,⟨some 4,.mov (.tmp 25),none⟩,⟨some 5,.mov (.val (.pv (.int .i64 0))),none⟩] [4,5] [])
.ret)))))),[.tmp 4,.tmp 5],false,false,false⟩
def F240 : AFunc := ⟨1,(.seq
(.region [⟨some 1,.box 1 7 (.tmp 0),none⟩,⟨some 2,.mov (.val (.tl [])),none⟩,⟨some 3,.alloc 3 [.pv (.int .i64 0),.pv (.int .i64 0),.tl [],.tl []],none⟩,⟨some 4,.mov (.val (.pv (.int .i64 0))),none⟩,⟨some 5,.mov (.val (.pv (.int .i64 0))),none⟩] [1,3] [1,3])
(.seq
(.region [⟨some 10,.load 7 true (.tmp 1),none⟩,⟨some 11,.call (.val (.func 246 [])) [(.tmp 10)],none⟩,⟨some 9,.mov (.tmp 11),none⟩,⟨some 12,.ext (.tmp 9) 0,none⟩,⟨some 13,.ext (.tmp 9) 1,none⟩,⟨some 6,.mov (.tmp 12),none⟩,⟨some 7,.mov (.tmp 13),none⟩] [1,3,6,7] [1,3])
(.seq
(.seq
(.region [⟨some 14,.mov (.tmp 7),none⟩,⟨some 15,.bin .neq (.tmp 14) (.val (.pv (.int .i64 0))),none⟩] [1,3,6,7,15] [1,3])
(.cond (.tmp 15)
(.seq
(.region [⟨some 16,.build [.pv (.int .i64 0),.pv (.int .i64 0),.tl [],.tl []] [],none⟩,⟨some 17,.mov (.tmp 7),none⟩,⟨some 2,.mov (.val (.tl [])),none⟩,⟨none,.store 4 (.tmp 3) (.tmp 16),none⟩,⟨some 4,.mov (.val (.pv (.int .i64 0))),none⟩,⟨some 5,.mov (.tmp 17),none⟩] [2,3,4,5] [3])
.ret)
.skip))
(.seq
(.region [⟨some 18,.mov (.tmp 6),none⟩,⟨some 19,.call (.val (.func 247 [])) [(.tmp 18)],none⟩,⟨some 20,.call (.val (.func 118 [])) [(.tmp 19),(.val (.pv (.int .i64 (-1))))],none⟩,⟨some 8,.mov (.tmp 20),none⟩] [1,3,6,8] [1,3])
(.seq
(.seq
(.region [⟨some 21,.mov (.tmp 8),none⟩,⟨some 22,.bin .lss (.tmp 21) (.val (.pv (.int .i64 0))),none⟩] [1,3,6,8,22] [1,3])
(.cond (.tmp 22)
(.seq
(.region [⟨some 23,.build [.pv (.int .i64 0),.pv (.int .i64 0),.tl [],.tl []] [],none⟩,⟨some 2,.mov (.val (.tl [])),none⟩,⟨none,.store 4 (.tmp 3) (.tmp 23),none⟩,⟨some 4,.mov (.val (.pv (.int .i64 0))),none⟩,⟨some 5,.mov (.val (.pv (.int .i64 15))),none⟩] [2,3,4,5] [3])
.ret)
.skip))
(.seq
(.draw [(⟨some 24,.mov (.tmp 6),none⟩,[]),(⟨some 25,.mov (.tmp 8),none⟩,[]),(⟨some 26,.call (.val (.func 249 [])) [(.tmp 24),(.tmp 25)],none⟩,[]),(⟨some 27,.mov (.tmp 6),none⟩,[]),(⟨some 28,.nilck (.tmp 27),none⟩,[]),(⟨some 29,.fld 7 (.tmp 28),none⟩,[]),(⟨some 30,.load 1 false (.tmp 29),none⟩,[2]),(⟨some 31,.mov (.tmp 8),none⟩,[]),(⟨some 32,.idx 4 (.tmp 30) (.tmp 31),none⟩,[2]),(⟨some 33,.load 4 true (.tmp 32),none⟩,[2]),(⟨some 34,.load 7 true (.tmp 1),none⟩,[2]),(⟨some 35,.mov (.tmp 6),none⟩,[]),(⟨some 36,.nilck (.tmp 35),none⟩,[]),(⟨some 37,.fld 7 (.tmp 36),none⟩,[]),(⟨some 38,.load 1 false (.tmp 37),none⟩,[2]),(⟨some 39,.mov (.tmp 8),none⟩,[]),(⟨some 40,.idx 4 (.tmp 38) (.tmp 39),none⟩,[2]),(⟨some 41,.load 4 true (.tmp 40),none⟩,[2]),(⟨some 42,.mov (.tmp 6),none⟩,[]),(⟨some 43,.nilck (.tmp 42),none⟩,[]),(⟨some 44,.fld 8 (.tmp 43),none⟩,[]),(⟨some 45,.load 1 false (.tmp 44),none⟩,[2]),(⟨some 46,.mov (.tmp 8),none⟩,[]),(⟨some 47,.idx 1 (.tmp 45) (.tmp 46),none⟩,[2]),(⟨some 48,.load 1 false (.tmp 47),none⟩,[2]),(⟨some 49,.call (.val (.func 250 [])) [(.tmp 34),(.tmp 41),(.tmp 48)],none⟩,[6,8,9]),(⟨some 2,.mov (.tmp 26),none⟩,[]),(⟨none,.store 4 (.tmp 3) (.tmp 33),none⟩,[]),(⟨some 4,.mov (.tmp 49),none⟩,[]),(⟨some 5,.mov (.val (.pv (.int .i64 0))),none⟩,[])] [2,3,4,5] [3])
.ret)))))),[.tmp 2,.cell 3 4 true,.tmp 4,.tmp 5],false,false,false⟩
def F241 : AFunc := ⟨2,(.seq
(.region [⟨some 2,.box 2 7 (.tmp 0),none⟩,⟨some 3,.box 3 4 (.tmp 1),none⟩,⟨some 4,.mov (.val (.pv (.int .i64 0))),none⟩,⟨some 5,.mov (.val (.pv (.int .i64 0))),none⟩] [2,3] [2,3])
(.seq
(.region [⟨some 9,.load 7 true (.tmp 2),none⟩,⟨some 10,.load 4 true (.tmp 3),none⟩,⟨some 11,.call (.val (.func 248 [])) [(.tmp 9),(.tmp 10)],none⟩,⟨some 8,.mov (.tmp 11),none⟩,⟨some 12,.ext (.tmp 8) 0,none⟩,⟨some 13,.ext (.tmp 8) 1,none⟩,⟨some 6,.mov (.tmp 12),none⟩,⟨some 7,.mov (.tmp 13),none⟩] [2,3,6,7] [2,3])
(.seq
(.seq
(.region [⟨some 14,.mov (.tmp 7),none⟩,⟨some 15,.bin .neq (.tmp 14) (.val (.pv (.int .i64 0))),none⟩] [2,3,6,7,15] [2,3])
(.cond (.tmp 15)
(.seq
(.region [⟨some 16,.mov (.tmp 7),none⟩,⟨some 4,.mov (.val (.pv (.int .i64 0))),none⟩,⟨some 5,.mov (.tmp 16),none⟩] [4,5] [])
.ret)
.skip))
(.seq
(.seq
(.region [⟨some 17,.mov (.tmp 6),none⟩,⟨some 18,.call (.val (.func 247 [])) [(.tmp 17)],none⟩,⟨some 19,.idx 1 (.tmp 18) (.val (.pv (.int .i64 0))),none⟩,⟨some 20,.load 1 false (.tmp 19),none⟩,⟨some 21,.bin .geq (.tmp 20) (.val (.pv (.int .i64 0))),none⟩] [2,3,6,21] [2,3])
(.cond (.tmp 21)
(.seq
(.region [⟨some 4,.mov (.val (.pv (.int .i64 0))),none⟩,⟨some 5,.mov (.val (.pv (.int .i64 15))),none⟩] [4,5] [])
.ret)
.skip))
(.seq
(.draw [(⟨some 22,.load 7 true (.tmp 2),none⟩,[]),(⟨some 23,.load 4 true (.tmp 3),none⟩,[]),(⟨some 24,.mov (.tmp 6),none⟩,[]),(⟨some 25,.nilck (.tmp 24),none⟩,[]),(⟨some 26,.fld 8 (.tmp 25),none⟩,[]),(⟨some 27,.load 1 false (.tmp 26),none⟩,[]),(⟨some 28,.idx 1 (.tmp 27) (.val (.pv (.int .i64 0))),none⟩,[]),(⟨some 29,.load 1 false (.tmp 28),none⟩,[]),(⟨some 30,.call (.val (.func 250 [])) [(.tmp 22),(.tmp 23),(.tmp 29)],none⟩,[]),(⟨some 4,.mov (.tmp 30),none⟩,[]),(⟨some 5,.mov (.val (.pv (.int .i64 0))),none⟩,[])] [4,5] [])
.ret))))),[.tmp 4,.tmp 5],false,false,false⟩
def F242 : AFunc := ⟨1,(.seq
(.region [⟨some 1,.box 1 7 (.tmp 0),none⟩,⟨some 2,.mov (.val (.pv (.bool false))),none⟩,⟨some 3,.mov (.val (.pv (.int .i64 0))),none⟩] [1] [1])
(.seq
(.region [⟨some 7,.load 7 true (.tmp 1),none⟩,⟨some 8,.call (.val (.func 246 [])) [(.tmp 7)],none⟩,⟨some 6,.mov (.tmp 8),none⟩,⟨some 9,.ext (.tmp 6) 0,none⟩,⟨some 10,.ext (.tmp 6) 1,none⟩,⟨some 4,.mov (.tmp 9),none⟩,⟨some 5,.mov (.tmp 10),none⟩] [4,5] [])
(.seq
(.seq
(.region [⟨some 11,.mov (.tmp 5),none⟩,⟨some 12,.bin .neq (.tmp 11) (.val (.pv (.int .i64 0))),none⟩] [4,5,12] [])
(.cond (.tmp 12)
(.seq
(.region [⟨some 13,.mov (.tmp 5),none⟩,⟨some 2,.mov (.val (.pv (.bool false))),none⟩,⟨some 3,.mov (.tmp 13),none⟩] [2,3] [])
.ret)
.skip))
(.seq
(.region [⟨some 14,.mov (.tmp 4),none⟩,⟨some 15,.call (.val (.func 247 [])) [(.tmp 14)],none⟩,⟨some 16,.call (.val (.func 110 [])) [(.tmp 15),(.val (.pv (.int .i64 (-1))))],none⟩,⟨some 17,.un .not (.tmp 16),none⟩,⟨some 2,.mov (.tmp 17),none⟩,⟨some 3,.mov (.val (.pv (.int .i64 0))),none⟩] [2,3] [])
.ret)))),[.tmp 2,.tmp 3],false,false,false⟩
def F243 : AFunc := ⟨2,(.seq
(.region [⟨some 2,.box 2 7 (.tmp 0),none⟩,⟨some 4,.mov (.val (.pv (.bool false))),none⟩] [1,2] [2])
(.seq
(.seq
(.region [⟨some 24,.load 7 true (.tmp 2),none⟩,⟨some 25,.call (.val (.func 152 [])) [(.tmp 24)],none⟩,⟨some 26,.bin .neq (.tmp 25) (.val (.pv (.int .i64 0))),none⟩] [1,2,26] [2])
(.cond (.tmp 26)
(.seq
(.region [⟨some 4,.mov (.val (.pv (.bool false))),none⟩] [4] [])
.ret)
.skip))
(.seq
(.region [⟨some 27,.mkmap,none⟩,⟨some 5,.mov (.tmp 27),none⟩] [1,2,5] [2])
(.seq
(.seq
(.region [⟨some 28,.mov (.tmp 1),none⟩,⟨some 29,.len 0 (.tmp 28),none⟩,⟨some 30,.mov (.val (.pv (.int .i64 0))),none⟩] [1,2,5,28,29,30] [2])
(.block 0
(.loop
(.mask [1,2,5,28,29,30] [2]
(.seq
(.region [⟨some 31,.bin .lss (.tmp 30) (.tmp 29),none⟩] [1,2,5,28,29,30,31] [2])
(.seq
(.cond (.tmp 31)
.skip
(.exit 0))
(.seq
(.block 1
(.seq
(.region [⟨some 32,.idx 5 (.tmp 28) (.tmp 30),none⟩,⟨some 33,.load 5 true (.tmp 32),none⟩,⟨some 7,.alloc 7 [.pv (.int .i64 0),.pv (.int .i64 0),.tl [],.tl [],.pv (.int .i64 0)],none⟩,⟨none,.store 5 (.tmp 7) (.tmp 33),none⟩] [1,2,5,7,28,29,30] [2,7])
(.seq
(.region [⟨some 34,.fld 0 (.tmp 7),none⟩,⟨some 35,.load 4 true (.tmp 34),none⟩,⟨some 36,.call (.val (.func 251 [])) [(.tmp 35)],none⟩,⟨some 8,.mov (.tmp 36),none⟩] [1,2,5,7,8,28,29,30] [2,7])
(.seq
(.seq
(.region [⟨some 38,.mov (.tmp 5),none⟩,⟨some 39,.mov (.tmp 8),none⟩,⟨some 40,.look false [2] (.pv (.int .i64 0)) (.tmp 38) (.tmp 39) true,none⟩,⟨some 37,.mov (.tmp 40),none⟩,⟨some 41,.ext (.tmp 37) 0,none⟩,⟨some 42,.ext (.tmp 37) 1,none⟩,⟨some 9,.mov (.tmp 41),none⟩,⟨some 10,.mov (.tmp 42),none⟩] [1,2,5,7,8,10,28,29,30] [2,7])
(.seq
(.region [⟨some 43,.mov (.tmp 10),none⟩,⟨some 44,.mov (.tmp 43),none⟩,⟨some 45,.load 7 true (.tmp 2),some (44,false)⟩,⟨some 46,.fld 0 (.tmp 7),some (44,false)⟩,⟨some 47,.load 4 true (.tmp 46),some (44,false)⟩,⟨some 48,.call (.val (.func 157 [])) [(.tmp 45),(.tmp 47)],some (44,false)⟩,⟨some 49,.un .not (.tmp 48),some (44,false)⟩,⟨some 50,.pick (.tmp 44) (.val (.pv (.bool true))) (.tmp 49),none⟩] [1,2,5,7,8,28,29,30,50] [2,7])
(.cond (.tmp 50)
(.seq
(.region [⟨some 4,.mov (.val (.pv (.bool false))),none⟩] [4] [])
.ret)
.skip)))
(.region [⟨some 51,.mov (.tmp 5),none⟩,⟨some 52,.mov (.tmp 8),none⟩,⟨some 53,.fld 4 (.tmp 7),none⟩,⟨some 54,.load 1 false (.tmp 53),none⟩,⟨none,.upd false [2] (.tmp 51) (.tmp 52) (.tmp 54),none⟩] [1,2,5,28,29,30] [2])))))
(.region [⟨some 55,.bin .add (.tmp 30) (.val (.pv (.int .i64 1))),none⟩,⟨some 30,.mov (.tmp 55),none⟩] [1,2,5,28,29,30] [2]))))))))
(.seq
(.seq
(.region [⟨some 57,.mov (.tmp 5),none⟩,⟨some 58,.load 7 true (.tmp 2),none⟩,⟨some 59,.call (.val (.func 155 [])) [(.tmp 58)],none⟩,⟨some 60,.call (.val (.func 251 [])) [(.tmp 59)],none⟩,⟨some 61,.look false [2] (.pv (.int .i64 0)) (.tmp 57) (.tmp 60) true,none⟩,⟨some 56,.mov (.tmp 61),none⟩,⟨some 62,.ext (.tmp 56) 0,none⟩,⟨some 63,.ext (.tmp 56) 1,none⟩,⟨some 11,.mov (.tmp 62),none⟩,⟨some 12,.mov (.tmp 63),none⟩] [1,2,5,12] [2])
(.seq
(.region [⟨some 64,.mov (.tmp 12),none⟩,⟨some 65,.un .not (.tmp 64),none⟩] [1,2,5,65] [2])
(.cond (.tmp 65)
(.seq
(.region [⟨some 4,.mov (.val (.pv (.bool false))),none⟩] [4] [])
.ret)
.skip)))
(.seq
(.seq
(.region [⟨some 66,.mov (.tmp 1),none⟩,⟨some 67,.len 0 (.tmp 66),none⟩,⟨some 68,.mov (.val (.pv (.int .i64 0))),none⟩] [2,5,66,67,68] [2])
(.block 2
(.loop
(.mask [2,5,66,67,68] [2]
(.seq
(.region [⟨some 69,.bin .lss (.tmp 68) (.tmp 67),none⟩] [2,5,66,67,68,69] [2])
(.seq
(.cond (.tmp 69)
.skip
(.exit 2))
(.seq
(.block 3
(.seq
(.region [⟨some 70,.idx 5 (.tmp 66) (.tmp 68),none⟩,⟨some 71,.load 5 true (.tmp 70),none⟩,⟨some 14,.alloc 14 [.pv (.int .i64 0),.pv (.int .i64 0),.tl [],.tl [],.pv (.int .i64 0)],none⟩,⟨none,.store 5 (.tmp 14) (.tmp 71),none⟩] [2,5,14,66,67,68] [2,14])
(.seq
(.region [⟨some 73,.load 7 true (.tmp 2),none⟩,⟨some 74,.fld 0 (.tmp 14),none⟩,⟨some 75,.load 4 true (.tmp 74),none⟩,⟨some 76,.call (.val (.func 171 [])) [(.tmp 73),(.tmp 75)],none⟩,⟨some 72,.mov (.tmp 76),none⟩,⟨some 77,.ext (.tmp 72) 0,none⟩,⟨some 78,.ext (.tmp 72) 1,none⟩,⟨some 15,.mov (.tmp 77),none⟩,⟨some 16,.mov (.tmp 78),none⟩] [2,5,14,15,16,66,67,68] [2,14])
(.seq
(.seq
(.region [⟨some 79,.mov (.tmp 16),none⟩,⟨some 80,.bin .neq (.tmp 79) (.val (.pv (.int .i64 0))),none⟩] [2,5,14,15,66,67,68,80] [2,14])
(.cond (.tmp 80)
(.seq
(.region [⟨some 4,.mov (.val (.pv (.bool false))),none⟩] [4] [])
.ret)
.skip))
(.seq
(.region [⟨some 17,.mov (.val (.pv (.bool false))),none⟩] [2,5,14,15,17,66,67,68] [2,14])
(.seq
(.seq
(.region [⟨some 81,.mov (.tmp 15),none⟩,⟨some 82,.len 0 (.tmp 81),none⟩,⟨some 83,.mov (.val (.pv (.int .i64 0))),none⟩] [2,5,14,17,66,67,68,81,82,83] [2,14])
(.block 4
(.loop
(.mask [2,5,14,17,66,67,68,81,82,83] [2,14]
(.seq
(.region [⟨some 84,.bin .lss (.tmp 83) (.tmp 82),none⟩] [2,5,14,17,66,67,68,81,82,83,84] [2,14])
(.seq
(.cond (.tmp 84)
.skip
(.exit 4))
(.seq
(.block 5
(.seq
(.region [⟨some 85,.idx 3 (.tmp 81) (.tmp 83),none⟩,⟨some 86,.load 3 true (.tmp 85),none⟩,⟨some 19,.alloc 19 [.pv (.int .i64 0),.pv (.bool false),.pv (.int .i64 0)],none⟩,⟨none,.store 3 (.tmp 19) (.tmp 86),none⟩] [2,5,14,17,19,66,67,68,81,82,83] [2,14,19])
(.seq
(.region [⟨some 88,.load 7 true (.tmp 2),none⟩,⟨some 89,.fld 0 (.tmp 14),none⟩,⟨some 90,.load 4 true (.tmp 89),none⟩,⟨some 91,.load 3 true (.tmp 19),none⟩,⟨some 92,.call (.val (.func 174 [])) [(.tmp 88),(.tmp 90),(.tmp 91)],none⟩,⟨some 87,.mov (.tmp 92),none⟩,⟨some 93,.ext (.tmp 87) 0,none⟩,⟨some 94,.ext (.tmp 87) 1,none⟩,⟨some 20,.alloc 20 [.pv (.int .i64 0),.pv (.int .i64 0),.tl [],.tl []],none⟩,⟨none,.store 4 (.tmp 20) (.tmp 93),none⟩,⟨some 21,.mov (.tmp 94),none⟩] [2,5,14,17,20,21,66,67,68,81,82,83] [2,14,20])
(.seq
(.region [⟨some 96,.mov (.tmp 5),none⟩,⟨some 97,.load 4 true (.tmp 20),none⟩,⟨some 98,.call (.val (.func 251 [])) [(.tmp 97)],none⟩,⟨some 99,.look false [2] (.pv (.int .i64 0)) (.tmp 96) (.tmp 98) true,none⟩,⟨some 95,.mov (.tmp 99),none⟩,⟨some 100,.ext (.tmp 95) 0,none⟩,⟨some 101,.ext (.tmp 95) 1,none⟩,⟨some 22,.mov (.tmp 100),none⟩,⟨some 23,.mov (.tmp 101),none⟩] [2,5,14,17,21,22,23,66,67,68,81,82,83] [2,14])
(.seq
(.seq
(.region [⟨some 102,.mov (.tmp 21),none⟩,⟨some 103,.bin .neq (.tmp 102) (.val (.pv (.int .i64 0))),none⟩,⟨some 104,.mov (.tmp 103),none⟩,⟨some 105,.mov (.tmp 23),some (104,false)⟩,⟨some 106,.un .not (.tmp 105),some (104,false)⟩,⟨some 107,.pick (.tmp 104) (.val (.pv (.bool true))) (.tmp 106),none⟩] [2,5,14,17,22,66,67,68,81,82,83,107] [2,14])
(.cond (.tmp 107)
(.seq
(.region [⟨some 4,.mov (.val (.pv (.bool false))),none⟩] [4] [])
.ret)
.skip))
(.region [⟨some 108,.mov (.tmp 17),none⟩,⟨some 109,.mov (.tmp 108),none⟩,⟨some 110,.mov (.tmp 22),some (109,false)⟩,⟨some 111,.fld 4 (.tmp 14),some (109,false)⟩,⟨some 112,.load 1 false (.tmp 111),some (109,false)⟩,⟨some 113,.bin .lss (.tmp 110) (.tmp 112),some (109,false)⟩,⟨some 114,.pick (.tmp 109) (.val (.pv (.bool true))) (.tmp 113),none⟩,⟨some 17,.mov (.tmp 114),none⟩] [2,5,14,17,66,67,68,81,82,83] [2,14]))))))
(.region [⟨some 115,.bin .add (.tmp 83) (.val (.pv (.int .i64 1))),none⟩,⟨some 83,.mov (.tmp 115),none⟩] [2,5,14,17,66,67,68,81,82,83] [2,14]))))))))
(.seq
(.region [⟨some 116,.fld 4 (.tmp 14),none⟩,⟨some 117,.load 1 false (.tmp 116),none⟩,⟨some 118,.bin .eql (.tmp 117) (.val (.pv (.int .i64 0))),none⟩,⟨some 119,.mov (.tmp 118),none⟩,⟨some 120,.load 7 true (.tmp 2),some (119,true)⟩,⟨some 121,.fld 0 (.tmp 14),some (119,true)⟩,⟨some 122,.load 4 true (.tmp 121),some (119,true)⟩,⟨some 123,.call (.val (.func 159 [])) [(.tmp 120),(.tmp 122)],some (119,true)⟩,⟨some 124,.pick (.tmp 119) (.tmp 123) (.val (.pv (.bool false))),none⟩,⟨some 125,.mov (.tmp 124),none⟩,⟨some 126,.fld 4 (.tmp 14),some (125,false)⟩,⟨some 127,.load 1 false (.tmp 126),some (125,false)⟩,⟨some 128,.bin .gtr (.tmp 127) (.val (.pv (.int .i64 0))),some (125,false)⟩,⟨some 129,.mov (.tmp 128),some (125,false)⟩,⟨some 130,.mov (.tmp 17),some (129,true)⟩,⟨some 131,.pick (.tmp 129) (.tmp 130) (.val (.pv (.bool false))),some (125,false)⟩,⟨some 132,.pick (.tmp 125) (.val (.pv (.bool true))) (.tmp 131),none⟩,⟨some 133,.un .not (.tmp 132),none⟩] [2,5,66,67,68,133] [2])
(.cond (.tmp 133)
(.seq
(.region [⟨some 4,.mov (.val (.pv (.bool false))),none⟩] [4] [])
.ret)
.skip))))))))
(.region [⟨some 134,.bin .add (.tmp 68) (.val (.pv (.int .i64 1))),none⟩,⟨some 68,.mov (.tmp 134),none⟩] [2,5,66,67,68] [2]))))))))
(.seq
(.region [⟨some 4,.mov (.val (.pv (.bool true))),none⟩] [4] [])
.ret))))))),[.tmp 4],false,false,false⟩
def F244 : AFunc := ⟨1,(.seq
(.region [⟨some 2,.alloc 2 [.pv (.int .i64 0),.pv (.int .i64 0),.tl [],.pv (.int .i64 0),.pv (.int .i64 0),.tl [],.pv (.int .i64 0)],none⟩] [0,2] [2])
(.seq
(.region [⟨some 5,.build [.pv (.int .i64 0),.pv (.bool false),.pv (.int .i64 0),.pv (.int .i64 0)] [(0,1,(.val (.pv (.int .i64 0)))),(1,1,(.val (.pv (.bool true)))),(2,1,(.val (.pv (.int .i64 1)))),(3,1,(.val (.pv (.int .i64 1))))],none⟩,⟨some 6,.build [.pv (.int .i64 0),.pv (.bool false),.pv (.int .i64 0),.pv (.int .i64 0)] [(0,1,(.val (.pv (.int .i64 1)))),(2,1,(.val (.pv (.int .i64 2)))),(3,1,(.val (.pv (.int .i64 2))))],none⟩,⟨some 7,.lit 4 [.pv (.int .i64 0),.pv (.bool false),.pv (.int .i64 0),.pv (.int .i64 0)] 2 [(0,4,(.tmp 5)),(4,4,(.tmp 6))],none⟩,⟨some 8,.call (.val (.func 252 [])) [(.val (.pv (.int .i64 3))),(.tmp 7)],none⟩,⟨some 3,.alloc 3 [.pv (.int .i64 0),.pv (.int .i64 0),.tl []],none⟩,⟨none,.store 3 (.tmp 3) (.tmp 8),none⟩] [0,2,3] [2,3])
(.seq
(.region [⟨some 9,.build [.pv (.int .i64 0),.pv (.bool false),.pv (.int .i64 0),.pv (.int .i64 0)] [(0,1,(.val (.pv (.int .i64 0)))),(2,1,(.val (.pv (.int .i64 1)))),(3,1,(.val (.pv (.int .i64 1))))],none⟩,⟨some 10,.lit 4 [.pv (.int .i64 0),.pv (.bool false),.pv (.int .i64 0),.pv (.int .i64 0)] 1 [(0,4,(.tmp 9))],none⟩,⟨some 4,.mov (.tmp 10),none⟩] [0,2,3,4] [2,3])
(.seq
(.seq
(.region [⟨some 11,.mov (.tmp 0),none⟩] [2,3,4,11] [2,3])
(.cond (.tmp 11)
(.region [⟨some 12,.mov (.tmp 4),none⟩,⟨some 13,.build [.pv (.int .i64 0),.pv (.bool false),.pv (.int .i64 0),.pv (.int .i64 0)] [(0,1,(.val (.pv (.int .i64 0)))),(1,1,(.val (.pv (.bool true)))),(2,1,(.val (.pv (.int .i64 3)))),(3,1,(.val (.pv (.int .i64 2))))],none⟩,⟨some 14,.lit 4 [.pv (.int .i64 0),.pv (.bool false),.pv (.int .i64 0),.pv (.int .i64 0)] 1 [(0,4,(.tmp 13))],none⟩,⟨some 15,.app 4 (.tmp 12) (.tmp 14),none⟩,⟨some 4,.mov (.tmp 15),none⟩] [2,3,4] [2,3])
.skip))
(.seq
(.draw [(⟨some 16,.load 3 true (.tmp 3),none⟩,[]),(⟨some 17,.mov (.tmp 4),none⟩,[]),(⟨some 18,.build [.pv (.int .i64 0),.pv (.bool false),.pv (.int .i64 0),.pv (.int .i64 0)] [(0,1,(.val (.pv (.int .i64 1)))),(1,1,(.val (.pv (.bool true)))),(2,1,(.val (.pv (.int .i64 2)))),(3,1,(.val (.pv (.int .i64 2))))],none⟩,[]),(⟨some 19,.lit 4 [.pv (.int .i64 0),.pv (.bool false),.pv (.int .i64 0),.pv (.int .i64 0)] 1 [(0,4,(.tmp 18))],none⟩,[0]),(⟨some 20,.app 4 (.tmp 17) (.tmp 19),none⟩,[0]),(⟨some 21,.call (.val (.func 252 [])) [(.val (.pv (.int .i64 3))),(.tmp 20)],none⟩,[0]),(⟨some 22,.build [.pv (.int .i64 0),.pv (.int .i64 0),.tl [],.pv (.int .i64 0),.pv (.int .i64 0),.tl [],.pv (.int .i64 0)] [(0,3,(.tmp 16)),(3,3,(.tmp 21)),(6,1,(.val (.pv (.int .i64 1))))],none⟩,[]),(⟨none,.store 7 (.tmp 2) (.tmp 22),none⟩,[])] [2] [2])
.ret))))),[.cell 2 7 true],false,false,false⟩
def F245 : AFunc := ⟨2,(.seq
(.region [⟨some 4,.mov (.val (.pv (.bool false))),none⟩] [0,1] [])
(.seq
(.seq
(.region [⟨some 6,.mov (.tmp 0),none⟩,⟨some 7,.len 0 (.tmp 6),none⟩,⟨some 8,.mov (.tmp 1),none⟩,⟨some 9,.len 0 (.tmp 8),none⟩,⟨some 10,.bin .neq (.tmp 7) (.tmp 9),none⟩] [0,1,10] [])
(.cond (.tmp 10)
(.seq
(.region [⟨some 4,.mov (.val (.pv (.bool false))),none⟩] [4] [])
.ret)
.skip))
(.seq
(.seq
(.region [⟨some 11,.mov (.tmp 0),none⟩,⟨some 12,.len 0 (.tmp 11),none⟩,⟨some 13,.mov (.val (.pv (.int .i64 0))),none⟩] [0,1,12,13] [])
(.block 0
(.loop
(.mask [0,1,12,13] []
(.seq
(.region [⟨some 14,.bin .lss (.tmp 13) (.tmp 12),none⟩] [0,1,12,13,14] [])
(.seq
(.cond (.tmp 14)
.skip
(.exit 0))
(.seq
(.block 1
(.seq
(.region [⟨some 15,.mov (.tmp 13),none⟩,⟨some 5,.mov (.tmp 15),none⟩] [0,1,5,12,13] [])
(.seq
(.draw [(⟨some 16,.mov (.tmp 0),none⟩,[]),(⟨some 17,.mov (.tmp 5),none⟩,[]),(⟨some 18,.idx 3 (.tmp 16) (.tmp 17),none⟩,[]),(⟨some 19,.load 3 true (.tmp 18),none⟩,[]),(⟨some 20,.mov (.tmp 1),none⟩,[]),(⟨some 21,.mov (.tmp 5),none⟩,[]),(⟨some 22,.idx 3 (.tmp 20) (.tmp 21),none⟩,[]),(⟨some 23,.load 3 true (.tmp 22),none⟩,[]),(⟨some 24,.eqa true [1,0,1] true (.tmp 19) (.tmp 23),none⟩,[])] [0,1,12,13,24] [])
(.cond (.tmp 24)
(.seq
(.region [⟨some 4,.mov (.val (.pv (.bool false))),none⟩] [4] [])
.ret)
.skip))))
(.region [⟨some 25,.bin .add (.tmp 13) (.val (.pv (.int .i64 1))),none⟩,⟨some 13,.mov (.tmp 25),none⟩] [0,1,12,13] []))))))))
(.seq
(.region [⟨some 4,.mov (.val (.pv (.bool true))),none⟩] [4] [])
.ret)))),[.tmp 4],false,false,false⟩
def F246 : AFunc := ⟨1,(.seq
(.region [⟨some 1,.box 1 7 (.tmp 0),none⟩,⟨some 2,.mov (.val (.pv (.nilp))),none⟩,⟨some 3,.mov (.val (.pv (.int .i64 0))),none⟩] [1] [1])
(.seq
(.seq
(.region [⟨some 5,.load 7 true (.tmp 1),none⟩,⟨some 6,.call (.val (.func 152 [])) [(.tmp 5)],none⟩,⟨some 4,.mov (.tmp 6),none⟩] [1,4] [1])
(.seq
(.region [⟨some 7,.mov (.tmp 4),none⟩,⟨some 8,.bin .neq (.tmp 7) (.val (.pv (.int .i64 0))),none⟩] [1,4,8] [1])
(.cond (.tmp 8)
(.seq
(.region [⟨some 9,.mov (.tmp 4),none⟩,⟨some 2,.mov (.val (.pv (.nilp))),none⟩,⟨some 3,.mov (.tmp 9),none⟩] [2,3] [])
.ret)
.skip)))
(.seq
(.draw [(⟨some 10,.load 7 true (.tmp 1),none⟩,[]),(⟨some 11,.load 7 true (.tmp 1),none⟩,[]),(⟨some 12,.call (.val (.func 155 [])) [(.tmp 11)],none⟩,[0]),(⟨some 13,.call (.val (.func 253 [])) [(.tmp 10),(.tmp 12)],none⟩,[]),(⟨some 14,.ext (.tmp 13) 0,none⟩,[]),(⟨some 15,.ext (.tmp 13) 1,none⟩,[]),(⟨some 2,.mov (.tmp 14),none⟩,[]),(⟨some 3,.mov (.tmp 15),none⟩,[])] [2,3] [])
.ret))),[.tmp 2,.tmp 3],false,false,false⟩
def F247 : AFunc := ⟨1,(.seq
(.region [⟨some 2,.mov (.val (.tl [])),none⟩] [0] [])
(.seq
(.region [⟨some 15,.mov (.tmp 0),none⟩,⟨some 16,.nilck (.tmp 15),none⟩,⟨some 17,.fld 7 (.tmp 16),none⟩,⟨some 18,.load 1 false (.tmp 17),none⟩,⟨some 19,.len 0 (.tmp 18),none⟩,⟨some 20,.make 1 [.tl []] (.tmp 19) (.tmp 19),none⟩,⟨some 3,.mov (.tmp 20),none⟩] [0,3] [])
(.seq
(.seq
(.region [⟨some 21,.mov (.tmp 0),none⟩,⟨some 22,.nilck (.tmp 21),none⟩,⟨some 23,.fld 9 (.tmp 22),none⟩,⟨some 24,.load 1 false (.tmp 23),none⟩,⟨some 25,.len 0 (.tmp 24),none⟩,⟨some 26,.mov (.val (.pv (.int .i64 0))),none⟩] [0,3,24,25,26] [])
(.block 0
(.loop
(.mask [0,3,24,25,26] []
(.seq
(.region [⟨some 27,.bin .lss (.tmp 26) (.tmp 25),none⟩] [0,3,24,25,26,27] [])
(.seq
(.cond (.tmp 27)
.skip
(.exit 0))
(.seq
(.block 1
(.seq
(.region [⟨some 28,.mov (.tmp 26),none⟩,⟨some 29,.idx 1 (.tmp 24) (.tmp 26),none⟩,⟨some 30,.load 1 false (.tmp 29),none⟩,⟨some 4,.mov (.tmp 28),none⟩,⟨some 5,.mov (.tmp 30),none⟩] [0,3,4,5,24,25,26] [])
(.seq
(.region [⟨some 31,.mov (.tmp 5),none⟩,⟨some 32,.len 0 (.tmp 31),none⟩,⟨some 33,.mov (.val (.pv (.int .i64 0))),none⟩] [0,3,4,24,25,26,31,32,33] [])
(.block 2
(.loop
(.mask [0,3,4,24,25,26,31,32,33] []
(.seq
(.region [⟨some 34,.bin .lss (.tmp 33) (.tmp 32),none⟩] [0,3,4,24,25,26,31,32,33,34] [])
(.seq
(.cond (.tmp 34)
.skip
(.exit 2))
(.seq
(.block 3
(.seq
(.region [⟨some 35,.idx 1 (.tmp 31) (.tmp 33),none⟩,⟨some 36,.load 1 false (.tmp 35),none⟩,⟨some 7,.mov (.tmp 36),none⟩] [0,3,4,7,24,25,26,31,32,33] [])
(.region [⟨some 37,.mov (.tmp 3),none⟩,⟨some 38,.mov (.tmp 7),none⟩,⟨some 39,.mov (.tmp 3),none⟩,⟨some 40,.mov (.tmp 7),none⟩,⟨some 41,.idx 1 (.tmp 39) (.tmp 40),none⟩,⟨some 42,.load 1 false (.tmp 41),none⟩,⟨some 43,.mov (.tmp 4),none⟩,⟨some 44,.lit 1 [.pv (.int .i64 0)] 1 [(0,1,(.tmp 43))],none⟩,⟨some 45,.app 1 (.tmp 42) (.tmp 44),none⟩,⟨some 46,.idx 1 (.tmp 37) (.tmp 38),none⟩,⟨none,.store 1 (.tmp 46) (.tmp 45),none⟩] [0,3,4,24,25,26,31,32,33] [])))
(.region [⟨some 47,.bin .add (.tmp 33) (.val (.pv (.int .i64 1))),none⟩,⟨some 33,.mov (.tmp 47),none⟩] [0,3,4,24,25,26,31,32,33] []))))))))))
(.region [⟨some 48,.bin .add (.tmp 26) (.val (.pv (.int .i64 1))),none⟩,⟨some 26,.mov (.tmp 48),none⟩] [0,3,24,25,26] []))))))))
(.seq
(.region [⟨some 49,.mov (.tmp 0),none⟩,⟨some 50,.nilck (.tmp 49),none⟩,⟨some 51,.fld 7 (.tmp 50),none⟩,⟨some 52,.load 1 false (.tmp 51),none⟩,⟨some 53,.len 0 (.tmp 52),none⟩,⟨some 54,.make 1 [.pv (.int .i64 0)] (.tmp 53) (.tmp 53),none⟩,⟨some 8,.mov (.tmp 54),none⟩] [0,3,8] [])
(.seq
(.region [⟨some 9,.mov (.val (.tl [])),none⟩] [0,3,8,9] [])
(.seq
(.seq
(.region [⟨some 55,.mov (.tmp 0),none⟩,⟨some 56,.nilck (.tmp 55),none⟩,⟨some 57,.fld 7 (.tmp 56),none⟩,⟨some 58,.load 1 false (.tmp 57),none⟩,⟨some 59,.len 0 (.tmp 58),none⟩,⟨some 60,.mov (.val (.pv (.int .i64 0))),none⟩] [0,3,8,9,58,59,60] [])
(.block 4
(.loop
(.mask [0,3,8,9,58,59,60] []
(.seq
(.region [⟨some 61,.bin .lss (.tmp 60) (.tmp 59),none⟩] [0,3,8,9,58,59,60,61] [])
(.seq
(.cond (.tmp 61)
.skip
(.exit 4))
(.seq
(.block 5
(.seq
(.region [⟨some 62,.mov (.tmp 60),none⟩,⟨some 63,.idx 4 (.tmp 58) (.tmp 60),none⟩,⟨some 64,.load 4 true (.tmp 63),none⟩,⟨some 11,.alloc 11 [.pv (.int .i64 0),.pv (.int .i64 0),.tl [],.tl []],none⟩,⟨some 10,.mov (.tmp 62),none⟩,⟨none,.store 4 (.tmp 11) (.tmp 64),none⟩] [0,3,8,9,10,11,58,59,60] [11])
(.seq
(.region [⟨some 65,.mov (.tmp 8),none⟩,⟨some 66,.mov (.tmp 10),none⟩,⟨some 67,.idx 1 (.tmp 65) (.tmp 66),none⟩,⟨none,.store 1 (.tmp 67) (.val (.pv (.int .i64 (-1)))),none⟩] [0,3,8,9,10,11,58,59,60] [11])
(.seq
(.draw [(⟨some 68,.mov (.tmp 0),none⟩,[]),(⟨some 69,.nilck (.tmp 68),none⟩,[]),(⟨some 70,.fld 0 (.tmp 69),none⟩,[]),(⟨some 71,.load 7 true (.tmp 70),none⟩,[]),(⟨some 72,.load 4 true (.tmp 11),none⟩,[]),(⟨some 73,.call (.val (.func 159 [])) [(.tmp 71),(.tmp 72)],none⟩,[])] [0,3,8,9,10,58,59,60,73] [])
(.cond (.tmp 73)
(.seq
(.region [⟨some 74,.mov (.tmp 8),none⟩,⟨some 75,.mov (.tmp 10),none⟩,⟨some 76,.idx 1 (.tmp 74) (.tmp 75),none⟩,⟨none,.store 1 (.tmp 76) (.val (.pv (.int .i64 0))),none⟩] [0,3,8,9,10,58,59,60] [])
(.region [⟨some 77,.mov (.tmp 9),none⟩,⟨some 78,.mov (.tmp 10),none⟩,⟨some 79,.lit 1 [.pv (.int .i64 0)] 1 [(0,1,(.tmp 78))],none⟩,⟨some 80,.app 1 (.tmp 77) (.tmp 79),none⟩,⟨some 9,.mov (.tmp 80),none⟩] [0,3,8,9,58,59,60] []))
.skip)))))
(.region [⟨some 81,.bin .add (.tmp 60) (.val (.pv (.int .i64 1))),none⟩,⟨some 60,.mov (.tmp 81),none⟩] [0,3,8,9,58,59,60] []))))))))
(.seq
(.seq
(.region [⟨some 12,.mov (.val (.pv (.int .i64 0))),none⟩] [3,8,9,12] [])
(.block 6
(.loop
(.mask [3,8,9,12] []
(.seq
(.seq
(.region [⟨some 82,.mov (.tmp 12),none⟩,⟨some 83,.mov (.tmp 9),none⟩,⟨some 84,.len 0 (.tmp 83),none⟩,⟨some 85,.bin .lss (.tmp 82) (.tmp 84),none⟩] [3,8,9,12,85] [])
(.cond (.tmp 85)
.skip
(.exit 6)))
(.seq
(.block 7
(.seq
(.region [⟨some 88,.mov (.tmp 3),none⟩,⟨some 89,.mov (.tmp 9),none⟩,⟨some 90,.mov (.tmp 12),none⟩,⟨some 91,.idx 1 (.tmp 89) (.tmp 90),none⟩,⟨some 92,.load 1 false (.tmp 91),none⟩,⟨some 93,.idx 1 (.tmp 88) (.tmp 92),none⟩,⟨some 94,.load 1 false (.tmp 93),none⟩,⟨some 95,.len 0 (.tmp 94),none⟩,⟨some 96,.mov (.val (.pv (.int .i64 0))),none⟩] [3,8,9,12,94,95,96] [])
(.block 8
(.loop
(.mask [3,8,9,12,94,95,96] []
(.seq
(.region [⟨some 97,.bin .lss (.tmp 96) (.tmp 95),none⟩] [3,8,9,12,94,95,96,97] [])
(.seq
(.cond (.tmp 97)
.skip
(.exit 8))
(.seq
(.block 9
(.seq
(.region [⟨some 98,.idx 1 (.tmp 94) (.tmp 96),none⟩,⟨some 99,.load 1 false (.tmp 98),none⟩,⟨some 14,.mov (.tmp 99),none⟩] [3,8,9,12,14,94,95,96] [])
(.seq
(.region [⟨some 100,.mov (.tmp 8),none⟩,⟨some 101,.mov (.tmp 14),none⟩,⟨some 102,.idx 1 (.tmp 100) (.tmp 101),none⟩,⟨some 103,.load 1 false (.tmp 102),none⟩,⟨some 104,.bin .lss (.tmp 103) (.val (.pv (.int .i64 0))),none⟩] [3,8,9,12,14,94,95,96,104] [])
(.cond (.tmp 104)
(.seq
(.region [⟨some 105,.mov (.tmp 8),none⟩,⟨some 106,.mov (.tmp 14),none⟩,⟨some 107,.mov (.tmp 8),none⟩,⟨some 108,.mov (.tmp 9),none⟩,⟨some 109,.mov (.tmp 12),none⟩,⟨some 110,.idx 1 (.tmp 108) (.tmp 109),none⟩,⟨some 111,.load 1 false (.tmp 110),none⟩,⟨some 112,.idx 1 (.tmp 107) (.tmp 111),none⟩,⟨some 113,.load 1 false (.tmp 112),none⟩,⟨some 114,.bin .add (.tmp 113) (.val (.pv (.int .i64 1))),none⟩,⟨some 115,.idx 1 (.tmp 105) (.tmp 106),none⟩,⟨none,.store 1 (.tmp 115) (.tmp 114),none⟩] [3,8,9,12,14,94,95,96] [])
(.region [⟨some 116,.mov (.tmp 9),none⟩,⟨some 117,.mov (.tmp 14),none⟩,⟨some 118,.lit 1 [.pv (.int .i64 0)] 1 [(0,1,(.tmp 117))],none⟩,⟨some 119,.app 1 (.tmp 116) (.tmp 118),none⟩,⟨some 9,.mov (.tmp 119),none⟩] [3,8,9,12,94,95,96] []))
.skip))))
(.region [⟨some 120,.bin .add (.tmp 96) (.val (.pv (.int .i64 1))),none⟩,⟨some 96,.mov (.tmp 120),none⟩] [3,8,9,12,94,95,96] [])))))))))
(.region [⟨some 86,.mov (.tmp 12),none⟩,⟨some 87,.bin .add (.tmp 86) (.val (.pv (.int .i64 1))),none⟩,⟨some 12,.mov (.tmp 87),none⟩] [3,8,9,12] [])))))))
(.seq
(.region [⟨some 121,.mov (.tmp 8),none⟩,⟨some 2,.mov (.tmp 121),none⟩] [2] [])
.ret)))))))),[.tmp 2],false,false,false⟩
def F248 : AFunc := ⟨2,(.seq
(.region [⟨some 2,.box 2 7 (.tmp 0),none⟩,⟨some 3,.box 3 4 (.tmp 1),none⟩,⟨some 4,.mov (.val (.pv (.nilp))),none⟩,⟨some 5,.mov (.val (.pv (.int .i64 0))),none⟩] [2,3] [2,3])
(.seq
(.seq
(.region [⟨some 7,.load 7 true (.tmp 2),none⟩,⟨some 8,.call (.val (.func 152 [])) [(.tmp 7)],none⟩,⟨some 6,.mov (.tmp 8),none⟩] [2,3,6] [2,3])
(.seq
(.region [⟨some 9,.mov (.tmp 6),none⟩,⟨some 10,.bin .neq (.tmp 9) (.val (.pv (.int .i64 0))),none⟩] [2,3,6,10] [2,3])
(.cond (.tmp 10)
(.seq
(.region [⟨some 11,.mov (.tmp 6),none⟩,⟨some 4,.mov (.val (.pv (.nilp))),none⟩,⟨some 5,.mov (.tmp 11),none⟩] [4,5] [])
.ret)
.skip)))
(.seq
(.seq
(.region [⟨some 12,.load 7 true (.tmp 2),none⟩,⟨some 13,.load 4 true (.tmp 3),none⟩,⟨some 14,.call (.val (.func 157 [])) [(.tmp 12),(.tmp 13)],none⟩,⟨some 15,.un .not (.tmp 14),none⟩] [2,3,15] [2,3])
(.cond (.tmp 15)
(.seq
(.region [⟨some 4,.mov (.val (.pv (.nilp))),none⟩,⟨some 5,.mov (.val (.pv (.int .i64 1))),none⟩] [4,5] [])
.ret)
.skip))
(.seq
(.region [⟨some 16,.load 7 true (.tmp 2),none⟩,⟨some 17,.load 4 true (.tmp 3),none⟩,⟨some 18,.call (.val (.func 253 [])) [(.tmp 16),(.tmp 17)],none⟩,⟨some 19,.ext (.tmp 18) 0,none⟩,⟨some 20,.ext (.tmp 18) 1,none⟩,⟨some 4,.mov (.tmp 19),none⟩,⟨some 5,.mov (.tmp 20),none⟩] [4,5] [])
.ret)))),[.tmp 4,.tmp 5],false,false,false⟩
def F249 : AFunc := ⟨2,(.seq
(.region [⟨some 4,.mov (.val (.tl [])),none⟩] [0,1] [])
(.seq
(.region [⟨some 5,.mov (.val (.tl [])),none⟩] [0,1,5] [])
(.seq
(.block 0
(.loop
(.mask [0,1,5] []
(.seq
(.seq
(.region [⟨some 6,.mov (.tmp 0),none⟩,⟨some 7,.nilck (.tmp 6),none⟩,⟨some 8,.fld 10 (.tmp 7),none⟩,⟨some 9,.load 1 false (.tmp 8),none⟩,⟨some 10,.mov (.tmp 1),none⟩,⟨some 11,.idx 1 (.tmp 9) (.tmp 10),none⟩,⟨some 12,.load 1 false (.tmp 11),none⟩,⟨some 13,.bin .geq (.tmp 12) (.val (.pv (.int .i64 0))),none⟩] [0,1,5,13] [])
(.cond (.tmp 13)
.skip
(.exit 0)))
(.seq
(.block 1
(.region [⟨some 21,.mov (.tmp 5),none⟩,⟨some 22,.mov (.tmp 0),none⟩,⟨some 23,.nilck (.tmp 22),none⟩,⟨some 24,.fld 11 (.tmp 23),none⟩,⟨some 25,.load 1 false (.tmp 24),none⟩,⟨some 26,.mov (.tmp 1),none⟩,⟨some 27,.idx 3 (.tmp 25) (.tmp 26),none⟩,⟨some 28,.load 3 true (.tmp 27),none⟩,⟨some 29,.lit 3 [.pv (.int .i64 0),.pv (.bool false),.pv (.int .i64 0)] 1 [(0,3,(.tmp 28))],none⟩,⟨some 30,.app 3 (.tmp 21) (.tmp 29),none⟩,⟨some 5,.mov (.tmp 30),none⟩] [0,1,5] []))
(.region [⟨some 14,.mov (.tmp 0),none⟩,⟨some 15,.nilck (.tmp 14),none⟩,⟨some 16,.fld 10 (.tmp 15),none⟩,⟨some 17,.load 1 false (.tmp 16),none⟩,⟨some 18,.mov (.tmp 1),none⟩,⟨some 19,.idx 1 (.tmp 17) (.tmp 18),none⟩,⟨some 20,.load 1 false (.tmp 19),none⟩,⟨some 1,.mov (.tmp 20),none⟩] [0,1,5] []))))))
(.seq
(.region [⟨some 31,.mov (.tmp 5),none⟩,⟨some 32,.call (.val (.func 254 [])) [(.tmp 31)],none⟩] [5] [])
(.seq
(.region [⟨some 33,.mov (.tmp 5),none⟩,⟨some 4,.mov (.tmp 33),none⟩] [4] [])
.ret))))),[.tmp 4],false,false,false⟩
def F250 : AFunc := ⟨3,(.seq
(.region [⟨some 3,.box 3 7 (.tmp 0),none⟩,⟨some 4,.box 4 4 (.tmp 1),none⟩,⟨some 6,.mov (.val (.pv (.int .i64 0))),none⟩] [2,3,4] [3,4])
(.seq
(.block 0
(.seq
(.draw [(⟨some 8,.fld 0 (.tmp 3),none⟩,[]),(⟨some 9,.load 3 true (.tmp 8),none⟩,[]),(⟨some 10,.call (.val (.func 95 [])) [(.tmp 9)],none⟩,[]),(⟨some 11,.fld 0 (.tmp 4),none⟩,[]),(⟨some 12,.load 1 false (.tmp 11),none⟩,[2]),(⟨some 13,.call (.val (.func 110 [])) [(.tmp 10),(.tmp 12)],none⟩,[]),(⟨some 14,.mov (.tmp 13),none⟩,[]),(⟨some 15,.fld 3 (.tmp 3),some (14,true)⟩,[]),(⟨some 16,.load 3 true (.tmp 15),some (14,true)⟩,[]),(⟨some 17,.call (.val (.func 95 [])) [(.tmp 16)],some (14,true)⟩,[]),(⟨some 18,.fld 1 (.tmp 4),some (14,true)⟩,[]),(⟨some 19,.load 1 false (.tmp 18),some (14,true)⟩,[9]),(⟨some 20,.call (.val (.func 110 [])) [(.tmp 17),(.tmp 19)],some (14,true)⟩,[]),(⟨some 21,.pick (.tmp 14) (.tmp 20) (.val (.pv (.bool false))),none⟩,[]),(⟨some 7,.mov (.tmp 21),none⟩,[])] [2,3,4,7] [3,4])
(.cond (.tmp 7)
(.seq
(.region [⟨some 6,.mov (.val (.pv (.int .i64 2))),none⟩] [6] [])
.ret)
(.seq
(.region [⟨some 23,.fld 0 (.tmp 3),none⟩,⟨some 24,.load 3 true (.tmp 23),none⟩,⟨some 25,.fld 0 (.tmp 4),none⟩,⟨some 26,.load 1 false (.tmp 25),none⟩,⟨some 27,.fld 2 (.tmp 4),none⟩,⟨some 28,.load 1 false (.tmp 27),none⟩,⟨some 29,.call (.val (.func 255 [])) [(.tmp 24),(.tmp 26),(.tmp 28)],none⟩,⟨some 30,.mov (.tmp 29),none⟩,⟨some 31,.fld 3 (.tmp 3),some (30,false)⟩,⟨some 32,.load 3 true (.tmp 31),some (30,false)⟩,⟨some 33,.fld 1 (.tmp 4),some (30,false)⟩,⟨some 34,.load 1 false (.tmp 33),some (30,false)⟩,⟨some 35,.fld 3 (.tmp 4),some (30,false)⟩,⟨some 36,.load 1 false (.tmp 35),some (30,false)⟩,⟨some 37,.call (.val (.func 255 [])) [(.tmp 32),(.tmp 34),(.tmp 36)],some (30,false)⟩,⟨some 38,.pick (.tmp 30) (.val (.pv (.bool true))) (.tmp 37),none⟩,⟨some 22,.mov (.tmp 38),none⟩] [2,22] [])
(.cond (.tmp 22)
(.seq
(.region [⟨some 6,.mov (.val (.pv (.int .i64 1))),none⟩] [6] [])
.ret)
(.seq
(.region [⟨some 40,.mov (.tmp 2),none⟩,⟨some 41,.len 0 (.tmp 40),none⟩,⟨some 42,.bin .eql (.tmp 41) (.val (.pv (.int .i64 0))),none⟩,⟨some 39,.mov (.tmp 42),none⟩] [39] [])
(.cond (.tmp 39)
(.seq
(.region [⟨some 6,.mov (.val (.pv (.int .i64 3))),none⟩] [6] [])
.ret)
.skip)))))))
(.seq
(.region [⟨some 6,.mov (.val (.pv (.int .i64 4))),none⟩] [6] [])
.ret))),[.tmp 6],false,false,false⟩
def F251 : AFunc := ⟨1,(.seq
(.region [⟨some 1,.box 1 4 (.tmp 0),none⟩,⟨some 2,.mov (.val (.pv (.str ⟨#[]⟩))),none⟩] [1] [1])
(.seq
(.draw [(⟨some 8,.fld 0 (.tmp 1),none⟩,[]),(⟨some 9,.load 1 false (.tmp 8),none⟩,[]),(⟨some 10,.call (.val (.func 194 [])) [(.tmp 9)],none⟩,[]),(⟨some 11,.bin .add (.tmp 10) (.val (.pv (.str ⟨#[32]⟩))),none⟩,[]),(⟨some 12,.fld 1 (.tmp 1),none⟩,[]),(⟨some 13,.load 1 false (.tmp 12),none⟩,[2]),(⟨some 14,.call (.val (.func 194 [])) [(.tmp 13)],none⟩,[]),(⟨some 15,.bin .add (.tmp 11) (.tmp 14),none⟩,[]),(⟨some 3,.mov (.tmp 15),none⟩,[])] [1,3] [1])
(.seq
(.seq
(.region [⟨some 16,.fld 2 (.tmp 1),none⟩,⟨some 17,.load 1 false (.tmp 16),none⟩,⟨some 18,.len 0 (.tmp 17),none⟩,⟨some 19,.mov (.val (.pv (.int .i64 0))),none⟩] [1,3,17,18,19] [1])
(.block 0
(.loop
(.mask [1,3,17,18,19] [1]
(.seq
(.region [⟨some 20,.bin .lss (.tmp 19) (.tmp 18),none⟩] [1,3,17,18,19,20] [1])
(.seq
(.cond (.tmp 20)
.skip
(.exit 0))
(.seq
(.block 1
(.seq
(.region [⟨some 21,.idx 1 (.tmp 17) (.tmp 19),none⟩,⟨some 22,.load 1 false (.tmp 21),none⟩,⟨some 5,.mov (.tmp 22),none⟩] [1,3,5,17,18,19] [1])
(.region [⟨some 23,.mov (.tmp 3),none⟩,⟨some 24,.mov (.tmp 5),none⟩,⟨some 25,.call (.val (.func 194 [])) [(.tmp 24)],none⟩,⟨some 26,.bin .add (.val (.pv (.str ⟨#[32]⟩))) (.tmp 25),none⟩,⟨some 27,.bin .add (.tmp 23) (.tmp 26),none⟩,⟨some 3,.mov (.tmp 27),none⟩] [1,3,17,18,19] [1])))
(.region [⟨some 28,.bin .add (.tmp 19) (.val (.pv (.int .i64 1))),none⟩,⟨some 19,.mov (.tmp 28),none⟩] [1,3,17,18,19] [1]))))))))
(.seq
(.region [⟨some 29,.mov (.tmp 3),none⟩,⟨some 30,.bin .add (.tmp 29) (.val (.pv (.str ⟨#[59]⟩))),none⟩,⟨some 3,.mov (.tmp 30),none⟩] [1,3] [1])
(.seq
(.seq
(.region [⟨some 31,.fld 3 (.tmp 1),none⟩,⟨some 32,.load 1 false (.tmp 31),none⟩,⟨some 33,.len 0 (.tmp 32),none⟩,⟨some 34,.mov (.val (.pv (.int .i64 0))),none⟩] [3,32,33,34] [])
(.block 2
(.loop
(.mask [3,32,33,34] []
(.seq
(.region [⟨some 35,.bin .lss (.tmp 34) (.tmp 33),none⟩] [3,32,33,34,35] [])
(.seq
(.cond (.tmp 35)
.skip
(.exit 2))
(.seq
(.block 3
(.seq
(.region [⟨some 36,.idx 1 (.tmp 32) (.tmp 34),none⟩,⟨some 37,.load 1 false (.tmp 36),none⟩,⟨some 7,.mov (.tmp 37),none⟩] [3,7,32,33,34] [])
(.region [⟨some 38,.mov (.tmp 3),none⟩,⟨some 39,.mov (.tmp 7),none⟩,⟨some 40,.call (.val (.func 194 [])) [(.tmp 39)],none⟩,⟨some 41,.bin .add (.val (.pv (.str ⟨#[32]⟩))) (.tmp 40),none⟩,⟨some 42,.bin .add (.tmp 38) (.tmp 41),none⟩,⟨some 3,.mov (.tmp 42),none⟩] [3,32,33,34] [])))
(.region [⟨some 43,.bin .add (.tmp 34) (.val (.pv (.int .i64 1))),none⟩,⟨some 34,.mov (.tmp 43),none⟩] [3,32,33,34] []))))))))
(.seq
(.region [⟨some 44,.mov (.tmp 3),none⟩,⟨some 2,.mov (.tmp 44),none⟩] [2] [])
.ret)))))),[.tmp 2],false,false,false⟩
def F253 : AFunc := ⟨2,(.seq
(.region [⟨some 2,.box 100002 7 (.tmp 0),none⟩,⟨some 3,.box 100003 4 (.tmp 1),none⟩,⟨some 4,.mov (.val (.pv (.nilp))),none⟩,⟨some 5,.mov (.val (.pv (.int .i64 0))),none⟩] [2,3] [])
(.seq
(.region [⟨some 17,.load 7 true (.tmp 2),none⟩,⟨some 18,.build [.pv (.int .i64 0),.pv (.int .i64 0),.tl [],.pv (.int .i64 0),.pv (.int .i64 0),.tl [],.pv (.int .i64 0),.tl [],.tl [],.tl [],.tl [],.tl []] [(0,7,(.tmp 17))],none⟩,⟨some 19,.box 100019 12 (.tmp 18),none⟩,⟨some 6,.alloc 100006 [.pv (.nilp)],none⟩,⟨none,.store 1 (.tmp 6) (.tmp 19),none⟩] [2,3,6] [])
(.seq
(.region [⟨some 20,.mkmap,none⟩,⟨some 7,.alloc 100007 [.nilm],none⟩,⟨none,.store 1 (.tmp 7) (.tmp 20),none⟩] [2,3,6,7] [])
(.seq
(.region [⟨some 21,.clos 256 [(.tmp 7),(.tmp 6)],none⟩,⟨some 8,.mov (.tmp 21),none⟩] [2,3,6,8] [])
(.seq
(.region [⟨some 22,.mov (.tmp 8),none⟩,⟨some 23,.load 4 true (.tmp 3),none⟩,⟨some 24,.call (.val (.func 257 [])) [(.tmp 23)],none⟩,⟨some 25,.build [.pv (.int .i64 0),.pv (.bool false),.pv (.int .i64 0)] [],none⟩,⟨some 26,.call (.tmp 22) [(.tmp 24),(.val (.pv (.int .i64 (-1)))),(.tmp 25)],none⟩] [2,6,8] [])
(.seq
(.seq
(.region [⟨some 9,.mov (.val (.pv (.int .i64 0))),none⟩] [2,6,8,9] [])
(.block 0
(.loop
(.mask [2,6,8,9] []
(.seq
(.seq
(.region [⟨some 27,.mov (.tmp 9),none⟩,⟨some 28,.load 1 false (.tmp 6),none⟩,⟨some 29,.nilck (.tmp 28),none⟩,⟨some 30,.fld 7 (.tmp 29),none⟩,⟨some 31,.load 1 false (.tmp 30),none⟩,⟨some 32,.len 0 (.tmp 31),none⟩,⟨some 33,.bin .lss (.tmp 27) (.tmp 32),none⟩] [2,6,8,9,33] [])
(.cond (.tmp 33)
.skip
(.exit 0)))
(.seq
(.block 1
(.seq
(.draw [(⟨some 37,.load 7 true (.tmp 2),none⟩,[]),(⟨some 38,.load 1 false (.tmp 6),none⟩,[]),(⟨some 39,.nilck (.tmp 38),none⟩,[]),(⟨some 40,.fld 7 (.tmp 39),none⟩,[]),(⟨some 41,.load 1 false (.tmp 40),none⟩,[]),(⟨some 42,.mov (.tmp 9),none⟩,[]),(⟨some 43,.idx 4 (.tmp 41) (.tmp 42),none⟩,[]),(⟨some 44,.load 4 true (.tmp 43),none⟩,[]),(⟨some 45,.call (.val (.func 171 [])) [(.tmp 37),(.tmp 44)],none⟩,[]),(⟨some 36,.mov (.tmp 45),none⟩,[]),(⟨some 46,.ext (.tmp 36) 0,none⟩,[]),(⟨some 47,.ext (.tmp 36) 1,none⟩,[]),(⟨some 10,.mov (.tmp 46),none⟩,[]),(⟨some 11,.mov (.tmp 47),none⟩,[])] [2,6,8,9,10,11] [])
(.seq
(.seq
(.region [⟨some 48,.mov (.tmp 11),none⟩,⟨some 49,.bin .neq (.tmp 48) (.val (.pv (.int .i64 0))),none⟩] [2,6,8,9,10,11,49] [])
(.cond (.tmp 49)
(.seq
(.region [⟨some 50,.mov (.tmp 11),none⟩,⟨some 4,.mov (.val (.pv (.nilp))),none⟩,⟨some 5,.mov (.tmp 50),none⟩] [4,5] [])
.ret)
.skip))
(.seq
(.region [⟨some 12,.mov (.val (.tl [])),none⟩] [2,6,8,9,10,12] [])
(.seq
(.seq
(.region [⟨some 51,.mov (.tmp 10),none⟩,⟨some 52,.len 0 (.tmp 51),none⟩,⟨some 53,.mov (.val (.pv (.int .i64 0))),none⟩] [2,6,8,9,10,12,51,52,53] [])
(.block 2
(.loop
(.mask [2,6,8,9,10,12,51,52,53] []
(.seq
(.region [⟨some 54,.bin .lss (.tmp 53) (.tmp 52),none⟩] [2,6,8,9,10,12,51,52,53,54] [])
(.seq
(.cond (.tmp 54)
.skip
(.exit 2))
(.seq
(.block 3
(.seq
(.region [⟨some 55,.idx 3 (.tmp 51) (.tmp 53),none⟩,⟨some 56,.load 3 true (.tmp 55),none⟩,⟨some 14,.alloc 14 [.pv (.int .i64 0),.pv (.bool false),.pv (.int .i64 0)],none⟩,⟨none,.store 3 (.tmp 14) (.tmp 56),none⟩] [2,6,8,9,10,12,14,51,52,53] [14])
(.seq
(.draw [(⟨some 58,.load 7 true (.tmp 2),none⟩,[]),(⟨some 59,.load 1 false (.tmp 6),none⟩,[]),(⟨some 60,.nilck (.tmp 59),none⟩,[]),(⟨some 61,.fld 7 (.tmp 60),none⟩,[]),(⟨some 62,.load 1 false (.tmp 61),none⟩,[]),(⟨some 63,.mov (.tmp 9),none⟩,[]),(⟨some 64,.idx 4 (.tmp 62) (.tmp 63),none⟩,[]),(⟨some 65,.load 4 true (.tmp 64),none⟩,[]),(⟨some 66,.load 3 true (.tmp 14),none⟩,[]),(⟨some 67,.call (.val (.func 174 [])) [(.tmp 58),(.tmp 65),(.tmp 66)],none⟩,[]),(⟨some 57,.mov (.tmp 67),none⟩,[]),(⟨some 68,.ext (.tmp 57) 0,none⟩,[]),(⟨some 69,.ext (.tmp 57) 1,none⟩,[]),(⟨some 15,.alloc 15 [.pv (.int .i64 0),.pv (.int .i64 0),.tl [],.tl []],none⟩,[0,1,4,6,7,8,9]),(⟨none,.store 4 (.tmp 15) (.tmp 68),none⟩,[]),(⟨some 16,.mov (.tmp 69),none⟩,[])] [2,6,8,9,10,12,14,15,16,51,52,53] [14,15])
(.seq
(.seq
(.region [⟨some 70,.mov (.tmp 16),none⟩,⟨some 71,.bin .neq (.tmp 70) (.val (.pv (.int .i64 0))),none⟩] [2,6,8,9,10,12,14,15,16,51,52,53,71] [14,15])
(.cond (.tmp 71)
(.seq
(.region [⟨some 72,.mov (.tmp 16),none⟩,⟨some 4,.mov (.val (.pv (.nilp))),none⟩,⟨some 5,.mov (.tmp 72),none⟩] [4,5] [])
.ret)
.skip))
(.seq
(.region [⟨some 73,.mov (.tmp 12),none⟩,⟨some 74,.mov (.tmp 8),none⟩,⟨some 75,.load 4 true (.tmp 15),none⟩,⟨some 76,.mov (.tmp 9),none⟩,⟨some 77,.load 3 true (.tmp 14),none⟩,⟨some 78,.call (.tmp 74) [(.tmp 75),(.tmp 76),(.tmp 77)],none⟩,⟨some 79,.lit 1 [.pv (.int .i64 0)] 1 [(0,1,(.tmp 78))],none⟩,⟨some 80,.app 1 (.tmp 73) (.tmp 79),none⟩,⟨some 12,.mov (.tmp 80),none⟩] [2,6,8,9,10,12,51,52,53] [])
(.seq
(.region [⟨some 81,.load 1 false (.tmp 6),none⟩,⟨some 82,.nilck (.tmp 81),none⟩,⟨some 83,.fld 7 (.tmp 82),none⟩,⟨some 84,.load 1 false (.tmp 83),none⟩,⟨some 85,.len 0 (.tmp 84),none⟩,⟨some 86,.bin .gtr (.tmp 85) (.val (.pv (.int .i64 5000))),none⟩] [2,6,8,9,10,12,51,52,53,86] [])
(.cond (.tmp 86)
(.seq
(.region [⟨some 4,.mov (.val (.pv (.nilp))),none⟩,⟨some 5,.mov (.val (.pv (.int .i64 3))),none⟩] [4,5] [])
.ret)
.skip)))))))
(.region [⟨some 87,.bin .add (.tmp 53) (.val (.pv (.int .i64 1))),none⟩,⟨some 53,.mov (.tmp 87),none⟩] [2,6,8,9,10,12,51,52,53] []))))))))
(.drawR 4 [(⟨some 88,.load 1 false (.tmp 6),none⟩,[]),(⟨some 89,.load 1 false (.tmp 6),none⟩,[]),(⟨some 90,.load 1 false (.tmp 6),none⟩,[]),(⟨some 91,.nilck (.tmp 90),none⟩,[]),(⟨some 92,.fld 8 (.tmp 91),none⟩,[]),(⟨some 93,.load 1 false (.tmp 92),none⟩,[]),(⟨some 94,.mov (.tmp 10),none⟩,[]),(⟨some 95,.litAt 0 1 [.tl []] 1 [(0,1,(.tmp 94))],none⟩,[0,1,2,5]),(⟨some 96,.appAt 1 1 (.tmp 93) (.tmp 95),none⟩,[0,1]),(⟨some 97,.load 1 false (.tmp 6),none⟩,[7,8]),(⟨some 98,.nilck (.tmp 97),none⟩,[]),(⟨some 99,.fld 9 (.tmp 98),none⟩,[]),(⟨some 100,.load 1 false (.tmp 99),none⟩,[7,8]),(⟨some 101,.mov (.tmp 12),none⟩,[]),(⟨some 102,.litAt 2 1 [.tl []] 1 [(0,1,(.tmp 101))],none⟩,[0,1,2,5,7,8,9,12]),(⟨some 103,.appAt 3 1 (.tmp 100) (.tmp 102),none⟩,[0,1]),(⟨some 104,.nilck (.tmp 88),none⟩,[]),(⟨some 105,.fld 8 (.tmp 104),none⟩,[]),(⟨none,.store 1 (.tmp 105) (.tmp 96),none⟩,[1]),(⟨some 106,.nilck (.tmp 89),none⟩,[]),(⟨some 107,.fld 9 (.tmp 106),none⟩,[]),(⟨none,.store 1 (.tmp 107) (.tmp 103),none⟩,[])] [2,6,8,9] []))))))
(.region [⟨some 34,.mov (.tmp 9),none⟩,⟨some 35,.bin .add (.tmp 34) (.val (.pv (.int .i64 1))),none⟩,⟨some 9,.mov (.tmp 35),none⟩] [2,6,8,9] [])))))))
(.seq
(.region [⟨some 108,.load 1 false (.tmp 6),none⟩,⟨some 4,.mov (.tmp 108),none⟩,⟨some 5,.mov (.val (.pv (.int .i64 0))),none⟩] [4,5] [])
.ret))))))),[.tmp 4,.tmp 5],false,false,false⟩
def F254 : AFunc := ⟨1,(.seq
(.region [⟨some 4,.mov (.tmp 0),none⟩,⟨some 5,.len 0 (.tmp 4),none⟩,⟨some 6,.bin .sub (.tmp 5) (.val (.pv (.int .i64 1))),none⟩,⟨some 2,.mov (.val (.pv (.int .i64 0))),none⟩,⟨some 3,.mov (.tmp 6),none⟩] [0,2,3] [])
(.block 0
(.loop
(.mask [0,2,3] []
(.seq
(.seq
(.region [⟨some 7,.mov (.tmp 2),none⟩,⟨some 8,.mov (.tmp 3),none⟩,⟨some 9,.bin .lss (.tmp 7) (.tmp 8),none⟩] [0,2,3,9] [])
(.cond (.tmp 9)
.skip
(.exit 0)))
(.seq
(.block 1
(.draw [(⟨some 14,.mov (.tmp 0),none⟩,[]),(⟨some 15,.mov (.tmp 2),none⟩,[]),(⟨some 16,.mov (.tmp 0),none⟩,[]),(⟨some 17,.mov (.tmp 3),none⟩,[]),(⟨some 18,.mov (.tmp 0),none⟩,[]),(⟨some 19,.mov (.tmp 3),none⟩,[]),(⟨some 20,.idx 3 (.tmp 18) (.tmp 19),none⟩,[]),(⟨some 21,.load 3 true (.tmp 20),none⟩,[]),(⟨some 22,.mov (.tmp 0),none⟩,[]),(⟨some 23,.mov (.tmp 2),none⟩,[]),(⟨some 24,.idx 3 (.tmp 22) (.tmp 23),none⟩,[]),(⟨some 25,.load 3 true (.tmp 24),none⟩,[]),(⟨some 26,.idx 3 (.tmp 14) (.tmp 15),none⟩,[]),(⟨none,.store 3 (.tmp 26) (.tmp 21),none⟩,[]),(⟨some 27,.idx 3 (.tmp 16) (.tmp 17),none⟩,[]),(⟨none,.store 3 (.tmp 27) (.tmp 25),none⟩,[])] [0,2,3] []))
(.region [⟨some 10,.mov (.tmp 2),none⟩,⟨some 11,.bin .add (.tmp 10) (.val (.pv (.int .i64 1))),none⟩,⟨some 12,.mov (.tmp 3),none⟩,⟨some 13,.bin .sub (.tmp 12) (.val (.pv (.int .i64 1))),none⟩,⟨some 2,.mov (.tmp 11),none⟩,⟨some 3,.mov (.tmp 13),none⟩] [0,2,3] []))))))),[],false,false,true⟩
def F255 : AFunc := ⟨3,(.seq
(.region [⟨some 3,.box 3 3 (.tmp 0),none⟩,⟨some 4,.box 4 1 (.tmp 1),none⟩,⟨some 6,.mov (.val (.pv (.bool false))),none⟩] [2,3,4] [3,4])
(.seq
(.seq
(.region [⟨some 9,.mov (.tmp 2),none⟩,⟨some 10,.len 0 (.tmp 9),none⟩,⟨some 11,.bin .eql (.tmp 10) (.val (.pv (.int .i64 0))),none⟩] [2,3,4,11] [3,4])
(.cond (.tmp 11)
(.seq
(.region [⟨some 6,.mov (.val (.pv (.bool false))),none⟩] [6] [])
.ret)
.skip))
(.seq
(.seq
(.draw [(⟨some 13,.load 3 true (.tmp 3),none⟩,[]),(⟨some 14,.load 1 false (.tmp 4),none⟩,[]),(⟨some 15,.mov (.tmp 2),none⟩,[]),(⟨some 16,.idx 1 (.tmp 15) (.val (.pv (.int .i64 0))),none⟩,[]),(⟨some 17,.load 1 false (.tmp 16),none⟩,[]),(⟨some 18,.call (.val (.func 45 [])) [(.tmp 13),(.tmp 14),(.val (.pv (.bool false))),(.tmp 17)],none⟩,[]),(⟨some 12,.mov (.tmp 18),none⟩,[]),(⟨some 19,.ext (.tmp 12) 0,none⟩,[]),(⟨some 20,.ext (.tmp 12) 1,none⟩,[]),(⟨some 7,.mov (.tmp 19),none⟩,[]),(⟨some 8,.mov (.tmp 20),none⟩,[])] [3,4,8] [3,4])
(.seq
(.region [⟨some 21,.mov (.tmp 8),none⟩] [3,4,21] [3,4])
(.cond (.tmp 21)
(.seq
(.region [⟨some 6,.mov (.val (.pv (.bool false))),none⟩] [6] [])
.ret)
.skip)))
(.seq
(.region [⟨some 22,.fld 2 (.tmp 3),none⟩,⟨some 23,.load 1 false (.tmp 22),none⟩,⟨some 24,.clos 258 [(.tmp 4)],none⟩,⟨some 25,.call (.val (.func 180 [])) [(.tmp 23),(.tmp 24)],none⟩,⟨some 26,.un .not (.tmp 25),none⟩,⟨some 6,.mov (.tmp 26),none⟩] [6] [])
.ret)))),[.tmp 6],false,false,false⟩
def F256 : AFunc := ⟨5,(.seq
(.region [⟨some 5,.box 5 4 (.tmp 0),none⟩,⟨some 7,.box 7 3 (.tmp 2),none⟩,⟨some 8,.mov (.val (.pv (.int .i64 0))),none⟩] [1,3,4,5,7] [5,7])
(.seq
(.draw [(⟨some 12,.load 1 false (.tmp 3),none⟩,[]),(⟨some 13,.load 4 true (.tmp 5),none⟩,[]),(⟨some 14,.call (.val (.func 251 [])) [(.tmp 13)],none⟩,[0]),(⟨some 15,.look false [2] (.pv (.int .i64 0)) (.tmp 12) (.tmp 14) true,none⟩,[]),(⟨some 11,.mov (.tmp 15),none⟩,[]),(⟨some 16,.ext (.tmp 11) 0,none⟩,[]),(⟨some 17,.ext (.tmp 11) 1,none⟩,[]),(⟨some 9,.mov (.tmp 16),none⟩,[]),(⟨some 10,.mov (.tmp 17),none⟩,[])] [1,3,4,5,7,9,10] [5,7])
(.seq
(.seq
(.region [⟨some 18,.mov (.tmp 10),none⟩,⟨some 19,.un .not (.tmp 18),none⟩] [1,3,4,5,7,9,19] [5,7])
(.cond (.tmp 19)
(.seq
(.region [⟨some 20,.load 1 false (.tmp 4),none⟩,⟨some 21,.nilck (.tmp 20),none⟩,⟨some 22,.fld 7 (.tmp 21),none⟩,⟨some 23,.load 1 false (.tmp 22),none⟩,⟨some 24,.len 0 (.tmp 23),none⟩,⟨some 9,.mov (.tmp 24),none⟩] [1,3,4,5,7,9] [5,7])
(.seq
(.draw [(⟨some 25,.load 1 false (.tmp 3),none⟩,[]),(⟨some 26,.load 4 true (.tmp 5),none⟩,[]),(⟨some 27,.call (.val (.func 251 [])) [(.tmp 26)],none⟩,[0]),(⟨some 28,.mov (.tmp 9),none⟩,[]),(⟨none,.upd false [2] (.tmp 25) (.tmp 27) (.tmp 28),none⟩,[])] [1,4,5,7,9] [5,7])
(.seq
(.draw [(⟨some 29,.load 1 false (.tmp 4),none⟩,[]),(⟨some 30,.load 1 false (.tmp 4),none⟩,[]),(⟨some 31,.nilck (.tmp 30),none⟩,[]),(⟨some 32,.fld 7 (.tmp 31),none⟩,[]),(⟨some 33,.load 1 false (.tmp 32),none⟩,[]),(⟨some 34,.load 4 true (.tmp 5),none⟩,[]),(⟨some 35,.lit 4 [.pv (.int .i64 0),.pv (.int .i64 0),.tl [],.tl []] 1 [(0,4,(.tmp 34))],none⟩,[0,1,4]),(⟨some 36,.app 4 (.tmp 33) (.tmp 35),none⟩,[0]),(⟨some 37,.nilck (.tmp 29),none⟩,[]),(⟨some 38,.fld 7 (.tmp 37),none⟩,[]),(⟨none,.store 1 (.tmp 38) (.tmp 36),none⟩,[])] [1,4,7,9] [7])
(.seq
(.draw [(⟨some 39,.load 1 false (.tmp 4),none⟩,[]),(⟨some 40,.load 1 false (.tmp 4),none⟩,[]),(⟨some 41,.nilck (.tmp 40),none⟩,[]),(⟨some 42,.fld 10 (.tmp 41),none⟩,[]),(⟨some 43,.load 1 false (.tmp 42),none⟩,[]),(⟨some 44,.mov (.tmp 1),none⟩,[]),(⟨some 45,.lit 1 [.pv (.int .i64 0)] 1 [(0,1,(.tmp 44))],none⟩,[0,1,4]),(⟨some 46,.app 1 (.tmp 43) (.tmp 45),none⟩,[0]),(⟨some 47,.nilck (.tmp 39),none⟩,[]),(⟨some 48,.fld 10 (.tmp 47),none⟩,[]),(⟨none,.store 1 (.tmp 48) (.tmp 46),none⟩,[])] [4,7,9] [7])
(.draw [(⟨some 49,.load 1 false (.tmp 4),none⟩,[]),(⟨some 50,.load 1 false (.tmp 4),none⟩,[]),(⟨some 51,.nilck (.tmp 50),none⟩,[]),(⟨some 52,.fld 11 (.tmp 51),none⟩,[]),(⟨some 53,.load 1 false (.tmp 52),none⟩,[]),(⟨some 54,.load 3 true (.tmp 7),none⟩,[]),(⟨some 55,.lit 3 [.pv (.int .i64 0),.pv (.bool false),.pv (.int .i64 0)] 1 [(0,3,(.tmp 54))],none⟩,[0,1,4]),(⟨some 56,.app 3 (.tmp 53) (.tmp 55),none⟩,[0]),(⟨some 57,.nilck (.tmp 49),none⟩,[]),(⟨some 58,.fld 11 (.tmp 57),none⟩,[]),(⟨none,.store 1 (.tmp 58) (.tmp 56),none⟩,[])] [9] [])))))
.skip))
(.seq
(.region [⟨some 59,.mov (.tmp 9),none⟩,⟨some 8,.mov (.tmp 59),none⟩] [8] [])
.ret)))),[.tmp 8],false,false,true⟩
def F257 : AFunc := ⟨1,(.seq
(.region [⟨some 1,.box 1 4 (.tmp 0),none⟩,⟨some 2,.alloc 2 [.pv (.int .i64 0),.pv (.int .i64 0),.tl [],.tl []],none⟩] [1,2] [1,2])
(.seq
(.draw [(⟨some 3,.fld 0 (.tmp 1),none⟩,[]),(⟨some 4,.load 1 false (.tmp 3),none⟩,[]),(⟨some 5,.fld 1 (.tmp 1),none⟩,[]),(⟨some 6,.load 1 false (.tmp 5),none⟩,[]),(⟨some 7,.fld 2 (.tmp 1),none⟩,[]),(⟨some 8,.load 1 false (.tmp 7),none⟩,[]),(⟨some 9,.call (.val (.func 191 [])) [(.tmp 8)],none⟩,[1,3]),(⟨some 10,.fld 3 (.tmp 1),none⟩,[]),(⟨some 11,.load 1 false (.tmp 10),none⟩,[6]),(⟨some 12,.call (.val (.func 191 [])) [(.tmp 11)],none⟩,[1,3]),(⟨some 13,.build [.pv (.int .i64 0),.pv (.int .i64 0),.tl [],.tl []] [(0,1,(.tmp 4)),(1,1,(.tmp 6)),(2,1,(.tmp 9)),(3,1,(.tmp 12))],none⟩,[]),(⟨none,.store 4 (.tmp 2) (.tmp 13),none⟩,[])] [2] [2])
.ret)),[.cell 2 4 true],false,false,false⟩
def F258 : AFunc := ⟨2,(.seq
(.region [⟨some 2,.box 2 4 (.tmp 0),none⟩,⟨some 3,.mov (.val (.pv (.bool false))),none⟩] [1,2] [2])
(.seq
(.region [⟨some 4,.fld 0 (.tmp 2),none⟩,⟨some 5,.load 1 false (.tmp 4),none⟩,⟨some 6,.load 1 false (.tmp 1),none⟩,⟨some 7,.bin .eql (.tmp 5) (.tmp 6),none⟩,⟨some 8,.mov (.tmp 7),none⟩,⟨some 9,.fld 1 (.tmp 2),some (8,true)⟩,⟨some 10,.load 1 false (.tmp 9),some (8,true)⟩,⟨some 11,.pick (.tmp 8) (.tmp 10) (.val (.pv (.bool false))),none⟩,⟨some 3,.mov (.tmp 11),none⟩] [3] [])
.ret)),[.tmp 3],false,false,false⟩
def F252 : AFunc := ⟨2,(.seq
(.region [⟨some 4,.alloc 4 [.pv (.int .i64 0),.pv (.int .i64 0),.tl []],none⟩] [0,1,4] [4])
(.seq
(.region [⟨some 5,.mov (.tmp 0),none⟩,⟨some 6,.mov (.tmp 1),none⟩,⟨some 7,.build [.pv (.int .i64 0),.pv (.int .i64 0),.tl []] [(0,1,(.tmp 5)),(2,1,(.tmp 6))],none⟩,⟨none,.store 3 (.tmp 4) (.tmp 7),none⟩] [4] [4])
.ret)),[.cell 4 3 true],false,false,false⟩
end Go.Pv
