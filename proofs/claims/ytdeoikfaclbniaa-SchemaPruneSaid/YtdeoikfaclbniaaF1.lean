/-
  Functions of the program,read for the interpreter.
-/
import Derived.Test.YtdeoikfaclbniaaA4
namespace Go.Pv
def F94 : AFunc := ⟨2,(.seq
(.region [⟨some 4,.mov (.val (.pv (.bool false))),none⟩] [0,1] [])
(.seq
(.seq
(.region [⟨some 6,.mov (.tmp 0),none⟩,⟨some 7,.len 0 (.tmp 6),none⟩,⟨some 8,.mov (.tmp 1),none⟩,⟨some 9,.len 0 (.tmp 8),none⟩,⟨some 10,.bin .neq (.tmp 7) (.tmp 9),none⟩] [0,1,10] [])
(.cond (.tmp 10)
(.seq
(.region [⟨some 4,.mov (.val (.pv (.bool false))),none⟩] [4] [])
.ret)
.skip))
(.seq
(.seq
(.region [⟨some 5,.mov (.val (.pv (.int .i64 0))),none⟩] [0,1,5] [])
(.block 0
(.loop
(.mask [0,1,5] []
(.seq
(.seq
(.region [⟨some 11,.mov (.tmp 5),none⟩,⟨some 12,.mov (.tmp 0),none⟩,⟨some 13,.len 0 (.tmp 12),none⟩,⟨some 14,.bin .lss (.tmp 11) (.tmp 13),none⟩] [0,1,5,14] [])
(.cond (.tmp 14)
.skip
(.exit 0)))
(.seq
(.block 1
(.seq
(.draw [(⟨some 17,.mov (.tmp 0),none⟩,[]),(⟨some 18,.mov (.tmp 5),none⟩,[]),(⟨some 19,.idx 1 (.tmp 17) (.tmp 18),none⟩,[]),(⟨some 20,.load 1 false (.tmp 19),none⟩,[]),(⟨some 21,.mov (.tmp 1),none⟩,[]),(⟨some 22,.mov (.tmp 5),none⟩,[]),(⟨some 23,.idx 1 (.tmp 21) (.tmp 22),none⟩,[]),(⟨some 24,.load 1 false (.tmp 23),none⟩,[]),(⟨some 25,.bin .neq (.tmp 20) (.tmp 24),none⟩,[])] [0,1,5,25] [])
(.cond (.tmp 25)
(.seq
(.region [⟨some 4,.mov (.val (.pv (.bool false))),none⟩] [4] [])
.ret)
.skip)))
(.region [⟨some 15,.mov (.tmp 5),none⟩,⟨some 16,.bin .add (.tmp 15) (.val (.pv (.int .i64 1))),none⟩,⟨some 5,.mov (.tmp 16),none⟩] [0,1,5] [])))))))
(.seq
(.region [⟨some 4,.mov (.val (.pv (.bool true))),none⟩] [4] [])
.ret)))),[.tmp 4],false,false,false⟩
def F110 : AFunc := ⟨2,(.seq
(.region [⟨some 4,.mov (.val (.pv (.bool false))),none⟩] [0,1] [])
(.seq
(.region [⟨some 5,.mov (.tmp 0),none⟩,⟨some 6,.mov (.tmp 1),none⟩,⟨some 7,.call (.val (.func 118 [])) [(.tmp 5),(.tmp 6)],none⟩,⟨some 8,.bin .geq (.tmp 7) (.val (.pv (.int .i64 0))),none⟩,⟨some 4,.mov (.tmp 8),none⟩] [4] [])
.ret)),[.tmp 4],false,false,false⟩
def F118 : AFunc := ⟨2,(.seq
(.region [⟨some 4,.mov (.val (.pv (.int .i64 0))),none⟩] [0,1] [])
(.seq
(.seq
(.region [⟨some 6,.mov (.tmp 0),none⟩,⟨some 7,.len 0 (.tmp 6),none⟩,⟨some 8,.mov (.val (.pv (.int .i64 0))),none⟩] [0,1,7,8] [])
(.block 0
(.loop
(.mask [0,1,7,8] []
(.seq
(.region [⟨some 9,.bin .lss (.tmp 8) (.tmp 7),none⟩] [0,1,7,8,9] [])
(.seq
(.cond (.tmp 9)
.skip
(.exit 0))
(.seq
(.block 1
(.seq
(.region [⟨some 10,.mov (.tmp 8),none⟩,⟨some 5,.mov (.tmp 10),none⟩] [0,1,5,7,8] [])
(.seq
(.region [⟨some 11,.mov (.tmp 1),none⟩,⟨some 12,.mov (.tmp 0),none⟩,⟨some 13,.mov (.tmp 5),none⟩,⟨some 14,.idx 1 (.tmp 12) (.tmp 13),none⟩,⟨some 15,.load 1 false (.tmp 14),none⟩,⟨some 16,.bin .eql (.tmp 11) (.tmp 15),none⟩] [0,1,5,7,8,16] [])
(.cond (.tmp 16)
(.seq
(.region [⟨some 17,.mov (.tmp 5),none⟩,⟨some 4,.mov (.tmp 17),none⟩] [4] [])
.ret)
.skip))))
(.region [⟨some 18,.bin .add (.tmp 8) (.val (.pv (.int .i64 1))),none⟩,⟨some 8,.mov (.tmp 18),none⟩] [0,1,7,8] []))))))))
(.seq
(.region [⟨some 4,.mov (.val (.pv (.int .i64 (-1)))),none⟩] [4] [])
.ret))),[.tmp 4],false,false,false⟩
def F259 : AFunc := ⟨1,(.seq
(.region [⟨some 1,.box 1 1 (.tmp 0),none⟩,⟨some 2,.mov (.val (.pv (.bool false))),none⟩] [1] [1])
(.seq
(.seq
(.region [⟨some 3,.call (.val (.func 265 [])) [],none⟩,⟨some 4,.un .not (.tmp 3),none⟩,⟨some 5,.mov (.tmp 4),none⟩,⟨some 6,.load 1 true (.tmp 1),some (5,false)⟩,⟨some 7,.call (.val (.func 266 [])) [(.tmp 6)],some (5,false)⟩,⟨some 8,.un .not (.tmp 7),some (5,false)⟩,⟨some 9,.pick (.tmp 5) (.val (.pv (.bool true))) (.tmp 8),none⟩] [1,9] [1])
(.cond (.tmp 9)
(.seq
(.region [⟨some 10,.call (.val (.func 265 [])) [],none⟩,⟨some 2,.mov (.tmp 10),none⟩] [2] [])
.ret)
.skip))
(.seq
(.draw [(⟨some 11,.load 1 true (.tmp 1),none⟩,[]),(⟨some 12,.call (.val (.func 267 [])) [(.tmp 11)],none⟩,[]),(⟨some 13,.load 1 true (.tmp 1),none⟩,[1]),(⟨some 14,.call (.val (.func 268 [])) [(.tmp 13)],none⟩,[]),(⟨some 15,.bin .eql (.tmp 12) (.tmp 14),none⟩,[]),(⟨some 2,.mov (.tmp 15),none⟩,[])] [2] [])
.ret))),[.tmp 2],false,false,false⟩
def F261 : AFunc := ⟨2,(.seq
(.region [⟨some 2,.box 2 1 (.tmp 0),none⟩,⟨some 4,.mov (.val (.pv (.bool false))),none⟩] [1,2] [2])
(.seq
(.seq
(.region [⟨some 13,.call (.val (.func 265 [])) [],none⟩,⟨some 14,.un .not (.tmp 13),none⟩,⟨some 15,.mov (.tmp 14),none⟩,⟨some 16,.load 1 true (.tmp 2),some (15,false)⟩,⟨some 17,.call (.val (.func 266 [])) [(.tmp 16)],some (15,false)⟩,⟨some 18,.un .not (.tmp 17),some (15,false)⟩,⟨some 19,.pick (.tmp 15) (.val (.pv (.bool true))) (.tmp 18),none⟩] [1,2,19] [2])
(.cond (.tmp 19)
(.seq
(.region [⟨some 20,.call (.val (.func 265 [])) [],none⟩,⟨some 4,.mov (.tmp 20),none⟩] [4] [])
.ret)
.skip))
(.seq
(.region [⟨some 22,.load 1 true (.tmp 2),none⟩,⟨some 23,.mov (.tmp 1),none⟩,⟨some 24,.call (.val (.func 271 [])) [(.tmp 22),(.tmp 23)],none⟩,⟨some 21,.mov (.tmp 24),none⟩,⟨some 25,.ext (.tmp 21) 0,none⟩,⟨some 26,.ext (.tmp 21) 1,none⟩,⟨some 5,.mov (.tmp 25),none⟩,⟨some 6,.mov (.tmp 26),none⟩] [1,2,5,6] [2])
(.seq
(.region [⟨some 28,.load 1 true (.tmp 2),none⟩,⟨some 29,.mov (.tmp 1),none⟩,⟨some 30,.call (.val (.func 272 [])) [(.tmp 28),(.tmp 29)],none⟩,⟨some 27,.mov (.tmp 30),none⟩,⟨some 31,.ext (.tmp 27) 0,none⟩,⟨some 32,.ext (.tmp 27) 1,none⟩,⟨some 7,.mov (.tmp 31),none⟩,⟨some 8,.mov (.tmp 32),none⟩] [1,2,5,6,7,8] [2])
(.seq
(.region [⟨some 34,.load 1 true (.tmp 2),none⟩,⟨some 35,.mov (.tmp 1),none⟩,⟨some 36,.call (.val (.func 273 [])) [(.tmp 34),(.tmp 35)],none⟩,⟨some 33,.mov (.tmp 36),none⟩,⟨some 37,.ext (.tmp 33) 0,none⟩,⟨some 38,.ext (.tmp 33) 1,none⟩,⟨some 9,.mov (.tmp 37),none⟩,⟨some 10,.mov (.tmp 38),none⟩] [1,2,5,6,7,8,9,10] [2])
(.seq
(.region [⟨some 40,.load 1 true (.tmp 2),none⟩,⟨some 41,.mov (.tmp 1),none⟩,⟨some 42,.call (.val (.func 274 [])) [(.tmp 40),(.tmp 41)],none⟩,⟨some 39,.mov (.tmp 42),none⟩,⟨some 43,.ext (.tmp 39) 0,none⟩,⟨some 44,.ext (.tmp 39) 1,none⟩,⟨some 11,.mov (.tmp 43),none⟩,⟨some 12,.mov (.tmp 44),none⟩] [5,6,7,8,9,10,11,12] [])
(.seq
(.region [⟨some 45,.mov (.tmp 6),none⟩,⟨some 46,.mov (.tmp 8),none⟩,⟨some 47,.bin .eql (.tmp 45) (.tmp 46),none⟩,⟨some 48,.mov (.tmp 47),none⟩,⟨some 49,.mov (.tmp 5),some (48,true)⟩,⟨some 50,.mov (.tmp 7),some (48,true)⟩,⟨some 51,.call (.val (.func 94 [])) [(.tmp 49),(.tmp 50)],some (48,true)⟩,⟨some 52,.pick (.tmp 48) (.tmp 51) (.val (.pv (.bool false))),none⟩,⟨some 53,.mov (.tmp 52),none⟩,⟨some 54,.mov (.tmp 10),some (53,true)⟩,⟨some 55,.mov (.tmp 12),some (53,true)⟩,⟨some 56,.bin .eql (.tmp 54) (.tmp 55),some (53,true)⟩,⟨some 57,.pick (.tmp 53) (.tmp 56) (.val (.pv (.bool false))),none⟩,⟨some 58,.mov (.tmp 57),none⟩,⟨some 59,.mov (.tmp 9),some (58,true)⟩,⟨some 60,.mov (.tmp 11),some (58,true)⟩,⟨some 61,.call (.val (.func 94 [])) [(.tmp 59),(.tmp 60)],some (58,true)⟩,⟨some 62,.pick (.tmp 58) (.tmp 61) (.val (.pv (.bool false))),none⟩,⟨some 4,.mov (.tmp 62),none⟩] [4] [])
.ret))))))),[.tmp 4],false,false,false⟩
def F262 : AFunc := ⟨2,(.seq
(.region [⟨some 2,.box 2 1 (.tmp 0),none⟩,⟨some 4,.mov (.val (.pv (.bool false))),none⟩] [1,2] [2])
(.seq
(.seq
(.region [⟨some 11,.call (.val (.func 265 [])) [],none⟩,⟨some 12,.un .not (.tmp 11),none⟩,⟨some 13,.mov (.tmp 12),none⟩,⟨some 14,.load 1 true (.tmp 2),some (13,false)⟩,⟨some 15,.call (.val (.func 266 [])) [(.tmp 14)],some (13,false)⟩,⟨some 16,.un .not (.tmp 15),some (13,false)⟩,⟨some 17,.pick (.tmp 13) (.val (.pv (.bool true))) (.tmp 16),none⟩] [1,2,17] [2])
(.cond (.tmp 17)
(.seq
(.region [⟨some 18,.call (.val (.func 265 [])) [],none⟩,⟨some 4,.mov (.tmp 18),none⟩] [4] [])
.ret)
.skip))
(.seq
(.region [⟨some 20,.load 1 true (.tmp 2),none⟩,⟨some 21,.mov (.tmp 1),none⟩,⟨some 22,.call (.val (.func 275 [])) [(.tmp 20),(.tmp 21)],none⟩,⟨some 19,.mov (.tmp 22),none⟩,⟨some 23,.ext (.tmp 19) 0,none⟩,⟨some 24,.ext (.tmp 19) 1,none⟩,⟨some 25,.ext (.tmp 19) 2,none⟩,⟨some 5,.alloc 5 [.tl []],none⟩,⟨none,.store 1 (.tmp 5) (.tmp 23),none⟩,⟨some 6,.mov (.tmp 24),none⟩,⟨some 7,.mov (.tmp 25),none⟩] [1,2,5,6,7] [2,5])
(.seq
(.region [⟨some 27,.load 1 true (.tmp 2),none⟩,⟨some 28,.mov (.tmp 1),none⟩,⟨some 29,.call (.val (.func 276 [])) [(.tmp 27),(.tmp 28)],none⟩,⟨some 26,.mov (.tmp 29),none⟩,⟨some 30,.ext (.tmp 26) 0,none⟩,⟨some 31,.ext (.tmp 26) 1,none⟩,⟨some 32,.ext (.tmp 26) 2,none⟩,⟨some 8,.alloc 8 [.tl []],none⟩,⟨none,.store 1 (.tmp 8) (.tmp 30),none⟩,⟨some 9,.mov (.tmp 31),none⟩,⟨some 10,.mov (.tmp 32),none⟩] [5,6,7,8,9,10] [5,8])
(.seq
(.region [⟨some 33,.mov (.tmp 7),none⟩,⟨some 34,.mov (.tmp 10),none⟩,⟨some 35,.bin .eql (.tmp 33) (.tmp 34),none⟩,⟨some 36,.mov (.tmp 35),none⟩,⟨some 37,.mov (.tmp 6),some (36,true)⟩,⟨some 38,.mov (.tmp 9),some (36,true)⟩,⟨some 39,.call (.val (.func 94 [])) [(.tmp 37),(.tmp 38)],some (36,true)⟩,⟨some 40,.pick (.tmp 36) (.tmp 39) (.val (.pv (.bool false))),none⟩,⟨some 41,.mov (.tmp 40),none⟩,⟨some 42,.load 1 true (.tmp 5),some (41,true)⟩,⟨some 43,.load 1 true (.tmp 8),some (41,true)⟩,⟨some 44,.call (.val (.func 277 [])) [(.tmp 42),(.tmp 43)],some (41,true)⟩,⟨some 45,.pick (.tmp 41) (.tmp 44) (.val (.pv (.bool false))),none⟩,⟨some 4,.mov (.tmp 45),none⟩] [4] [])
.ret))))),[.tmp 4],false,false,false⟩
def F265 : AFunc := ⟨0,(.seq
(.region [⟨some 0,.mov (.val (.pv (.bool false))),none⟩] [] [])
(.seq
(.region [⟨some 13,.call (.val (.func 280 [])) [],none⟩,⟨some 14,.call (.val (.func 271 [])) [(.tmp 13),(.val (.pv (.int .i64 0)))],none⟩,⟨some 12,.mov (.tmp 14),none⟩,⟨some 15,.ext (.tmp 12) 0,none⟩,⟨some 16,.ext (.tmp 12) 1,none⟩,⟨some 1,.mov (.tmp 15),none⟩,⟨some 2,.mov (.tmp 16),none⟩] [1,2] [])
(.seq
(.region [⟨some 18,.call (.val (.func 280 [])) [],none⟩,⟨some 19,.call (.val (.func 273 [])) [(.tmp 18),(.val (.pv (.int .i64 0)))],none⟩,⟨some 17,.mov (.tmp 19),none⟩,⟨some 20,.ext (.tmp 17) 0,none⟩,⟨some 21,.ext (.tmp 17) 1,none⟩,⟨some 3,.mov (.tmp 20),none⟩,⟨some 4,.mov (.tmp 21),none⟩] [1,2,3,4] [])
(.seq
(.region [⟨some 23,.call (.val (.func 280 [])) [],none⟩,⟨some 24,.call (.val (.func 275 [])) [(.tmp 23),(.val (.pv (.int .i64 1)))],none⟩,⟨some 22,.mov (.tmp 24),none⟩,⟨some 25,.ext (.tmp 22) 0,none⟩,⟨some 26,.ext (.tmp 22) 1,none⟩,⟨some 27,.ext (.tmp 22) 2,none⟩,⟨some 5,.alloc 5 [.tl []],none⟩,⟨none,.store 1 (.tmp 5) (.tmp 25),none⟩,⟨some 6,.mov (.tmp 26),none⟩,⟨some 7,.mov (.tmp 27),none⟩] [1,2,3,4,5,6,7] [5])
(.seq
(.region [⟨some 29,.call (.val (.func 280 [])) [],none⟩,⟨some 30,.call (.val (.func 269 [])) [(.tmp 29),(.val (.pv (.str ⟨#[78,111,100,101]⟩)))],none⟩,⟨some 28,.mov (.tmp 30),none⟩,⟨some 31,.ext (.tmp 28) 0,none⟩,⟨some 32,.ext (.tmp 28) 1,none⟩,⟨some 8,.mov (.tmp 31),none⟩,⟨some 9,.mov (.tmp 32),none⟩] [1,2,3,4,5,6,7,8,9] [5])
(.seq
(.region [⟨some 34,.call (.val (.func 280 [])) [],none⟩,⟨some 35,.part 0 1 false (.tmp 34),none⟩,⟨some 36,.idx 10 (.tmp 35) (.val (.pv (.int .i64 0))),none⟩,⟨some 37,.load 10 true (.tmp 36),none⟩,⟨some 38,.call (.val (.func 281 [])) [(.tmp 37),(.val (.pv (.int .i64 2)))],none⟩,⟨some 33,.mov (.tmp 38),none⟩,⟨some 39,.ext (.tmp 33) 0,none⟩,⟨some 40,.ext (.tmp 33) 1,none⟩,⟨some 10,.mov (.tmp 39),none⟩,⟨some 11,.mov (.tmp 40),none⟩] [1,2,3,4,5,6,7,8,9,10,11] [5])
(.seq
(.seq
(.region [⟨some 41,.call (.val (.func 280 [])) [],none⟩,⟨some 42,.call (.val (.func 267 [])) [(.tmp 41)],none⟩,⟨some 43,.bin .neq (.tmp 42) (.val (.pv (.int .i64 0))),none⟩,⟨some 44,.mov (.tmp 43),none⟩,⟨some 45,.mov (.tmp 2),some (44,false)⟩,⟨some 46,.bin .neq (.tmp 45) (.val (.pv (.int .i64 0))),some (44,false)⟩,⟨some 47,.pick (.tmp 44) (.val (.pv (.bool true))) (.tmp 46),none⟩,⟨some 48,.mov (.tmp 47),none⟩,⟨some 49,.mov (.tmp 1),some (48,false)⟩,⟨some 50,.lit 1 [.pv (.int .i64 0)] 2 [(0,1,(.val (.pv (.int .i64 1)))),(1,1,(.val (.pv (.int .i64 2))))],some (48,false)⟩,⟨some 51,.call (.val (.func 94 [])) [(.tmp 49),(.tmp 50)],some (48,false)⟩,⟨some 52,.un .not (.tmp 51),some (48,false)⟩,⟨some 53,.pick (.tmp 48) (.val (.pv (.bool true))) (.tmp 52),none⟩,⟨some 54,.mov (.tmp 53),none⟩,⟨some 55,.mov (.tmp 4),some (54,false)⟩,⟨some 56,.bin .neq (.tmp 55) (.val (.pv (.int .i64 0))),some (54,false)⟩,⟨some 57,.pick (.tmp 54) (.val (.pv (.bool true))) (.tmp 56),none⟩,⟨some 58,.mov (.tmp 57),none⟩,⟨some 59,.mov (.tmp 3),some (58,false)⟩,⟨some 60,.lit 1 [.pv (.int .i64 0)] 3 [(0,1,(.val (.pv (.int .i64 0)))),(1,1,(.val (.pv (.int .i64 1)))),(2,1,(.val (.pv (.int .i64 2))))],some (58,false)⟩,⟨some 61,.call (.val (.func 94 [])) [(.tmp 59),(.tmp 60)],some (58,false)⟩,⟨some 62,.un .not (.tmp 61),some (58,false)⟩,⟨some 63,.pick (.tmp 58) (.val (.pv (.bool true))) (.tmp 62),none⟩,⟨some 64,.mov (.tmp 63),none⟩,⟨some 65,.mov (.tmp 8),some (64,false)⟩,⟨some 66,.bin .neq (.tmp 65) (.val (.pv (.int .i64 0))),some (64,false)⟩,⟨some 67,.pick (.tmp 64) (.val (.pv (.bool true))) (.tmp 66),none⟩,⟨some 68,.mov (.tmp 67),none⟩,⟨some 69,.mov (.tmp 9),some (68,false)⟩,⟨some 70,.bin .neq (.tmp 69) (.val (.pv (.int .i64 0))),some (68,false)⟩,⟨some 71,.pick (.tmp 68) (.val (.pv (.bool true))) (.tmp 70),none⟩,⟨some 72,.mov (.tmp 71),none⟩,⟨some 73,.mov (.tmp 10),some (72,false)⟩,⟨some 74,.bin .neq (.tmp 73) (.val (.pv (.int .i64 1))),some (72,false)⟩,⟨some 75,.pick (.tmp 72) (.val (.pv (.bool true))) (.tmp 74),none⟩,⟨some 76,.mov (.tmp 75),none⟩,⟨some 77,.mov (.tmp 11),some (76,false)⟩,⟨some 78,.un .not (.tmp 77),some (76,false)⟩,⟨some 79,.pick (.tmp 76) (.val (.pv (.bool true))) (.tmp 78),none⟩] [5,6,7,79] [5])
(.cond (.tmp 79)
(.seq
(.region [⟨some 0,.mov (.val (.pv (.bool false))),none⟩] [0] [])
.ret)
.skip))
(.seq
(.draw [(⟨some 80,.mov (.tmp 7),none⟩,[]),(⟨some 81,.bin .eql (.tmp 80) (.val (.pv (.int .i64 0))),none⟩,[]),(⟨some 82,.mov (.tmp 81),none⟩,[]),(⟨some 83,.mov (.tmp 6),some (82,true)⟩,[]),(⟨some 84,.lit 1 [.pv (.int .i64 0)] 3 [(0,1,(.val (.pv (.int .i64 (-1))))),(1,1,(.val (.pv (.int .i64 0)))),(2,1,(.val (.pv (.int .i64 (-1)))))],some (82,true)⟩,[]),(⟨some 85,.call (.val (.func 94 [])) [(.tmp 83),(.tmp 84)],some (82,true)⟩,[]),(⟨some 86,.pick (.tmp 82) (.tmp 85) (.val (.pv (.bool false))),none⟩,[]),(⟨some 87,.mov (.tmp 86),none⟩,[]),(⟨some 88,.load 1 true (.tmp 5),some (87,true)⟩,[]),(⟨some 89,.build [.pv (.int .i64 0),.pv (.str ⟨#[]⟩),.pv (.int .i64 0),.pv (.int .i64 0),.pv (.int .i64 0),.tl [],.tl [],.pv (.int .i64 0),.pv (.int .i64 0),.pv (.bool false)] [(0,1,(.val (.pv (.int .i64 2)))),(3,1,(.val (.pv (.int .i64 9))))],some (87,true)⟩,[]),(⟨some 90,.lit 10 [.pv (.int .i64 0),.pv (.str ⟨#[]⟩),.pv (.int .i64 0),.pv (.int .i64 0),.pv (.int .i64 0),.tl [],.tl [],.pv (.int .i64 0),.pv (.int .i64 0),.pv (.bool false)] 1 [(0,10,(.tmp 89))],some (87,true)⟩,[8]),(⟨some 91,.build [.tl []] [(0,1,(.tmp 90))],some (87,true)⟩,[]),(⟨some 92,.call (.val (.func 278 [])) [(.tmp 88),(.tmp 91)],some (87,true)⟩,[]),(⟨some 93,.pick (.tmp 87) (.tmp 92) (.val (.pv (.bool false))),none⟩,[]),(⟨some 94,.mov (.tmp 93),none⟩,[]),(⟨some 95,.load 1 true (.tmp 5),some (94,true)⟩,[]),(⟨some 96,.call (.val (.func 280 [])) [],some (94,true)⟩,[15]),(⟨some 97,.call (.val (.func 278 [])) [(.tmp 95),(.tmp 96)],some (94,true)⟩,[]),(⟨some 98,.un .not (.tmp 97),some (94,true)⟩,[]),(⟨some 99,.pick (.tmp 94) (.tmp 98) (.val (.pv (.bool false))),none⟩,[]),(⟨some 0,.mov (.tmp 99),none⟩,[])] [0] [])
.ret)))))))),[.tmp 0],false,false,false⟩
def F266 : AFunc := ⟨1,(.seq
(.region [⟨some 1,.box 1 1 (.tmp 0),none⟩,⟨some 2,.mov (.val (.pv (.bool false))),none⟩] [1] [1])
(.seq
(.seq
(.region [⟨some 7,.fld 0 (.tmp 1),none⟩,⟨some 8,.load 1 false (.tmp 7),none⟩,⟨some 9,.len 0 (.tmp 8),none⟩,⟨some 10,.bin .gtr (.tmp 9) (.val (.pv (.int .i64 40))),none⟩] [1,10] [1])
(.cond (.tmp 10)
(.seq
(.region [⟨some 2,.mov (.val (.pv (.bool false))),none⟩] [2] [])
.ret)
.skip))
(.seq
(.region [⟨some 3,.mov (.val (.pv (.int .i64 0))),none⟩] [1,3] [1])
(.seq
(.seq
(.region [⟨some 4,.mov (.val (.pv (.int .i64 0))),none⟩] [1,3,4] [1])
(.block 0
(.loop
(.mask [1,3,4] [1]
(.seq
(.seq
(.region [⟨some 11,.mov (.tmp 4),none⟩,⟨some 12,.fld 0 (.tmp 1),none⟩,⟨some 13,.load 1 false (.tmp 12),none⟩,⟨some 14,.len 0 (.tmp 13),none⟩,⟨some 15,.bin .lss (.tmp 11) (.tmp 14),none⟩] [1,3,4,15] [1])
(.cond (.tmp 15)
.skip
(.exit 0)))
(.seq
(.block 1
(.seq
(.region [⟨some 18,.fld 0 (.tmp 1),none⟩,⟨some 19,.load 1 false (.tmp 18),none⟩,⟨some 20,.mov (.tmp 4),none⟩,⟨some 21,.idx 10 (.tmp 19) (.tmp 20),none⟩,⟨some 22,.load 10 true (.tmp 21),none⟩,⟨some 5,.alloc 5 [.pv (.int .i64 0),.pv (.str ⟨#[]⟩),.pv (.int .i64 0),.pv (.int .i64 0),.pv (.int .i64 0),.tl [],.tl [],.pv (.int .i64 0),.pv (.int .i64 0),.pv (.bool false)],none⟩,⟨none,.store 10 (.tmp 5) (.tmp 22),none⟩] [1,3,4,5] [1,5])
(.seq
(.region [⟨some 23,.mov (.tmp 3),none⟩,⟨some 24,.fld 6 (.tmp 5),none⟩,⟨some 25,.load 1 false (.tmp 24),none⟩,⟨some 26,.len 0 (.tmp 25),none⟩,⟨some 27,.bin .add (.tmp 23) (.tmp 26),none⟩,⟨some 28,.fld 5 (.tmp 5),none⟩,⟨some 29,.load 1 false (.tmp 28),none⟩,⟨some 30,.len 0 (.tmp 29),none⟩,⟨some 31,.bin .add (.tmp 27) (.tmp 30),none⟩,⟨some 32,.fld 1 (.tmp 5),none⟩,⟨some 33,.load 1 false (.tmp 32),none⟩,⟨some 34,.len 1 (.tmp 33),none⟩,⟨some 35,.bin .add (.tmp 31) (.tmp 34),none⟩,⟨some 3,.mov (.tmp 35),none⟩] [1,3,4,5] [1,5])
(.seq
(.region [⟨some 6,.mov (.val (.pv (.int .i64 0))),none⟩] [1,3,4,5,6] [1,5])
(.block 2
(.loop
(.mask [1,3,4,5,6] [1,5]
(.seq
(.seq
(.region [⟨some 36,.mov (.tmp 6),none⟩,⟨some 37,.fld 6 (.tmp 5),none⟩,⟨some 38,.load 1 false (.tmp 37),none⟩,⟨some 39,.len 0 (.tmp 38),none⟩,⟨some 40,.bin .lss (.tmp 36) (.tmp 39),none⟩,⟨some 41,.mov (.tmp 40),none⟩,⟨some 42,.mov (.tmp 6),some (41,true)⟩,⟨some 43,.bin .lss (.tmp 42) (.val (.pv (.int .i64 100))),some (41,true)⟩,⟨some 44,.pick (.tmp 41) (.tmp 43) (.val (.pv (.bool false))),none⟩] [1,3,4,5,6,44] [1,5])
(.cond (.tmp 44)
.skip
(.exit 2)))
(.seq
(.block 3
(.draw [(⟨some 47,.mov (.tmp 3),none⟩,[]),(⟨some 48,.fld 6 (.tmp 5),none⟩,[]),(⟨some 49,.load 1 false (.tmp 48),none⟩,[]),(⟨some 50,.mov (.tmp 6),none⟩,[]),(⟨some 51,.idx 13 (.tmp 49) (.tmp 50),none⟩,[]),(⟨some 52,.fld 5 (.tmp 51),none⟩,[]),(⟨some 53,.load 8 true (.tmp 52),none⟩,[]),(⟨some 54,.call (.val (.func 282 [])) [(.tmp 53)],none⟩,[]),(⟨some 55,.bin .add (.tmp 47) (.tmp 54),none⟩,[]),(⟨some 56,.fld 6 (.tmp 5),none⟩,[]),(⟨some 57,.load 1 false (.tmp 56),none⟩,[7]),(⟨some 58,.mov (.tmp 6),none⟩,[]),(⟨some 59,.idx 13 (.tmp 57) (.tmp 58),none⟩,[7]),(⟨some 60,.fld 1 (.tmp 59),none⟩,[]),(⟨some 61,.load 1 false (.tmp 60),none⟩,[7]),(⟨some 62,.len 1 (.tmp 61),none⟩,[7]),(⟨some 63,.bin .add (.tmp 55) (.tmp 62),none⟩,[]),(⟨some 3,.mov (.tmp 63),none⟩,[])] [1,3,4,5,6] [1,5]))
(.region [⟨some 45,.mov (.tmp 6),none⟩,⟨some 46,.bin .add (.tmp 45) (.val (.pv (.int .i64 1))),none⟩,⟨some 6,.mov (.tmp 46),none⟩] [1,3,4,5,6] [1,5]))))))))))
(.region [⟨some 16,.mov (.tmp 4),none⟩,⟨some 17,.bin .add (.tmp 16) (.val (.pv (.int .i64 1))),none⟩,⟨some 4,.mov (.tmp 17),none⟩] [1,3,4] [1])))))))
(.seq
(.region [⟨some 64,.mov (.tmp 3),none⟩,⟨some 65,.bin .leq (.tmp 64) (.val (.pv (.int .i64 400))),none⟩,⟨some 2,.mov (.tmp 65),none⟩] [2] [])
.ret))))),[.tmp 2],false,false,false⟩
def F267 : AFunc := ⟨1,(.seq
(.region [⟨some 1,.box 1 1 (.tmp 0),none⟩,⟨some 2,.mov (.val (.pv (.int .i64 0))),none⟩] [1] [1])
(.seq
(.seq
(.region [⟨some 8,.fld 0 (.tmp 1),none⟩,⟨some 9,.load 1 false (.tmp 8),none⟩,⟨some 10,.len 0 (.tmp 9),none⟩,⟨some 11,.bin .gtr (.tmp 10) (.val (.pv (.int .i64 32))),none⟩] [1,11] [1])
(.cond (.tmp 11)
(.seq
(.region [⟨some 2,.mov (.val (.pv (.int .i64 3))),none⟩] [2] [])
.ret)
.skip))
(.seq
(.region [⟨some 12,.mkmap,none⟩,⟨some 3,.mov (.tmp 12),none⟩] [1,3] [1])
(.seq
(.seq
(.region [⟨some 13,.fld 0 (.tmp 1),none⟩,⟨some 14,.load 1 false (.tmp 13),none⟩,⟨some 15,.len 0 (.tmp 14),none⟩,⟨some 16,.mov (.val (.pv (.int .i64 0))),none⟩] [1,3,14,15,16] [1])
(.block 0
(.loop
(.mask [1,3,14,15,16] [1]
(.seq
(.region [⟨some 17,.bin .lss (.tmp 16) (.tmp 15),none⟩] [1,3,14,15,16,17] [1])
(.seq
(.cond (.tmp 17)
.skip
(.exit 0))
(.seq
(.block 1
(.seq
(.region [⟨some 18,.idx 10 (.tmp 14) (.tmp 16),none⟩,⟨some 19,.load 10 true (.tmp 18),none⟩,⟨some 5,.alloc 5 [.pv (.int .i64 0),.pv (.str ⟨#[]⟩),.pv (.int .i64 0),.pv (.int .i64 0),.pv (.int .i64 0),.tl [],.tl [],.pv (.int .i64 0),.pv (.int .i64 0),.pv (.bool false)],none⟩,⟨none,.store 10 (.tmp 5) (.tmp 19),none⟩] [1,3,5,14,15,16] [1,5])
(.seq
(.seq
(.region [⟨some 20,.load 10 true (.tmp 5),none⟩,⟨some 21,.call (.val (.func 283 [])) [(.tmp 20)],none⟩,⟨some 22,.un .not (.tmp 21),none⟩,⟨some 23,.mov (.tmp 22),none⟩,⟨some 24,.fld 1 (.tmp 5),some (23,false)⟩,⟨some 25,.load 1 false (.tmp 24),some (23,false)⟩,⟨some 26,.bin .neq (.tmp 25) (.val (.pv (.str ⟨#[]⟩))),some (23,false)⟩,⟨some 27,.mov (.tmp 26),some (23,false)⟩,⟨some 28,.mov (.tmp 3),some (27,true)⟩,⟨some 29,.fld 1 (.tmp 5),some (27,true)⟩,⟨some 30,.load 1 false (.tmp 29),some (27,true)⟩,⟨some 31,.look false [2] (.pv (.bool false)) (.tmp 28) (.tmp 30) false,some (27,true)⟩,⟨some 32,.pick (.tmp 27) (.tmp 31) (.val (.pv (.bool false))),some (23,false)⟩,⟨some 33,.pick (.tmp 23) (.val (.pv (.bool true))) (.tmp 32),none⟩] [1,3,5,14,15,16,33] [1,5])
(.cond (.tmp 33)
(.seq
(.region [⟨some 2,.mov (.val (.pv (.int .i64 1))),none⟩] [2] [])
.ret)
.skip))
(.seq
(.region [⟨some 34,.mov (.tmp 3),none⟩,⟨some 35,.fld 1 (.tmp 5),none⟩,⟨some 36,.load 1 false (.tmp 35),none⟩,⟨none,.upd false [2] (.tmp 34) (.tmp 36) (.val (.pv (.bool true))),none⟩] [1,3,5,14,15,16] [1,5])
(.seq
(.seq
(.region [⟨some 37,.load 10 true (.tmp 5),none⟩,⟨some 38,.call (.val (.func 284 [])) [(.tmp 37)],none⟩,⟨some 39,.len 0 (.tmp 38),none⟩,⟨some 40,.mov (.val (.pv (.int .i64 0))),none⟩] [1,3,5,14,15,16,38,39,40] [1,5])
(.block 2
(.loop
(.mask [1,3,5,14,15,16,38,39,40] [1,5]
(.seq
(.region [⟨some 41,.bin .lss (.tmp 40) (.tmp 39),none⟩] [1,3,5,14,15,16,38,39,40,41] [1,5])
(.seq
(.cond (.tmp 41)
.skip
(.exit 2))
(.seq
(.block 3
(.seq
(.region [⟨some 42,.idx 1 (.tmp 38) (.tmp 40),none⟩,⟨some 43,.load 1 false (.tmp 42),none⟩,⟨some 7,.mov (.tmp 43),none⟩] [1,3,5,7,14,15,16,38,39,40] [1,5])
(.seq
(.region [⟨some 44,.mov (.tmp 7),none⟩,⟨some 45,.bin .lss (.tmp 44) (.val (.pv (.int .i64 0))),none⟩,⟨some 46,.mov (.tmp 45),none⟩,⟨some 47,.mov (.tmp 7),some (46,false)⟩,⟨some 48,.fld 0 (.tmp 1),some (46,false)⟩,⟨some 49,.load 1 false (.tmp 48),some (46,false)⟩,⟨some 50,.len 0 (.tmp 49),some (46,false)⟩,⟨some 51,.bin .geq (.tmp 47) (.tmp 50),some (46,false)⟩,⟨some 52,.pick (.tmp 46) (.val (.pv (.bool true))) (.tmp 51),none⟩] [1,3,5,14,15,16,38,39,40,52] [1,5])
(.cond (.tmp 52)
(.seq
(.region [⟨some 2,.mov (.val (.pv (.int .i64 4))),none⟩] [2] [])
.ret)
.skip))))
(.region [⟨some 53,.bin .add (.tmp 40) (.val (.pv (.int .i64 1))),none⟩,⟨some 40,.mov (.tmp 53),none⟩] [1,3,5,14,15,16,38,39,40] [1,5]))))))))
(.seq
(.region [⟨some 54,.fld 0 (.tmp 5),none⟩,⟨some 55,.load 1 false (.tmp 54),none⟩,⟨some 56,.bin .eql (.tmp 55) (.val (.pv (.int .i64 8))),none⟩,⟨some 57,.mov (.tmp 56),none⟩,⟨some 58,.fld 0 (.tmp 1),some (57,true)⟩,⟨some 59,.load 1 false (.tmp 58),some (57,true)⟩,⟨some 60,.fld 7 (.tmp 5),some (57,true)⟩,⟨some 61,.load 1 false (.tmp 60),some (57,true)⟩,⟨some 62,.idx 10 (.tmp 59) (.tmp 61),some (57,true)⟩,⟨some 63,.fld 0 (.tmp 62),some (57,true)⟩,⟨some 64,.load 1 false (.tmp 63),some (57,true)⟩,⟨some 65,.bin .lss (.tmp 64) (.val (.pv (.int .i64 1))),some (57,true)⟩,⟨some 66,.mov (.tmp 65),some (57,true)⟩,⟨some 67,.fld 0 (.tmp 1),some (66,false)⟩,⟨some 68,.load 1 false (.tmp 67),some (66,false)⟩,⟨some 69,.fld 7 (.tmp 5),some (66,false)⟩,⟨some 70,.load 1 false (.tmp 69),some (66,false)⟩,⟨some 71,.idx 10 (.tmp 68) (.tmp 70),some (66,false)⟩,⟨some 72,.fld 0 (.tmp 71),some (66,false)⟩,⟨some 73,.load 1 false (.tmp 72),some (66,false)⟩,⟨some 74,.bin .gtr (.tmp 73) (.val (.pv (.int .i64 4))),some (66,false)⟩,⟨some 75,.pick (.tmp 66) (.val (.pv (.bool true))) (.tmp 74),some (57,true)⟩,⟨some 76,.pick (.tmp 57) (.tmp 75) (.val (.pv (.bool false))),none⟩] [1,3,14,15,16,76] [1])
(.cond (.tmp 76)
(.seq
(.region [⟨some 2,.mov (.val (.pv (.int .i64 1))),none⟩] [2] [])
.ret)
.skip)))))))
(.region [⟨some 77,.bin .add (.tmp 16) (.val (.pv (.int .i64 1))),none⟩,⟨some 16,.mov (.tmp 77),none⟩] [1,3,14,15,16] [1]))))))))
(.seq
(.region [⟨some 2,.mov (.val (.pv (.int .i64 0))),none⟩] [2] [])
.ret))))),[.tmp 2],false,false,false⟩
def F268 : AFunc := ⟨1,(.seq
(.region [⟨some 1,.box 1 1 (.tmp 0),none⟩,⟨some 2,.mov (.val (.pv (.int .i64 0))),none⟩] [1] [1])
(.seq
(.seq
(.region [⟨some 8,.fld 0 (.tmp 1),none⟩,⟨some 9,.load 1 false (.tmp 8),none⟩,⟨some 10,.len 0 (.tmp 9),none⟩,⟨some 11,.bin .gtr (.tmp 10) (.val (.pv (.int .i64 32))),none⟩] [1,11] [1])
(.cond (.tmp 11)
(.seq
(.region [⟨some 2,.mov (.val (.pv (.int .i64 3))),none⟩] [2] [])
.ret)
.skip))
(.seq
(.seq
(.region [⟨some 3,.mov (.val (.pv (.int .i64 0))),none⟩] [1,3] [1])
(.block 0
(.loop
(.mask [1,3] [1]
(.seq
(.seq
(.region [⟨some 12,.mov (.tmp 3),none⟩,⟨some 13,.fld 0 (.tmp 1),none⟩,⟨some 14,.load 1 false (.tmp 13),none⟩,⟨some 15,.len 0 (.tmp 14),none⟩,⟨some 16,.bin .lss (.tmp 12) (.tmp 15),none⟩] [1,3,16] [1])
(.cond (.tmp 16)
.skip
(.exit 0)))
(.seq
(.block 1
(.seq
(.region [⟨some 19,.fld 0 (.tmp 1),none⟩,⟨some 20,.load 1 false (.tmp 19),none⟩,⟨some 21,.mov (.tmp 3),none⟩,⟨some 22,.idx 10 (.tmp 20) (.tmp 21),none⟩,⟨some 23,.load 10 true (.tmp 22),none⟩,⟨some 4,.alloc 4 [.pv (.int .i64 0),.pv (.str ⟨#[]⟩),.pv (.int .i64 0),.pv (.int .i64 0),.pv (.int .i64 0),.tl [],.tl [],.pv (.int .i64 0),.pv (.int .i64 0),.pv (.bool false)],none⟩,⟨none,.store 10 (.tmp 4) (.tmp 23),none⟩] [1,3,4] [1,4])
(.seq
(.seq
(.region [⟨some 24,.load 10 true (.tmp 4),none⟩,⟨some 25,.call (.val (.func 285 [])) [(.tmp 24)],none⟩,⟨some 26,.un .not (.tmp 25),none⟩] [1,3,4,26] [1,4])
(.cond (.tmp 26)
(.seq
(.region [⟨some 2,.mov (.val (.pv (.int .i64 1))),none⟩] [2] [])
.ret)
.skip))
(.seq
(.seq
(.region [⟨some 5,.mov (.val (.pv (.int .i64 0))),none⟩] [1,3,4,5] [1,4])
(.block 2
(.loop
(.mask [1,3,4,5] [1,4]
(.seq
(.seq
(.region [⟨some 27,.mov (.tmp 5),none⟩,⟨some 28,.mov (.tmp 3),none⟩,⟨some 29,.bin .lss (.tmp 27) (.tmp 28),none⟩] [1,3,4,5,29] [1,4])
(.cond (.tmp 29)
.skip
(.exit 2)))
(.seq
(.block 3
(.seq
(.draw [(⟨some 32,.fld 0 (.tmp 4),none⟩,[]),(⟨some 33,.load 1 false (.tmp 32),none⟩,[]),(⟨some 34,.call (.val (.func 286 [])) [(.tmp 33)],none⟩,[]),(⟨some 35,.mov (.tmp 34),none⟩,[]),(⟨some 36,.fld 0 (.tmp 1),some (35,true)⟩,[]),(⟨some 37,.load 1 false (.tmp 36),some (35,true)⟩,[]),(⟨some 38,.mov (.tmp 5),some (35,true)⟩,[]),(⟨some 39,.idx 10 (.tmp 37) (.tmp 38),some (35,true)⟩,[]),(⟨some 40,.fld 1 (.tmp 39),some (35,true)⟩,[]),(⟨some 41,.load 1 false (.tmp 40),some (35,true)⟩,[]),(⟨some 42,.fld 1 (.tmp 4),some (35,true)⟩,[]),(⟨some 43,.load 1 false (.tmp 42),some (35,true)⟩,[]),(⟨some 44,.bin .eql (.tmp 41) (.tmp 43),some (35,true)⟩,[]),(⟨some 45,.pick (.tmp 35) (.tmp 44) (.val (.pv (.bool false))),none⟩,[])] [1,3,4,5,45] [1,4])
(.cond (.tmp 45)
(.seq
(.region [⟨some 2,.mov (.val (.pv (.int .i64 1))),none⟩] [2] [])
.ret)
.skip)))
(.region [⟨some 30,.mov (.tmp 5),none⟩,⟨some 31,.bin .add (.tmp 30) (.val (.pv (.int .i64 1))),none⟩,⟨some 5,.mov (.tmp 31),none⟩] [1,3,4,5] [1,4])))))))
(.seq
(.region [⟨some 46,.load 10 true (.tmp 4),none⟩,⟨some 47,.call (.val (.func 287 [])) [(.tmp 46)],none⟩,⟨some 6,.mov (.tmp 47),none⟩] [1,3,4,6] [1,4])
(.seq
(.seq
(.region [⟨some 7,.mov (.val (.pv (.int .i64 0))),none⟩] [1,3,4,6,7] [1,4])
(.block 4
(.loop
(.mask [1,3,4,6,7] [1,4]
(.seq
(.seq
(.region [⟨some 48,.mov (.tmp 7),none⟩,⟨some 49,.mov (.tmp 6),none⟩,⟨some 50,.len 0 (.tmp 49),none⟩,⟨some 51,.bin .lss (.tmp 48) (.tmp 50),none⟩] [1,3,4,6,7,51] [1,4])
(.cond (.tmp 51)
.skip
(.exit 4)))
(.seq
(.block 5
(.seq
(.draw [(⟨some 54,.mov (.tmp 6),none⟩,[]),(⟨some 55,.mov (.tmp 7),none⟩,[]),(⟨some 56,.idx 1 (.tmp 54) (.tmp 55),none⟩,[]),(⟨some 57,.load 1 false (.tmp 56),none⟩,[]),(⟨some 58,.bin .lss (.tmp 57) (.val (.pv (.int .i64 0))),none⟩,[]),(⟨some 59,.mov (.tmp 58),none⟩,[]),(⟨some 60,.mov (.tmp 6),some (59,false)⟩,[]),(⟨some 61,.mov (.tmp 7),some (59,false)⟩,[]),(⟨some 62,.idx 1 (.tmp 60) (.tmp 61),some (59,false)⟩,[]),(⟨some 63,.load 1 false (.tmp 62),some (59,false)⟩,[]),(⟨some 64,.fld 0 (.tmp 1),some (59,false)⟩,[]),(⟨some 65,.load 1 false (.tmp 64),some (59,false)⟩,[]),(⟨some 66,.len 0 (.tmp 65),some (59,false)⟩,[]),(⟨some 67,.bin .geq (.tmp 63) (.tmp 66),some (59,false)⟩,[]),(⟨some 68,.pick (.tmp 59) (.val (.pv (.bool true))) (.tmp 67),none⟩,[])] [1,3,4,6,7,68] [1,4])
(.cond (.tmp 68)
(.seq
(.region [⟨some 2,.mov (.val (.pv (.int .i64 4))),none⟩] [2] [])
.ret)
.skip)))
(.region [⟨some 52,.mov (.tmp 7),none⟩,⟨some 53,.bin .add (.tmp 52) (.val (.pv (.int .i64 1))),none⟩,⟨some 7,.mov (.tmp 53),none⟩] [1,3,4,6,7] [1,4])))))))
(.seq
(.region [⟨some 69,.fld 0 (.tmp 4),none⟩,⟨some 70,.load 1 false (.tmp 69),none⟩,⟨some 71,.bin .eql (.tmp 70) (.val (.pv (.int .i64 8))),none⟩,⟨some 72,.mov (.tmp 71),none⟩,⟨some 73,.fld 0 (.tmp 1),some (72,true)⟩,⟨some 74,.load 1 false (.tmp 73),some (72,true)⟩,⟨some 75,.fld 7 (.tmp 4),some (72,true)⟩,⟨some 76,.load 1 false (.tmp 75),some (72,true)⟩,⟨some 77,.idx 10 (.tmp 74) (.tmp 76),some (72,true)⟩,⟨some 78,.fld 0 (.tmp 77),some (72,true)⟩,⟨some 79,.load 1 false (.tmp 78),some (72,true)⟩,⟨some 80,.call (.val (.func 288 [])) [(.tmp 79)],some (72,true)⟩,⟨some 81,.un .not (.tmp 80),some (72,true)⟩,⟨some 82,.pick (.tmp 72) (.tmp 81) (.val (.pv (.bool false))),none⟩] [1,3,82] [1])
(.cond (.tmp 82)
(.seq
(.region [⟨some 2,.mov (.val (.pv (.int .i64 1))),none⟩] [2] [])
.ret)
.skip))))))))
(.region [⟨some 17,.mov (.tmp 3),none⟩,⟨some 18,.bin .add (.tmp 17) (.val (.pv (.int .i64 1))),none⟩,⟨some 3,.mov (.tmp 18),none⟩] [1,3] [1])))))))
(.seq
(.region [⟨some 2,.mov (.val (.pv (.int .i64 0))),none⟩] [2] [])
.ret)))),[.tmp 2],false,false,false⟩
def F269 : AFunc := ⟨2,(.seq
(.region [⟨some 2,.box 2 1 (.tmp 0),none⟩,⟨some 3,.box 3 1 (.tmp 1),none⟩,⟨some 4,.mov (.val (.pv (.int .i64 0))),none⟩,⟨some 5,.mov (.val (.pv (.int .i64 0))),none⟩] [2,3] [2,3])
(.seq
(.region [⟨some 7,.fld 0 (.tmp 2),none⟩,⟨some 8,.load 1 false (.tmp 7),none⟩,⟨some 9,.clos 290 [(.tmp 3)],none⟩,⟨some 10,.call (.val (.func 289 [])) [(.tmp 8),(.tmp 9)],none⟩,⟨some 6,.mov (.tmp 10),none⟩] [6] [])
(.seq
(.seq
(.region [⟨some 11,.mov (.tmp 6),none⟩,⟨some 12,.bin .lss (.tmp 11) (.val (.pv (.int .i64 0))),none⟩] [6,12] [])
(.cond (.tmp 12)
(.seq
(.region [⟨some 4,.mov (.val (.pv (.int .i64 0))),none⟩,⟨some 5,.mov (.val (.pv (.int .i64 4))),none⟩] [4,5] [])
.ret)
.skip))
(.seq
(.region [⟨some 13,.mov (.tmp 6),none⟩,⟨some 4,.mov (.tmp 13),none⟩,⟨some 5,.mov (.val (.pv (.int .i64 0))),none⟩] [4,5] [])
.ret)))),[.tmp 4,.tmp 5],false,false,false⟩
def F271 : AFunc := ⟨2,(.seq
(.region [⟨some 2,.box 2 1 (.tmp 0),none⟩,⟨some 4,.mov (.val (.tl [])),none⟩,⟨some 5,.mov (.val (.pv (.int .i64 0))),none⟩] [1,2] [2])
(.seq
(.seq
(.region [⟨some 10,.load 1 true (.tmp 2),none⟩,⟨some 11,.mov (.tmp 1),none⟩,⟨some 12,.call (.val (.func 291 [])) [(.tmp 10),(.tmp 11)],none⟩,⟨some 6,.mov (.tmp 12),none⟩] [1,2,6] [2])
(.seq
(.region [⟨some 13,.mov (.tmp 6),none⟩,⟨some 14,.bin .neq (.tmp 13) (.val (.pv (.int .i64 0))),none⟩] [1,2,6,14] [2])
(.cond (.tmp 14)
(.seq
(.region [⟨some 15,.mov (.tmp 6),none⟩,⟨some 4,.mov (.val (.tl [])),none⟩,⟨some 5,.mov (.tmp 15),none⟩] [4,5] [])
.ret)
.skip)))
(.seq
(.region [⟨some 7,.mov (.val (.tl [])),none⟩] [1,2,7] [2])
(.seq
(.seq
(.region [⟨some 16,.fld 0 (.tmp 2),none⟩,⟨some 17,.load 1 false (.tmp 16),none⟩,⟨some 18,.mov (.tmp 1),none⟩,⟨some 19,.idx 10 (.tmp 17) (.tmp 18),none⟩,⟨some 20,.load 10 true (.tmp 19),none⟩,⟨some 21,.call (.val (.func 284 [])) [(.tmp 20)],none⟩,⟨some 22,.len 0 (.tmp 21),none⟩,⟨some 23,.mov (.val (.pv (.int .i64 0))),none⟩] [7,21,22,23] [])
(.block 0
(.loop
(.mask [7,21,22,23] []
(.seq
(.region [⟨some 24,.bin .lss (.tmp 23) (.tmp 22),none⟩] [7,21,22,23,24] [])
(.seq
(.cond (.tmp 24)
.skip
(.exit 0))
(.seq
(.block 1
(.seq
(.region [⟨some 25,.idx 1 (.tmp 21) (.tmp 23),none⟩,⟨some 26,.load 1 false (.tmp 25),none⟩,⟨some 9,.mov (.tmp 26),none⟩] [7,9,21,22,23] [])
(.seq
(.region [⟨some 27,.mov (.tmp 7),none⟩,⟨some 28,.mov (.tmp 9),none⟩,⟨some 29,.call (.val (.func 110 [])) [(.tmp 27),(.tmp 28)],none⟩,⟨some 30,.un .not (.tmp 29),none⟩] [7,9,21,22,23,30] [])
(.cond (.tmp 30)
(.region [⟨some 31,.mov (.tmp 7),none⟩,⟨some 32,.mov (.tmp 9),none⟩,⟨some 33,.lit 1 [.pv (.int .i64 0)] 1 [(0,1,(.tmp 32))],none⟩,⟨some 34,.app 1 (.tmp 31) (.tmp 33),none⟩,⟨some 7,.mov (.tmp 34),none⟩] [7,21,22,23] [])
.skip))))
(.region [⟨some 35,.bin .add (.tmp 23) (.val (.pv (.int .i64 1))),none⟩,⟨some 23,.mov (.tmp 35),none⟩] [7,21,22,23] []))))))))
(.seq
(.region [⟨some 36,.mov (.tmp 7),none⟩,⟨some 4,.mov (.tmp 36),none⟩,⟨some 5,.mov (.val (.pv (.int .i64 0))),none⟩] [4,5] [])
.ret))))),[.tmp 4,.tmp 5],false,false,false⟩
def F272 : AFunc := ⟨2,(.seq
(.region [⟨some 2,.box 2 1 (.tmp 0),none⟩,⟨some 4,.mov (.val (.tl [])),none⟩,⟨some 5,.mov (.val (.pv (.int .i64 0))),none⟩] [1,2] [2])
(.seq
(.seq
(.region [⟨some 10,.load 1 true (.tmp 2),none⟩,⟨some 11,.mov (.tmp 1),none⟩,⟨some 12,.call (.val (.func 292 [])) [(.tmp 10),(.tmp 11)],none⟩,⟨some 6,.mov (.tmp 12),none⟩] [1,2,6] [2])
(.seq
(.region [⟨some 13,.mov (.tmp 6),none⟩,⟨some 14,.bin .neq (.tmp 13) (.val (.pv (.int .i64 0))),none⟩] [1,2,6,14] [2])
(.cond (.tmp 14)
(.seq
(.region [⟨some 15,.mov (.tmp 6),none⟩,⟨some 4,.mov (.val (.tl [])),none⟩,⟨some 5,.mov (.tmp 15),none⟩] [4,5] [])
.ret)
.skip)))
(.seq
(.region [⟨some 16,.fld 0 (.tmp 2),none⟩,⟨some 17,.load 1 false (.tmp 16),none⟩,⟨some 18,.mov (.tmp 1),none⟩,⟨some 19,.idx 10 (.tmp 17) (.tmp 18),none⟩,⟨some 20,.load 10 true (.tmp 19),none⟩,⟨some 21,.call (.val (.func 287 [])) [(.tmp 20)],none⟩,⟨some 7,.mov (.tmp 21),none⟩] [7] [])
(.seq
(.region [⟨some 8,.mov (.val (.tl [])),none⟩] [7,8] [])
(.seq
(.seq
(.region [⟨some 9,.mov (.val (.pv (.int .i64 0))),none⟩] [7,8,9] [])
(.block 0
(.loop
(.mask [7,8,9] []
(.seq
(.seq
(.region [⟨some 22,.mov (.tmp 9),none⟩,⟨some 23,.mov (.tmp 7),none⟩,⟨some 24,.len 0 (.tmp 23),none⟩,⟨some 25,.bin .lss (.tmp 22) (.tmp 24),none⟩] [7,8,9,25] [])
(.cond (.tmp 25)
.skip
(.exit 0)))
(.seq
(.block 1
(.seq
(.region [⟨some 28,.mov (.tmp 8),none⟩,⟨some 29,.mov (.tmp 7),none⟩,⟨some 30,.mov (.tmp 9),none⟩,⟨some 31,.idx 1 (.tmp 29) (.tmp 30),none⟩,⟨some 32,.load 1 false (.tmp 31),none⟩,⟨some 33,.call (.val (.func 293 [])) [(.tmp 28),(.tmp 32)],none⟩,⟨some 34,.un .not (.tmp 33),none⟩] [7,8,9,34] [])
(.cond (.tmp 34)
(.region [⟨some 35,.mov (.tmp 8),none⟩,⟨some 36,.mov (.tmp 7),none⟩,⟨some 37,.mov (.tmp 9),none⟩,⟨some 38,.idx 1 (.tmp 36) (.tmp 37),none⟩,⟨some 39,.load 1 false (.tmp 38),none⟩,⟨some 40,.lit 1 [.pv (.int .i64 0)] 1 [(0,1,(.tmp 39))],none⟩,⟨some 41,.app 1 (.tmp 35) (.tmp 40),none⟩,⟨some 8,.mov (.tmp 41),none⟩] [7,8,9] [])
.skip)))
(.region [⟨some 26,.mov (.tmp 9),none⟩,⟨some 27,.bin .add (.tmp 26) (.val (.pv (.int .i64 1))),none⟩,⟨some 9,.mov (.tmp 27),none⟩] [7,8,9] [])))))))
(.seq
(.region [⟨some 42,.mov (.tmp 8),none⟩,⟨some 4,.mov (.tmp 42),none⟩,⟨some 5,.mov (.val (.pv (.int .i64 0))),none⟩] [4,5] [])
.ret)))))),[.tmp 4,.tmp 5],false,false,false⟩
def F273 : AFunc := ⟨2,(.seq
(.region [⟨some 2,.box 2 1 (.tmp 0),none⟩,⟨some 4,.mov (.val (.tl [])),none⟩,⟨some 5,.mov (.val (.pv (.int .i64 0))),none⟩] [1,2] [2])
(.seq
(.seq
(.region [⟨some 11,.load 1 true (.tmp 2),none⟩,⟨some 12,.mov (.tmp 1),none⟩,⟨some 13,.call (.val (.func 291 [])) [(.tmp 11),(.tmp 12)],none⟩,⟨some 6,.mov (.tmp 13),none⟩] [1,2,6] [2])
(.seq
(.region [⟨some 14,.mov (.tmp 6),none⟩,⟨some 15,.bin .neq (.tmp 14) (.val (.pv (.int .i64 0))),none⟩] [1,2,6,15] [2])
(.cond (.tmp 15)
(.seq
(.region [⟨some 16,.mov (.tmp 6),none⟩,⟨some 4,.mov (.val (.tl [])),none⟩,⟨some 5,.mov (.tmp 16),none⟩] [4,5] [])
.ret)
.skip)))
(.seq
(.region [⟨some 17,.mov (.tmp 1),none⟩,⟨some 18,.lit 1 [.pv (.int .i64 0)] 1 [(0,1,(.tmp 17))],none⟩,⟨some 7,.mov (.tmp 18),none⟩] [2,7] [2])
(.seq
(.seq
(.region [⟨some 8,.mov (.val (.pv (.int .i64 0))),none⟩] [2,7,8] [2])
(.block 0
(.loop
(.mask [2,7,8] [2]
(.seq
(.seq
(.region [⟨some 19,.mov (.tmp 8),none⟩,⟨some 20,.mov (.tmp 7),none⟩,⟨some 21,.len 0 (.tmp 20),none⟩,⟨some 22,.bin .lss (.tmp 19) (.tmp 21),none⟩] [2,7,8,22] [2])
(.cond (.tmp 22)
.skip
(.exit 0)))
(.seq
(.block 1
(.seq
(.draw [(⟨some 25,.fld 0 (.tmp 2),none⟩,[]),(⟨some 26,.load 1 false (.tmp 25),none⟩,[]),(⟨some 27,.mov (.tmp 7),none⟩,[]),(⟨some 28,.mov (.tmp 8),none⟩,[]),(⟨some 29,.idx 1 (.tmp 27) (.tmp 28),none⟩,[]),(⟨some 30,.load 1 false (.tmp 29),none⟩,[]),(⟨some 31,.idx 10 (.tmp 26) (.tmp 30),none⟩,[]),(⟨some 32,.load 10 true (.tmp 31),none⟩,[]),(⟨some 33,.call (.val (.func 284 [])) [(.tmp 32)],none⟩,[]),(⟨some 34,.len 0 (.tmp 33),none⟩,[]),(⟨some 35,.mov (.val (.pv (.int .i64 0))),none⟩,[])] [2,7,8,33,34,35] [2])
(.block 2
(.loop
(.mask [2,7,8,33,34,35] [2]
(.seq
(.region [⟨some 36,.bin .lss (.tmp 35) (.tmp 34),none⟩] [2,7,8,33,34,35,36] [2])
(.seq
(.cond (.tmp 36)
.skip
(.exit 2))
(.seq
(.block 3
(.seq
(.region [⟨some 37,.idx 1 (.tmp 33) (.tmp 35),none⟩,⟨some 38,.load 1 false (.tmp 37),none⟩,⟨some 10,.mov (.tmp 38),none⟩] [2,7,8,10,33,34,35] [2])
(.seq
(.region [⟨some 39,.mov (.tmp 7),none⟩,⟨some 40,.mov (.tmp 10),none⟩,⟨some 41,.call (.val (.func 110 [])) [(.tmp 39),(.tmp 40)],none⟩,⟨some 42,.un .not (.tmp 41),none⟩] [2,7,8,10,33,34,35,42] [2])
(.cond (.tmp 42)
(.region [⟨some 43,.mov (.tmp 7),none⟩,⟨some 44,.mov (.tmp 10),none⟩,⟨some 45,.lit 1 [.pv (.int .i64 0)] 1 [(0,1,(.tmp 44))],none⟩,⟨some 46,.app 1 (.tmp 43) (.tmp 45),none⟩,⟨some 7,.mov (.tmp 46),none⟩] [2,7,8,33,34,35] [2])
.skip))))
(.region [⟨some 47,.bin .add (.tmp 35) (.val (.pv (.int .i64 1))),none⟩,⟨some 35,.mov (.tmp 47),none⟩] [2,7,8,33,34,35] [2])))))))))
(.region [⟨some 23,.mov (.tmp 8),none⟩,⟨some 24,.bin .add (.tmp 23) (.val (.pv (.int .i64 1))),none⟩,⟨some 8,.mov (.tmp 24),none⟩] [2,7,8] [2])))))))
(.seq
(.region [⟨some 48,.mov (.tmp 7),none⟩,⟨some 49,.call (.val (.func 103 [])) [(.tmp 48)],none⟩] [7] [])
(.seq
(.region [⟨some 50,.mov (.tmp 7),none⟩,⟨some 4,.mov (.tmp 50),none⟩,⟨some 5,.mov (.val (.pv (.int .i64 0))),none⟩] [4,5] [])
.ret)))))),[.tmp 4,.tmp 5],false,false,false⟩
def F274 : AFunc := ⟨2,(.seq
(.region [⟨some 2,.box 2 1 (.tmp 0),none⟩,⟨some 4,.mov (.val (.tl [])),none⟩,⟨some 5,.mov (.val (.pv (.int .i64 0))),none⟩] [1,2] [2])
(.seq
(.seq
(.region [⟨some 13,.load 1 true (.tmp 2),none⟩,⟨some 14,.mov (.tmp 1),none⟩,⟨some 15,.call (.val (.func 292 [])) [(.tmp 13),(.tmp 14)],none⟩,⟨some 6,.mov (.tmp 15),none⟩] [1,2,6] [2])
(.seq
(.region [⟨some 16,.mov (.tmp 6),none⟩,⟨some 17,.bin .neq (.tmp 16) (.val (.pv (.int .i64 0))),none⟩] [1,2,6,17] [2])
(.cond (.tmp 17)
(.seq
(.region [⟨some 18,.mov (.tmp 6),none⟩,⟨some 4,.mov (.val (.tl [])),none⟩,⟨some 5,.mov (.tmp 18),none⟩] [4,5] [])
.ret)
.skip)))
(.seq
(.region [⟨some 19,.mov (.tmp 1),none⟩,⟨some 20,.lit 1 [.pv (.int .i64 0)] 1 [(0,1,(.tmp 19))],none⟩,⟨some 7,.mov (.tmp 20),none⟩] [2,7] [2])
(.seq
(.seq
(.region [⟨some 8,.mov (.val (.pv (.int .i64 0))),none⟩] [2,7,8] [2])
(.block 0
(.loop
(.mask [2,7,8] [2]
(.seq
(.seq
(.region [⟨some 21,.mov (.tmp 8),none⟩,⟨some 22,.mov (.tmp 7),none⟩,⟨some 23,.len 0 (.tmp 22),none⟩,⟨some 24,.bin .lss (.tmp 21) (.tmp 23),none⟩] [2,7,8,24] [2])
(.cond (.tmp 24)
.skip
(.exit 0)))
(.seq
(.block 1
(.seq
(.draw [(⟨some 27,.fld 0 (.tmp 2),none⟩,[]),(⟨some 28,.load 1 false (.tmp 27),none⟩,[]),(⟨some 29,.mov (.tmp 7),none⟩,[]),(⟨some 30,.mov (.tmp 8),none⟩,[]),(⟨some 31,.idx 1 (.tmp 29) (.tmp 30),none⟩,[]),(⟨some 32,.load 1 false (.tmp 31),none⟩,[]),(⟨some 33,.idx 10 (.tmp 28) (.tmp 32),none⟩,[]),(⟨some 34,.load 10 true (.tmp 33),none⟩,[]),(⟨some 35,.call (.val (.func 287 [])) [(.tmp 34)],none⟩,[]),(⟨some 9,.mov (.tmp 35),none⟩,[])] [2,7,8,9] [2])
(.seq
(.region [⟨some 10,.mov (.val (.pv (.int .i64 0))),none⟩] [2,7,8,9,10] [2])
(.block 2
(.loop
(.mask [2,7,8,9,10] [2]
(.seq
(.seq
(.region [⟨some 36,.mov (.tmp 10),none⟩,⟨some 37,.mov (.tmp 9),none⟩,⟨some 38,.len 0 (.tmp 37),none⟩,⟨some 39,.bin .lss (.tmp 36) (.tmp 38),none⟩] [2,7,8,9,10,39] [2])
(.cond (.tmp 39)
.skip
(.exit 2)))
(.seq
(.block 3
(.seq
(.region [⟨some 42,.mov (.tmp 7),none⟩,⟨some 43,.mov (.tmp 9),none⟩,⟨some 44,.mov (.tmp 10),none⟩,⟨some 45,.idx 1 (.tmp 43) (.tmp 44),none⟩,⟨some 46,.load 1 false (.tmp 45),none⟩,⟨some 47,.call (.val (.func 293 [])) [(.tmp 42),(.tmp 46)],none⟩,⟨some 48,.un .not (.tmp 47),none⟩] [2,7,8,9,10,48] [2])
(.cond (.tmp 48)
(.region [⟨some 49,.mov (.tmp 7),none⟩,⟨some 50,.mov (.tmp 9),none⟩,⟨some 51,.mov (.tmp 10),none⟩,⟨some 52,.idx 1 (.tmp 50) (.tmp 51),none⟩,⟨some 53,.load 1 false (.tmp 52),none⟩,⟨some 54,.lit 1 [.pv (.int .i64 0)] 1 [(0,1,(.tmp 53))],none⟩,⟨some 55,.app 1 (.tmp 49) (.tmp 54),none⟩,⟨some 7,.mov (.tmp 55),none⟩] [2,7,8,9,10] [2])
.skip)))
(.region [⟨some 40,.mov (.tmp 10),none⟩,⟨some 41,.bin .add (.tmp 40) (.val (.pv (.int .i64 1))),none⟩,⟨some 10,.mov (.tmp 41),none⟩] [2,7,8,9,10] [2])))))))))
(.region [⟨some 25,.mov (.tmp 8),none⟩,⟨some 26,.bin .add (.tmp 25) (.val (.pv (.int .i64 1))),none⟩,⟨some 8,.mov (.tmp 26),none⟩] [2,7,8] [2])))))))
(.seq
(.region [⟨some 11,.mov (.val (.tl [])),none⟩] [2,7,11] [2])
(.seq
(.seq
(.region [⟨some 12,.mov (.val (.pv (.int .i64 0))),none⟩] [2,7,11,12] [2])
(.block 4
(.loop
(.mask [2,7,11,12] [2]
(.seq
(.seq
(.region [⟨some 56,.mov (.tmp 12),none⟩,⟨some 57,.fld 0 (.tmp 2),none⟩,⟨some 58,.load 1 false (.tmp 57),none⟩,⟨some 59,.len 0 (.tmp 58),none⟩,⟨some 60,.bin .lss (.tmp 56) (.tmp 59),none⟩] [2,7,11,12,60] [2])
(.cond (.tmp 60)
.skip
(.exit 4)))
(.seq
(.block 5
(.seq
(.region [⟨some 63,.mov (.tmp 7),none⟩,⟨some 64,.mov (.tmp 12),none⟩,⟨some 65,.call (.val (.func 293 [])) [(.tmp 63),(.tmp 64)],none⟩] [2,7,11,12,65] [2])
(.cond (.tmp 65)
(.region [⟨some 66,.mov (.tmp 11),none⟩,⟨some 67,.mov (.tmp 12),none⟩,⟨some 68,.lit 1 [.pv (.int .i64 0)] 1 [(0,1,(.tmp 67))],none⟩,⟨some 69,.app 1 (.tmp 66) (.tmp 68),none⟩,⟨some 11,.mov (.tmp 69),none⟩] [2,7,11,12] [2])
.skip)))
(.region [⟨some 61,.mov (.tmp 12),none⟩,⟨some 62,.bin .add (.tmp 61) (.val (.pv (.int .i64 1))),none⟩,⟨some 12,.mov (.tmp 62),none⟩] [2,7,11,12] [2])))))))
(.seq
(.region [⟨some 70,.mov (.tmp 11),none⟩,⟨some 4,.mov (.tmp 70),none⟩,⟨some 5,.mov (.val (.pv (.int .i64 0))),none⟩] [4,5] [])
.ret))))))),[.tmp 4,.tmp 5],false,false,false⟩
def F275 : AFunc := ⟨2,(.seq
(.region [⟨some 2,.box 2 1 (.tmp 0),none⟩,⟨some 4,.alloc 4 [.tl []],none⟩,⟨some 5,.mov (.val (.tl [])),none⟩,⟨some 6,.mov (.val (.pv (.int .i64 0))),none⟩] [1,2,4] [2,4])
(.seq
(.region [⟨some 17,.load 1 true (.tmp 2),none⟩,⟨some 18,.mov (.tmp 1),none⟩,⟨some 19,.call (.val (.func 273 [])) [(.tmp 17),(.tmp 18)],none⟩,⟨some 16,.mov (.tmp 19),none⟩,⟨some 20,.ext (.tmp 16) 0,none⟩,⟨some 21,.ext (.tmp 16) 1,none⟩,⟨some 7,.mov (.tmp 20),none⟩,⟨some 8,.mov (.tmp 21),none⟩] [2,4,7,8] [2,4])
(.seq
(.seq
(.region [⟨some 22,.mov (.tmp 8),none⟩,⟨some 23,.bin .neq (.tmp 22) (.val (.pv (.int .i64 0))),none⟩] [2,4,7,8,23] [2,4])
(.cond (.tmp 23)
(.seq
(.region [⟨some 24,.build [.tl []] [],none⟩,⟨some 25,.mov (.tmp 8),none⟩,⟨none,.store 1 (.tmp 4) (.tmp 24),none⟩,⟨some 5,.mov (.val (.tl [])),none⟩,⟨some 6,.mov (.tmp 25),none⟩] [4,5,6] [4])
.ret)
.skip))
(.seq
(.region [⟨some 26,.fld 0 (.tmp 2),none⟩,⟨some 27,.load 1 false (.tmp 26),none⟩,⟨some 28,.len 0 (.tmp 27),none⟩,⟨some 29,.make 1 [.pv (.int .i64 0)] (.tmp 28) (.tmp 28),none⟩,⟨some 9,.mov (.tmp 29),none⟩] [2,4,7,9] [2,4])
(.seq
(.seq
(.region [⟨some 30,.mov (.tmp 9),none⟩,⟨some 31,.len 0 (.tmp 30),none⟩,⟨some 32,.mov (.val (.pv (.int .i64 0))),none⟩] [2,4,7,9,31,32] [2,4])
(.block 0
(.loop
(.mask [2,4,7,9,31,32] [2,4]
(.seq
(.region [⟨some 33,.bin .lss (.tmp 32) (.tmp 31),none⟩] [2,4,7,9,31,32,33] [2,4])
(.seq
(.cond (.tmp 33)
.skip
(.exit 0))
(.seq
(.block 1
(.seq
(.region [⟨some 34,.mov (.tmp 32),none⟩,⟨some 10,.mov (.tmp 34),none⟩] [2,4,7,9,10,31,32] [2,4])
(.region [⟨some 35,.mov (.tmp 9),none⟩,⟨some 36,.mov (.tmp 10),none⟩,⟨some 37,.mov (.tmp 7),none⟩,⟨some 38,.mov (.tmp 10),none⟩,⟨some 39,.call (.val (.func 118 [])) [(.tmp 37),(.tmp 38)],none⟩,⟨some 40,.idx 1 (.tmp 35) (.tmp 36),none⟩,⟨none,.store 1 (.tmp 40) (.tmp 39),none⟩] [2,4,7,9,31,32] [2,4])))
(.region [⟨some 41,.bin .add (.tmp 32) (.val (.pv (.int .i64 1))),none⟩,⟨some 32,.mov (.tmp 41),none⟩] [2,4,7,9,31,32] [2,4]))))))))
(.seq
(.region [⟨some 11,.alloc 11 [.tl []],none⟩] [2,4,7,9,11] [2,4,11])
(.seq
(.seq
(.region [⟨some 42,.mov (.tmp 7),none⟩,⟨some 43,.len 0 (.tmp 42),none⟩,⟨some 44,.mov (.val (.pv (.int .i64 0))),none⟩] [2,4,9,11,42,43,44] [2,4,11])
(.block 2
(.loop
(.mask [2,4,9,11,42,43,44] [2,4,11]
(.seq
(.region [⟨some 45,.bin .lss (.tmp 44) (.tmp 43),none⟩] [2,4,9,11,42,43,44,45] [2,4,11])
(.seq
(.cond (.tmp 45)
.skip
(.exit 2))
(.seq
(.block 3
(.seq
(.region [⟨some 46,.idx 1 (.tmp 42) (.tmp 44),none⟩,⟨some 47,.load 1 false (.tmp 46),none⟩,⟨some 13,.mov (.tmp 47),none⟩] [2,4,9,11,13,42,43,44] [2,4,11])
(.seq
(.region [⟨some 48,.fld 0 (.tmp 2),none⟩,⟨some 49,.load 1 false (.tmp 48),none⟩,⟨some 50,.mov (.tmp 13),none⟩,⟨some 51,.idx 10 (.tmp 49) (.tmp 50),none⟩,⟨some 52,.load 10 true (.tmp 51),none⟩,⟨some 53,.call (.val (.func 294 [])) [(.tmp 52)],none⟩,⟨some 14,.alloc 14 [.pv (.int .i64 0),.pv (.str ⟨#[]⟩),.pv (.int .i64 0),.pv (.int .i64 0),.pv (.int .i64 0),.tl [],.tl [],.pv (.int .i64 0),.pv (.int .i64 0),.pv (.bool false)],none⟩,⟨none,.store 10 (.tmp 14) (.tmp 53),none⟩] [2,4,9,11,14,42,43,44] [2,4,11,14])
(.seq
(.seq
(.region [⟨some 54,.fld 6 (.tmp 14),none⟩,⟨some 55,.load 1 false (.tmp 54),none⟩,⟨some 56,.len 0 (.tmp 55),none⟩,⟨some 57,.mov (.val (.pv (.int .i64 0))),none⟩] [2,4,9,11,14,42,43,44,56,57] [2,4,11,14])
(.block 4
(.loop
(.mask [2,4,9,11,14,42,43,44,56,57] [2,4,11,14]
(.seq
(.region [⟨some 58,.bin .lss (.tmp 57) (.tmp 56),none⟩] [2,4,9,11,14,42,43,44,56,57,58] [2,4,11,14])
(.seq
(.cond (.tmp 58)
.skip
(.exit 4))
(.seq
(.block 5
(.seq
(.region [⟨some 59,.mov (.tmp 57),none⟩,⟨some 15,.mov (.tmp 59),none⟩] [2,4,9,11,14,15,42,43,44,56,57] [2,4,11,14])
(.draw [(⟨some 60,.fld 6 (.tmp 14),none⟩,[]),(⟨some 61,.load 1 false (.tmp 60),none⟩,[]),(⟨some 62,.mov (.tmp 15),none⟩,[]),(⟨some 63,.mov (.tmp 9),none⟩,[]),(⟨some 64,.fld 6 (.tmp 14),none⟩,[]),(⟨some 65,.load 1 false (.tmp 64),none⟩,[]),(⟨some 66,.mov (.tmp 15),none⟩,[]),(⟨some 67,.idx 13 (.tmp 65) (.tmp 66),none⟩,[]),(⟨some 68,.fld 2 (.tmp 67),none⟩,[]),(⟨some 69,.load 1 false (.tmp 68),none⟩,[]),(⟨some 70,.idx 1 (.tmp 63) (.tmp 69),none⟩,[]),(⟨some 71,.load 1 false (.tmp 70),none⟩,[]),(⟨some 72,.idx 13 (.tmp 61) (.tmp 62),none⟩,[]),(⟨some 73,.fld 2 (.tmp 72),none⟩,[]),(⟨none,.store 1 (.tmp 73) (.tmp 71),none⟩,[])] [2,4,9,11,14,42,43,44,56,57] [2,4,11,14])))
(.region [⟨some 74,.bin .add (.tmp 57) (.val (.pv (.int .i64 1))),none⟩,⟨some 57,.mov (.tmp 74),none⟩] [2,4,9,11,14,42,43,44,56,57] [2,4,11,14]))))))))
(.seq
(.seq
(.region [⟨some 75,.fld 0 (.tmp 14),none⟩,⟨some 76,.load 1 false (.tmp 75),none⟩,⟨some 77,.bin .eql (.tmp 76) (.val (.pv (.int .i64 8))),none⟩] [2,4,9,11,14,42,43,44,77] [2,4,11,14])
(.cond (.tmp 77)
(.region [⟨some 78,.mov (.tmp 9),none⟩,⟨some 79,.fld 7 (.tmp 14),none⟩,⟨some 80,.load 1 false (.tmp 79),none⟩,⟨some 81,.idx 1 (.tmp 78) (.tmp 80),none⟩,⟨some 82,.load 1 false (.tmp 81),none⟩,⟨some 83,.fld 7 (.tmp 14),none⟩,⟨none,.store 1 (.tmp 83) (.tmp 82),none⟩] [2,4,9,11,14,42,43,44] [2,4,11,14])
.skip))
(.seq
(.seq
(.region [⟨some 84,.fld 0 (.tmp 14),none⟩,⟨some 85,.load 1 false (.tmp 84),none⟩,⟨some 86,.bin .geq (.tmp 85) (.val (.pv (.int .i64 7))),none⟩] [2,4,9,11,14,42,43,44,86] [2,4,11,14])
(.cond (.tmp 86)
(.region [⟨some 87,.mov (.tmp 9),none⟩,⟨some 88,.fld 8 (.tmp 14),none⟩,⟨some 89,.load 1 false (.tmp 88),none⟩,⟨some 90,.idx 1 (.tmp 87) (.tmp 89),none⟩,⟨some 91,.load 1 false (.tmp 90),none⟩,⟨some 92,.fld 8 (.tmp 14),none⟩,⟨none,.store 1 (.tmp 92) (.tmp 91),none⟩] [2,4,9,11,14,42,43,44] [2,4,11,14])
.skip))
(.region [⟨some 93,.fld 0 (.tmp 11),none⟩,⟨some 94,.load 1 false (.tmp 93),none⟩,⟨some 95,.load 10 true (.tmp 14),none⟩,⟨some 96,.lit 10 [.pv (.int .i64 0),.pv (.str ⟨#[]⟩),.pv (.int .i64 0),.pv (.int .i64 0),.pv (.int .i64 0),.tl [],.tl [],.pv (.int .i64 0),.pv (.int .i64 0),.pv (.bool false)] 1 [(0,10,(.tmp 95))],none⟩,⟨some 97,.app 10 (.tmp 94) (.tmp 96),none⟩,⟨some 98,.fld 0 (.tmp 11),none⟩,⟨none,.store 1 (.tmp 98) (.tmp 97),none⟩] [2,4,9,11,42,43,44] [2,4,11])))))))
(.region [⟨some 99,.bin .add (.tmp 44) (.val (.pv (.int .i64 1))),none⟩,⟨some 44,.mov (.tmp 99),none⟩] [2,4,9,11,42,43,44] [2,4,11]))))))))
(.seq
(.region [⟨some 100,.load 1 true (.tmp 11),none⟩,⟨some 101,.mov (.tmp 9),none⟩,⟨none,.store 1 (.tmp 4) (.tmp 100),none⟩,⟨some 5,.mov (.tmp 101),none⟩,⟨some 6,.mov (.val (.pv (.int .i64 0))),none⟩] [4,5,6] [4])
.ret)))))))),[.cell 4 1 true,.tmp 5,.tmp 6],false,false,false⟩
def F276 : AFunc := ⟨2,(.seq
(.region [⟨some 2,.box 2 1 (.tmp 0),none⟩,⟨some 4,.alloc 4 [.tl []],none⟩,⟨some 5,.mov (.val (.tl [])),none⟩,⟨some 6,.mov (.val (.pv (.int .i64 0))),none⟩] [1,2,4] [2,4])
(.seq
(.region [⟨some 17,.load 1 true (.tmp 2),none⟩,⟨some 18,.mov (.tmp 1),none⟩,⟨some 19,.call (.val (.func 274 [])) [(.tmp 17),(.tmp 18)],none⟩,⟨some 16,.mov (.tmp 19),none⟩,⟨some 20,.ext (.tmp 16) 0,none⟩,⟨some 21,.ext (.tmp 16) 1,none⟩,⟨some 7,.mov (.tmp 20),none⟩,⟨some 8,.mov (.tmp 21),none⟩] [2,4,7,8] [2,4])
(.seq
(.seq
(.region [⟨some 22,.mov (.tmp 8),none⟩,⟨some 23,.bin .neq (.tmp 22) (.val (.pv (.int .i64 0))),none⟩] [2,4,7,8,23] [2,4])
(.cond (.tmp 23)
(.seq
(.region [⟨some 24,.build [.tl []] [],none⟩,⟨some 25,.mov (.tmp 8),none⟩,⟨none,.store 1 (.tmp 4) (.tmp 24),none⟩,⟨some 5,.mov (.val (.tl [])),none⟩,⟨some 6,.mov (.tmp 25),none⟩] [4,5,6] [4])
.ret)
.skip))
(.seq
(.region [⟨some 26,.fld 0 (.tmp 2),none⟩,⟨some 27,.load 1 false (.tmp 26),none⟩,⟨some 28,.len 0 (.tmp 27),none⟩,⟨some 29,.make 1 [.pv (.int .i64 0)] (.tmp 28) (.tmp 28),none⟩,⟨some 9,.mov (.tmp 29),none⟩] [2,4,7,9] [2,4])
(.seq
(.seq
(.region [⟨some 10,.mov (.val (.pv (.int .i64 0))),none⟩] [2,4,7,9,10] [2,4])
(.block 0
(.loop
(.mask [2,4,7,9,10] [2,4]
(.seq
(.seq
(.region [⟨some 30,.mov (.tmp 10),none⟩,⟨some 31,.mov (.tmp 9),none⟩,⟨some 32,.len 0 (.tmp 31),none⟩,⟨some 33,.bin .lss (.tmp 30) (.tmp 32),none⟩] [2,4,7,9,10,33] [2,4])
(.cond (.tmp 33)
.skip
(.exit 0)))
(.seq
(.block 1
(.region [⟨some 36,.mov (.tmp 9),none⟩,⟨some 37,.mov (.tmp 10),none⟩,⟨some 38,.idx 1 (.tmp 36) (.tmp 37),none⟩,⟨none,.store 1 (.tmp 38) (.val (.pv (.int .i64 (-1)))),none⟩] [2,4,7,9,10] [2,4]))
(.region [⟨some 34,.mov (.tmp 10),none⟩,⟨some 35,.bin .add (.tmp 34) (.val (.pv (.int .i64 1))),none⟩,⟨some 10,.mov (.tmp 35),none⟩] [2,4,7,9,10] [2,4])))))))
(.seq
(.seq
(.region [⟨some 11,.mov (.val (.pv (.int .i64 0))),none⟩] [2,4,7,9,11] [2,4])
(.block 2
(.loop
(.mask [2,4,7,9,11] [2,4]
(.seq
(.seq
(.region [⟨some 39,.mov (.tmp 11),none⟩,⟨some 40,.mov (.tmp 7),none⟩,⟨some 41,.len 0 (.tmp 40),none⟩,⟨some 42,.bin .lss (.tmp 39) (.tmp 41),none⟩] [2,4,7,9,11,42] [2,4])
(.cond (.tmp 42)
.skip
(.exit 2)))
(.seq
(.block 3
(.region [⟨some 45,.mov (.tmp 9),none⟩,⟨some 46,.mov (.tmp 7),none⟩,⟨some 47,.mov (.tmp 11),none⟩,⟨some 48,.idx 1 (.tmp 46) (.tmp 47),none⟩,⟨some 49,.load 1 false (.tmp 48),none⟩,⟨some 50,.mov (.tmp 11),none⟩,⟨some 51,.idx 1 (.tmp 45) (.tmp 49),none⟩,⟨none,.store 1 (.tmp 51) (.tmp 50),none⟩] [2,4,7,9,11] [2,4]))
(.region [⟨some 43,.mov (.tmp 11),none⟩,⟨some 44,.bin .add (.tmp 43) (.val (.pv (.int .i64 1))),none⟩,⟨some 11,.mov (.tmp 44),none⟩] [2,4,7,9,11] [2,4])))))))
(.seq
(.region [⟨some 12,.alloc 12 [.tl []],none⟩] [2,4,7,9,12] [2,4,12])
(.seq
(.seq
(.region [⟨some 13,.mov (.val (.pv (.int .i64 0))),none⟩] [2,4,7,9,12,13] [2,4,12])
(.block 4
(.loop
(.mask [2,4,7,9,12,13] [2,4,12]
(.seq
(.seq
(.region [⟨some 52,.mov (.tmp 13),none⟩,⟨some 53,.mov (.tmp 7),none⟩,⟨some 54,.len 0 (.tmp 53),none⟩,⟨some 55,.bin .lss (.tmp 52) (.tmp 54),none⟩] [2,4,7,9,12,13,55] [2,4,12])
(.cond (.tmp 55)
.skip
(.exit 4)))
(.seq
(.block 5
(.seq
(.draw [(⟨some 58,.fld 0 (.tmp 2),none⟩,[]),(⟨some 59,.load 1 false (.tmp 58),none⟩,[]),(⟨some 60,.mov (.tmp 7),none⟩,[]),(⟨some 61,.mov (.tmp 13),none⟩,[]),(⟨some 62,.idx 1 (.tmp 60) (.tmp 61),none⟩,[]),(⟨some 63,.load 1 false (.tmp 62),none⟩,[]),(⟨some 64,.idx 10 (.tmp 59) (.tmp 63),none⟩,[]),(⟨some 65,.load 10 true (.tmp 64),none⟩,[]),(⟨some 14,.alloc 14 [.pv (.int .i64 0),.pv (.str ⟨#[]⟩),.pv (.int .i64 0),.pv (.int .i64 0),.pv (.int .i64 0),.tl [],.tl [],.pv (.int .i64 0),.pv (.int .i64 0),.pv (.bool false)],none⟩,[1,4,5,6,7]),(⟨none,.store 10 (.tmp 14) (.tmp 65),none⟩,[])] [2,4,7,9,12,13,14] [2,4,12,14])
(.seq
(.region [⟨some 66,.lit 13 [.pv (.int .i64 0),.pv (.str ⟨#[]⟩),.pv (.int .i64 0),.pv (.bool false),.pv (.bool false),.pv (.int .i64 0),.pv (.bool false),.pv (.int .i64 0),.pv (.str ⟨#[]⟩),.pv (.int .i64 0),.tl [],.tl [],.tl []] 0 [],none⟩,⟨some 67,.fld 6 (.tmp 14),none⟩,⟨some 68,.load 1 false (.tmp 67),none⟩,⟨some 69,.app 13 (.tmp 66) (.tmp 68),none⟩,⟨some 70,.fld 6 (.tmp 14),none⟩,⟨none,.store 1 (.tmp 70) (.tmp 69),none⟩] [2,4,7,9,12,13,14] [2,4,12,14])
(.seq
(.seq
(.region [⟨some 15,.mov (.val (.pv (.int .i64 0))),none⟩] [2,4,7,9,12,13,14,15] [2,4,12,14])
(.block 6
(.loop
(.mask [2,4,7,9,12,13,14,15] [2,4,12,14]
(.seq
(.seq
(.region [⟨some 71,.mov (.tmp 15),none⟩,⟨some 72,.fld 6 (.tmp 14),none⟩,⟨some 73,.load 1 false (.tmp 72),none⟩,⟨some 74,.len 0 (.tmp 73),none⟩,⟨some 75,.bin .lss (.tmp 71) (.tmp 74),none⟩] [2,4,7,9,12,13,14,15,75] [2,4,12,14])
(.cond (.tmp 75)
.skip
(.exit 6)))
(.seq
(.block 7
(.draw [(⟨some 78,.fld 6 (.tmp 14),none⟩,[]),(⟨some 79,.load 1 false (.tmp 78),none⟩,[]),(⟨some 80,.mov (.tmp 15),none⟩,[]),(⟨some 81,.mov (.tmp 9),none⟩,[]),(⟨some 82,.fld 6 (.tmp 14),none⟩,[]),(⟨some 83,.load 1 false (.tmp 82),none⟩,[]),(⟨some 84,.mov (.tmp 15),none⟩,[]),(⟨some 85,.idx 13 (.tmp 83) (.tmp 84),none⟩,[]),(⟨some 86,.fld 2 (.tmp 85),none⟩,[]),(⟨some 87,.load 1 false (.tmp 86),none⟩,[]),(⟨some 88,.idx 1 (.tmp 81) (.tmp 87),none⟩,[]),(⟨some 89,.load 1 false (.tmp 88),none⟩,[]),(⟨some 90,.idx 13 (.tmp 79) (.tmp 80),none⟩,[]),(⟨some 91,.fld 2 (.tmp 90),none⟩,[]),(⟨none,.store 1 (.tmp 91) (.tmp 89),none⟩,[])] [2,4,7,9,12,13,14,15] [2,4,12,14]))
(.region [⟨some 76,.mov (.tmp 15),none⟩,⟨some 77,.bin .add (.tmp 76) (.val (.pv (.int .i64 1))),none⟩,⟨some 15,.mov (.tmp 77),none⟩] [2,4,7,9,12,13,14,15] [2,4,12,14])))))))
(.seq
(.seq
(.region [⟨some 92,.fld 0 (.tmp 14),none⟩,⟨some 93,.load 1 false (.tmp 92),none⟩,⟨some 94,.bin .eql (.tmp 93) (.val (.pv (.int .i64 8))),none⟩] [2,4,7,9,12,13,14,94] [2,4,12,14])
(.cond (.tmp 94)
(.region [⟨some 95,.mov (.tmp 9),none⟩,⟨some 96,.fld 7 (.tmp 14),none⟩,⟨some 97,.load 1 false (.tmp 96),none⟩,⟨some 98,.idx 1 (.tmp 95) (.tmp 97),none⟩,⟨some 99,.load 1 false (.tmp 98),none⟩,⟨some 100,.fld 7 (.tmp 14),none⟩,⟨none,.store 1 (.tmp 100) (.tmp 99),none⟩] [2,4,7,9,12,13,14] [2,4,12,14])
.skip))
(.seq
(.seq
(.region [⟨some 101,.fld 0 (.tmp 14),none⟩,⟨some 102,.load 1 false (.tmp 101),none⟩,⟨some 103,.bin .eql (.tmp 102) (.val (.pv (.int .i64 7))),none⟩,⟨some 104,.mov (.tmp 103),none⟩,⟨some 105,.fld 0 (.tmp 14),some (104,false)⟩,⟨some 106,.load 1 false (.tmp 105),some (104,false)⟩,⟨some 107,.bin .eql (.tmp 106) (.val (.pv (.int .i64 8))),some (104,false)⟩,⟨some 108,.pick (.tmp 104) (.val (.pv (.bool true))) (.tmp 107),none⟩,⟨some 109,.mov (.tmp 108),none⟩,⟨some 110,.fld 0 (.tmp 14),some (109,false)⟩,⟨some 111,.load 1 false (.tmp 110),some (109,false)⟩,⟨some 112,.bin .eql (.tmp 111) (.val (.pv (.int .i64 9))),some (109,false)⟩,⟨some 113,.pick (.tmp 109) (.val (.pv (.bool true))) (.tmp 112),none⟩] [2,4,7,9,12,13,14,113] [2,4,12,14])
(.cond (.tmp 113)
(.region [⟨some 114,.mov (.tmp 9),none⟩,⟨some 115,.fld 8 (.tmp 14),none⟩,⟨some 116,.load 1 false (.tmp 115),none⟩,⟨some 117,.idx 1 (.tmp 114) (.tmp 116),none⟩,⟨some 118,.load 1 false (.tmp 117),none⟩,⟨some 119,.fld 8 (.tmp 14),none⟩,⟨none,.store 1 (.tmp 119) (.tmp 118),none⟩] [2,4,7,9,12,13,14] [2,4,12,14])
.skip))
(.region [⟨some 120,.fld 0 (.tmp 12),none⟩,⟨some 121,.load 1 false (.tmp 120),none⟩,⟨some 122,.load 10 true (.tmp 14),none⟩,⟨some 123,.lit 10 [.pv (.int .i64 0),.pv (.str ⟨#[]⟩),.pv (.int .i64 0),.pv (.int .i64 0),.pv (.int .i64 0),.tl [],.tl [],.pv (.int .i64 0),.pv (.int .i64 0),.pv (.bool false)] 1 [(0,10,(.tmp 122))],none⟩,⟨some 124,.app 10 (.tmp 121) (.tmp 123),none⟩,⟨some 125,.fld 0 (.tmp 12),none⟩,⟨none,.store 1 (.tmp 125) (.tmp 124),none⟩] [2,4,7,9,12,13] [2,4,12])))))))
(.region [⟨some 56,.mov (.tmp 13),none⟩,⟨some 57,.bin .add (.tmp 56) (.val (.pv (.int .i64 1))),none⟩,⟨some 13,.mov (.tmp 57),none⟩] [2,4,7,9,12,13] [2,4,12])))))))
(.seq
(.region [⟨some 126,.load 1 true (.tmp 12),none⟩,⟨some 127,.mov (.tmp 9),none⟩,⟨none,.store 1 (.tmp 4) (.tmp 126),none⟩,⟨some 5,.mov (.tmp 127),none⟩,⟨some 6,.mov (.val (.pv (.int .i64 0))),none⟩] [4,5,6] [4])
.ret))))))))),[.cell 4 1 true,.tmp 5,.tmp 6],false,false,false⟩
def F277 : AFunc := ⟨2,(.seq
(.region [⟨some 2,.box 2 1 (.tmp 0),none⟩,⟨some 3,.box 3 1 (.tmp 1),none⟩,⟨some 4,.mov (.val (.pv (.bool false))),none⟩] [2,3] [2,3])
(.seq
(.seq
(.region [⟨some 6,.fld 0 (.tmp 2),none⟩,⟨some 7,.load 1 false (.tmp 6),none⟩,⟨some 8,.len 0 (.tmp 7),none⟩,⟨some 9,.fld 0 (.tmp 3),none⟩,⟨some 10,.load 1 false (.tmp 9),none⟩,⟨some 11,.len 0 (.tmp 10),none⟩,⟨some 12,.bin .neq (.tmp 8) (.tmp 11),none⟩] [2,3,12] [2,3])
(.cond (.tmp 12)
(.seq
(.region [⟨some 4,.mov (.val (.pv (.bool false))),none⟩] [4] [])
.ret)
.skip))
(.seq
(.seq
(.region [⟨some 5,.mov (.val (.pv (.int .i64 0))),none⟩] [2,3,5] [2,3])
(.block 0
(.loop
(.mask [2,3,5] [2,3]
(.seq
(.seq
(.region [⟨some 13,.mov (.tmp 5),none⟩,⟨some 14,.fld 0 (.tmp 2),none⟩,⟨some 15,.load 1 false (.tmp 14),none⟩,⟨some 16,.len 0 (.tmp 15),none⟩,⟨some 17,.bin .lss (.tmp 13) (.tmp 16),none⟩] [2,3,5,17] [2,3])
(.cond (.tmp 17)
.skip
(.exit 0)))
(.seq
(.block 1
(.seq
(.draw [(⟨some 20,.fld 0 (.tmp 2),none⟩,[]),(⟨some 21,.load 1 false (.tmp 20),none⟩,[]),(⟨some 22,.mov (.tmp 5),none⟩,[]),(⟨some 23,.idx 10 (.tmp 21) (.tmp 22),none⟩,[]),(⟨some 24,.load 10 true (.tmp 23),none⟩,[]),(⟨some 25,.fld 0 (.tmp 3),none⟩,[]),(⟨some 26,.load 1 false (.tmp 25),none⟩,[]),(⟨some 27,.mov (.tmp 5),none⟩,[]),(⟨some 28,.idx 10 (.tmp 26) (.tmp 27),none⟩,[]),(⟨some 29,.load 10 true (.tmp 28),none⟩,[]),(⟨some 30,.call (.val (.func 295 [])) [(.tmp 24),(.tmp 29)],none⟩,[]),(⟨some 31,.un .not (.tmp 30),none⟩,[])] [2,3,5,31] [2,3])
(.cond (.tmp 31)
(.seq
(.region [⟨some 4,.mov (.val (.pv (.bool false))),none⟩] [4] [])
.ret)
.skip)))
(.region [⟨some 18,.mov (.tmp 5),none⟩,⟨some 19,.bin .add (.tmp 18) (.val (.pv (.int .i64 1))),none⟩,⟨some 5,.mov (.tmp 19),none⟩] [2,3,5] [2,3])))))))
(.seq
(.region [⟨some 4,.mov (.val (.pv (.bool true))),none⟩] [4] [])
.ret)))),[.tmp 4],false,false,false⟩
def F278 : AFunc := ⟨2,(.seq
(.region [⟨some 2,.box 2 1 (.tmp 0),none⟩,⟨some 3,.box 3 1 (.tmp 1),none⟩,⟨some 4,.mov (.val (.pv (.bool false))),none⟩] [2,3] [2,3])
(.seq
(.region [⟨some 5,.fld 0 (.tmp 2),none⟩,⟨some 6,.load 1 false (.tmp 5),none⟩,⟨some 7,.fld 0 (.tmp 3),none⟩,⟨some 8,.load 1 false (.tmp 7),none⟩,⟨some 9,.call (.val (.func 296 [])) [(.tmp 6),(.tmp 8),(.val (.func 297 []))],none⟩,⟨some 4,.mov (.tmp 9),none⟩] [4] [])
.ret)),[.tmp 4],false,false,false⟩
def F280 : AFunc := ⟨0,(.seq
(.region [⟨some 0,.alloc 0 [.tl []],none⟩] [0] [0])
(.seq
(.region [⟨some 2,.build [.pv (.int .i64 0),.pv (.str ⟨#[]⟩),.pv (.int .i64 0),.pv (.bool false),.pv (.bool false),.pv (.int .i64 0),.pv (.bool false),.pv (.int .i64 0),.pv (.str ⟨#[]⟩),.pv (.int .i64 0),.tl [],.tl [],.tl []] [(0,1,(.val (.pv (.int .i64 1)))),(1,1,(.val (.pv (.str ⟨#[118,97,108,117,101]⟩)))),(2,1,(.val (.pv (.int .i64 1))))],none⟩,⟨some 3,.build [.pv (.int .i64 0),.pv (.str ⟨#[]⟩),.pv (.int .i64 0),.pv (.bool false),.pv (.bool false),.pv (.int .i64 0),.pv (.bool false),.pv (.int .i64 0),.pv (.str ⟨#[]⟩),.pv (.int .i64 0),.tl [],.tl [],.tl []] [(0,1,(.val (.pv (.int .i64 2)))),(1,1,(.val (.pv (.str ⟨#[110,101,120,116]⟩)))),(2,1,(.val (.pv (.int .i64 2))))],none⟩,⟨some 4,.lit 13 [.pv (.int .i64 0),.pv (.str ⟨#[]⟩),.pv (.int .i64 0),.pv (.bool false),.pv (.bool false),.pv (.int .i64 0),.pv (.bool false),.pv (.int .i64 0),.pv (.str ⟨#[]⟩),.pv (.int .i64 0),.tl [],.tl [],.tl []] 2 [(0,13,(.tmp 2)),(13,13,(.tmp 3))],none⟩,⟨some 5,.build [.pv (.int .i64 0),.pv (.str ⟨#[]⟩),.pv (.int .i64 0),.pv (.int .i64 0),.pv (.int .i64 0),.tl [],.tl [],.pv (.int .i64 0),.pv (.int .i64 0),.pv (.bool false)] [(0,1,(.val (.pv (.int .i64 5)))),(1,1,(.val (.pv (.str ⟨#[78,111,100,101]⟩)))),(6,1,(.tmp 4))],none⟩,⟨some 1,.alloc 1 [.pv (.int .i64 0),.pv (.str ⟨#[]⟩),.pv (.int .i64 0),.pv (.int .i64 0),.pv (.int .i64 0),.tl [],.tl [],.pv (.int .i64 0),.pv (.int .i64 0),.pv (.bool false)],none⟩,⟨none,.store 10 (.tmp 1) (.tmp 5),none⟩] [0,1] [0,1])
(.seq
(.region [⟨some 6,.load 10 true (.tmp 1),none⟩,⟨some 7,.build [.pv (.int .i64 0),.pv (.str ⟨#[]⟩),.pv (.int .i64 0),.pv (.int .i64 0),.pv (.int .i64 0),.tl [],.tl [],.pv (.int .i64 0),.pv (.int .i64 0),.pv (.bool false)] [(0,1,(.val (.pv (.int .i64 2)))),(3,1,(.val (.pv (.int .i64 9))))],none⟩,⟨some 8,.build [.pv (.int .i64 0),.pv (.str ⟨#[]⟩),.pv (.int .i64 0),.pv (.int .i64 0),.pv (.int .i64 0),.tl [],.tl [],.pv (.int .i64 0),.pv (.int .i64 0),.pv (.bool false)] [(0,1,(.val (.pv (.int .i64 9))))],none⟩,⟨some 9,.lit 10 [.pv (.int .i64 0),.pv (.str ⟨#[]⟩),.pv (.int .i64 0),.pv (.int .i64 0),.pv (.int .i64 0),.tl [],.tl [],.pv (.int .i64 0),.pv (.int .i64 0),.pv (.bool false)] 3 [(0,10,(.tmp 6)),(10,10,(.tmp 7)),(20,10,(.tmp 8))],none⟩,⟨some 10,.build [.tl []] [(0,1,(.tmp 9))],none⟩,⟨none,.store 1 (.tmp 0) (.tmp 10),none⟩] [0] [0])
.ret))),[.cell 0 1 true],false,false,false⟩
def F281 : AFunc := ⟨2,(.seq
(.region [⟨some 2,.box 2 10 (.tmp 0),none⟩,⟨some 3,.box 3 1 (.tmp 1),none⟩,⟨some 4,.mov (.val (.pv (.int .i64 0))),none⟩,⟨some 5,.mov (.val (.pv (.bool false))),none⟩] [2,3] [2,3])
(.seq
(.region [⟨some 7,.fld 6 (.tmp 2),none⟩,⟨some 8,.load 1 false (.tmp 7),none⟩,⟨some 9,.clos 305 [(.tmp 3)],none⟩,⟨some 10,.call (.val (.func 304 [])) [(.tmp 8),(.tmp 9)],none⟩,⟨some 6,.mov (.tmp 10),none⟩] [6] [])
(.seq
(.region [⟨some 11,.mov (.tmp 6),none⟩,⟨some 12,.minmax true [(.tmp 11),(.val (.pv (.int .i64 0)))],none⟩,⟨some 13,.mov (.tmp 6),none⟩,⟨some 14,.bin .geq (.tmp 13) (.val (.pv (.int .i64 0))),none⟩,⟨some 4,.mov (.tmp 12),none⟩,⟨some 5,.mov (.tmp 14),none⟩] [4,5] [])
.ret))),[.tmp 4,.tmp 5],false,false,false⟩
def F282 : AFunc := ⟨1,(.seq
(.region [⟨some 1,.box 1 8 (.tmp 0),none⟩,⟨some 2,.mov (.val (.pv (.int .i64 0))),none⟩] [1] [1])
(.seq
(.region [⟨some 7,.fld 3 (.tmp 1),none⟩,⟨some 8,.load 1 false (.tmp 7),none⟩,⟨some 9,.len 1 (.tmp 8),none⟩,⟨some 10,.bin .add (.val (.pv (.int .i64 1))) (.tmp 9),none⟩,⟨some 3,.mov (.tmp 10),none⟩] [1,3] [1])
(.seq
(.seq
(.region [⟨some 4,.mov (.val (.pv (.int .i64 0))),none⟩] [1,3,4] [1])
(.block 0
(.loop
(.mask [1,3,4] [1]
(.seq
(.seq
(.region [⟨some 11,.mov (.tmp 4),none⟩,⟨some 12,.fld 5 (.tmp 1),none⟩,⟨some 13,.load 1 false (.tmp 12),none⟩,⟨some 14,.len 0 (.tmp 13),none⟩,⟨some 15,.bin .lss (.tmp 11) (.tmp 14),none⟩] [1,3,4,15] [1])
(.cond (.tmp 15)
.skip
(.exit 0)))
(.seq
(.block 1
(.region [⟨some 18,.mov (.tmp 3),none⟩,⟨some 19,.fld 5 (.tmp 1),none⟩,⟨some 20,.load 1 false (.tmp 19),none⟩,⟨some 21,.mov (.tmp 4),none⟩,⟨some 22,.idx 8 (.tmp 20) (.tmp 21),none⟩,⟨some 23,.load 8 true (.tmp 22),none⟩,⟨some 24,.call (.val (.func 282 [])) [(.tmp 23)],none⟩,⟨some 25,.bin .add (.tmp 18) (.tmp 24),none⟩,⟨some 3,.mov (.tmp 25),none⟩] [1,3,4] [1]))
(.region [⟨some 16,.mov (.tmp 4),none⟩,⟨some 17,.bin .add (.tmp 16) (.val (.pv (.int .i64 1))),none⟩,⟨some 4,.mov (.tmp 17),none⟩] [1,3,4] [1])))))))
(.seq
(.seq
(.region [⟨some 5,.mov (.val (.pv (.int .i64 0))),none⟩] [1,3,5] [1])
(.block 2
(.loop
(.mask [1,3,5] [1]
(.seq
(.seq
(.region [⟨some 26,.mov (.tmp 5),none⟩,⟨some 27,.fld 6 (.tmp 1),none⟩,⟨some 28,.load 1 false (.tmp 27),none⟩,⟨some 29,.len 0 (.tmp 28),none⟩,⟨some 30,.bin .lss (.tmp 26) (.tmp 29),none⟩] [1,3,5,30] [1])
(.cond (.tmp 30)
.skip
(.exit 2)))
(.seq
(.block 3
(.region [⟨some 33,.mov (.tmp 3),none⟩,⟨some 34,.fld 6 (.tmp 1),none⟩,⟨some 35,.load 1 false (.tmp 34),none⟩,⟨some 36,.mov (.tmp 5),none⟩,⟨some 37,.idx 8 (.tmp 35) (.tmp 36),none⟩,⟨some 38,.load 8 true (.tmp 37),none⟩,⟨some 39,.call (.val (.func 282 [])) [(.tmp 38)],none⟩,⟨some 40,.bin .add (.tmp 33) (.tmp 39),none⟩,⟨some 3,.mov (.tmp 40),none⟩] [1,3,5] [1]))
(.region [⟨some 31,.mov (.tmp 5),none⟩,⟨some 32,.bin .add (.tmp 31) (.val (.pv (.int .i64 1))),none⟩,⟨some 5,.mov (.tmp 32),none⟩] [1,3,5] [1])))))))
(.seq
(.seq
(.region [⟨some 6,.mov (.val (.pv (.int .i64 0))),none⟩] [1,3,6] [1])
(.block 4
(.loop
(.mask [1,3,6] [1]
(.seq
(.seq
(.region [⟨some 41,.mov (.tmp 6),none⟩,⟨some 42,.fld 7 (.tmp 1),none⟩,⟨some 43,.load 1 false (.tmp 42),none⟩,⟨some 44,.len 0 (.tmp 43),none⟩,⟨some 45,.bin .lss (.tmp 41) (.tmp 44),none⟩] [1,3,6,45] [1])
(.cond (.tmp 45)
.skip
(.exit 4)))
(.seq
(.block 5
(.region [⟨some 48,.mov (.tmp 3),none⟩,⟨some 49,.bin .add (.tmp 48) (.val (.pv (.int .i64 1))),none⟩,⟨some 50,.fld 7 (.tmp 1),none⟩,⟨some 51,.load 1 false (.tmp 50),none⟩,⟨some 52,.mov (.tmp 6),none⟩,⟨some 53,.idx 2 (.tmp 51) (.tmp 52),none⟩,⟨some 54,.fld 1 (.tmp 53),none⟩,⟨some 55,.load 1 false (.tmp 54),none⟩,⟨some 56,.len 1 (.tmp 55),none⟩,⟨some 57,.bin .add (.tmp 49) (.tmp 56),none⟩,⟨some 3,.mov (.tmp 57),none⟩] [1,3,6] [1]))
(.region [⟨some 46,.mov (.tmp 6),none⟩,⟨some 47,.bin .add (.tmp 46) (.val (.pv (.int .i64 1))),none⟩,⟨some 6,.mov (.tmp 47),none⟩] [1,3,6] [1])))))))
(.seq
(.region [⟨some 58,.mov (.tmp 3),none⟩,⟨some 2,.mov (.tmp 58),none⟩] [2] [])
.ret)))))),[.tmp 2],false,false,false⟩
def F283 : AFunc := ⟨1,(.seq
(.region [⟨some 1,.box 1 10 (.tmp 0),none⟩,⟨some 2,.mov (.val (.pv (.bool false))),none⟩] [1] [1])
(.seq
(.region [⟨some 5,.load 10 true (.tmp 1),none⟩,⟨some 3,.alloc 3 [.pv (.int .i64 0),.pv (.str ⟨#[]⟩),.pv (.int .i64 0),.pv (.int .i64 0),.pv (.int .i64 0),.tl [],.tl [],.pv (.int .i64 0),.pv (.int .i64 0),.pv (.bool false)],none⟩,⟨none,.store 10 (.tmp 3) (.tmp 5),none⟩] [1,3] [1,3])
(.seq
(.region [⟨some 6,.fld 0 (.tmp 3),none⟩,⟨none,.store 1 (.tmp 6) (.val (.pv (.int .i64 0))),none⟩] [1,3] [1,3])
(.seq
(.region [⟨some 4,.mov (.val (.pv (.bool true))),none⟩] [1,3,4] [1,3])
(.seq
(.seq
(.region [⟨some 7,.fld 0 (.tmp 1),none⟩,⟨some 8,.load 1 false (.tmp 7),none⟩] [1,3,4,8] [1,3])
(.block 0
(.seq
(.region [⟨some 10,.bin .eql (.tmp 8) (.val (.pv (.int .i64 1))),none⟩,⟨some 9,.mov (.tmp 10),none⟩] [1,3,4,8,9] [1,3])
(.cond (.tmp 9)
.skip
(.seq
(.region [⟨some 12,.bin .eql (.tmp 8) (.val (.pv (.int .i64 2))),none⟩,⟨some 11,.mov (.tmp 12),none⟩] [1,3,4,8,11] [1,3])
(.cond (.tmp 11)
(.seq
(.region [⟨some 13,.fld 2 (.tmp 1),none⟩,⟨some 14,.load 1 false (.tmp 13),none⟩,⟨some 15,.fld 3 (.tmp 1),none⟩,⟨some 16,.load 1 false (.tmp 15),none⟩,⟨some 17,.bin .leq (.tmp 14) (.tmp 16),none⟩,⟨some 4,.mov (.tmp 17),none⟩] [3,4] [3])
(.region [⟨some 18,.fld 2 (.tmp 3),none⟩,⟨none,.store 1 (.tmp 18) (.val (.pv (.int .i64 0))),none⟩,⟨some 19,.fld 3 (.tmp 3),none⟩,⟨none,.store 1 (.tmp 19) (.val (.pv (.int .i64 0))),none⟩] [3,4] [3]))
(.seq
(.region [⟨some 21,.bin .eql (.tmp 8) (.val (.pv (.int .i64 3))),none⟩,⟨some 20,.mov (.tmp 21),none⟩] [1,3,4,8,20] [1,3])
(.cond (.tmp 20)
(.seq
(.region [⟨some 22,.fld 4 (.tmp 1),none⟩,⟨some 23,.load 1 false (.tmp 22),none⟩,⟨some 24,.bin .geq (.tmp 23) (.val (.pv (.int .i64 0))),none⟩,⟨some 25,.mov (.tmp 24),none⟩,⟨some 26,.fld 4 (.tmp 1),some (25,true)⟩,⟨some 27,.load 1 false (.tmp 26),some (25,true)⟩,⟨some 28,.bin .leq (.tmp 27) (.val (.pv (.int .i64 200))),some (25,true)⟩,⟨some 29,.pick (.tmp 25) (.tmp 28) (.val (.pv (.bool false))),none⟩,⟨some 4,.mov (.tmp 29),none⟩] [3,4] [3])
(.region [⟨some 30,.fld 4 (.tmp 3),none⟩,⟨none,.store 1 (.tmp 30) (.val (.pv (.int .i64 0))),none⟩] [3,4] [3]))
(.seq
(.region [⟨some 32,.bin .eql (.tmp 8) (.val (.pv (.int .i64 4))),none⟩,⟨some 31,.mov (.tmp 32),none⟩] [1,3,4,8,31] [1,3])
(.cond (.tmp 31)
(.seq
(.region [⟨some 33,.fld 1 (.tmp 1),none⟩,⟨some 34,.load 1 false (.tmp 33),none⟩,⟨some 35,.call (.val (.func 306 [])) [(.tmp 34)],none⟩,⟨some 36,.mov (.tmp 35),none⟩,⟨some 37,.fld 5 (.tmp 1),some (36,true)⟩,⟨some 38,.load 1 false (.tmp 37),some (36,true)⟩,⟨some 39,.call (.val (.func 307 [])) [(.tmp 38)],some (36,true)⟩,⟨some 40,.pick (.tmp 36) (.tmp 39) (.val (.pv (.bool false))),none⟩,⟨some 4,.mov (.tmp 40),none⟩] [3,4] [3])
(.region [⟨some 41,.fld 1 (.tmp 3),none⟩,⟨none,.store 1 (.tmp 41) (.val (.pv (.str ⟨#[]⟩))),none⟩,⟨some 42,.fld 5 (.tmp 3),none⟩,⟨none,.store 1 (.tmp 42) (.val (.tl [])),none⟩,⟨some 43,.fld 9 (.tmp 3),none⟩,⟨none,.store 1 (.tmp 43) (.val (.pv (.bool false))),none⟩] [3,4] [3]))
(.seq
(.seq
(.region [⟨some 45,.bin .eql (.tmp 8) (.val (.pv (.int .i64 5))),none⟩,⟨some 44,.mov (.tmp 45),none⟩] [1,3,4,8,44] [1,3])
(.cond (.tmp 44)
.skip
(.region [⟨some 46,.bin .eql (.tmp 8) (.val (.pv (.int .i64 6))),none⟩,⟨some 44,.mov (.tmp 46),none⟩] [1,3,4,8,44] [1,3])))
(.cond (.tmp 44)
(.seq
(.region [⟨some 47,.fld 1 (.tmp 1),none⟩,⟨some 48,.load 1 false (.tmp 47),none⟩,⟨some 49,.call (.val (.func 306 [])) [(.tmp 48)],none⟩,⟨some 50,.mov (.tmp 49),none⟩,⟨some 51,.load 10 true (.tmp 1),some (50,true)⟩,⟨some 52,.call (.val (.func 308 [])) [(.tmp 51)],some (50,true)⟩,⟨some 53,.pick (.tmp 50) (.tmp 52) (.val (.pv (.bool false))),none⟩,⟨some 4,.mov (.tmp 53),none⟩] [1,3,4] [1,3])
(.seq
(.region [⟨some 54,.fld 1 (.tmp 3),none⟩,⟨none,.store 1 (.tmp 54) (.val (.pv (.str ⟨#[]⟩))),none⟩,⟨some 55,.fld 6 (.tmp 3),none⟩,⟨none,.store 1 (.tmp 55) (.val (.tl [])),none⟩] [1,3,4] [1,3])
(.region [⟨some 56,.fld 9 (.tmp 1),none⟩,⟨some 57,.load 1 false (.tmp 56),none⟩,⟨some 58,.mov (.tmp 57),none⟩,⟨some 59,.fld 0 (.tmp 1),some (58,true)⟩,⟨some 60,.load 1 false (.tmp 59),some (58,true)⟩,⟨some 61,.bin .eql (.tmp 60) (.val (.pv (.int .i64 5))),some (58,true)⟩,⟨some 62,.pick (.tmp 58) (.tmp 61) (.val (.pv (.bool false))),none⟩,⟨some 63,.fld 9 (.tmp 3),none⟩,⟨none,.store 1 (.tmp 63) (.tmp 62),none⟩] [3,4] [3])))
(.seq
(.seq
(.region [⟨some 65,.bin .eql (.tmp 8) (.val (.pv (.int .i64 7))),none⟩,⟨some 64,.mov (.tmp 65),none⟩] [1,3,4,8,64] [1,3])
(.cond (.tmp 64)
.skip
(.region [⟨some 66,.bin .eql (.tmp 8) (.val (.pv (.int .i64 8))),none⟩,⟨some 64,.mov (.tmp 66),none⟩] [1,3,4,8,64] [1,3])))
(.cond (.tmp 64)
(.seq
(.region [⟨some 67,.fld 4 (.tmp 1),none⟩,⟨some 68,.load 1 false (.tmp 67),none⟩,⟨some 69,.bin .geq (.tmp 68) (.val (.pv (.int .i64 0))),none⟩,⟨some 70,.mov (.tmp 69),none⟩,⟨some 71,.fld 4 (.tmp 1),some (70,true)⟩,⟨some 72,.load 1 false (.tmp 71),some (70,true)⟩,⟨some 73,.bin .leq (.tmp 72) (.val (.pv (.int .i64 50))),some (70,true)⟩,⟨some 74,.pick (.tmp 70) (.tmp 73) (.val (.pv (.bool false))),none⟩,⟨some 4,.mov (.tmp 74),none⟩] [1,3,4] [1,3])
(.seq
(.region [⟨some 75,.fld 4 (.tmp 3),none⟩,⟨none,.store 1 (.tmp 75) (.val (.pv (.int .i64 0))),none⟩,⟨some 76,.fld 8 (.tmp 3),none⟩,⟨none,.store 1 (.tmp 76) (.val (.pv (.int .i64 0))),none⟩] [1,3,4] [1,3])
(.seq
(.region [⟨some 77,.fld 0 (.tmp 1),none⟩,⟨some 78,.load 1 false (.tmp 77),none⟩,⟨some 79,.bin .eql (.tmp 78) (.val (.pv (.int .i64 8))),none⟩] [3,4,79] [3])
(.cond (.tmp 79)
(.region [⟨some 80,.fld 7 (.tmp 3),none⟩,⟨none,.store 1 (.tmp 80) (.val (.pv (.int .i64 0))),none⟩] [3,4] [3])
.skip))))
(.seq
(.region [⟨some 82,.bin .eql (.tmp 8) (.val (.pv (.int .i64 9))),none⟩,⟨some 81,.mov (.tmp 82),none⟩] [3,4,81] [3])
(.cond (.tmp 81)
(.region [⟨some 83,.fld 8 (.tmp 3),none⟩,⟨none,.store 1 (.tmp 83) (.val (.pv (.int .i64 0))),none⟩] [3,4] [3])
(.seq
(.region [⟨some 2,.mov (.val (.pv (.bool false))),none⟩] [2] [])
.ret)))))))))))))))))
(.seq
(.region [⟨some 84,.mov (.tmp 4),none⟩,⟨some 85,.mov (.tmp 84),none⟩,⟨some 86,.load 10 true (.tmp 3),some (85,true)⟩,⟨some 87,.build [.pv (.int .i64 0),.pv (.str ⟨#[]⟩),.pv (.int .i64 0),.pv (.int .i64 0),.pv (.int .i64 0),.tl [],.tl [],.pv (.int .i64 0),.pv (.int .i64 0),.pv (.bool false)] [],some (85,true)⟩,⟨some 88,.call (.val (.func 297 [])) [(.tmp 86),(.tmp 87)],some (85,true)⟩,⟨some 89,.pick (.tmp 85) (.tmp 88) (.val (.pv (.bool false))),none⟩,⟨some 2,.mov (.tmp 89),none⟩] [2] [])
.ret)))))),[.tmp 2],false,false,false⟩
def F284 : AFunc := ⟨1,(.seq
(.region [⟨some 1,.box 1 10 (.tmp 0),none⟩,⟨some 2,.mov (.val (.tl [])),none⟩] [1] [1])
(.seq
(.region [⟨some 3,.mov (.val (.tl [])),none⟩] [1,3] [1])
(.seq
(.seq
(.region [⟨some 6,.fld 6 (.tmp 1),none⟩,⟨some 7,.load 1 false (.tmp 6),none⟩,⟨some 8,.len 0 (.tmp 7),none⟩,⟨some 9,.mov (.val (.pv (.int .i64 0))),none⟩] [1,3,7,8,9] [1])
(.block 0
(.loop
(.mask [1,3,7,8,9] [1]
(.seq
(.region [⟨some 10,.bin .lss (.tmp 9) (.tmp 8),none⟩] [1,3,7,8,9,10] [1])
(.seq
(.cond (.tmp 10)
.skip
(.exit 0))
(.seq
(.block 1
(.seq
(.region [⟨some 11,.idx 13 (.tmp 7) (.tmp 9),none⟩,⟨some 12,.load 13 true (.tmp 11),none⟩,⟨some 5,.alloc 5 [.pv (.int .i64 0),.pv (.str ⟨#[]⟩),.pv (.int .i64 0),.pv (.bool false),.pv (.bool false),.pv (.int .i64 0),.pv (.bool false),.pv (.int .i64 0),.pv (.str ⟨#[]⟩),.pv (.int .i64 0),.tl [],.tl [],.tl []],none⟩,⟨none,.store 13 (.tmp 5) (.tmp 12),none⟩] [1,3,5,7,8,9] [1,5])
(.region [⟨some 13,.mov (.tmp 3),none⟩,⟨some 14,.fld 2 (.tmp 5),none⟩,⟨some 15,.load 1 false (.tmp 14),none⟩,⟨some 16,.lit 1 [.pv (.int .i64 0)] 1 [(0,1,(.tmp 15))],none⟩,⟨some 17,.app 1 (.tmp 13) (.tmp 16),none⟩,⟨some 3,.mov (.tmp 17),none⟩] [1,3,7,8,9] [1])))
(.region [⟨some 18,.bin .add (.tmp 9) (.val (.pv (.int .i64 1))),none⟩,⟨some 9,.mov (.tmp 18),none⟩] [1,3,7,8,9] [1]))))))))
(.seq
(.seq
(.region [⟨some 19,.fld 0 (.tmp 1),none⟩,⟨some 20,.load 1 false (.tmp 19),none⟩,⟨some 21,.bin .eql (.tmp 20) (.val (.pv (.int .i64 8))),none⟩] [1,3,21] [1])
(.cond (.tmp 21)
(.region [⟨some 22,.mov (.tmp 3),none⟩,⟨some 23,.fld 7 (.tmp 1),none⟩,⟨some 24,.load 1 false (.tmp 23),none⟩,⟨some 25,.lit 1 [.pv (.int .i64 0)] 1 [(0,1,(.tmp 24))],none⟩,⟨some 26,.app 1 (.tmp 22) (.tmp 25),none⟩,⟨some 3,.mov (.tmp 26),none⟩] [1,3] [1])
.skip))
(.seq
(.seq
(.region [⟨some 27,.fld 0 (.tmp 1),none⟩,⟨some 28,.load 1 false (.tmp 27),none⟩,⟨some 29,.bin .geq (.tmp 28) (.val (.pv (.int .i64 7))),none⟩] [1,3,29] [1])
(.cond (.tmp 29)
(.region [⟨some 30,.mov (.tmp 3),none⟩,⟨some 31,.fld 8 (.tmp 1),none⟩,⟨some 32,.load 1 false (.tmp 31),none⟩,⟨some 33,.lit 1 [.pv (.int .i64 0)] 1 [(0,1,(.tmp 32))],none⟩,⟨some 34,.app 1 (.tmp 30) (.tmp 33),none⟩,⟨some 3,.mov (.tmp 34),none⟩] [3] [])
.skip))
(.seq
(.region [⟨some 35,.mov (.tmp 3),none⟩,⟨some 2,.mov (.tmp 35),none⟩] [2] [])
.ret)))))),[.tmp 2],false,false,false⟩
def F285 : AFunc := ⟨1,(.seq
(.region [⟨some 1,.box 1 10 (.tmp 0),none⟩,⟨some 2,.mov (.val (.pv (.bool false))),none⟩] [1] [1])
(.seq
(.seq
(.draw [(⟨some 3,.fld 0 (.tmp 1),none⟩,[]),(⟨some 4,.load 1 false (.tmp 3),none⟩,[]),(⟨some 5,.bin .lss (.tmp 4) (.val (.pv (.int .i64 1))),none⟩,[]),(⟨some 6,.mov (.tmp 5),none⟩,[]),(⟨some 7,.fld 0 (.tmp 1),some (6,false)⟩,[]),(⟨some 8,.load 1 false (.tmp 7),some (6,false)⟩,[]),(⟨some 9,.bin .gtr (.tmp 8) (.val (.pv (.int .i64 9))),some (6,false)⟩,[]),(⟨some 10,.pick (.tmp 6) (.val (.pv (.bool true))) (.tmp 9),none⟩,[]),(⟨some 11,.mov (.tmp 10),none⟩,[]),(⟨some 12,.load 10 true (.tmp 1),some (11,false)⟩,[]),(⟨some 13,.load 10 true (.tmp 1),some (11,false)⟩,[]),(⟨some 14,.call (.val (.func 309 [])) [(.tmp 13)],some (11,false)⟩,[9]),(⟨some 15,.call (.val (.func 295 [])) [(.tmp 12),(.tmp 14)],some (11,false)⟩,[]),(⟨some 16,.un .not (.tmp 15),some (11,false)⟩,[]),(⟨some 17,.pick (.tmp 11) (.val (.pv (.bool true))) (.tmp 16),none⟩,[]),(⟨some 18,.mov (.tmp 17),none⟩,[]),(⟨some 19,.fld 0 (.tmp 1),some (18,false)⟩,[]),(⟨some 20,.load 1 false (.tmp 19),some (18,false)⟩,[]),(⟨some 21,.call (.val (.func 286 [])) [(.tmp 20)],some (18,false)⟩,[]),(⟨some 22,.mov (.tmp 21),some (18,false)⟩,[]),(⟨some 23,.fld 1 (.tmp 1),some (22,true)⟩,[]),(⟨some 24,.load 1 false (.tmp 23),some (22,true)⟩,[]),(⟨some 25,.call (.val (.func 310 [])) [(.tmp 24)],some (22,true)⟩,[]),(⟨some 26,.un .not (.tmp 25),some (22,true)⟩,[]),(⟨some 27,.pick (.tmp 22) (.tmp 26) (.val (.pv (.bool false))),some (18,false)⟩,[]),(⟨some 28,.pick (.tmp 18) (.val (.pv (.bool true))) (.tmp 27),none⟩,[])] [1,28] [1])
(.cond (.tmp 28)
(.seq
(.region [⟨some 2,.mov (.val (.pv (.bool false))),none⟩] [2] [])
.ret)
.skip))
(.seq
(.seq
(.region [⟨some 29,.fld 0 (.tmp 1),none⟩,⟨some 30,.load 1 false (.tmp 29),none⟩] [1,30] [1])
(.block 0
(.seq
(.region [⟨some 32,.bin .eql (.tmp 30) (.val (.pv (.int .i64 2))),none⟩,⟨some 31,.mov (.tmp 32),none⟩] [1,30,31] [1])
(.cond (.tmp 31)
(.seq
(.region [⟨some 33,.fld 2 (.tmp 1),none⟩,⟨some 34,.load 1 false (.tmp 33),none⟩,⟨some 35,.fld 3 (.tmp 1),none⟩,⟨some 36,.load 1 false (.tmp 35),none⟩,⟨some 37,.bin .leq (.tmp 34) (.tmp 36),none⟩,⟨some 2,.mov (.tmp 37),none⟩] [2] [])
.ret)
(.seq
(.region [⟨some 39,.bin .eql (.tmp 30) (.val (.pv (.int .i64 3))),none⟩,⟨some 38,.mov (.tmp 39),none⟩] [1,30,38] [1])
(.cond (.tmp 38)
(.seq
(.region [⟨some 40,.fld 4 (.tmp 1),none⟩,⟨some 41,.load 1 false (.tmp 40),none⟩,⟨some 42,.bin .geq (.tmp 41) (.val (.pv (.int .i64 0))),none⟩,⟨some 43,.mov (.tmp 42),none⟩,⟨some 44,.fld 4 (.tmp 1),some (43,true)⟩,⟨some 45,.load 1 false (.tmp 44),some (43,true)⟩,⟨some 46,.bin .leq (.tmp 45) (.val (.pv (.int .i64 200))),some (43,true)⟩,⟨some 47,.pick (.tmp 43) (.tmp 46) (.val (.pv (.bool false))),none⟩,⟨some 2,.mov (.tmp 47),none⟩] [2] [])
.ret)
(.seq
(.region [⟨some 49,.bin .eql (.tmp 30) (.val (.pv (.int .i64 4))),none⟩,⟨some 48,.mov (.tmp 49),none⟩] [1,30,48] [1])
(.cond (.tmp 48)
(.seq
(.region [⟨some 50,.fld 5 (.tmp 1),none⟩,⟨some 51,.load 1 false (.tmp 50),none⟩,⟨some 52,.call (.val (.func 311 [])) [(.tmp 51)],none⟩,⟨some 2,.mov (.tmp 52),none⟩] [2] [])
.ret)
(.seq
(.seq
(.region [⟨some 54,.bin .eql (.tmp 30) (.val (.pv (.int .i64 5))),none⟩,⟨some 53,.mov (.tmp 54),none⟩] [1,30,53] [1])
(.cond (.tmp 53)
.skip
(.region [⟨some 55,.bin .eql (.tmp 30) (.val (.pv (.int .i64 6))),none⟩,⟨some 53,.mov (.tmp 55),none⟩] [1,30,53] [1])))
(.cond (.tmp 53)
(.seq
(.region [⟨some 56,.fld 6 (.tmp 1),none⟩,⟨some 57,.load 1 false (.tmp 56),none⟩,⟨some 58,.fld 0 (.tmp 1),none⟩,⟨some 59,.load 1 false (.tmp 58),none⟩,⟨some 60,.bin .eql (.tmp 59) (.val (.pv (.int .i64 5))),none⟩,⟨some 61,.call (.val (.func 312 [])) [(.tmp 57),(.tmp 60)],none⟩,⟨some 2,.mov (.tmp 61),none⟩] [2] [])
.ret)
(.seq
(.seq
(.region [⟨some 63,.bin .eql (.tmp 30) (.val (.pv (.int .i64 7))),none⟩,⟨some 62,.mov (.tmp 63),none⟩] [1,30,62] [1])
(.cond (.tmp 62)
.skip
(.region [⟨some 64,.bin .eql (.tmp 30) (.val (.pv (.int .i64 8))),none⟩,⟨some 62,.mov (.tmp 64),none⟩] [1,62] [1])))
(.cond (.tmp 62)
(.seq
(.region [⟨some 65,.fld 4 (.tmp 1),none⟩,⟨some 66,.load 1 false (.tmp 65),none⟩,⟨some 67,.bin .geq (.tmp 66) (.val (.pv (.int .i64 0))),none⟩,⟨some 68,.mov (.tmp 67),none⟩,⟨some 69,.fld 4 (.tmp 1),some (68,true)⟩,⟨some 70,.load 1 false (.tmp 69),some (68,true)⟩,⟨some 71,.bin .leq (.tmp 70) (.val (.pv (.int .i64 50))),some (68,true)⟩,⟨some 72,.pick (.tmp 68) (.tmp 71) (.val (.pv (.bool false))),none⟩,⟨some 2,.mov (.tmp 72),none⟩] [2] [])
.ret)
.skip))))))))))))
(.seq
(.region [⟨some 2,.mov (.val (.pv (.bool true))),none⟩] [2] [])
.ret)))),[.tmp 2],false,false,false⟩
def F286 : AFunc := ⟨1,(.seq
(.region [⟨some 2,.mov (.val (.pv (.bool false))),none⟩] [0] [])
(.seq
(.region [⟨some 3,.mov (.tmp 0),none⟩,⟨some 4,.bin .eql (.tmp 3) (.val (.pv (.int .i64 4))),none⟩,⟨some 5,.mov (.tmp 4),none⟩,⟨some 6,.mov (.tmp 0),some (5,false)⟩,⟨some 7,.bin .eql (.tmp 6) (.val (.pv (.int .i64 5))),some (5,false)⟩,⟨some 8,.pick (.tmp 5) (.val (.pv (.bool true))) (.tmp 7),none⟩,⟨some 9,.mov (.tmp 8),none⟩,⟨some 10,.mov (.tmp 0),some (9,false)⟩,⟨some 11,.bin .eql (.tmp 10) (.val (.pv (.int .i64 6))),some (9,false)⟩,⟨some 12,.pick (.tmp 9) (.val (.pv (.bool true))) (.tmp 11),none⟩,⟨some 2,.mov (.tmp 12),none⟩] [2] [])
.ret)),[.tmp 2],false,false,false⟩
def F287 : AFunc := ⟨1,(.seq
(.region [⟨some 1,.box 1 10 (.tmp 0),none⟩,⟨some 2,.mov (.val (.tl [])),none⟩] [1] [1])
(.seq
(.region [⟨some 3,.mov (.val (.tl [])),none⟩] [1,3] [1])
(.seq
(.seq
(.region [⟨some 4,.mov (.val (.pv (.int .i64 0))),none⟩] [1,3,4] [1])
(.block 0
(.loop
(.mask [1,3,4] [1]
(.seq
(.seq
(.region [⟨some 5,.mov (.tmp 4),none⟩,⟨some 6,.fld 6 (.tmp 1),none⟩,⟨some 7,.load 1 false (.tmp 6),none⟩,⟨some 8,.len 0 (.tmp 7),none⟩,⟨some 9,.bin .lss (.tmp 5) (.tmp 8),none⟩] [1,3,4,9] [1])
(.cond (.tmp 9)
.skip
(.exit 0)))
(.seq
(.block 1
(.region [⟨some 12,.mov (.tmp 3),none⟩,⟨some 13,.fld 6 (.tmp 1),none⟩,⟨some 14,.load 1 false (.tmp 13),none⟩,⟨some 15,.mov (.tmp 4),none⟩,⟨some 16,.idx 13 (.tmp 14) (.tmp 15),none⟩,⟨some 17,.fld 2 (.tmp 16),none⟩,⟨some 18,.load 1 false (.tmp 17),none⟩,⟨some 19,.lit 1 [.pv (.int .i64 0)] 1 [(0,1,(.tmp 18))],none⟩,⟨some 20,.app 1 (.tmp 12) (.tmp 19),none⟩,⟨some 3,.mov (.tmp 20),none⟩] [1,3,4] [1]))
(.region [⟨some 10,.mov (.tmp 4),none⟩,⟨some 11,.bin .add (.tmp 10) (.val (.pv (.int .i64 1))),none⟩,⟨some 4,.mov (.tmp 11),none⟩] [1,3,4] [1])))))))
(.seq
(.seq
(.region [⟨some 21,.fld 0 (.tmp 1),none⟩,⟨some 22,.load 1 false (.tmp 21),none⟩,⟨some 23,.bin .eql (.tmp 22) (.val (.pv (.int .i64 8))),none⟩] [1,3,23] [1])
(.cond (.tmp 23)
(.region [⟨some 24,.mov (.tmp 3),none⟩,⟨some 25,.fld 7 (.tmp 1),none⟩,⟨some 26,.load 1 false (.tmp 25),none⟩,⟨some 27,.lit 1 [.pv (.int .i64 0)] 1 [(0,1,(.tmp 26))],none⟩,⟨some 28,.app 1 (.tmp 24) (.tmp 27),none⟩,⟨some 3,.mov (.tmp 28),none⟩] [1,3] [1])
.skip))
(.seq
(.seq
(.region [⟨some 29,.fld 0 (.tmp 1),none⟩,⟨some 30,.load 1 false (.tmp 29),none⟩,⟨some 31,.bin .eql (.tmp 30) (.val (.pv (.int .i64 7))),none⟩,⟨some 32,.mov (.tmp 31),none⟩,⟨some 33,.fld 0 (.tmp 1),some (32,false)⟩,⟨some 34,.load 1 false (.tmp 33),some (32,false)⟩,⟨some 35,.bin .eql (.tmp 34) (.val (.pv (.int .i64 8))),some (32,false)⟩,⟨some 36,.pick (.tmp 32) (.val (.pv (.bool true))) (.tmp 35),none⟩,⟨some 37,.mov (.tmp 36),none⟩,⟨some 38,.fld 0 (.tmp 1),some (37,false)⟩,⟨some 39,.load 1 false (.tmp 38),some (37,false)⟩,⟨some 40,.bin .eql (.tmp 39) (.val (.pv (.int .i64 9))),some (37,false)⟩,⟨some 41,.pick (.tmp 37) (.val (.pv (.bool true))) (.tmp 40),none⟩] [1,3,41] [1])
(.cond (.tmp 41)
(.region [⟨some 42,.mov (.tmp 3),none⟩,⟨some 43,.fld 8 (.tmp 1),none⟩,⟨some 44,.load 1 false (.tmp 43),none⟩,⟨some 45,.lit 1 [.pv (.int .i64 0)] 1 [(0,1,(.tmp 44))],none⟩,⟨some 46,.app 1 (.tmp 42) (.tmp 45),none⟩,⟨some 3,.mov (.tmp 46),none⟩] [3] [])
.skip))
(.seq
(.region [⟨some 47,.mov (.tmp 3),none⟩,⟨some 2,.mov (.tmp 47),none⟩] [2] [])
.ret)))))),[.tmp 2],false,false,false⟩
def F288 : AFunc := ⟨1,(.seq
(.region [⟨some 2,.mov (.val (.pv (.bool false))),none⟩] [0] [])
(.seq
(.region [⟨some 3,.mov (.tmp 0),none⟩,⟨some 4,.bin .geq (.tmp 3) (.val (.pv (.int .i64 1))),none⟩,⟨some 5,.mov (.tmp 4),none⟩,⟨some 6,.mov (.tmp 0),some (5,true)⟩,⟨some 7,.bin .leq (.tmp 6) (.val (.pv (.int .i64 4))),some (5,true)⟩,⟨some 8,.pick (.tmp 5) (.tmp 7) (.val (.pv (.bool false))),none⟩,⟨some 2,.mov (.tmp 8),none⟩] [2] [])
.ret)),[.tmp 2],false,false,false⟩
def F289 : AFunc := ⟨2,(.seq
(.region [⟨some 4,.mov (.val (.pv (.int .i64 0))),none⟩] [0,1] [])
(.seq
(.seq
(.region [⟨some 6,.mov (.tmp 0),none⟩,⟨some 7,.len 0 (.tmp 6),none⟩,⟨some 8,.mov (.val (.pv (.int .i64 0))),none⟩] [0,1,7,8] [])
(.block 0
(.loop
(.mask [0,1,7,8] []
(.seq
(.region [⟨some 9,.bin .lss (.tmp 8) (.tmp 7),none⟩] [0,1,7,8,9] [])
(.seq
(.cond (.tmp 9)
.skip
(.exit 0))
(.seq
(.block 1
(.seq
(.region [⟨some 10,.mov (.tmp 8),none⟩,⟨some 5,.mov (.tmp 10),none⟩] [0,1,5,7,8] [])
(.seq
(.region [⟨some 11,.mov (.tmp 1),none⟩,⟨some 12,.mov (.tmp 0),none⟩,⟨some 13,.mov (.tmp 5),none⟩,⟨some 14,.idx 10 (.tmp 12) (.tmp 13),none⟩,⟨some 15,.load 10 true (.tmp 14),none⟩,⟨some 16,.call (.tmp 11) [(.tmp 15)],none⟩] [0,1,5,7,8,16] [])
(.cond (.tmp 16)
(.seq
(.region [⟨some 17,.mov (.tmp 5),none⟩,⟨some 4,.mov (.tmp 17),none⟩] [4] [])
.ret)
.skip))))
(.region [⟨some 18,.bin .add (.tmp 8) (.val (.pv (.int .i64 1))),none⟩,⟨some 8,.mov (.tmp 18),none⟩] [0,1,7,8] []))))))))
(.seq
(.region [⟨some 4,.mov (.val (.pv (.int .i64 (-1)))),none⟩] [4] [])
.ret))),[.tmp 4],false,false,false⟩
def F290 : AFunc := ⟨2,(.seq
(.region [⟨some 2,.box 2 10 (.tmp 0),none⟩,⟨some 3,.mov (.val (.pv (.bool false))),none⟩] [1,2] [2])
(.seq
(.region [⟨some 4,.fld 1 (.tmp 2),none⟩,⟨some 5,.load 1 false (.tmp 4),none⟩,⟨some 6,.load 1 false (.tmp 1),none⟩,⟨some 7,.bin .eql (.tmp 5) (.tmp 6),none⟩,⟨some 8,.mov (.tmp 7),none⟩,⟨some 9,.fld 0 (.tmp 2),some (8,true)⟩,⟨some 10,.load 1 false (.tmp 9),some (8,true)⟩,⟨some 11,.bin .geq (.tmp 10) (.val (.pv (.int .i64 4))),some (8,true)⟩,⟨some 12,.pick (.tmp 8) (.tmp 11) (.val (.pv (.bool false))),none⟩,⟨some 13,.mov (.tmp 12),none⟩,⟨some 14,.fld 0 (.tmp 2),some (13,true)⟩,⟨some 15,.load 1 false (.tmp 14),some (13,true)⟩,⟨some 16,.bin .leq (.tmp 15) (.val (.pv (.int .i64 6))),some (13,true)⟩,⟨some 17,.pick (.tmp 13) (.tmp 16) (.val (.pv (.bool false))),none⟩,⟨some 3,.mov (.tmp 17),none⟩] [3] [])
.ret)),[.tmp 3],false,false,false⟩
def F291 : AFunc := ⟨2,(.seq
(.region [⟨some 2,.box 2 1 (.tmp 0),none⟩,⟨some 4,.mov (.val (.pv (.int .i64 0))),none⟩] [1,2] [2])
(.seq
(.seq
(.region [⟨some 6,.load 1 true (.tmp 2),none⟩,⟨some 7,.call (.val (.func 267 [])) [(.tmp 6)],none⟩,⟨some 5,.mov (.tmp 7),none⟩] [1,2,5] [2])
(.seq
(.region [⟨some 8,.mov (.tmp 5),none⟩,⟨some 9,.bin .neq (.tmp 8) (.val (.pv (.int .i64 0))),none⟩] [1,2,5,9] [2])
(.cond (.tmp 9)
(.seq
(.region [⟨some 10,.mov (.tmp 5),none⟩,⟨some 4,.mov (.tmp 10),none⟩] [4] [])
.ret)
.skip)))
(.seq
(.seq
(.region [⟨some 11,.mov (.tmp 1),none⟩,⟨some 12,.bin .lss (.tmp 11) (.val (.pv (.int .i64 0))),none⟩,⟨some 13,.mov (.tmp 12),none⟩,⟨some 14,.mov (.tmp 1),some (13,false)⟩,⟨some 15,.fld 0 (.tmp 2),some (13,false)⟩,⟨some 16,.load 1 false (.tmp 15),some (13,false)⟩,⟨some 17,.len 0 (.tmp 16),some (13,false)⟩,⟨some 18,.bin .geq (.tmp 14) (.tmp 17),some (13,false)⟩,⟨some 19,.pick (.tmp 13) (.val (.pv (.bool true))) (.tmp 18),none⟩] [19] [])
(.cond (.tmp 19)
(.seq
(.region [⟨some 4,.mov (.val (.pv (.int .i64 4))),none⟩] [4] [])
.ret)
.skip))
(.seq
(.region [⟨some 4,.mov (.val (.pv (.int .i64 0))),none⟩] [4] [])
.ret)))),[.tmp 4],false,false,false⟩
def F292 : AFunc := ⟨2,(.seq
(.region [⟨some 2,.box 2 1 (.tmp 0),none⟩,⟨some 4,.mov (.val (.pv (.int .i64 0))),none⟩] [1,2] [2])
(.seq
(.seq
(.region [⟨some 6,.load 1 true (.tmp 2),none⟩,⟨some 7,.call (.val (.func 268 [])) [(.tmp 6)],none⟩,⟨some 5,.mov (.tmp 7),none⟩] [1,2,5] [2])
(.seq
(.region [⟨some 8,.mov (.tmp 5),none⟩,⟨some 9,.bin .neq (.tmp 8) (.val (.pv (.int .i64 0))),none⟩] [1,2,5,9] [2])
(.cond (.tmp 9)
(.seq
(.region [⟨some 10,.mov (.tmp 5),none⟩,⟨some 4,.mov (.tmp 10),none⟩] [4] [])
.ret)
.skip)))
(.seq
(.seq
(.region [⟨some 11,.mov (.tmp 1),none⟩,⟨some 12,.bin .lss (.tmp 11) (.val (.pv (.int .i64 0))),none⟩,⟨some 13,.mov (.tmp 12),none⟩,⟨some 14,.mov (.tmp 1),some (13,false)⟩,⟨some 15,.fld 0 (.tmp 2),some (13,false)⟩,⟨some 16,.load 1 false (.tmp 15),some (13,false)⟩,⟨some 17,.len 0 (.tmp 16),some (13,false)⟩,⟨some 18,.bin .geq (.tmp 14) (.tmp 17),some (13,false)⟩,⟨some 19,.pick (.tmp 13) (.val (.pv (.bool true))) (.tmp 18),none⟩] [19] [])
(.cond (.tmp 19)
(.seq
(.region [⟨some 4,.mov (.val (.pv (.int .i64 4))),none⟩] [4] [])
.ret)
.skip))
(.seq
(.region [⟨some 4,.mov (.val (.pv (.int .i64 0))),none⟩] [4] [])
.ret)))),[.tmp 4],false,false,false⟩
def F293 : AFunc := ⟨2,(.seq
(.region [⟨some 4,.mov (.val (.pv (.bool false))),none⟩] [0,1] [])
(.seq
(.seq
(.region [⟨some 5,.mov (.val (.pv (.int .i64 0))),none⟩] [0,1,5] [])
(.block 0
(.loop
(.mask [0,1,5] []
(.seq
(.seq
(.region [⟨some 6,.mov (.tmp 5),none⟩,⟨some 7,.mov (.tmp 0),none⟩,⟨some 8,.len 0 (.tmp 7),none⟩,⟨some 9,.bin .lss (.tmp 6) (.tmp 8),none⟩] [0,1,5,9] [])
(.cond (.tmp 9)
.skip
(.exit 0)))
(.seq
(.block 1
(.seq
(.region [⟨some 12,.mov (.tmp 0),none⟩,⟨some 13,.mov (.tmp 5),none⟩,⟨some 14,.idx 1 (.tmp 12) (.tmp 13),none⟩,⟨some 15,.load 1 false (.tmp 14),none⟩,⟨some 16,.mov (.tmp 1),none⟩,⟨some 17,.bin .eql (.tmp 15) (.tmp 16),none⟩] [0,1,5,17] [])
(.cond (.tmp 17)
(.seq
(.region [⟨some 4,.mov (.val (.pv (.bool true))),none⟩] [4] [])
.ret)
.skip)))
(.region [⟨some 10,.mov (.tmp 5),none⟩,⟨some 11,.bin .add (.tmp 10) (.val (.pv (.int .i64 1))),none⟩,⟨some 5,.mov (.tmp 11),none⟩] [0,1,5] [])))))))
(.seq
(.region [⟨some 4,.mov (.val (.pv (.bool false))),none⟩] [4] [])
.ret))),[.tmp 4],false,false,false⟩
def F294 : AFunc := ⟨1,(.seq
(.region [⟨some 1,.box 1 10 (.tmp 0),none⟩,⟨some 2,.alloc 2 [.pv (.int .i64 0),.pv (.str ⟨#[]⟩),.pv (.int .i64 0),.pv (.int .i64 0),.pv (.int .i64 0),.tl [],.tl [],.pv (.int .i64 0),.pv (.int .i64 0),.pv (.bool false)],none⟩] [1,2] [1,2])
(.seq
(.region [⟨some 4,.fld 5 (.tmp 1),none⟩,⟨some 5,.load 1 false (.tmp 4),none⟩,⟨some 6,.call (.val (.func 313 [])) [(.tmp 5)],none⟩,⟨some 7,.fld 5 (.tmp 1),none⟩,⟨none,.store 1 (.tmp 7) (.tmp 6),none⟩] [1,2] [1,2])
(.seq
(.region [⟨some 8,.fld 6 (.tmp 1),none⟩,⟨some 9,.load 1 false (.tmp 8),none⟩,⟨some 10,.call (.val (.func 314 [])) [(.tmp 9)],none⟩,⟨some 11,.fld 6 (.tmp 1),none⟩,⟨none,.store 1 (.tmp 11) (.tmp 10),none⟩] [1,2] [1,2])
(.seq
(.seq
(.region [⟨some 12,.fld 6 (.tmp 1),none⟩,⟨some 13,.load 1 false (.tmp 12),none⟩,⟨some 14,.len 0 (.tmp 13),none⟩,⟨some 15,.mov (.val (.pv (.int .i64 0))),none⟩] [1,2,14,15] [1,2])
(.block 0
(.loop
(.mask [1,2,14,15] [1,2]
(.seq
(.region [⟨some 16,.bin .lss (.tmp 15) (.tmp 14),none⟩] [1,2,14,15,16] [1,2])
(.seq
(.cond (.tmp 16)
.skip
(.exit 0))
(.seq
(.block 1
(.seq
(.region [⟨some 17,.mov (.tmp 15),none⟩,⟨some 3,.mov (.tmp 17),none⟩] [1,2,3,14,15] [1,2])
(.draw [(⟨some 18,.fld 6 (.tmp 1),none⟩,[]),(⟨some 19,.load 1 false (.tmp 18),none⟩,[]),(⟨some 20,.mov (.tmp 3),none⟩,[]),(⟨some 21,.fld 6 (.tmp 1),none⟩,[]),(⟨some 22,.load 1 false (.tmp 21),none⟩,[]),(⟨some 23,.mov (.tmp 3),none⟩,[]),(⟨some 24,.idx 13 (.tmp 22) (.tmp 23),none⟩,[]),(⟨some 25,.fld 5 (.tmp 24),none⟩,[]),(⟨some 26,.load 8 true (.tmp 25),none⟩,[]),(⟨some 27,.call (.val (.func 315 [])) [(.tmp 26)],none⟩,[1]),(⟨some 28,.idx 13 (.tmp 19) (.tmp 20),none⟩,[]),(⟨some 29,.fld 5 (.tmp 28),none⟩,[]),(⟨none,.store 8 (.tmp 29) (.tmp 27),none⟩,[])] [1,2,14,15] [1,2])))
(.region [⟨some 30,.bin .add (.tmp 15) (.val (.pv (.int .i64 1))),none⟩,⟨some 15,.mov (.tmp 30),none⟩] [1,2,14,15] [1,2]))))))))
(.seq
(.region [⟨some 31,.load 10 true (.tmp 1),none⟩,⟨none,.store 10 (.tmp 2) (.tmp 31),none⟩] [2] [2])
.ret))))),[.cell 2 10 true],true,false,false⟩
def F295 : AFunc := ⟨2,(.seq
(.region [⟨some 2,.box 2 10 (.tmp 0),none⟩,⟨some 3,.box 3 10 (.tmp 1),none⟩,⟨some 4,.mov (.val (.pv (.bool false))),none⟩] [2,3] [2,3])
(.seq
(.seq
(.region [⟨some 7,.fld 0 (.tmp 2),none⟩,⟨some 8,.load 1 false (.tmp 7),none⟩,⟨some 9,.fld 0 (.tmp 3),none⟩,⟨some 10,.load 1 false (.tmp 9),none⟩,⟨some 11,.bin .neq (.tmp 8) (.tmp 10),none⟩,⟨some 12,.mov (.tmp 11),none⟩,⟨some 13,.fld 1 (.tmp 2),some (12,false)⟩,⟨some 14,.load 1 false (.tmp 13),some (12,false)⟩,⟨some 15,.fld 1 (.tmp 3),some (12,false)⟩,⟨some 16,.load 1 false (.tmp 15),some (12,false)⟩,⟨some 17,.bin .neq (.tmp 14) (.tmp 16),some (12,false)⟩,⟨some 18,.pick (.tmp 12) (.val (.pv (.bool true))) (.tmp 17),none⟩,⟨some 19,.mov (.tmp 18),none⟩,⟨some 20,.fld 2 (.tmp 2),some (19,false)⟩,⟨some 21,.load 1 false (.tmp 20),some (19,false)⟩,⟨some 22,.fld 2 (.tmp 3),some (19,false)⟩,⟨some 23,.load 1 false (.tmp 22),some (19,false)⟩,⟨some 24,.bin .neq (.tmp 21) (.tmp 23),some (19,false)⟩,⟨some 25,.pick (.tmp 19) (.val (.pv (.bool true))) (.tmp 24),none⟩,⟨some 26,.mov (.tmp 25),none⟩,⟨some 27,.fld 3 (.tmp 2),some (26,false)⟩,⟨some 28,.load 1 false (.tmp 27),some (26,false)⟩,⟨some 29,.fld 3 (.tmp 3),some (26,false)⟩,⟨some 30,.load 1 false (.tmp 29),some (26,false)⟩,⟨some 31,.bin .neq (.tmp 28) (.tmp 30),some (26,false)⟩,⟨some 32,.pick (.tmp 26) (.val (.pv (.bool true))) (.tmp 31),none⟩,⟨some 33,.mov (.tmp 32),none⟩,⟨some 34,.fld 4 (.tmp 2),some (33,false)⟩,⟨some 35,.load 1 false (.tmp 34),some (33,false)⟩,⟨some 36,.fld 4 (.tmp 3),some (33,false)⟩,⟨some 37,.load 1 false (.tmp 36),some (33,false)⟩,⟨some 38,.bin .neq (.tmp 35) (.tmp 37),some (33,false)⟩,⟨some 39,.pick (.tmp 33) (.val (.pv (.bool true))) (.tmp 38),none⟩,⟨some 40,.mov (.tmp 39),none⟩,⟨some 41,.fld 7 (.tmp 2),some (40,false)⟩,⟨some 42,.load 1 false (.tmp 41),some (40,false)⟩,⟨some 43,.fld 7 (.tmp 3),some (40,false)⟩,⟨some 44,.load 1 false (.tmp 43),some (40,false)⟩,⟨some 45,.bin .neq (.tmp 42) (.tmp 44),some (40,false)⟩,⟨some 46,.pick (.tmp 40) (.val (.pv (.bool true))) (.tmp 45),none⟩,⟨some 47,.mov (.tmp 46),none⟩,⟨some 48,.fld 8 (.tmp 2),some (47,false)⟩,⟨some 49,.load 1 false (.tmp 48),some (47,false)⟩,⟨some 50,.fld 8 (.tmp 3),some (47,false)⟩,⟨some 51,.load 1 false (.tmp 50),some (47,false)⟩,⟨some 52,.bin .neq (.tmp 49) (.tmp 51),some (47,false)⟩,⟨some 53,.pick (.tmp 47) (.val (.pv (.bool true))) (.tmp 52),none⟩,⟨some 54,.mov (.tmp 53),none⟩,⟨some 55,.fld 9 (.tmp 2),some (54,false)⟩,⟨some 56,.load 1 false (.tmp 55),some (54,false)⟩,⟨some 57,.fld 9 (.tmp 3),some (54,false)⟩,⟨some 58,.load 1 false (.tmp 57),some (54,false)⟩,⟨some 59,.eqa false [0] true (.tmp 56) (.tmp 58),some (54,false)⟩,⟨some 60,.pick (.tmp 54) (.val (.pv (.bool true))) (.tmp 59),none⟩,⟨some 61,.mov (.tmp 60),none⟩,⟨some 62,.fld 5 (.tmp 2),some (61,false)⟩,⟨some 63,.load 1 false (.tmp 62),some (61,false)⟩,⟨some 64,.len 0 (.tmp 63),some (61,false)⟩,⟨some 65,.fld 5 (.tmp 3),some (61,false)⟩,⟨some 66,.load 1 false (.tmp 65),some (61,false)⟩,⟨some 67,.len 0 (.tmp 66),some (61,false)⟩,⟨some 68,.bin .neq (.tmp 64) (.tmp 67),some (61,false)⟩,⟨some 69,.pick (.tmp 61) (.val (.pv (.bool true))) (.tmp 68),none⟩,⟨some 70,.mov (.tmp 69),none⟩,⟨some 71,.fld 6 (.tmp 2),some (70,false)⟩,⟨some 72,.load 1 false (.tmp 71),some (70,false)⟩,⟨some 73,.len 0 (.tmp 72),some (70,false)⟩,⟨some 74,.fld 6 (.tmp 3),some (70,false)⟩,⟨some 75,.load 1 false (.tmp 74),some (70,false)⟩,⟨some 76,.len 0 (.tmp 75),some (70,false)⟩,⟨some 77,.bin .neq (.tmp 73) (.tmp 76),some (70,false)⟩,⟨some 78,.pick (.tmp 70) (.val (.pv (.bool true))) (.tmp 77),none⟩] [2,3,78] [2,3])
(.cond (.tmp 78)
(.seq
(.region [⟨some 4,.mov (.val (.pv (.bool false))),none⟩] [4] [])
.ret)
.skip))
(.seq
(.seq
(.region [⟨some 5,.mov (.val (.pv (.int .i64 0))),none⟩] [2,3,5] [2,3])
(.block 0
(.loop
(.mask [2,3,5] [2,3]
(.seq
(.seq
(.region [⟨some 79,.mov (.tmp 5),none⟩,⟨some 80,.fld 5 (.tmp 2),none⟩,⟨some 81,.load 1 false (.tmp 80),none⟩,⟨some 82,.len 0 (.tmp 81),none⟩,⟨some 83,.bin .lss (.tmp 79) (.tmp 82),none⟩] [2,3,5,83] [2,3])
(.cond (.tmp 83)
.skip
(.exit 0)))
(.seq
(.block 1
(.seq
(.draw [(⟨some 86,.fld 5 (.tmp 2),none⟩,[]),(⟨some 87,.load 1 false (.tmp 86),none⟩,[]),(⟨some 88,.mov (.tmp 5),none⟩,[]),(⟨some 89,.idx 2 (.tmp 87) (.tmp 88),none⟩,[]),(⟨some 90,.load 2 true (.tmp 89),none⟩,[]),(⟨some 91,.fld 5 (.tmp 3),none⟩,[]),(⟨some 92,.load 1 false (.tmp 91),none⟩,[]),(⟨some 93,.mov (.tmp 5),none⟩,[]),(⟨some 94,.idx 2 (.tmp 92) (.tmp 93),none⟩,[]),(⟨some 95,.load 2 true (.tmp 94),none⟩,[]),(⟨some 96,.eqa true [1,2] true (.tmp 90) (.tmp 95),none⟩,[])] [2,3,5,96] [2,3])
(.cond (.tmp 96)
(.seq
(.region [⟨some 4,.mov (.val (.pv (.bool false))),none⟩] [4] [])
.ret)
.skip)))
(.region [⟨some 84,.mov (.tmp 5),none⟩,⟨some 85,.bin .add (.tmp 84) (.val (.pv (.int .i64 1))),none⟩,⟨some 5,.mov (.tmp 85),none⟩] [2,3,5] [2,3])))))))
(.seq
(.seq
(.region [⟨some 6,.mov (.val (.pv (.int .i64 0))),none⟩] [2,3,6] [2,3])
(.block 2
(.loop
(.mask [2,3,6] [2,3]
(.seq
(.seq
(.region [⟨some 97,.mov (.tmp 6),none⟩,⟨some 98,.fld 6 (.tmp 2),none⟩,⟨some 99,.load 1 false (.tmp 98),none⟩,⟨some 100,.len 0 (.tmp 99),none⟩,⟨some 101,.bin .lss (.tmp 97) (.tmp 100),none⟩] [2,3,6,101] [2,3])
(.cond (.tmp 101)
.skip
(.exit 2)))
(.seq
(.block 3
(.seq
(.draw [(⟨some 104,.fld 6 (.tmp 2),none⟩,[]),(⟨some 105,.load 1 false (.tmp 104),none⟩,[]),(⟨some 106,.mov (.tmp 6),none⟩,[]),(⟨some 107,.idx 13 (.tmp 105) (.tmp 106),none⟩,[]),(⟨some 108,.load 13 true (.tmp 107),none⟩,[]),(⟨some 109,.fld 6 (.tmp 3),none⟩,[]),(⟨some 110,.load 1 false (.tmp 109),none⟩,[]),(⟨some 111,.mov (.tmp 6),none⟩,[]),(⟨some 112,.idx 13 (.tmp 110) (.tmp 111),none⟩,[]),(⟨some 113,.load 13 true (.tmp 112),none⟩,[]),(⟨some 114,.call (.val (.func 316 [])) [(.tmp 108),(.tmp 113)],none⟩,[]),(⟨some 115,.un .not (.tmp 114),none⟩,[])] [2,3,6,115] [2,3])
(.cond (.tmp 115)
(.seq
(.region [⟨some 4,.mov (.val (.pv (.bool false))),none⟩] [4] [])
.ret)
.skip)))
(.region [⟨some 102,.mov (.tmp 6),none⟩,⟨some 103,.bin .add (.tmp 102) (.val (.pv (.int .i64 1))),none⟩,⟨some 6,.mov (.tmp 103),none⟩] [2,3,6] [2,3])))))))
(.seq
(.region [⟨some 4,.mov (.val (.pv (.bool true))),none⟩] [4] [])
.ret))))),[.tmp 4],false,false,false⟩
def F296 : AFunc := ⟨3,(.seq
(.region [⟨some 6,.mov (.val (.pv (.bool false))),none⟩] [0,1,2] [])
(.seq
(.seq
(.region [⟨some 10,.mov (.tmp 0),none⟩,⟨some 11,.len 0 (.tmp 10),none⟩,⟨some 12,.mov (.tmp 1),none⟩,⟨some 13,.len 0 (.tmp 12),none⟩,⟨some 14,.bin .neq (.tmp 11) (.tmp 13),none⟩] [0,1,2,14] [])
(.cond (.tmp 14)
(.seq
(.region [⟨some 6,.mov (.val (.pv (.bool false))),none⟩] [6] [])
.ret)
.skip))
(.seq
(.seq
(.region [⟨some 15,.mov (.tmp 0),none⟩,⟨some 16,.len 0 (.tmp 15),none⟩,⟨some 17,.mov (.val (.pv (.int .i64 0))),none⟩] [1,2,15,16,17] [])
(.block 0
(.loop
(.mask [1,2,15,16,17] []
(.seq
(.region [⟨some 18,.bin .lss (.tmp 17) (.tmp 16),none⟩] [1,2,15,16,17,18] [])
(.seq
(.cond (.tmp 18)
.skip
(.exit 0))
(.seq
(.block 1
(.seq
(.region [⟨some 19,.mov (.tmp 17),none⟩,⟨some 20,.idx 10 (.tmp 15) (.tmp 17),none⟩,⟨some 21,.load 10 true (.tmp 20),none⟩,⟨some 8,.alloc 8 [.pv (.int .i64 0),.pv (.str ⟨#[]⟩),.pv (.int .i64 0),.pv (.int .i64 0),.pv (.int .i64 0),.tl [],.tl [],.pv (.int .i64 0),.pv (.int .i64 0),.pv (.bool false)],none⟩,⟨some 7,.mov (.tmp 19),none⟩,⟨none,.store 10 (.tmp 8) (.tmp 21),none⟩] [1,2,7,8,15,16,17] [8])
(.seq
(.region [⟨some 22,.mov (.tmp 1),none⟩,⟨some 23,.mov (.tmp 7),none⟩,⟨some 24,.idx 10 (.tmp 22) (.tmp 23),none⟩,⟨some 25,.load 10 true (.tmp 24),none⟩,⟨some 9,.alloc 9 [.pv (.int .i64 0),.pv (.str ⟨#[]⟩),.pv (.int .i64 0),.pv (.int .i64 0),.pv (.int .i64 0),.tl [],.tl [],.pv (.int .i64 0),.pv (.int .i64 0),.pv (.bool false)],none⟩,⟨none,.store 10 (.tmp 9) (.tmp 25),none⟩] [1,2,8,9,15,16,17] [8,9])
(.seq
(.region [⟨some 26,.mov (.tmp 2),none⟩,⟨some 27,.load 10 true (.tmp 8),none⟩,⟨some 28,.load 10 true (.tmp 9),none⟩,⟨some 29,.call (.tmp 26) [(.tmp 27),(.tmp 28)],none⟩,⟨some 30,.un .not (.tmp 29),none⟩] [1,2,15,16,17,30] [])
(.cond (.tmp 30)
(.seq
(.region [⟨some 6,.mov (.val (.pv (.bool false))),none⟩] [6] [])
.ret)
.skip)))))
(.region [⟨some 31,.bin .add (.tmp 17) (.val (.pv (.int .i64 1))),none⟩,⟨some 17,.mov (.tmp 31),none⟩] [1,2,15,16,17] []))))))))
(.seq
(.region [⟨some 6,.mov (.val (.pv (.bool true))),none⟩] [6] [])
.ret)))),[.tmp 6],false,false,false⟩
def F297 : AFunc := ⟨2,(.seq
(.region [⟨some 2,.box 2 10 (.tmp 0),none⟩,⟨some 3,.box 3 10 (.tmp 1),none⟩,⟨some 4,.mov (.val (.pv (.bool false))),none⟩] [2,3] [2,3])
(.seq
(.region [⟨some 5,.fld 0 (.tmp 2),none⟩,⟨some 6,.load 1 false (.tmp 5),none⟩,⟨some 7,.fld 0 (.tmp 3),none⟩,⟨some 8,.load 1 false (.tmp 7),none⟩,⟨some 9,.bin .eql (.tmp 6) (.tmp 8),none⟩,⟨some 10,.mov (.tmp 9),none⟩,⟨some 11,.fld 1 (.tmp 2),some (10,true)⟩,⟨some 12,.load 1 false (.tmp 11),some (10,true)⟩,⟨some 13,.fld 1 (.tmp 3),some (10,true)⟩,⟨some 14,.load 1 false (.tmp 13),some (10,true)⟩,⟨some 15,.bin .eql (.tmp 12) (.tmp 14),some (10,true)⟩,⟨some 16,.pick (.tmp 10) (.tmp 15) (.val (.pv (.bool false))),none⟩,⟨some 17,.mov (.tmp 16),none⟩,⟨some 18,.fld 2 (.tmp 2),some (17,true)⟩,⟨some 19,.load 1 false (.tmp 18),some (17,true)⟩,⟨some 20,.fld 2 (.tmp 3),some (17,true)⟩,⟨some 21,.load 1 false (.tmp 20),some (17,true)⟩,⟨some 22,.bin .eql (.tmp 19) (.tmp 21),some (17,true)⟩,⟨some 23,.pick (.tmp 17) (.tmp 22) (.val (.pv (.bool false))),none⟩,⟨some 24,.mov (.tmp 23),none⟩,⟨some 25,.fld 3 (.tmp 2),some (24,true)⟩,⟨some 26,.load 1 false (.tmp 25),some (24,true)⟩,⟨some 27,.fld 3 (.tmp 3),some (24,true)⟩,⟨some 28,.load 1 false (.tmp 27),some (24,true)⟩,⟨some 29,.bin .eql (.tmp 26) (.tmp 28),some (24,true)⟩,⟨some 30,.pick (.tmp 24) (.tmp 29) (.val (.pv (.bool false))),none⟩,⟨some 31,.mov (.tmp 30),none⟩,⟨some 32,.fld 4 (.tmp 2),some (31,true)⟩,⟨some 33,.load 1 false (.tmp 32),some (31,true)⟩,⟨some 34,.fld 4 (.tmp 3),some (31,true)⟩,⟨some 35,.load 1 false (.tmp 34),some (31,true)⟩,⟨some 36,.bin .eql (.tmp 33) (.tmp 35),some (31,true)⟩,⟨some 37,.pick (.tmp 31) (.tmp 36) (.val (.pv (.bool false))),none⟩,⟨some 38,.mov (.tmp 37),none⟩,⟨some 39,.fld 7 (.tmp 2),some (38,true)⟩,⟨some 40,.load 1 false (.tmp 39),some (38,true)⟩,⟨some 41,.fld 7 (.tmp 3),some (38,true)⟩,⟨some 42,.load 1 false (.tmp 41),some (38,true)⟩,⟨some 43,.bin .eql (.tmp 40) (.tmp 42),some (38,true)⟩,⟨some 44,.pick (.tmp 38) (.tmp 43) (.val (.pv (.bool false))),none⟩,⟨some 45,.mov (.tmp 44),none⟩,⟨some 46,.fld 8 (.tmp 2),some (45,true)⟩,⟨some 47,.load 1 false (.tmp 46),some (45,true)⟩,⟨some 48,.fld 8 (.tmp 3),some (45,true)⟩,⟨some 49,.load 1 false (.tmp 48),some (45,true)⟩,⟨some 50,.bin .eql (.tmp 47) (.tmp 49),some (45,true)⟩,⟨some 51,.pick (.tmp 45) (.tmp 50) (.val (.pv (.bool false))),none⟩,⟨some 52,.mov (.tmp 51),none⟩,⟨some 53,.fld 9 (.tmp 2),some (52,true)⟩,⟨some 54,.load 1 false (.tmp 53),some (52,true)⟩,⟨some 55,.fld 9 (.tmp 3),some (52,true)⟩,⟨some 56,.load 1 false (.tmp 55),some (52,true)⟩,⟨some 57,.eqa false [0] false (.tmp 54) (.tmp 56),some (52,true)⟩,⟨some 58,.pick (.tmp 52) (.tmp 57) (.val (.pv (.bool false))),none⟩,⟨some 59,.mov (.tmp 58),none⟩,⟨some 60,.fld 5 (.tmp 2),some (59,true)⟩,⟨some 61,.load 1 false (.tmp 60),some (59,true)⟩,⟨some 62,.fld 5 (.tmp 3),some (59,true)⟩,⟨some 63,.load 1 false (.tmp 62),some (59,true)⟩,⟨some 64,.call (.val (.func 317 [])) [(.tmp 61),(.tmp 63)],some (59,true)⟩,⟨some 65,.pick (.tmp 59) (.tmp 64) (.val (.pv (.bool false))),none⟩,⟨some 66,.mov (.tmp 65),none⟩,⟨some 67,.fld 6 (.tmp 2),some (66,true)⟩,⟨some 68,.load 1 false (.tmp 67),some (66,true)⟩,⟨some 69,.fld 6 (.tmp 3),some (66,true)⟩,⟨some 70,.load 1 false (.tmp 69),some (66,true)⟩,⟨some 71,.call (.val (.func 318 [])) [(.tmp 68),(.tmp 70),(.val (.func 319 []))],some (66,true)⟩,⟨some 72,.pick (.tmp 66) (.tmp 71) (.val (.pv (.bool false))),none⟩,⟨some 4,.mov (.tmp 72),none⟩] [4] [])
.ret)),[.tmp 4],false,false,false⟩
def F304 : AFunc := ⟨2,(.seq
(.region [⟨some 4,.mov (.val (.pv (.int .i64 0))),none⟩] [0,1] [])
(.seq
(.seq
(.region [⟨some 6,.mov (.tmp 0),none⟩,⟨some 7,.len 0 (.tmp 6),none⟩,⟨some 8,.mov (.val (.pv (.int .i64 0))),none⟩] [0,1,7,8] [])
(.block 0
(.loop
(.mask [0,1,7,8] []
(.seq
(.region [⟨some 9,.bin .lss (.tmp 8) (.tmp 7),none⟩] [0,1,7,8,9] [])
(.seq
(.cond (.tmp 9)
.skip
(.exit 0))
(.seq
(.block 1
(.seq
(.region [⟨some 10,.mov (.tmp 8),none⟩,⟨some 5,.mov (.tmp 10),none⟩] [0,1,5,7,8] [])
(.seq
(.region [⟨some 11,.mov (.tmp 1),none⟩,⟨some 12,.mov (.tmp 0),none⟩,⟨some 13,.mov (.tmp 5),none⟩,⟨some 14,.idx 13 (.tmp 12) (.tmp 13),none⟩,⟨some 15,.load 13 true (.tmp 14),none⟩,⟨some 16,.call (.tmp 11) [(.tmp 15)],none⟩] [0,1,5,7,8,16] [])
(.cond (.tmp 16)
(.seq
(.region [⟨some 17,.mov (.tmp 5),none⟩,⟨some 4,.mov (.tmp 17),none⟩] [4] [])
.ret)
.skip))))
(.region [⟨some 18,.bin .add (.tmp 8) (.val (.pv (.int .i64 1))),none⟩,⟨some 8,.mov (.tmp 18),none⟩] [0,1,7,8] []))))))))
(.seq
(.region [⟨some 4,.mov (.val (.pv (.int .i64 (-1)))),none⟩] [4] [])
.ret))),[.tmp 4],false,false,false⟩
def F305 : AFunc := ⟨2,(.seq
(.region [⟨some 2,.box 2 13 (.tmp 0),none⟩,⟨some 3,.mov (.val (.pv (.bool false))),none⟩] [1,2] [2])
(.seq
(.region [⟨some 4,.fld 0 (.tmp 2),none⟩,⟨some 5,.load 1 false (.tmp 4),none⟩,⟨some 6,.load 1 false (.tmp 1),none⟩,⟨some 7,.bin .eql (.tmp 5) (.tmp 6),none⟩,⟨some 3,.mov (.tmp 7),none⟩] [3] [])
.ret)),[.tmp 3],false,false,false⟩
def F306 : AFunc := ⟨1,(.seq
(.region [⟨some 2,.mov (.val (.pv (.bool false))),none⟩] [0] [])
(.seq
(.seq
(.region [⟨some 4,.mov (.tmp 0),none⟩,⟨some 5,.bin .eql (.tmp 4) (.val (.pv (.str ⟨#[]⟩))),none⟩,⟨some 6,.mov (.tmp 5),none⟩,⟨some 7,.mov (.tmp 0),some (6,false)⟩,⟨some 8,.len 1 (.tmp 7),some (6,false)⟩,⟨some 9,.bin .gtr (.tmp 8) (.val (.pv (.int .i64 24))),some (6,false)⟩,⟨some 10,.pick (.tmp 6) (.val (.pv (.bool true))) (.tmp 9),none⟩,⟨some 11,.mov (.tmp 10),none⟩,⟨some 12,.mov (.tmp 0),some (11,false)⟩,⟨some 13,.ixs (.tmp 12) (.val (.pv (.int .i64 0))),some (11,false)⟩,⟨some 14,.call (.val (.func 323 [])) [(.tmp 13)],some (11,false)⟩,⟨some 15,.un .not (.tmp 14),some (11,false)⟩,⟨some 16,.pick (.tmp 11) (.val (.pv (.bool true))) (.tmp 15),none⟩] [0,16] [])
(.cond (.tmp 16)
(.seq
(.region [⟨some 2,.mov (.val (.pv (.bool false))),none⟩] [2] [])
.ret)
.skip))
(.seq
(.seq
(.region [⟨some 17,.mov (.tmp 0),none⟩,⟨some 18,.len 1 (.tmp 17),none⟩,⟨some 19,.mov (.val (.pv (.int .i64 0))),none⟩] [0,18,19] [])
(.block 0
(.loop
(.mask [0,18,19] []
(.seq
(.region [⟨some 20,.bin .lss (.tmp 19) (.tmp 18),none⟩] [0,18,19,20] [])
(.seq
(.cond (.tmp 20)
.skip
(.exit 0))
(.seq
(.block 1
(.seq
(.region [⟨some 21,.mov (.tmp 19),none⟩,⟨some 3,.mov (.tmp 21),none⟩] [0,3,18,19] [])
(.seq
(.region [⟨some 22,.mov (.tmp 0),none⟩,⟨some 23,.mov (.tmp 3),none⟩,⟨some 24,.ixs (.tmp 22) (.tmp 23),none⟩,⟨some 25,.call (.val (.func 323 [])) [(.tmp 24)],none⟩,⟨some 26,.un .not (.tmp 25),none⟩,⟨some 27,.mov (.tmp 26),none⟩,⟨some 28,.mov (.tmp 0),some (27,true)⟩,⟨some 29,.mov (.tmp 3),some (27,true)⟩,⟨some 30,.ixs (.tmp 28) (.tmp 29),some (27,true)⟩,⟨some 31,.call (.val (.func 324 [])) [(.tmp 30)],some (27,true)⟩,⟨some 32,.un .not (.tmp 31),some (27,true)⟩,⟨some 33,.pick (.tmp 27) (.tmp 32) (.val (.pv (.bool false))),none⟩] [0,18,19,33] [])
(.cond (.tmp 33)
(.seq
(.region [⟨some 2,.mov (.val (.pv (.bool false))),none⟩] [2] [])
.ret)
.skip))))
(.region [⟨some 34,.bin .add (.tmp 19) (.val (.pv (.int .i64 1))),none⟩,⟨some 19,.mov (.tmp 34),none⟩] [0,18,19] []))))))))
(.seq
(.region [⟨some 2,.mov (.val (.pv (.bool true))),none⟩] [2] [])
.ret)))),[.tmp 2],false,false,false⟩
def F307 : AFunc := ⟨1,(.seq
(.region [⟨some 2,.mov (.val (.pv (.bool false))),none⟩] [0] [])
(.seq
(.region [⟨some 3,.mov (.val (.tl [])),none⟩] [0,3] [])
(.seq
(.region [⟨some 4,.mov (.val (.tl [])),none⟩] [0,3,4] [])
(.seq
(.seq
(.region [⟨some 7,.mov (.tmp 0),none⟩,⟨some 8,.len 0 (.tmp 7),none⟩,⟨some 9,.mov (.val (.pv (.int .i64 0))),none⟩] [0,3,4,7,8,9] [])
(.block 0
(.loop
(.mask [0,3,4,7,8,9] []
(.seq
(.region [⟨some 10,.bin .lss (.tmp 9) (.tmp 8),none⟩] [0,3,4,7,8,9,10] [])
(.seq
(.cond (.tmp 10)
.skip
(.exit 0))
(.seq
(.block 1
(.seq
(.region [⟨some 11,.idx 2 (.tmp 7) (.tmp 9),none⟩,⟨some 12,.load 2 true (.tmp 11),none⟩,⟨some 6,.alloc 6 [.pv (.int .i64 0),.pv (.str ⟨#[]⟩)],none⟩,⟨none,.store 2 (.tmp 6) (.tmp 12),none⟩] [0,3,4,6,7,8,9] [6])
(.draw [(⟨some 13,.mov (.tmp 3),none⟩,[]),(⟨some 14,.fld 0 (.tmp 6),none⟩,[]),(⟨some 15,.load 1 false (.tmp 14),none⟩,[]),(⟨some 16,.lit 1 [.pv (.int .i64 0)] 1 [(0,1,(.tmp 15))],none⟩,[]),(⟨some 17,.appb 1 8 (.tmp 13) (.tmp 16),none⟩,[]),(⟨some 18,.mov (.tmp 4),none⟩,[]),(⟨some 19,.fld 1 (.tmp 6),none⟩,[]),(⟨some 20,.load 1 false (.tmp 19),none⟩,[3,4]),(⟨some 21,.lit 1 [.pv (.str ⟨#[]⟩)] 1 [(0,1,(.tmp 20))],none⟩,[2,3,4]),(⟨some 22,.appb 1 16 (.tmp 18) (.tmp 21),none⟩,[]),(⟨some 3,.mov (.tmp 17),none⟩,[]),(⟨some 4,.mov (.tmp 22),none⟩,[])] [0,3,4,7,8,9] [])))
(.region [⟨some 23,.bin .add (.tmp 9) (.val (.pv (.int .i64 1))),none⟩,⟨some 9,.mov (.tmp 23),none⟩] [0,3,4,7,8,9] []))))))))
(.seq
(.region [⟨some 24,.mov (.tmp 0),none⟩,⟨some 25,.len 0 (.tmp 24),none⟩,⟨some 26,.bin .gtr (.tmp 25) (.val (.pv (.int .i64 0))),none⟩,⟨some 27,.mov (.tmp 26),none⟩,⟨some 28,.mov (.tmp 3),some (27,true)⟩,⟨some 29,.mov (.tmp 4),some (27,true)⟩,⟨some 30,.call (.val (.func 325 [])) [(.tmp 28),(.tmp 29)],some (27,true)⟩,⟨some 31,.pick (.tmp 27) (.tmp 30) (.val (.pv (.bool false))),none⟩,⟨some 2,.mov (.tmp 31),none⟩] [2] [])
.ret))))),[.tmp 2],false,false,false⟩
def F308 : AFunc := ⟨1,(.seq
(.region [⟨some 1,.box 1 10 (.tmp 0),none⟩,⟨some 2,.mov (.val (.pv (.bool false))),none⟩] [1] [1])
(.seq
(.region [⟨some 3,.mov (.val (.tl [])),none⟩] [1,3] [1])
(.seq
(.region [⟨some 4,.mov (.val (.tl [])),none⟩] [1,3,4] [1])
(.seq
(.seq
(.region [⟨some 7,.fld 6 (.tmp 1),none⟩,⟨some 8,.load 1 false (.tmp 7),none⟩,⟨some 9,.len 0 (.tmp 8),none⟩,⟨some 10,.mov (.val (.pv (.int .i64 0))),none⟩] [1,3,4,8,9,10] [1])
(.block 0
(.loop
(.mask [1,3,4,8,9,10] [1]
(.seq
(.region [⟨some 11,.bin .lss (.tmp 10) (.tmp 9),none⟩] [1,3,4,8,9,10,11] [1])
(.seq
(.cond (.tmp 11)
.skip
(.exit 0))
(.seq
(.block 1
(.seq
(.region [⟨some 12,.idx 13 (.tmp 8) (.tmp 10),none⟩,⟨some 13,.load 13 true (.tmp 12),none⟩,⟨some 6,.alloc 6 [.pv (.int .i64 0),.pv (.str ⟨#[]⟩),.pv (.int .i64 0),.pv (.bool false),.pv (.bool false),.pv (.int .i64 0),.pv (.bool false),.pv (.int .i64 0),.pv (.str ⟨#[]⟩),.pv (.int .i64 0),.tl [],.tl [],.tl []],none⟩,⟨none,.store 13 (.tmp 6) (.tmp 13),none⟩] [1,3,4,6,8,9,10] [1,6])
(.seq
(.draw [(⟨some 14,.mov (.tmp 3),none⟩,[]),(⟨some 15,.fld 0 (.tmp 6),none⟩,[]),(⟨some 16,.load 1 false (.tmp 15),none⟩,[]),(⟨some 17,.lit 1 [.pv (.int .i64 0)] 1 [(0,1,(.tmp 16))],none⟩,[]),(⟨some 18,.appb 1 8 (.tmp 14) (.tmp 17),none⟩,[]),(⟨some 19,.mov (.tmp 4),none⟩,[]),(⟨some 20,.fld 1 (.tmp 6),none⟩,[]),(⟨some 21,.load 1 false (.tmp 20),none⟩,[3,4]),(⟨some 22,.lit 1 [.pv (.str ⟨#[]⟩)] 1 [(0,1,(.tmp 21))],none⟩,[2,3,4]),(⟨some 23,.appb 1 16 (.tmp 19) (.tmp 22),none⟩,[]),(⟨some 3,.mov (.tmp 18),none⟩,[]),(⟨some 4,.mov (.tmp 23),none⟩,[])] [1,3,4,6,8,9,10] [1,6])
(.seq
(.region [⟨some 24,.fld 0 (.tmp 1),none⟩,⟨some 25,.load 1 false (.tmp 24),none⟩,⟨some 26,.bin .eql (.tmp 25) (.val (.pv (.int .i64 6))),none⟩,⟨some 27,.mov (.tmp 26),none⟩,⟨some 28,.fld 3 (.tmp 6),some (27,true)⟩,⟨some 29,.load 1 false (.tmp 28),some (27,true)⟩,⟨some 30,.mov (.tmp 29),some (27,true)⟩,⟨some 31,.fld 4 (.tmp 6),some (30,false)⟩,⟨some 32,.load 1 false (.tmp 31),some (30,false)⟩,⟨some 33,.pick (.tmp 30) (.val (.pv (.bool true))) (.tmp 32),some (27,true)⟩,⟨some 34,.pick (.tmp 27) (.tmp 33) (.val (.pv (.bool false))),none⟩,⟨some 35,.mov (.tmp 34),none⟩,⟨some 36,.fld 3 (.tmp 6),some (35,false)⟩,⟨some 37,.load 1 false (.tmp 36),some (35,false)⟩,⟨some 38,.mov (.tmp 37),some (35,false)⟩,⟨some 39,.fld 4 (.tmp 6),some (38,true)⟩,⟨some 40,.load 1 false (.tmp 39),some (38,true)⟩,⟨some 41,.pick (.tmp 38) (.tmp 40) (.val (.pv (.bool false))),some (35,false)⟩,⟨some 42,.pick (.tmp 35) (.val (.pv (.bool true))) (.tmp 41),none⟩,⟨some 43,.mov (.tmp 42),none⟩,⟨some 44,.fld 4 (.tmp 6),some (43,false)⟩,⟨some 45,.load 1 false (.tmp 44),some (43,false)⟩,⟨some 46,.un .not (.tmp 45),some (43,false)⟩,⟨some 47,.mov (.tmp 46),some (43,false)⟩,⟨some 48,.fld 5 (.tmp 6),some (47,true)⟩,⟨some 49,.load 8 true (.tmp 48),some (47,true)⟩,⟨some 50,.call (.val (.func 326 [])) [(.tmp 49)],some (47,true)⟩,⟨some 51,.un .not (.tmp 50),some (47,true)⟩,⟨some 52,.pick (.tmp 47) (.tmp 51) (.val (.pv (.bool false))),some (43,false)⟩,⟨some 53,.pick (.tmp 43) (.val (.pv (.bool true))) (.tmp 52),none⟩] [1,3,4,8,9,10,53] [1])
(.cond (.tmp 53)
(.seq
(.region [⟨some 2,.mov (.val (.pv (.bool false))),none⟩] [2] [])
.ret)
.skip)))))
(.region [⟨some 54,.bin .add (.tmp 10) (.val (.pv (.int .i64 1))),none⟩,⟨some 10,.mov (.tmp 54),none⟩] [1,3,4,8,9,10] [1]))))))))
(.seq
(.region [⟨some 55,.fld 0 (.tmp 1),none⟩,⟨some 56,.load 1 false (.tmp 55),none⟩,⟨some 57,.bin .eql (.tmp 56) (.val (.pv (.int .i64 5))),none⟩,⟨some 58,.mov (.tmp 57),none⟩,⟨some 59,.mov (.tmp 3),some (58,false)⟩,⟨some 60,.len 0 (.tmp 59),some (58,false)⟩,⟨some 61,.bin .gtr (.tmp 60) (.val (.pv (.int .i64 0))),some (58,false)⟩,⟨some 62,.pick (.tmp 58) (.val (.pv (.bool true))) (.tmp 61),none⟩,⟨some 63,.mov (.tmp 62),none⟩,⟨some 64,.mov (.tmp 3),some (63,true)⟩,⟨some 65,.mov (.tmp 4),some (63,true)⟩,⟨some 66,.call (.val (.func 325 [])) [(.tmp 64),(.tmp 65)],some (63,true)⟩,⟨some 67,.pick (.tmp 63) (.tmp 66) (.val (.pv (.bool false))),none⟩,⟨some 2,.mov (.tmp 67),none⟩] [2] [])
.ret))))),[.tmp 2],false,false,false⟩
def F309 : AFunc := ⟨1,(.seq
(.region [⟨some 1,.box 1 10 (.tmp 0),none⟩,⟨some 2,.alloc 2 [.pv (.int .i64 0),.pv (.str ⟨#[]⟩),.pv (.int .i64 0),.pv (.int .i64 0),.pv (.int .i64 0),.tl [],.tl [],.pv (.int .i64 0),.pv (.int .i64 0),.pv (.bool false)],none⟩] [1,2] [1,2])
(.seq
(.seq
(.region [⟨some 3,.fld 0 (.tmp 1),none⟩,⟨some 4,.load 1 false (.tmp 3),none⟩] [1,2,4] [1,2])
(.block 0
(.seq
(.region [⟨some 6,.bin .eql (.tmp 4) (.val (.pv (.int .i64 1))),none⟩,⟨some 5,.mov (.tmp 6),none⟩] [1,2,4,5] [1,2])
(.cond (.tmp 5)
(.seq
(.region [⟨some 7,.fld 0 (.tmp 1),none⟩,⟨some 8,.load 1 false (.tmp 7),none⟩,⟨some 9,.build [.pv (.int .i64 0),.pv (.str ⟨#[]⟩),.pv (.int .i64 0),.pv (.int .i64 0),.pv (.int .i64 0),.tl [],.tl [],.pv (.int .i64 0),.pv (.int .i64 0),.pv (.bool false)] [(0,1,(.tmp 8))],none⟩,⟨none,.store 10 (.tmp 2) (.tmp 9),none⟩] [2] [2])
.ret)
(.seq
(.region [⟨some 11,.bin .eql (.tmp 4) (.val (.pv (.int .i64 2))),none⟩,⟨some 10,.mov (.tmp 11),none⟩] [1,2,4,10] [1,2])
(.cond (.tmp 10)
(.seq
(.region [⟨some 12,.fld 0 (.tmp 1),none⟩,⟨some 13,.load 1 false (.tmp 12),none⟩,⟨some 14,.fld 2 (.tmp 1),none⟩,⟨some 15,.load 1 false (.tmp 14),none⟩,⟨some 16,.fld 3 (.tmp 1),none⟩,⟨some 17,.load 1 false (.tmp 16),none⟩,⟨some 18,.build [.pv (.int .i64 0),.pv (.str ⟨#[]⟩),.pv (.int .i64 0),.pv (.int .i64 0),.pv (.int .i64 0),.tl [],.tl [],.pv (.int .i64 0),.pv (.int .i64 0),.pv (.bool false)] [(0,1,(.tmp 13)),(2,1,(.tmp 15)),(3,1,(.tmp 17))],none⟩,⟨none,.store 10 (.tmp 2) (.tmp 18),none⟩] [2] [2])
.ret)
(.seq
(.region [⟨some 20,.bin .eql (.tmp 4) (.val (.pv (.int .i64 3))),none⟩,⟨some 19,.mov (.tmp 20),none⟩] [1,2,4,19] [1,2])
(.cond (.tmp 19)
(.seq
(.region [⟨some 21,.fld 0 (.tmp 1),none⟩,⟨some 22,.load 1 false (.tmp 21),none⟩,⟨some 23,.fld 4 (.tmp 1),none⟩,⟨some 24,.load 1 false (.tmp 23),none⟩,⟨some 25,.build [.pv (.int .i64 0),.pv (.str ⟨#[]⟩),.pv (.int .i64 0),.pv (.int .i64 0),.pv (.int .i64 0),.tl [],.tl [],.pv (.int .i64 0),.pv (.int .i64 0),.pv (.bool false)] [(0,1,(.tmp 22)),(4,1,(.tmp 24))],none⟩,⟨none,.store 10 (.tmp 2) (.tmp 25),none⟩] [2] [2])
.ret)
(.seq
(.region [⟨some 27,.bin .eql (.tmp 4) (.val (.pv (.int .i64 4))),none⟩,⟨some 26,.mov (.tmp 27),none⟩] [1,2,4,26] [1,2])
(.cond (.tmp 26)
(.seq
(.region [⟨some 28,.fld 0 (.tmp 1),none⟩,⟨some 29,.load 1 false (.tmp 28),none⟩,⟨some 30,.fld 1 (.tmp 1),none⟩,⟨some 31,.load 1 false (.tmp 30),none⟩,⟨some 32,.fld 5 (.tmp 1),none⟩,⟨some 33,.load 1 false (.tmp 32),none⟩,⟨some 34,.fld 9 (.tmp 1),none⟩,⟨some 35,.load 1 false (.tmp 34),none⟩,⟨some 36,.build [.pv (.int .i64 0),.pv (.str ⟨#[]⟩),.pv (.int .i64 0),.pv (.int .i64 0),.pv (.int .i64 0),.tl [],.tl [],.pv (.int .i64 0),.pv (.int .i64 0),.pv (.bool false)] [(0,1,(.tmp 29)),(1,1,(.tmp 31)),(5,1,(.tmp 33)),(9,1,(.tmp 35))],none⟩,⟨none,.store 10 (.tmp 2) (.tmp 36),none⟩] [2] [2])
.ret)
(.seq
(.region [⟨some 38,.bin .eql (.tmp 4) (.val (.pv (.int .i64 5))),none⟩,⟨some 37,.mov (.tmp 38),none⟩] [1,2,4,37] [1,2])
(.cond (.tmp 37)
(.seq
(.region [⟨some 39,.fld 0 (.tmp 1),none⟩,⟨some 40,.load 1 false (.tmp 39),none⟩,⟨some 41,.fld 1 (.tmp 1),none⟩,⟨some 42,.load 1 false (.tmp 41),none⟩,⟨some 43,.fld 6 (.tmp 1),none⟩,⟨some 44,.load 1 false (.tmp 43),none⟩,⟨some 45,.build [.pv (.int .i64 0),.pv (.str ⟨#[]⟩),.pv (.int .i64 0),.pv (.int .i64 0),.pv (.int .i64 0),.tl [],.tl [],.pv (.int .i64 0),.pv (.int .i64 0),.pv (.bool false)] [(0,1,(.tmp 40)),(1,1,(.tmp 42)),(6,1,(.tmp 44))],none⟩,⟨none,.store 10 (.tmp 2) (.tmp 45),none⟩] [2] [2])
.ret)
(.seq
(.region [⟨some 47,.bin .eql (.tmp 4) (.val (.pv (.int .i64 6))),none⟩,⟨some 46,.mov (.tmp 47),none⟩] [1,2,4,46] [1,2])
(.cond (.tmp 46)
(.seq
(.region [⟨some 48,.fld 0 (.tmp 1),none⟩,⟨some 49,.load 1 false (.tmp 48),none⟩,⟨some 50,.fld 1 (.tmp 1),none⟩,⟨some 51,.load 1 false (.tmp 50),none⟩,⟨some 52,.fld 6 (.tmp 1),none⟩,⟨some 53,.load 1 false (.tmp 52),none⟩,⟨some 54,.fld 9 (.tmp 1),none⟩,⟨some 55,.load 1 false (.tmp 54),none⟩,⟨some 56,.build [.pv (.int .i64 0),.pv (.str ⟨#[]⟩),.pv (.int .i64 0),.pv (.int .i64 0),.pv (.int .i64 0),.tl [],.tl [],.pv (.int .i64 0),.pv (.int .i64 0),.pv (.bool false)] [(0,1,(.tmp 49)),(1,1,(.tmp 51)),(6,1,(.tmp 53)),(9,1,(.tmp 55))],none⟩,⟨none,.store 10 (.tmp 2) (.tmp 56),none⟩] [2] [2])
.ret)
(.seq
(.region [⟨some 58,.bin .eql (.tmp 4) (.val (.pv (.int .i64 7))),none⟩,⟨some 57,.mov (.tmp 58),none⟩] [1,2,4,57] [1,2])
(.cond (.tmp 57)
(.seq
(.region [⟨some 59,.fld 0 (.tmp 1),none⟩,⟨some 60,.load 1 false (.tmp 59),none⟩,⟨some 61,.fld 4 (.tmp 1),none⟩,⟨some 62,.load 1 false (.tmp 61),none⟩,⟨some 63,.fld 8 (.tmp 1),none⟩,⟨some 64,.load 1 false (.tmp 63),none⟩,⟨some 65,.build [.pv (.int .i64 0),.pv (.str ⟨#[]⟩),.pv (.int .i64 0),.pv (.int .i64 0),.pv (.int .i64 0),.tl [],.tl [],.pv (.int .i64 0),.pv (.int .i64 0),.pv (.bool false)] [(0,1,(.tmp 60)),(4,1,(.tmp 62)),(8,1,(.tmp 64))],none⟩,⟨none,.store 10 (.tmp 2) (.tmp 65),none⟩] [2] [2])
.ret)
(.seq
(.region [⟨some 67,.bin .eql (.tmp 4) (.val (.pv (.int .i64 8))),none⟩,⟨some 66,.mov (.tmp 67),none⟩] [1,2,66] [1,2])
(.cond (.tmp 66)
(.seq
(.region [⟨some 68,.fld 0 (.tmp 1),none⟩,⟨some 69,.load 1 false (.tmp 68),none⟩,⟨some 70,.fld 4 (.tmp 1),none⟩,⟨some 71,.load 1 false (.tmp 70),none⟩,⟨some 72,.fld 7 (.tmp 1),none⟩,⟨some 73,.load 1 false (.tmp 72),none⟩,⟨some 74,.fld 8 (.tmp 1),none⟩,⟨some 75,.load 1 false (.tmp 74),none⟩,⟨some 76,.build [.pv (.int .i64 0),.pv (.str ⟨#[]⟩),.pv (.int .i64 0),.pv (.int .i64 0),.pv (.int .i64 0),.tl [],.tl [],.pv (.int .i64 0),.pv (.int .i64 0),.pv (.bool false)] [(0,1,(.tmp 69)),(4,1,(.tmp 71)),(7,1,(.tmp 73)),(8,1,(.tmp 75))],none⟩,⟨none,.store 10 (.tmp 2) (.tmp 76),none⟩] [2] [2])
.ret)
.skip))))))))))))))))))
(.seq
(.region [⟨some 77,.fld 0 (.tmp 1),none⟩,⟨some 78,.load 1 false (.tmp 77),none⟩,⟨some 79,.fld 8 (.tmp 1),none⟩,⟨some 80,.load 1 false (.tmp 79),none⟩,⟨some 81,.build [.pv (.int .i64 0),.pv (.str ⟨#[]⟩),.pv (.int .i64 0),.pv (.int .i64 0),.pv (.int .i64 0),.tl [],.tl [],.pv (.int .i64 0),.pv (.int .i64 0),.pv (.bool false)] [(0,1,(.tmp 78)),(8,1,(.tmp 80))],none⟩,⟨none,.store 10 (.tmp 2) (.tmp 81),none⟩] [2] [2])
.ret))),[.cell 2 10 true],false,false,false⟩
def F310 : AFunc := ⟨1,(.seq
(.region [⟨some 2,.mov (.val (.pv (.bool false))),none⟩] [0] [])
(.seq
(.seq
(.region [⟨some 4,.mov (.tmp 0),none⟩,⟨some 5,.bin .eql (.tmp 4) (.val (.pv (.str ⟨#[]⟩))),none⟩,⟨some 6,.mov (.tmp 5),none⟩,⟨some 7,.mov (.tmp 0),some (6,false)⟩,⟨some 8,.len 1 (.tmp 7),some (6,false)⟩,⟨some 9,.bin .gtr (.tmp 8) (.val (.pv (.int .i64 24))),some (6,false)⟩,⟨some 10,.pick (.tmp 6) (.val (.pv (.bool true))) (.tmp 9),none⟩,⟨some 11,.mov (.tmp 10),none⟩,⟨some 12,.mov (.tmp 0),some (11,false)⟩,⟨some 13,.ixs (.tmp 12) (.val (.pv (.int .i64 0))),some (11,false)⟩,⟨some 14,.call (.val (.func 327 [])) [(.tmp 13)],some (11,false)⟩,⟨some 15,.un .not (.tmp 14),some (11,false)⟩,⟨some 16,.pick (.tmp 11) (.val (.pv (.bool true))) (.tmp 15),none⟩] [0,16] [])
(.cond (.tmp 16)
(.seq
(.region [⟨some 2,.mov (.val (.pv (.bool false))),none⟩] [2] [])
.ret)
.skip))
(.seq
(.seq
(.region [⟨some 3,.mov (.val (.pv (.int .i64 0))),none⟩] [0,3] [])
(.block 0
(.loop
(.mask [0,3] []
(.seq
(.seq
(.region [⟨some 17,.mov (.tmp 3),none⟩,⟨some 18,.mov (.tmp 0),none⟩,⟨some 19,.len 1 (.tmp 18),none⟩,⟨some 20,.bin .lss (.tmp 17) (.tmp 19),none⟩] [0,3,20] [])
(.cond (.tmp 20)
.skip
(.exit 0)))
(.seq
(.block 1
(.seq
(.region [⟨some 23,.mov (.tmp 0),none⟩,⟨some 24,.mov (.tmp 3),none⟩,⟨some 25,.ixs (.tmp 23) (.tmp 24),none⟩,⟨some 26,.call (.val (.func 327 [])) [(.tmp 25)],none⟩,⟨some 27,.un .not (.tmp 26),none⟩,⟨some 28,.mov (.tmp 27),none⟩,⟨some 29,.mov (.tmp 0),some (28,true)⟩,⟨some 30,.mov (.tmp 3),some (28,true)⟩,⟨some 31,.ixs (.tmp 29) (.tmp 30),some (28,true)⟩,⟨some 32,.call (.val (.func 328 [])) [(.tmp 31)],some (28,true)⟩,⟨some 33,.un .not (.tmp 32),some (28,true)⟩,⟨some 34,.pick (.tmp 28) (.tmp 33) (.val (.pv (.bool false))),none⟩] [0,3,34] [])
(.cond (.tmp 34)
(.seq
(.region [⟨some 2,.mov (.val (.pv (.bool false))),none⟩] [2] [])
.ret)
.skip)))
(.region [⟨some 21,.mov (.tmp 3),none⟩,⟨some 22,.bin .add (.tmp 21) (.val (.pv (.int .i64 1))),none⟩,⟨some 3,.mov (.tmp 22),none⟩] [0,3] [])))))))
(.seq
(.region [⟨some 2,.mov (.val (.pv (.bool true))),none⟩] [2] [])
.ret)))),[.tmp 2],false,false,false⟩
def F311 : AFunc := ⟨1,(.seq
(.region [⟨some 2,.mov (.val (.pv (.bool false))),none⟩] [0] [])
(.seq
(.region [⟨some 3,.mov (.val (.pv (.int .i64 0))),none⟩] [0,3] [])
(.seq
(.seq
(.region [⟨some 4,.mov (.val (.pv (.int .i64 0))),none⟩] [0,3,4] [])
(.block 0
(.loop
(.mask [0,3,4] []
(.seq
(.seq
(.region [⟨some 6,.mov (.tmp 4),none⟩,⟨some 7,.mov (.tmp 0),none⟩,⟨some 8,.len 0 (.tmp 7),none⟩,⟨some 9,.bin .lss (.tmp 6) (.tmp 8),none⟩] [0,3,4,9] [])
(.cond (.tmp 9)
.skip
(.exit 0)))
(.seq
(.block 1
(.seq
(.seq
(.region [⟨some 12,.mov (.tmp 3),none⟩,⟨some 13,.mov (.tmp 0),none⟩,⟨some 14,.mov (.tmp 4),none⟩,⟨some 15,.idx 2 (.tmp 13) (.tmp 14),none⟩,⟨some 16,.fld 0 (.tmp 15),none⟩,⟨some 17,.load 1 false (.tmp 16),none⟩,⟨some 18,.call (.val (.func 329 [])) [(.tmp 12),(.tmp 17)],none⟩,⟨some 19,.un .not (.tmp 18),none⟩,⟨some 20,.mov (.tmp 19),none⟩,⟨some 21,.mov (.tmp 0),some (20,false)⟩,⟨some 22,.mov (.tmp 4),some (20,false)⟩,⟨some 23,.idx 2 (.tmp 21) (.tmp 22),some (20,false)⟩,⟨some 24,.fld 1 (.tmp 23),some (20,false)⟩,⟨some 25,.load 1 false (.tmp 24),some (20,false)⟩,⟨some 26,.call (.val (.func 310 [])) [(.tmp 25)],some (20,false)⟩,⟨some 27,.un .not (.tmp 26),some (20,false)⟩,⟨some 28,.pick (.tmp 20) (.val (.pv (.bool true))) (.tmp 27),none⟩] [0,4,28] [])
(.cond (.tmp 28)
(.seq
(.region [⟨some 2,.mov (.val (.pv (.bool false))),none⟩] [2] [])
.ret)
.skip))
(.seq
(.seq
(.region [⟨some 5,.mov (.val (.pv (.int .i64 0))),none⟩] [0,4,5] [])
(.block 2
(.loop
(.mask [0,4,5] []
(.seq
(.seq
(.region [⟨some 29,.mov (.tmp 5),none⟩,⟨some 30,.mov (.tmp 4),none⟩,⟨some 31,.bin .lss (.tmp 29) (.tmp 30),none⟩] [0,4,5,31] [])
(.cond (.tmp 31)
.skip
(.exit 2)))
(.seq
(.block 3
(.seq
(.draw [(⟨some 34,.mov (.tmp 0),none⟩,[]),(⟨some 35,.mov (.tmp 5),none⟩,[]),(⟨some 36,.idx 2 (.tmp 34) (.tmp 35),none⟩,[]),(⟨some 37,.fld 1 (.tmp 36),none⟩,[]),(⟨some 38,.load 1 false (.tmp 37),none⟩,[]),(⟨some 39,.mov (.tmp 0),none⟩,[]),(⟨some 40,.mov (.tmp 4),none⟩,[]),(⟨some 41,.idx 2 (.tmp 39) (.tmp 40),none⟩,[]),(⟨some 42,.fld 1 (.tmp 41),none⟩,[]),(⟨some 43,.load 1 false (.tmp 42),none⟩,[]),(⟨some 44,.bin .eql (.tmp 38) (.tmp 43),none⟩,[])] [0,4,5,44] [])
(.cond (.tmp 44)
(.seq
(.region [⟨some 2,.mov (.val (.pv (.bool false))),none⟩] [2] [])
.ret)
.skip)))
(.region [⟨some 32,.mov (.tmp 5),none⟩,⟨some 33,.bin .add (.tmp 32) (.val (.pv (.int .i64 1))),none⟩,⟨some 5,.mov (.tmp 33),none⟩] [0,4,5] [])))))))
(.region [⟨some 45,.mov (.tmp 0),none⟩,⟨some 46,.mov (.tmp 4),none⟩,⟨some 47,.idx 2 (.tmp 45) (.tmp 46),none⟩,⟨some 48,.fld 0 (.tmp 47),none⟩,⟨some 49,.load 1 false (.tmp 48),none⟩,⟨some 3,.mov (.tmp 49),none⟩] [0,3,4] []))))
(.region [⟨some 10,.mov (.tmp 4),none⟩,⟨some 11,.bin .add (.tmp 10) (.val (.pv (.int .i64 1))),none⟩,⟨some 4,.mov (.tmp 11),none⟩] [0,3,4] [])))))))
(.seq
(.region [⟨some 50,.mov (.tmp 0),none⟩,⟨some 51,.len 0 (.tmp 50),none⟩,⟨some 52,.bin .geq (.tmp 51) (.val (.pv (.int .i64 1))),none⟩,⟨some 53,.mov (.tmp 52),none⟩,⟨some 54,.mov (.tmp 0),some (53,true)⟩,⟨some 55,.len 0 (.tmp 54),some (53,true)⟩,⟨some 56,.bin .leq (.tmp 55) (.val (.pv (.int .i64 16))),some (53,true)⟩,⟨some 57,.pick (.tmp 53) (.tmp 56) (.val (.pv (.bool false))),none⟩,⟨some 2,.mov (.tmp 57),none⟩] [2] [])
.ret)))),[.tmp 2],false,false,false⟩
def F312 : AFunc := ⟨2,(.seq
(.region [⟨some 4,.mov (.val (.pv (.bool false))),none⟩] [0,1] [])
(.seq
(.region [⟨some 5,.mov (.val (.pv (.int .i64 0))),none⟩] [0,1,5] [])
(.seq
(.seq
(.region [⟨some 6,.mov (.val (.pv (.int .i64 0))),none⟩] [0,1,5,6] [])
(.block 0
(.loop
(.mask [0,1,5,6] []
(.seq
(.seq
(.region [⟨some 9,.mov (.tmp 6),none⟩,⟨some 10,.mov (.tmp 0),none⟩,⟨some 11,.len 0 (.tmp 10),none⟩,⟨some 12,.bin .lss (.tmp 9) (.tmp 11),none⟩] [0,1,5,6,12] [])
(.cond (.tmp 12)
.skip
(.exit 0)))
(.seq
(.block 1
(.seq
(.region [⟨some 15,.mov (.tmp 0),none⟩,⟨some 16,.mov (.tmp 6),none⟩,⟨some 17,.idx 13 (.tmp 15) (.tmp 16),none⟩,⟨some 18,.load 13 true (.tmp 17),none⟩,⟨some 7,.alloc 7 [.pv (.int .i64 0),.pv (.str ⟨#[]⟩),.pv (.int .i64 0),.pv (.bool false),.pv (.bool false),.pv (.int .i64 0),.pv (.bool false),.pv (.int .i64 0),.pv (.str ⟨#[]⟩),.pv (.int .i64 0),.tl [],.tl [],.tl []],none⟩,⟨none,.store 13 (.tmp 7) (.tmp 18),none⟩] [0,1,5,6,7] [7])
(.seq
(.seq
(.region [⟨some 19,.mov (.tmp 5),none⟩,⟨some 20,.fld 0 (.tmp 7),none⟩,⟨some 21,.load 1 false (.tmp 20),none⟩,⟨some 22,.call (.val (.func 329 [])) [(.tmp 19),(.tmp 21)],none⟩,⟨some 23,.un .not (.tmp 22),none⟩,⟨some 24,.mov (.tmp 23),none⟩,⟨some 25,.fld 1 (.tmp 7),some (24,false)⟩,⟨some 26,.load 1 false (.tmp 25),some (24,false)⟩,⟨some 27,.call (.val (.func 310 [])) [(.tmp 26)],some (24,false)⟩,⟨some 28,.un .not (.tmp 27),some (24,false)⟩,⟨some 29,.pick (.tmp 24) (.val (.pv (.bool true))) (.tmp 28),none⟩,⟨some 30,.mov (.tmp 29),none⟩,⟨some 31,.fld 3 (.tmp 7),some (30,false)⟩,⟨some 32,.load 1 false (.tmp 31),some (30,false)⟩,⟨some 33,.mov (.tmp 32),some (30,false)⟩,⟨some 34,.fld 4 (.tmp 7),some (33,true)⟩,⟨some 35,.load 1 false (.tmp 34),some (33,true)⟩,⟨some 36,.pick (.tmp 33) (.tmp 35) (.val (.pv (.bool false))),some (30,false)⟩,⟨some 37,.pick (.tmp 30) (.val (.pv (.bool true))) (.tmp 36),none⟩,⟨some 38,.mov (.tmp 37),none⟩,⟨some 39,.mov (.tmp 1),some (38,false)⟩,⟨some 40,.un .not (.tmp 39),some (38,false)⟩,⟨some 41,.mov (.tmp 40),some (38,false)⟩,⟨some 42,.fld 3 (.tmp 7),some (41,true)⟩,⟨some 43,.load 1 false (.tmp 42),some (41,true)⟩,⟨some 44,.mov (.tmp 43),some (41,true)⟩,⟨some 45,.fld 4 (.tmp 7),some (44,false)⟩,⟨some 46,.load 1 false (.tmp 45),some (44,false)⟩,⟨some 47,.pick (.tmp 44) (.val (.pv (.bool true))) (.tmp 46),some (41,true)⟩,⟨some 48,.pick (.tmp 41) (.tmp 47) (.val (.pv (.bool false))),some (38,false)⟩,⟨some 49,.pick (.tmp 38) (.val (.pv (.bool true))) (.tmp 48),none⟩] [0,1,6,7,49] [7])
(.cond (.tmp 49)
(.seq
(.region [⟨some 4,.mov (.val (.pv (.bool false))),none⟩] [4] [])
.ret)
.skip))
(.seq
(.seq
(.region [⟨some 50,.fld 4 (.tmp 7),none⟩,⟨some 51,.load 1 false (.tmp 50),none⟩,⟨some 52,.un .not (.tmp 51),none⟩,⟨some 53,.mov (.tmp 52),none⟩,⟨some 54,.fld 5 (.tmp 7),some (53,true)⟩,⟨some 55,.load 8 true (.tmp 54),some (53,true)⟩,⟨some 56,.build [.pv (.int .i64 0),.pv (.bool false),.pv (.int .i64 0),.pv (.str ⟨#[]⟩),.pv (.int .i64 0),.tl [],.tl [],.tl []] [],some (53,true)⟩,⟨some 57,.call (.val (.func 330 [])) [(.tmp 55),(.tmp 56)],some (53,true)⟩,⟨some 58,.un .not (.tmp 57),some (53,true)⟩,⟨some 59,.pick (.tmp 53) (.tmp 58) (.val (.pv (.bool false))),none⟩] [0,1,6,7,59] [7])
(.cond (.tmp 59)
(.seq
(.region [⟨some 4,.mov (.val (.pv (.bool false))),none⟩] [4] [])
.ret)
.skip))
(.seq
(.seq
(.region [⟨some 8,.mov (.val (.pv (.int .i64 0))),none⟩] [0,1,6,7,8] [7])
(.block 2
(.loop
(.mask [0,1,6,7,8] [7]
(.seq
(.seq
(.region [⟨some 60,.mov (.tmp 8),none⟩,⟨some 61,.mov (.tmp 6),none⟩,⟨some 62,.bin .lss (.tmp 60) (.tmp 61),none⟩] [0,1,6,7,8,62] [7])
(.cond (.tmp 62)
.skip
(.exit 2)))
(.seq
(.block 3
(.seq
(.draw [(⟨some 65,.mov (.tmp 0),none⟩,[]),(⟨some 66,.mov (.tmp 8),none⟩,[]),(⟨some 67,.idx 13 (.tmp 65) (.tmp 66),none⟩,[]),(⟨some 68,.fld 1 (.tmp 67),none⟩,[]),(⟨some 69,.load 1 false (.tmp 68),none⟩,[]),(⟨some 70,.fld 1 (.tmp 7),none⟩,[]),(⟨some 71,.load 1 false (.tmp 70),none⟩,[]),(⟨some 72,.bin .eql (.tmp 69) (.tmp 71),none⟩,[])] [0,1,6,7,8,72] [7])
(.cond (.tmp 72)
(.seq
(.region [⟨some 4,.mov (.val (.pv (.bool false))),none⟩] [4] [])
.ret)
.skip)))
(.region [⟨some 63,.mov (.tmp 8),none⟩,⟨some 64,.bin .add (.tmp 63) (.val (.pv (.int .i64 1))),none⟩,⟨some 8,.mov (.tmp 64),none⟩] [0,1,6,7,8] [7])))))))
(.region [⟨some 73,.fld 0 (.tmp 7),none⟩,⟨some 74,.load 1 false (.tmp 73),none⟩,⟨some 5,.mov (.tmp 74),none⟩] [0,1,5,6] []))))))
(.region [⟨some 13,.mov (.tmp 6),none⟩,⟨some 14,.bin .add (.tmp 13) (.val (.pv (.int .i64 1))),none⟩,⟨some 6,.mov (.tmp 14),none⟩] [0,1,5,6] [])))))))
(.seq
(.region [⟨some 75,.mov (.tmp 0),none⟩,⟨some 76,.len 0 (.tmp 75),none⟩,⟨some 77,.bin .leq (.tmp 76) (.val (.pv (.int .i64 16))),none⟩,⟨some 78,.mov (.tmp 77),none⟩,⟨some 79,.mov (.tmp 1),some (78,true)⟩,⟨some 80,.mov (.tmp 79),some (78,true)⟩,⟨some 81,.mov (.tmp 0),some (80,false)⟩,⟨some 82,.len 0 (.tmp 81),some (80,false)⟩,⟨some 83,.bin .geq (.tmp 82) (.val (.pv (.int .i64 1))),some (80,false)⟩,⟨some 84,.pick (.tmp 80) (.val (.pv (.bool true))) (.tmp 83),some (78,true)⟩,⟨some 85,.pick (.tmp 78) (.tmp 84) (.val (.pv (.bool false))),none⟩,⟨some 4,.mov (.tmp 85),none⟩] [4] [])
.ret)))),[.tmp 4],false,false,false⟩
def F315 : AFunc := ⟨1,(.seq
(.region [⟨some 1,.box 1 8 (.tmp 0),none⟩,⟨some 2,.alloc 2 [.pv (.int .i64 0),.pv (.bool false),.pv (.int .i64 0),.pv (.str ⟨#[]⟩),.pv (.int .i64 0),.tl [],.tl [],.tl []],none⟩] [1,2] [1,2])
(.seq
(.draw [(⟨some 5,.fld 5 (.tmp 1),none⟩,[]),(⟨some 6,.load 1 false (.tmp 5),none⟩,[]),(⟨some 7,.call (.val (.func 331 [])) [(.tmp 6)],none⟩,[]),(⟨some 8,.fld 6 (.tmp 1),none⟩,[]),(⟨some 9,.load 1 false (.tmp 8),none⟩,[2]),(⟨some 10,.call (.val (.func 331 [])) [(.tmp 9)],none⟩,[]),(⟨some 11,.fld 7 (.tmp 1),none⟩,[]),(⟨some 12,.load 1 false (.tmp 11),none⟩,[2,5]),(⟨some 13,.call (.val (.func 332 [])) [(.tmp 12)],none⟩,[]),(⟨some 14,.fld 5 (.tmp 1),none⟩,[]),(⟨none,.store 1 (.tmp 14) (.tmp 7),none⟩,[]),(⟨some 15,.fld 6 (.tmp 1),none⟩,[]),(⟨none,.store 1 (.tmp 15) (.tmp 10),none⟩,[]),(⟨some 16,.fld 7 (.tmp 1),none⟩,[]),(⟨none,.store 1 (.tmp 16) (.tmp 13),none⟩,[])] [1,2] [1,2])
(.seq
(.seq
(.region [⟨some 17,.fld 5 (.tmp 1),none⟩,⟨some 18,.load 1 false (.tmp 17),none⟩,⟨some 19,.len 0 (.tmp 18),none⟩,⟨some 20,.mov (.val (.pv (.int .i64 0))),none⟩] [1,2,19,20] [1,2])
(.block 0
(.loop
(.mask [1,2,19,20] [1,2]
(.seq
(.region [⟨some 21,.bin .lss (.tmp 20) (.tmp 19),none⟩] [1,2,19,20,21] [1,2])
(.seq
(.cond (.tmp 21)
.skip
(.exit 0))
(.seq
(.block 1
(.seq
(.region [⟨some 22,.mov (.tmp 20),none⟩,⟨some 3,.mov (.tmp 22),none⟩] [1,2,3,19,20] [1,2])
(.draw [(⟨some 23,.fld 5 (.tmp 1),none⟩,[]),(⟨some 24,.load 1 false (.tmp 23),none⟩,[]),(⟨some 25,.mov (.tmp 3),none⟩,[]),(⟨some 26,.fld 5 (.tmp 1),none⟩,[]),(⟨some 27,.load 1 false (.tmp 26),none⟩,[]),(⟨some 28,.mov (.tmp 3),none⟩,[]),(⟨some 29,.idx 8 (.tmp 27) (.tmp 28),none⟩,[]),(⟨some 30,.load 8 true (.tmp 29),none⟩,[]),(⟨some 31,.call (.val (.func 315 [])) [(.tmp 30)],none⟩,[1]),(⟨some 32,.idx 8 (.tmp 24) (.tmp 25),none⟩,[]),(⟨none,.store 8 (.tmp 32) (.tmp 31),none⟩,[])] [1,2,19,20] [1,2])))
(.region [⟨some 33,.bin .add (.tmp 20) (.val (.pv (.int .i64 1))),none⟩,⟨some 20,.mov (.tmp 33),none⟩] [1,2,19,20] [1,2]))))))))
(.seq
(.seq
(.region [⟨some 34,.fld 6 (.tmp 1),none⟩,⟨some 35,.load 1 false (.tmp 34),none⟩,⟨some 36,.len 0 (.tmp 35),none⟩,⟨some 37,.mov (.val (.pv (.int .i64 0))),none⟩] [1,2,36,37] [1,2])
(.block 2
(.loop
(.mask [1,2,36,37] [1,2]
(.seq
(.region [⟨some 38,.bin .lss (.tmp 37) (.tmp 36),none⟩] [1,2,36,37,38] [1,2])
(.seq
(.cond (.tmp 38)
.skip
(.exit 2))
(.seq
(.block 3
(.seq
(.region [⟨some 39,.mov (.tmp 37),none⟩,⟨some 4,.mov (.tmp 39),none⟩] [1,2,4,36,37] [1,2])
(.draw [(⟨some 40,.fld 6 (.tmp 1),none⟩,[]),(⟨some 41,.load 1 false (.tmp 40),none⟩,[]),(⟨some 42,.mov (.tmp 4),none⟩,[]),(⟨some 43,.fld 6 (.tmp 1),none⟩,[]),(⟨some 44,.load 1 false (.tmp 43),none⟩,[]),(⟨some 45,.mov (.tmp 4),none⟩,[]),(⟨some 46,.idx 8 (.tmp 44) (.tmp 45),none⟩,[]),(⟨some 47,.load 8 true (.tmp 46),none⟩,[]),(⟨some 48,.call (.val (.func 315 [])) [(.tmp 47)],none⟩,[1]),(⟨some 49,.idx 8 (.tmp 41) (.tmp 42),none⟩,[]),(⟨none,.store 8 (.tmp 49) (.tmp 48),none⟩,[])] [1,2,36,37] [1,2])))
(.region [⟨some 50,.bin .add (.tmp 37) (.val (.pv (.int .i64 1))),none⟩,⟨some 37,.mov (.tmp 50),none⟩] [1,2,36,37] [1,2]))))))))
(.seq
(.region [⟨some 51,.load 8 true (.tmp 1),none⟩,⟨none,.store 8 (.tmp 2) (.tmp 51),none⟩] [2] [2])
.ret))))),[.cell 2 8 true],false,false,false⟩
def F316 : AFunc := ⟨2,(.seq
(.region [⟨some 2,.box 2 13 (.tmp 0),none⟩,⟨some 3,.box 3 13 (.tmp 1),none⟩,⟨some 4,.mov (.val (.pv (.bool false))),none⟩] [2,3] [2,3])
(.seq
(.region [⟨some 5,.fld 0 (.tmp 2),none⟩,⟨some 6,.load 1 false (.tmp 5),none⟩,⟨some 7,.fld 0 (.tmp 3),none⟩,⟨some 8,.load 1 false (.tmp 7),none⟩,⟨some 9,.bin .eql (.tmp 6) (.tmp 8),none⟩,⟨some 10,.mov (.tmp 9),none⟩,⟨some 11,.fld 1 (.tmp 2),some (10,true)⟩,⟨some 12,.load 1 false (.tmp 11),some (10,true)⟩,⟨some 13,.fld 1 (.tmp 3),some (10,true)⟩,⟨some 14,.load 1 false (.tmp 13),some (10,true)⟩,⟨some 15,.bin .eql (.tmp 12) (.tmp 14),some (10,true)⟩,⟨some 16,.pick (.tmp 10) (.tmp 15) (.val (.pv (.bool false))),none⟩,⟨some 17,.mov (.tmp 16),none⟩,⟨some 18,.fld 2 (.tmp 2),some (17,true)⟩,⟨some 19,.load 1 false (.tmp 18),some (17,true)⟩,⟨some 20,.fld 2 (.tmp 3),some (17,true)⟩,⟨some 21,.load 1 false (.tmp 20),some (17,true)⟩,⟨some 22,.bin .eql (.tmp 19) (.tmp 21),some (17,true)⟩,⟨some 23,.pick (.tmp 17) (.tmp 22) (.val (.pv (.bool false))),none⟩,⟨some 24,.mov (.tmp 23),none⟩,⟨some 25,.fld 3 (.tmp 2),some (24,true)⟩,⟨some 26,.load 1 false (.tmp 25),some (24,true)⟩,⟨some 27,.fld 3 (.tmp 3),some (24,true)⟩,⟨some 28,.load 1 false (.tmp 27),some (24,true)⟩,⟨some 29,.eqa false [0] false (.tmp 26) (.tmp 28),some (24,true)⟩,⟨some 30,.pick (.tmp 24) (.tmp 29) (.val (.pv (.bool false))),none⟩,⟨some 31,.mov (.tmp 30),none⟩,⟨some 32,.fld 4 (.tmp 2),some (31,true)⟩,⟨some 33,.load 1 false (.tmp 32),some (31,true)⟩,⟨some 34,.fld 4 (.tmp 3),some (31,true)⟩,⟨some 35,.load 1 false (.tmp 34),some (31,true)⟩,⟨some 36,.eqa false [0] false (.tmp 33) (.tmp 35),some (31,true)⟩,⟨some 37,.pick (.tmp 31) (.tmp 36) (.val (.pv (.bool false))),none⟩,⟨some 38,.mov (.tmp 37),none⟩,⟨some 39,.fld 5 (.tmp 2),some (38,true)⟩,⟨some 40,.load 8 true (.tmp 39),some (38,true)⟩,⟨some 41,.fld 5 (.tmp 3),some (38,true)⟩,⟨some 42,.load 8 true (.tmp 41),some (38,true)⟩,⟨some 43,.call (.val (.func 330 [])) [(.tmp 40),(.tmp 42)],some (38,true)⟩,⟨some 44,.pick (.tmp 38) (.tmp 43) (.val (.pv (.bool false))),none⟩,⟨some 4,.mov (.tmp 44),none⟩] [4] [])
.ret)),[.tmp 4],false,false,false⟩
def F317 : AFunc := ⟨2,(.seq
(.region [⟨some 4,.mov (.val (.pv (.bool false))),none⟩] [0,1] [])
(.seq
(.seq
(.region [⟨some 6,.mov (.tmp 0),none⟩,⟨some 7,.len 0 (.tmp 6),none⟩,⟨some 8,.mov (.tmp 1),none⟩,⟨some 9,.len 0 (.tmp 8),none⟩,⟨some 10,.bin .neq (.tmp 7) (.tmp 9),none⟩] [0,1,10] [])
(.cond (.tmp 10)
(.seq
(.region [⟨some 4,.mov (.val (.pv (.bool false))),none⟩] [4] [])
.ret)
.skip))
(.seq
(.seq
(.region [⟨some 11,.mov (.tmp 0),none⟩,⟨some 12,.len 0 (.tmp 11),none⟩,⟨some 13,.mov (.val (.pv (.int .i64 0))),none⟩] [0,1,12,13] [])
(.block 0
(.loop
(.mask [0,1,12,13] []
(.seq
(.region [⟨some 14,.bin .lss (.tmp 13) (.tmp 12),none⟩] [0,1,12,13,14] [])
(.seq
(.cond (.tmp 14)
.skip
(.exit 0))
(.seq
(.block 1
(.seq
(.region [⟨some 15,.mov (.tmp 13),none⟩,⟨some 5,.mov (.tmp 15),none⟩] [0,1,5,12,13] [])
(.seq
(.draw [(⟨some 16,.mov (.tmp 0),none⟩,[]),(⟨some 17,.mov (.tmp 5),none⟩,[]),(⟨some 18,.idx 2 (.tmp 16) (.tmp 17),none⟩,[]),(⟨some 19,.load 2 true (.tmp 18),none⟩,[]),(⟨some 20,.mov (.tmp 1),none⟩,[]),(⟨some 21,.mov (.tmp 5),none⟩,[]),(⟨some 22,.idx 2 (.tmp 20) (.tmp 21),none⟩,[]),(⟨some 23,.load 2 true (.tmp 22),none⟩,[]),(⟨some 24,.eqa true [1,2] true (.tmp 19) (.tmp 23),none⟩,[])] [0,1,12,13,24] [])
(.cond (.tmp 24)
(.seq
(.region [⟨some 4,.mov (.val (.pv (.bool false))),none⟩] [4] [])
.ret)
.skip))))
(.region [⟨some 25,.bin .add (.tmp 13) (.val (.pv (.int .i64 1))),none⟩,⟨some 13,.mov (.tmp 25),none⟩] [0,1,12,13] []))))))))
(.seq
(.region [⟨some 4,.mov (.val (.pv (.bool true))),none⟩] [4] [])
.ret)))),[.tmp 4],false,false,false⟩
def F318 : AFunc := ⟨3,(.seq
(.region [⟨some 6,.mov (.val (.pv (.bool false))),none⟩] [0,1,2] [])
(.seq
(.seq
(.region [⟨some 10,.mov (.tmp 0),none⟩,⟨some 11,.len 0 (.tmp 10),none⟩,⟨some 12,.mov (.tmp 1),none⟩,⟨some 13,.len 0 (.tmp 12),none⟩,⟨some 14,.bin .neq (.tmp 11) (.tmp 13),none⟩] [0,1,2,14] [])
(.cond (.tmp 14)
(.seq
(.region [⟨some 6,.mov (.val (.pv (.bool false))),none⟩] [6] [])
.ret)
.skip))
(.seq
(.seq
(.region [⟨some 15,.mov (.tmp 0),none⟩,⟨some 16,.len 0 (.tmp 15),none⟩,⟨some 17,.mov (.val (.pv (.int .i64 0))),none⟩] [1,2,15,16,17] [])
(.block 0
(.loop
(.mask [1,2,15,16,17] []
(.seq
(.region [⟨some 18,.bin .lss (.tmp 17) (.tmp 16),none⟩] [1,2,15,16,17,18] [])
(.seq
(.cond (.tmp 18)
.skip
(.exit 0))
(.seq
(.block 1
(.seq
(.region [⟨some 19,.mov (.tmp 17),none⟩,⟨some 20,.idx 13 (.tmp 15) (.tmp 17),none⟩,⟨some 21,.load 13 true (.tmp 20),none⟩,⟨some 8,.alloc 8 [.pv (.int .i64 0),.pv (.str ⟨#[]⟩),.pv (.int .i64 0),.pv (.bool false),.pv (.bool false),.pv (.int .i64 0),.pv (.bool false),.pv (.int .i64 0),.pv (.str ⟨#[]⟩),.pv (.int .i64 0),.tl [],.tl [],.tl []],none⟩,⟨some 7,.mov (.tmp 19),none⟩,⟨none,.store 13 (.tmp 8) (.tmp 21),none⟩] [1,2,7,8,15,16,17] [8])
(.seq
(.region [⟨some 22,.mov (.tmp 1),none⟩,⟨some 23,.mov (.tmp 7),none⟩,⟨some 24,.idx 13 (.tmp 22) (.tmp 23),none⟩,⟨some 25,.load 13 true (.tmp 24),none⟩,⟨some 9,.alloc 9 [.pv (.int .i64 0),.pv (.str ⟨#[]⟩),.pv (.int .i64 0),.pv (.bool false),.pv (.bool false),.pv (.int .i64 0),.pv (.bool false),.pv (.int .i64 0),.pv (.str ⟨#[]⟩),.pv (.int .i64 0),.tl [],.tl [],.tl []],none⟩,⟨none,.store 13 (.tmp 9) (.tmp 25),none⟩] [1,2,8,9,15,16,17] [8,9])
(.seq
(.region [⟨some 26,.mov (.tmp 2),none⟩,⟨some 27,.load 13 true (.tmp 8),none⟩,⟨some 28,.load 13 true (.tmp 9),none⟩,⟨some 29,.call (.tmp 26) [(.tmp 27),(.tmp 28)],none⟩,⟨some 30,.un .not (.tmp 29),none⟩] [1,2,15,16,17,30] [])
(.cond (.tmp 30)
(.seq
(.region [⟨some 6,.mov (.val (.pv (.bool false))),none⟩] [6] [])
.ret)
.skip)))))
(.region [⟨some 31,.bin .add (.tmp 17) (.val (.pv (.int .i64 1))),none⟩,⟨some 17,.mov (.tmp 31),none⟩] [1,2,15,16,17] []))))))))
(.seq
(.region [⟨some 6,.mov (.val (.pv (.bool true))),none⟩] [6] [])
.ret)))),[.tmp 6],false,false,false⟩
def F319 : AFunc := ⟨2,(.seq
(.region [⟨some 2,.box 2 13 (.tmp 0),none⟩,⟨some 3,.box 3 13 (.tmp 1),none⟩,⟨some 4,.mov (.val (.pv (.bool false))),none⟩] [2,3] [2,3])
(.seq
(.region [⟨some 5,.fld 0 (.tmp 2),none⟩,⟨some 6,.load 1 false (.tmp 5),none⟩,⟨some 7,.fld 0 (.tmp 3),none⟩,⟨some 8,.load 1 false (.tmp 7),none⟩,⟨some 9,.bin .eql (.tmp 6) (.tmp 8),none⟩,⟨some 10,.mov (.tmp 9),none⟩,⟨some 11,.fld 1 (.tmp 2),some (10,true)⟩,⟨some 12,.load 1 false (.tmp 11),some (10,true)⟩,⟨some 13,.fld 1 (.tmp 3),some (10,true)⟩,⟨some 14,.load 1 false (.tmp 13),some (10,true)⟩,⟨some 15,.bin .eql (.tmp 12) (.tmp 14),some (10,true)⟩,⟨some 16,.pick (.tmp 10) (.tmp 15) (.val (.pv (.bool false))),none⟩,⟨some 17,.mov (.tmp 16),none⟩,⟨some 18,.fld 2 (.tmp 2),some (17,true)⟩,⟨some 19,.load 1 false (.tmp 18),some (17,true)⟩,⟨some 20,.fld 2 (.tmp 3),some (17,true)⟩,⟨some 21,.load 1 false (.tmp 20),some (17,true)⟩,⟨some 22,.bin .eql (.tmp 19) (.tmp 21),some (17,true)⟩,⟨some 23,.pick (.tmp 17) (.tmp 22) (.val (.pv (.bool false))),none⟩,⟨some 24,.mov (.tmp 23),none⟩,⟨some 25,.fld 3 (.tmp 2),some (24,true)⟩,⟨some 26,.load 1 false (.tmp 25),some (24,true)⟩,⟨some 27,.fld 3 (.tmp 3),some (24,true)⟩,⟨some 28,.load 1 false (.tmp 27),some (24,true)⟩,⟨some 29,.eqa false [0] false (.tmp 26) (.tmp 28),some (24,true)⟩,⟨some 30,.pick (.tmp 24) (.tmp 29) (.val (.pv (.bool false))),none⟩,⟨some 31,.mov (.tmp 30),none⟩,⟨some 32,.fld 4 (.tmp 2),some (31,true)⟩,⟨some 33,.load 1 false (.tmp 32),some (31,true)⟩,⟨some 34,.fld 4 (.tmp 3),some (31,true)⟩,⟨some 35,.load 1 false (.tmp 34),some (31,true)⟩,⟨some 36,.eqa false [0] false (.tmp 33) (.tmp 35),some (31,true)⟩,⟨some 37,.pick (.tmp 31) (.tmp 36) (.val (.pv (.bool false))),none⟩,⟨some 38,.mov (.tmp 37),none⟩,⟨some 39,.fld 5 (.tmp 2),some (38,true)⟩,⟨some 40,.load 8 true (.tmp 39),some (38,true)⟩,⟨some 41,.fld 5 (.tmp 3),some (38,true)⟩,⟨some 42,.load 8 true (.tmp 41),some (38,true)⟩,⟨some 43,.call (.val (.func 320 [])) [(.tmp 40),(.tmp 42)],some (38,true)⟩,⟨some 44,.pick (.tmp 38) (.tmp 43) (.val (.pv (.bool false))),none⟩,⟨some 4,.mov (.tmp 44),none⟩] [4] [])
.ret)),[.tmp 4],false,false,false⟩
def F320 : AFunc := ⟨2,(.seq
(.region [⟨some 2,.box 2 8 (.tmp 0),none⟩,⟨some 3,.box 3 8 (.tmp 1),none⟩,⟨some 4,.mov (.val (.pv (.bool false))),none⟩] [2,3] [2,3])
(.seq
(.region [⟨some 5,.fld 0 (.tmp 2),none⟩,⟨some 6,.load 1 false (.tmp 5),none⟩,⟨some 7,.fld 0 (.tmp 3),none⟩,⟨some 8,.load 1 false (.tmp 7),none⟩,⟨some 9,.bin .eql (.tmp 6) (.tmp 8),none⟩,⟨some 10,.mov (.tmp 9),none⟩,⟨some 11,.fld 1 (.tmp 2),some (10,true)⟩,⟨some 12,.load 1 false (.tmp 11),some (10,true)⟩,⟨some 13,.fld 1 (.tmp 3),some (10,true)⟩,⟨some 14,.load 1 false (.tmp 13),some (10,true)⟩,⟨some 15,.eqa false [0] false (.tmp 12) (.tmp 14),some (10,true)⟩,⟨some 16,.pick (.tmp 10) (.tmp 15) (.val (.pv (.bool false))),none⟩,⟨some 17,.mov (.tmp 16),none⟩,⟨some 18,.fld 2 (.tmp 2),some (17,true)⟩,⟨some 19,.load 1 false (.tmp 18),some (17,true)⟩,⟨some 20,.fld 2 (.tmp 3),some (17,true)⟩,⟨some 21,.load 1 false (.tmp 20),some (17,true)⟩,⟨some 22,.bin .eql (.tmp 19) (.tmp 21),some (17,true)⟩,⟨some 23,.pick (.tmp 17) (.tmp 22) (.val (.pv (.bool false))),none⟩,⟨some 24,.mov (.tmp 23),none⟩,⟨some 25,.fld 3 (.tmp 2),some (24,true)⟩,⟨some 26,.load 1 false (.tmp 25),some (24,true)⟩,⟨some 27,.fld 3 (.tmp 3),some (24,true)⟩,⟨some 28,.load 1 false (.tmp 27),some (24,true)⟩,⟨some 29,.bin .eql (.tmp 26) (.tmp 28),some (24,true)⟩,⟨some 30,.pick (.tmp 24) (.tmp 29) (.val (.pv (.bool false))),none⟩,⟨some 31,.mov (.tmp 30),none⟩,⟨some 32,.fld 4 (.tmp 2),some (31,true)⟩,⟨some 33,.load 1 false (.tmp 32),some (31,true)⟩,⟨some 34,.fld 4 (.tmp 3),some (31,true)⟩,⟨some 35,.load 1 false (.tmp 34),some (31,true)⟩,⟨some 36,.bin .eql (.tmp 33) (.tmp 35),some (31,true)⟩,⟨some 37,.pick (.tmp 31) (.tmp 36) (.val (.pv (.bool false))),none⟩,⟨some 38,.mov (.tmp 37),none⟩,⟨some 39,.fld 7 (.tmp 2),some (38,true)⟩,⟨some 40,.load 1 false (.tmp 39),some (38,true)⟩,⟨some 41,.fld 7 (.tmp 3),some (38,true)⟩,⟨some 42,.load 1 false (.tmp 41),some (38,true)⟩,⟨some 43,.call (.val (.func 333 [])) [(.tmp 40),(.tmp 42)],some (38,true)⟩,⟨some 44,.pick (.tmp 38) (.tmp 43) (.val (.pv (.bool false))),none⟩,⟨some 45,.mov (.tmp 44),none⟩,⟨some 46,.fld 5 (.tmp 2),some (45,true)⟩,⟨some 47,.load 1 false (.tmp 46),some (45,true)⟩,⟨some 48,.fld 5 (.tmp 3),some (45,true)⟩,⟨some 49,.load 1 false (.tmp 48),some (45,true)⟩,⟨some 50,.call (.val (.func 334 [])) [(.tmp 47),(.tmp 49),(.val (.func 320 []))],some (45,true)⟩,⟨some 51,.pick (.tmp 45) (.tmp 50) (.val (.pv (.bool false))),none⟩,⟨some 52,.mov (.tmp 51),none⟩,⟨some 53,.fld 6 (.tmp 2),some (52,true)⟩,⟨some 54,.load 1 false (.tmp 53),some (52,true)⟩,⟨some 55,.fld 6 (.tmp 3),some (52,true)⟩,⟨some 56,.load 1 false (.tmp 55),some (52,true)⟩,⟨some 57,.call (.val (.func 334 [])) [(.tmp 54),(.tmp 56),(.val (.func 320 []))],some (52,true)⟩,⟨some 58,.pick (.tmp 52) (.tmp 57) (.val (.pv (.bool false))),none⟩,⟨some 4,.mov (.tmp 58),none⟩] [4] [])
.ret)),[.tmp 4],false,false,false⟩
def F323 : AFunc := ⟨1,(.seq
(.region [⟨some 2,.mov (.val (.pv (.bool false))),none⟩] [0] [])
(.seq
(.region [⟨some 3,.mov (.tmp 0),none⟩,⟨some 4,.bin .eql (.tmp 3) (.val (.pv (.int .u8 95))),none⟩,⟨some 5,.mov (.tmp 4),none⟩,⟨some 6,.mov (.tmp 0),some (5,false)⟩,⟨some 7,.bin .geq (.tmp 6) (.val (.pv (.int .u8 97))),some (5,false)⟩,⟨some 8,.mov (.tmp 7),some (5,false)⟩,⟨some 9,.mov (.tmp 0),some (8,true)⟩,⟨some 10,.bin .leq (.tmp 9) (.val (.pv (.int .u8 122))),some (8,true)⟩,⟨some 11,.pick (.tmp 8) (.tmp 10) (.val (.pv (.bool false))),some (5,false)⟩,⟨some 12,.pick (.tmp 5) (.val (.pv (.bool true))) (.tmp 11),none⟩,⟨some 13,.mov (.tmp 12),none⟩,⟨some 14,.mov (.tmp 0),some (13,false)⟩,⟨some 15,.bin .geq (.tmp 14) (.val (.pv (.int .u8 65))),some (13,false)⟩,⟨some 16,.mov (.tmp 15),some (13,false)⟩,⟨some 17,.mov (.tmp 0),some (16,true)⟩,⟨some 18,.bin .leq (.tmp 17) (.val (.pv (.int .u8 90))),some (16,true)⟩,⟨some 19,.pick (.tmp 16) (.tmp 18) (.val (.pv (.bool false))),some (13,false)⟩,⟨some 20,.pick (.tmp 13) (.val (.pv (.bool true))) (.tmp 19),none⟩,⟨some 2,.mov (.tmp 20),none⟩] [2] [])
.ret)),[.tmp 2],false,false,false⟩
def F324 : AFunc := ⟨1,(.seq
(.region [⟨some 2,.mov (.val (.pv (.bool false))),none⟩] [0] [])
(.seq
(.region [⟨some 3,.mov (.tmp 0),none⟩,⟨some 4,.bin .geq (.tmp 3) (.val (.pv (.int .u8 48))),none⟩,⟨some 5,.mov (.tmp 4),none⟩,⟨some 6,.mov (.tmp 0),some (5,true)⟩,⟨some 7,.bin .leq (.tmp 6) (.val (.pv (.int .u8 57))),some (5,true)⟩,⟨some 8,.pick (.tmp 5) (.tmp 7) (.val (.pv (.bool false))),none⟩,⟨some 2,.mov (.tmp 8),none⟩] [2] [])
.ret)),[.tmp 2],false,false,false⟩
def F325 : AFunc := ⟨2,(.seq
(.region [⟨some 4,.mov (.val (.pv (.bool false))),none⟩] [0,1] [])
(.seq
(.region [⟨some 8,.mkmap,none⟩,⟨some 5,.mov (.tmp 8),none⟩] [0,1,5] [])
(.seq
(.seq
(.region [⟨some 9,.mov (.tmp 0),none⟩,⟨some 10,.len 0 (.tmp 9),none⟩,⟨some 11,.mov (.val (.pv (.int .i64 0))),none⟩] [0,1,5,9,10,11] [])
(.block 0
(.loop
(.mask [0,1,5,9,10,11] []
(.seq
(.region [⟨some 12,.bin .lss (.tmp 11) (.tmp 10),none⟩] [0,1,5,9,10,11,12] [])
(.seq
(.cond (.tmp 12)
.skip
(.exit 0))
(.seq
(.block 1
(.seq
(.region [⟨some 13,.mov (.tmp 11),none⟩,⟨some 14,.idx 1 (.tmp 9) (.tmp 11),none⟩,⟨some 15,.load 1 false (.tmp 14),none⟩,⟨some 6,.mov (.tmp 13),none⟩,⟨some 7,.mov (.tmp 15),none⟩] [0,1,5,6,7,9,10,11] [])
(.seq
(.seq
(.region [⟨some 16,.mov (.tmp 7),none⟩,⟨some 17,.bin .lss (.tmp 16) (.val (.pv (.int .i64 1))),none⟩,⟨some 18,.mov (.tmp 17),none⟩,⟨some 19,.mov (.tmp 7),some (18,false)⟩,⟨some 20,.bin .gtr (.tmp 19) (.val (.pv (.int .i64 1000))),some (18,false)⟩,⟨some 21,.pick (.tmp 18) (.val (.pv (.bool true))) (.tmp 20),none⟩,⟨some 22,.mov (.tmp 21),none⟩,⟨some 23,.mov (.tmp 6),some (22,false)⟩,⟨some 24,.bin .gtr (.tmp 23) (.val (.pv (.int .i64 0))),some (22,false)⟩,⟨some 25,.mov (.tmp 24),some (22,false)⟩,⟨some 26,.mov (.tmp 7),some (25,true)⟩,⟨some 27,.mov (.tmp 0),some (25,true)⟩,⟨some 28,.mov (.tmp 6),some (25,true)⟩,⟨some 29,.bin .sub (.tmp 28) (.val (.pv (.int .i64 1))),some (25,true)⟩,⟨some 30,.idx 1 (.tmp 27) (.tmp 29),some (25,true)⟩,⟨some 31,.load 1 false (.tmp 30),some (25,true)⟩,⟨some 32,.bin .leq (.tmp 26) (.tmp 31),some (25,true)⟩,⟨some 33,.pick (.tmp 25) (.tmp 32) (.val (.pv (.bool false))),some (22,false)⟩,⟨some 34,.pick (.tmp 22) (.val (.pv (.bool true))) (.tmp 33),none⟩,⟨some 35,.mov (.tmp 34),none⟩,⟨some 36,.mov (.tmp 5),some (35,false)⟩,⟨some 37,.mov (.tmp 1),some (35,false)⟩,⟨some 38,.mov (.tmp 6),some (35,false)⟩,⟨some 39,.idx 1 (.tmp 37) (.tmp 38),some (35,false)⟩,⟨some 40,.load 1 false (.tmp 39),some (35,false)⟩,⟨some 41,.look false [2] (.pv (.bool false)) (.tmp 36) (.tmp 40) false,some (35,false)⟩,⟨some 42,.pick (.tmp 35) (.val (.pv (.bool true))) (.tmp 41),none⟩,⟨some 43,.mov (.tmp 42),none⟩,⟨some 44,.mov (.tmp 1),some (43,false)⟩,⟨some 45,.mov (.tmp 6),some (43,false)⟩,⟨some 46,.idx 1 (.tmp 44) (.tmp 45),some (43,false)⟩,⟨some 47,.load 1 false (.tmp 46),some (43,false)⟩,⟨some 48,.call (.val (.func 306 [])) [(.tmp 47)],some (43,false)⟩,⟨some 49,.un .not (.tmp 48),some (43,false)⟩,⟨some 50,.pick (.tmp 43) (.val (.pv (.bool true))) (.tmp 49),none⟩] [0,1,5,6,9,10,11,50] [])
(.cond (.tmp 50)
(.seq
(.region [⟨some 4,.mov (.val (.pv (.bool false))),none⟩] [4] [])
.ret)
.skip))
(.region [⟨some 51,.mov (.tmp 5),none⟩,⟨some 52,.mov (.tmp 1),none⟩,⟨some 53,.mov (.tmp 6),none⟩,⟨some 54,.idx 1 (.tmp 52) (.tmp 53),none⟩,⟨some 55,.load 1 false (.tmp 54),none⟩,⟨none,.upd false [2] (.tmp 51) (.tmp 55) (.val (.pv (.bool true))),none⟩] [0,1,5,9,10,11] []))))
(.region [⟨some 56,.bin .add (.tmp 11) (.val (.pv (.int .i64 1))),none⟩,⟨some 11,.mov (.tmp 56),none⟩] [0,1,5,9,10,11] []))))))))
(.seq
(.region [⟨some 57,.mov (.tmp 0),none⟩,⟨some 58,.len 0 (.tmp 57),none⟩,⟨some 59,.bin .leq (.tmp 58) (.val (.pv (.int .i64 16))),none⟩,⟨some 4,.mov (.tmp 59),none⟩] [4] [])
.ret)))),[.tmp 4],false,false,false⟩
def F326 : AFunc := ⟨1,(.seq
(.region [⟨some 1,.box 1 8 (.tmp 0),none⟩,⟨some 2,.mov (.val (.pv (.bool false))),none⟩] [1] [1])
(.seq
(.region [⟨some 3,.load 8 true (.tmp 1),none⟩,⟨some 4,.build [.pv (.int .i64 0),.pv (.bool false),.pv (.int .i64 0),.pv (.str ⟨#[]⟩),.pv (.int .i64 0),.tl [],.tl [],.tl []] [],none⟩,⟨some 5,.call (.val (.func 320 [])) [(.tmp 3),(.tmp 4)],none⟩,⟨some 2,.mov (.tmp 5),none⟩] [2] [])
.ret)),[.tmp 2],false,false,false⟩
def F327 : AFunc := ⟨1,(.seq
(.region [⟨some 2,.mov (.val (.pv (.bool false))),none⟩] [0] [])
(.seq
(.region [⟨some 3,.mov (.tmp 0),none⟩,⟨some 4,.bin .geq (.tmp 3) (.val (.pv (.int .u8 97))),none⟩,⟨some 5,.mov (.tmp 4),none⟩,⟨some 6,.mov (.tmp 0),some (5,true)⟩,⟨some 7,.bin .leq (.tmp 6) (.val (.pv (.int .u8 122))),some (5,true)⟩,⟨some 8,.pick (.tmp 5) (.tmp 7) (.val (.pv (.bool false))),none⟩,⟨some 9,.mov (.tmp 8),none⟩,⟨some 10,.mov (.tmp 0),some (9,false)⟩,⟨some 11,.bin .geq (.tmp 10) (.val (.pv (.int .u8 65))),some (9,false)⟩,⟨some 12,.mov (.tmp 11),some (9,false)⟩,⟨some 13,.mov (.tmp 0),some (12,true)⟩,⟨some 14,.bin .leq (.tmp 13) (.val (.pv (.int .u8 90))),some (12,true)⟩,⟨some 15,.pick (.tmp 12) (.tmp 14) (.val (.pv (.bool false))),some (9,false)⟩,⟨some 16,.pick (.tmp 9) (.val (.pv (.bool true))) (.tmp 15),none⟩,⟨some 17,.mov (.tmp 16),none⟩,⟨some 18,.mov (.tmp 0),some (17,false)⟩,⟨some 19,.bin .eql (.tmp 18) (.val (.pv (.int .u8 95))),some (17,false)⟩,⟨some 20,.pick (.tmp 17) (.val (.pv (.bool true))) (.tmp 19),none⟩,⟨some 2,.mov (.tmp 20),none⟩] [2] [])
.ret)),[.tmp 2],false,false,false⟩
def F328 : AFunc := ⟨1,(.seq
(.region [⟨some 2,.mov (.val (.pv (.bool false))),none⟩] [0] [])
(.seq
(.region [⟨some 3,.mov (.tmp 0),none⟩,⟨some 4,.bin .geq (.tmp 3) (.val (.pv (.int .u8 48))),none⟩,⟨some 5,.mov (.tmp 4),none⟩,⟨some 6,.mov (.tmp 0),some (5,true)⟩,⟨some 7,.bin .leq (.tmp 6) (.val (.pv (.int .u8 57))),some (5,true)⟩,⟨some 8,.pick (.tmp 5) (.tmp 7) (.val (.pv (.bool false))),none⟩,⟨some 2,.mov (.tmp 8),none⟩] [2] [])
.ret)),[.tmp 2],false,false,false⟩
def F329 : AFunc := ⟨2,(.seq
(.region [⟨some 4,.mov (.val (.pv (.bool false))),none⟩] [0,1] [])
(.seq
(.region [⟨some 5,.mov (.tmp 1),none⟩,⟨some 6,.mov (.tmp 0),none⟩,⟨some 7,.bin .gtr (.tmp 5) (.tmp 6),none⟩,⟨some 8,.mov (.tmp 7),none⟩,⟨some 9,.mov (.tmp 1),some (8,true)⟩,⟨some 10,.bin .geq (.tmp 9) (.val (.pv (.int .i64 1))),some (8,true)⟩,⟨some 11,.pick (.tmp 8) (.tmp 10) (.val (.pv (.bool false))),none⟩,⟨some 12,.mov (.tmp 11),none⟩,⟨some 13,.mov (.tmp 1),some (12,true)⟩,⟨some 14,.bin .leq (.tmp 13) (.val (.pv (.int .i64 1000))),some (12,true)⟩,⟨some 15,.pick (.tmp 12) (.tmp 14) (.val (.pv (.bool false))),none⟩,⟨some 4,.mov (.tmp 15),none⟩] [4] [])
.ret)),[.tmp 4],false,false,false⟩
def F330 : AFunc := ⟨2,(.seq
(.region [⟨some 2,.box 2 8 (.tmp 0),none⟩,⟨some 3,.box 3 8 (.tmp 1),none⟩,⟨some 4,.mov (.val (.pv (.bool false))),none⟩] [2,3] [2,3])
(.seq
(.seq
(.region [⟨some 6,.fld 0 (.tmp 2),none⟩,⟨some 7,.load 1 false (.tmp 6),none⟩,⟨some 8,.fld 0 (.tmp 3),none⟩,⟨some 9,.load 1 false (.tmp 8),none⟩,⟨some 10,.bin .neq (.tmp 7) (.tmp 9),none⟩,⟨some 11,.mov (.tmp 10),none⟩,⟨some 12,.fld 1 (.tmp 2),some (11,false)⟩,⟨some 13,.load 1 false (.tmp 12),some (11,false)⟩,⟨some 14,.fld 1 (.tmp 3),some (11,false)⟩,⟨some 15,.load 1 false (.tmp 14),some (11,false)⟩,⟨some 16,.eqa false [0] true (.tmp 13) (.tmp 15),some (11,false)⟩,⟨some 17,.pick (.tmp 11) (.val (.pv (.bool true))) (.tmp 16),none⟩,⟨some 18,.mov (.tmp 17),none⟩,⟨some 19,.fld 2 (.tmp 2),some (18,false)⟩,⟨some 20,.load 1 false (.tmp 19),some (18,false)⟩,⟨some 21,.fld 2 (.tmp 3),some (18,false)⟩,⟨some 22,.load 1 false (.tmp 21),some (18,false)⟩,⟨some 23,.bin .neq (.tmp 20) (.tmp 22),some (18,false)⟩,⟨some 24,.pick (.tmp 18) (.val (.pv (.bool true))) (.tmp 23),none⟩,⟨some 25,.mov (.tmp 24),none⟩,⟨some 26,.fld 3 (.tmp 2),some (25,false)⟩,⟨some 27,.load 1 false (.tmp 26),some (25,false)⟩,⟨some 28,.fld 3 (.tmp 3),some (25,false)⟩,⟨some 29,.load 1 false (.tmp 28),some (25,false)⟩,⟨some 30,.bin .neq (.tmp 27) (.tmp 29),some (25,false)⟩,⟨some 31,.pick (.tmp 25) (.val (.pv (.bool true))) (.tmp 30),none⟩,⟨some 32,.mov (.tmp 31),none⟩,⟨some 33,.fld 4 (.tmp 2),some (32,false)⟩,⟨some 34,.load 1 false (.tmp 33),some (32,false)⟩,⟨some 35,.fld 4 (.tmp 3),some (32,false)⟩,⟨some 36,.load 1 false (.tmp 35),some (32,false)⟩,⟨some 37,.bin .neq (.tmp 34) (.tmp 36),some (32,false)⟩,⟨some 38,.pick (.tmp 32) (.val (.pv (.bool true))) (.tmp 37),none⟩,⟨some 39,.mov (.tmp 38),none⟩,⟨some 40,.fld 7 (.tmp 2),some (39,false)⟩,⟨some 41,.load 1 false (.tmp 40),some (39,false)⟩,⟨some 42,.len 0 (.tmp 41),some (39,false)⟩,⟨some 43,.fld 7 (.tmp 3),some (39,false)⟩,⟨some 44,.load 1 false (.tmp 43),some (39,false)⟩,⟨some 45,.len 0 (.tmp 44),some (39,false)⟩,⟨some 46,.bin .neq (.tmp 42) (.tmp 45),some (39,false)⟩,⟨some 47,.pick (.tmp 39) (.val (.pv (.bool true))) (.tmp 46),none⟩] [2,3,47] [2,3])
(.cond (.tmp 47)
(.seq
(.region [⟨some 4,.mov (.val (.pv (.bool false))),none⟩] [4] [])
.ret)
.skip))
(.seq
(.seq
(.region [⟨some 5,.mov (.val (.pv (.int .i64 0))),none⟩] [2,3,5] [2,3])
(.block 0
(.loop
(.mask [2,3,5] [2,3]
(.seq
(.seq
(.region [⟨some 48,.mov (.tmp 5),none⟩,⟨some 49,.fld 7 (.tmp 2),none⟩,⟨some 50,.load 1 false (.tmp 49),none⟩,⟨some 51,.len 0 (.tmp 50),none⟩,⟨some 52,.bin .lss (.tmp 48) (.tmp 51),none⟩] [2,3,5,52] [2,3])
(.cond (.tmp 52)
.skip
(.exit 0)))
(.seq
(.block 1
(.seq
(.draw [(⟨some 55,.fld 7 (.tmp 2),none⟩,[]),(⟨some 56,.load 1 false (.tmp 55),none⟩,[]),(⟨some 57,.mov (.tmp 5),none⟩,[]),(⟨some 58,.idx 2 (.tmp 56) (.tmp 57),none⟩,[]),(⟨some 59,.load 2 true (.tmp 58),none⟩,[]),(⟨some 60,.fld 7 (.tmp 3),none⟩,[]),(⟨some 61,.load 1 false (.tmp 60),none⟩,[]),(⟨some 62,.mov (.tmp 5),none⟩,[]),(⟨some 63,.idx 2 (.tmp 61) (.tmp 62),none⟩,[]),(⟨some 64,.load 2 true (.tmp 63),none⟩,[]),(⟨some 65,.eqa true [1,2] true (.tmp 59) (.tmp 64),none⟩,[])] [2,3,5,65] [2,3])
(.cond (.tmp 65)
(.seq
(.region [⟨some 4,.mov (.val (.pv (.bool false))),none⟩] [4] [])
.ret)
.skip)))
(.region [⟨some 53,.mov (.tmp 5),none⟩,⟨some 54,.bin .add (.tmp 53) (.val (.pv (.int .i64 1))),none⟩,⟨some 5,.mov (.tmp 54),none⟩] [2,3,5] [2,3])))))))
(.seq
(.region [⟨some 66,.fld 5 (.tmp 2),none⟩,⟨some 67,.load 1 false (.tmp 66),none⟩,⟨some 68,.fld 5 (.tmp 3),none⟩,⟨some 69,.load 1 false (.tmp 68),none⟩,⟨some 70,.call (.val (.func 336 [])) [(.tmp 67),(.tmp 69)],none⟩,⟨some 71,.mov (.tmp 70),none⟩,⟨some 72,.fld 6 (.tmp 2),some (71,true)⟩,⟨some 73,.load 1 false (.tmp 72),some (71,true)⟩,⟨some 74,.fld 6 (.tmp 3),some (71,true)⟩,⟨some 75,.load 1 false (.tmp 74),some (71,true)⟩,⟨some 76,.call (.val (.func 336 [])) [(.tmp 73),(.tmp 75)],some (71,true)⟩,⟨some 77,.pick (.tmp 71) (.tmp 76) (.val (.pv (.bool false))),none⟩,⟨some 4,.mov (.tmp 77),none⟩] [4] [])
.ret)))),[.tmp 4],false,false,false⟩
def F333 : AFunc := ⟨2,(.seq
(.region [⟨some 4,.mov (.val (.pv (.bool false))),none⟩] [0,1] [])
(.seq
(.seq
(.region [⟨some 6,.mov (.tmp 0),none⟩,⟨some 7,.len 0 (.tmp 6),none⟩,⟨some 8,.mov (.tmp 1),none⟩,⟨some 9,.len 0 (.tmp 8),none⟩,⟨some 10,.bin .neq (.tmp 7) (.tmp 9),none⟩] [0,1,10] [])
(.cond (.tmp 10)
(.seq
(.region [⟨some 4,.mov (.val (.pv (.bool false))),none⟩] [4] [])
.ret)
.skip))
(.seq
(.seq
(.region [⟨some 11,.mov (.tmp 0),none⟩,⟨some 12,.len 0 (.tmp 11),none⟩,⟨some 13,.mov (.val (.pv (.int .i64 0))),none⟩] [0,1,12,13] [])
(.block 0
(.loop
(.mask [0,1,12,13] []
(.seq
(.region [⟨some 14,.bin .lss (.tmp 13) (.tmp 12),none⟩] [0,1,12,13,14] [])
(.seq
(.cond (.tmp 14)
.skip
(.exit 0))
(.seq
(.block 1
(.seq
(.region [⟨some 15,.mov (.tmp 13),none⟩,⟨some 5,.mov (.tmp 15),none⟩] [0,1,5,12,13] [])
(.seq
(.draw [(⟨some 16,.mov (.tmp 0),none⟩,[]),(⟨some 17,.mov (.tmp 5),none⟩,[]),(⟨some 18,.idx 2 (.tmp 16) (.tmp 17),none⟩,[]),(⟨some 19,.load 2 true (.tmp 18),none⟩,[]),(⟨some 20,.mov (.tmp 1),none⟩,[]),(⟨some 21,.mov (.tmp 5),none⟩,[]),(⟨some 22,.idx 2 (.tmp 20) (.tmp 21),none⟩,[]),(⟨some 23,.load 2 true (.tmp 22),none⟩,[]),(⟨some 24,.eqa true [1,2] true (.tmp 19) (.tmp 23),none⟩,[])] [0,1,12,13,24] [])
(.cond (.tmp 24)
(.seq
(.region [⟨some 4,.mov (.val (.pv (.bool false))),none⟩] [4] [])
.ret)
.skip))))
(.region [⟨some 25,.bin .add (.tmp 13) (.val (.pv (.int .i64 1))),none⟩,⟨some 13,.mov (.tmp 25),none⟩] [0,1,12,13] []))))))))
(.seq
(.region [⟨some 4,.mov (.val (.pv (.bool true))),none⟩] [4] [])
.ret)))),[.tmp 4],false,false,false⟩
def F334 : AFunc := ⟨3,(.seq
(.region [⟨some 6,.mov (.val (.pv (.bool false))),none⟩] [0,1,2] [])
(.seq
(.seq
(.region [⟨some 10,.mov (.tmp 0),none⟩,⟨some 11,.len 0 (.tmp 10),none⟩,⟨some 12,.mov (.tmp 1),none⟩,⟨some 13,.len 0 (.tmp 12),none⟩,⟨some 14,.bin .neq (.tmp 11) (.tmp 13),none⟩] [0,1,2,14] [])
(.cond (.tmp 14)
(.seq
(.region [⟨some 6,.mov (.val (.pv (.bool false))),none⟩] [6] [])
.ret)
.skip))
(.seq
(.seq
(.region [⟨some 15,.mov (.tmp 0),none⟩,⟨some 16,.len 0 (.tmp 15),none⟩,⟨some 17,.mov (.val (.pv (.int .i64 0))),none⟩] [1,2,15,16,17] [])
(.block 0
(.loop
(.mask [1,2,15,16,17] []
(.seq
(.region [⟨some 18,.bin .lss (.tmp 17) (.tmp 16),none⟩] [1,2,15,16,17,18] [])
(.seq
(.cond (.tmp 18)
.skip
(.exit 0))
(.seq
(.block 1
(.seq
(.region [⟨some 19,.mov (.tmp 17),none⟩,⟨some 20,.idx 8 (.tmp 15) (.tmp 17),none⟩,⟨some 21,.load 8 true (.tmp 20),none⟩,⟨some 8,.alloc 8 [.pv (.int .i64 0),.pv (.bool false),.pv (.int .i64 0),.pv (.str ⟨#[]⟩),.pv (.int .i64 0),.tl [],.tl [],.tl []],none⟩,⟨some 7,.mov (.tmp 19),none⟩,⟨none,.store 8 (.tmp 8) (.tmp 21),none⟩] [1,2,7,8,15,16,17] [8])
(.seq
(.region [⟨some 22,.mov (.tmp 1),none⟩,⟨some 23,.mov (.tmp 7),none⟩,⟨some 24,.idx 8 (.tmp 22) (.tmp 23),none⟩,⟨some 25,.load 8 true (.tmp 24),none⟩,⟨some 9,.alloc 9 [.pv (.int .i64 0),.pv (.bool false),.pv (.int .i64 0),.pv (.str ⟨#[]⟩),.pv (.int .i64 0),.tl [],.tl [],.tl []],none⟩,⟨none,.store 8 (.tmp 9) (.tmp 25),none⟩] [1,2,8,9,15,16,17] [8,9])
(.seq
(.region [⟨some 26,.mov (.tmp 2),none⟩,⟨some 27,.load 8 true (.tmp 8),none⟩,⟨some 28,.load 8 true (.tmp 9),none⟩,⟨some 29,.call (.tmp 26) [(.tmp 27),(.tmp 28)],none⟩,⟨some 30,.un .not (.tmp 29),none⟩] [1,2,15,16,17,30] [])
(.cond (.tmp 30)
(.seq
(.region [⟨some 6,.mov (.val (.pv (.bool false))),none⟩] [6] [])
.ret)
.skip)))))
(.region [⟨some 31,.bin .add (.tmp 17) (.val (.pv (.int .i64 1))),none⟩,⟨some 17,.mov (.tmp 31),none⟩] [1,2,15,16,17] []))))))))
(.seq
(.region [⟨some 6,.mov (.val (.pv (.bool true))),none⟩] [6] [])
.ret)))),[.tmp 6],false,false,false⟩
def F336 : AFunc := ⟨2,(.seq
(.region [⟨some 4,.mov (.val (.pv (.bool false))),none⟩] [0,1] [])
(.seq
(.seq
(.region [⟨some 6,.mov (.tmp 0),none⟩,⟨some 7,.len 0 (.tmp 6),none⟩,⟨some 8,.mov (.tmp 1),none⟩,⟨some 9,.len 0 (.tmp 8),none⟩,⟨some 10,.bin .neq (.tmp 7) (.tmp 9),none⟩] [0,1,10] [])
(.cond (.tmp 10)
(.seq
(.region [⟨some 4,.mov (.val (.pv (.bool false))),none⟩] [4] [])
.ret)
.skip))
(.seq
(.seq
(.region [⟨some 5,.mov (.val (.pv (.int .i64 0))),none⟩] [0,1,5] [])
(.block 0
(.loop
(.mask [0,1,5] []
(.seq
(.seq
(.region [⟨some 11,.mov (.tmp 5),none⟩,⟨some 12,.mov (.tmp 0),none⟩,⟨some 13,.len 0 (.tmp 12),none⟩,⟨some 14,.bin .lss (.tmp 11) (.tmp 13),none⟩] [0,1,5,14] [])
(.cond (.tmp 14)
.skip
(.exit 0)))
(.seq
(.block 1
(.seq
(.draw [(⟨some 17,.mov (.tmp 0),none⟩,[]),(⟨some 18,.mov (.tmp 5),none⟩,[]),(⟨some 19,.idx 8 (.tmp 17) (.tmp 18),none⟩,[]),(⟨some 20,.load 8 true (.tmp 19),none⟩,[]),(⟨some 21,.mov (.tmp 1),none⟩,[]),(⟨some 22,.mov (.tmp 5),none⟩,[]),(⟨some 23,.idx 8 (.tmp 21) (.tmp 22),none⟩,[]),(⟨some 24,.load 8 true (.tmp 23),none⟩,[]),(⟨some 25,.call (.val (.func 330 [])) [(.tmp 20),(.tmp 24)],none⟩,[]),(⟨some 26,.un .not (.tmp 25),none⟩,[])] [0,1,5,26] [])
(.cond (.tmp 26)
(.seq
(.region [⟨some 4,.mov (.val (.pv (.bool false))),none⟩] [4] [])
.ret)
.skip)))
(.region [⟨some 15,.mov (.tmp 5),none⟩,⟨some 16,.bin .add (.tmp 15) (.val (.pv (.int .i64 1))),none⟩,⟨some 5,.mov (.tmp 16),none⟩] [0,1,5] [])))))))
(.seq
(.region [⟨some 4,.mov (.val (.pv (.bool true))),none⟩] [4] [])
.ret)))),[.tmp 4],false,false,false⟩
end Go.Pv
