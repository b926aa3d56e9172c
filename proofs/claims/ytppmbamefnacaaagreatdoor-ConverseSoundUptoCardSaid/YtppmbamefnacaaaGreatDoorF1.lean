/-
  Functions of the program,read for the interpreter.
-/
import Derived.Test.YtppmbamefnacaaaGreatDoorA4
namespace Go.Pv
@[reducible] def tT (n : Nat) : Opd := .tmp n
@[reducible] def zZ (n : Int) : Opd := .val (.pv (.int .i64 n))
@[reducible] def bB (b : Bool) : Opd := .val (.pv (.bool b))
@[reducible] def pZ : V := .pv (.int .i64 0)
@[reducible] def sS (n : Nat) (o : AOp) : AOper := ⟨some n,o,none⟩
@[reducible] def nN (o : AOp) : AOper := ⟨none,o,none⟩
@[reducible] def gG (n : Nat) (o : AOp) (t : Nat) (b : Bool) : AOper := ⟨some n,o,some (t,b)⟩
def F25 : AFunc := ⟨1,(.seq
(.region [sS 1 (.box 1 2 (tT 0)),sS 2 (.alloc 2 [pZ,pZ,.tl []]),sS 3 (.mov (bB false))] [1,2] [1,2])
(.seq
(.region [sS 10 (.fld 0 (tT 1)),sS 11 (.load 1 false (tT 10)),sS 12 (.bin .rem (tT 11) (.val (.pv (.int .u8 4)))),sS 13 (.conv .i64 (tT 12)),sS 14 (.bin .add (zZ 1) (tT 13)),sS 15 (.build [pZ,pZ,.tl []] [(0,1,(tT 14))]),sS 4 (.alloc 4 [pZ,pZ,.tl []]),nN (.store 3 (tT 4) (tT 15))] [1,2,4] [1,2,4])
(.seq
(.seq
(.region [sS 5 (.mov (zZ 0))] [1,2,4,5] [1,2,4])
(.block 0
(.loop
(.mask [1,2,4,5] [1,2,4]
(.seq
(.seq
(.region [sS 16 (.mov (tT 5)),sS 17 (.fld 1 (tT 1)),sS 18 (.load 1 false (tT 17)),sS 19 (.len 0 (tT 18)),sS 20 (.bin .lss (tT 16) (tT 19)),sS 21 (.mov (tT 20)),gG 22 (.mov (tT 5)) 21 true,gG 23 (.bin .lss (tT 22) (zZ 12)) 21 true,sS 24 (.pick (tT 21) (tT 23) (bB false))] [1,2,4,5,24] [1,2,4])
(.cond (tT 24)
.skip
(.exit 0)))
(.seq
(.block 1
(.seq
(.region [sS 27 (.fld 1 (tT 1)),sS 28 (.load 1 false (tT 27)),sS 29 (.mov (tT 5)),sS 30 (.idx 3 (tT 28) (tT 29)),sS 31 (.load 3 true (tT 30)),sS 6 (.alloc 6 [.pv (.int .u8 0),.pv (.int .u8 0),.pv (.int .u8 0)]),nN (.store 3 (tT 6) (tT 31))] [1,2,4,5,6] [1,2,4,6])
(.seq
(.draw [(sS 32 (.fld 0 (tT 6)),[]),(sS 33 (.load 1 false (tT 32)),[]),(sS 34 (.conv .i64 (tT 33)),[]),(sS 35 (.fld 0 (tT 4)),[]),(sS 36 (.load 1 false (tT 35)),[]),(sS 37 (.bin .rem (tT 34) (tT 36)),[]),(sS 38 (.fld 1 (tT 6)),[]),(sS 39 (.load 1 false (tT 38)),[]),(sS 40 (.bin .rem (tT 39) (.val (.pv (.int .u8 2)))),[]),(sS 41 (.bin .eql (tT 40) (.val (.pv (.int .u8 1)))),[]),(sS 42 (.fld 1 (tT 6)),[]),(sS 43 (.load 1 false (tT 42)),[]),(sS 44 (.bin .quo (tT 43) (.val (.pv (.int .u8 2)))),[]),(sS 45 (.bin .rem (tT 44) (.val (.pv (.int .u8 3)))),[]),(sS 46 (.conv .i64 (tT 45)),[]),(sS 47 (.bin .add (zZ 1) (tT 46)),[]),(sS 48 (.fld 2 (tT 6)),[]),(sS 49 (.load 1 false (tT 48)),[]),(sS 50 (.conv .i64 (tT 49)),[]),(sS 51 (.fld 0 (tT 4)),[]),(sS 52 (.load 1 false (tT 51)),[]),(sS 53 (.bin .rem (tT 50) (tT 52)),[]),(sS 54 (.build [pZ,.pv (.bool false),pZ,pZ] [(0,1,(tT 37)),(1,1,(tT 41)),(2,1,(tT 47)),(3,1,(tT 53))]),[]),(sS 7 (.alloc 7 [pZ,.pv (.bool false),pZ,pZ]),[1,4,7,11,17,20]),(nN (.store 4 (tT 7) (tT 54)),[])] [1,2,4,5,7] [1,2,4,7])
(.seq
(.region [sS 56 (.load 3 true (tT 4)),sS 57 (.fld 0 (tT 7)),sS 58 (.load 1 false (tT 57)),sS 59 (.fld 1 (tT 7)),sS 60 (.load 1 false (tT 59)),sS 61 (.fld 2 (tT 7)),sS 62 (.load 1 false (tT 61)),sS 63 (.call (.val (.func 39 [])) [(tT 56),(tT 58),(tT 60),(tT 62)]),sS 55 (.mov (tT 63)),sS 64 (.ext (tT 55) 0),sS 65 (.ext (tT 55) 1),sS 8 (.mov (tT 64)),sS 9 (.mov (tT 65))] [1,2,4,5,7,9] [1,2,4,7])
(.seq
(.region [sS 66 (.mov (tT 9)),sS 67 (.un .not (tT 66))] [1,2,4,5,7,67] [1,2,4,7])
(.cond (tT 67)
(.region [sS 68 (.fld 2 (tT 4)),sS 69 (.load 1 false (tT 68)),sS 70 (.load 4 true (tT 7)),sS 71 (.lit 4 [pZ,.pv (.bool false),pZ,pZ] 1 [(0,4,(tT 70))]),sS 72 (.app 4 (tT 69) (tT 71)),sS 73 (.fld 2 (tT 4)),nN (.store 1 (tT 73) (tT 72))] [1,2,4,5] [1,2,4])
.skip))))))
(.region [sS 25 (.mov (tT 5)),sS 26 (.bin .add (tT 25) (zZ 1)),sS 5 (.mov (tT 26))] [1,2,4,5] [1,2,4])))))))
(.seq
(.draw [(sS 74 (.load 3 true (tT 4)),[]),(sS 75 (.call (.val (.func 43 [])) [(tT 74)]),[]),(sS 76 (.fld 1 (tT 1)),[]),(sS 77 (.load 1 false (tT 76)),[1]),(sS 78 (.len 0 (tT 77)),[1]),(sS 79 (.bin .leq (tT 78) (zZ 12)),[]),(nN (.store 3 (tT 2) (tT 75)),[3,4]),(sS 3 (.mov (tT 79)),[])] [2,3] [2])
.ret)))),[.cell 2 3 true,.tmp 3],false,false,false⟩
def F26 : AFunc := ⟨1,(.seq
(.region [sS 1 (.box 1 3 (tT 0)),sS 2 (.mov (zZ 0))] [1] [1])
(.seq
(.seq
(.region [sS 5 (.fld 0 (tT 1)),sS 6 (.load 1 false (tT 5)),sS 7 (.bin .gtr (tT 6) (zZ 12)),sS 8 (.mov (tT 7)),gG 9 (.fld 2 (tT 1)) 8 false,gG 10 (.load 1 false (tT 9)) 8 false,gG 11 (.len 0 (tT 10)) 8 false,gG 12 (.bin .gtr (tT 11) (zZ 100)) 8 false,sS 13 (.pick (tT 8) (bB true) (tT 12))] [1,13] [1])
(.cond (tT 13)
(.seq
(.region [sS 2 (.mov (zZ 3))] [2] [])
.ret)
.skip))
(.seq
(.seq
(.region [sS 14 (.fld 0 (tT 1)),sS 15 (.load 1 false (tT 14)),sS 16 (.bin .lss (tT 15) (zZ 1)),sS 17 (.mov (tT 16)),gG 18 (.fld 1 (tT 1)) 17 false,gG 19 (.load 1 false (tT 18)) 17 false,gG 20 (.bin .lss (tT 19) (zZ 0)) 17 false,sS 21 (.pick (tT 17) (bB true) (tT 20)),sS 22 (.mov (tT 21)),gG 23 (.fld 1 (tT 1)) 22 false,gG 24 (.load 1 false (tT 23)) 22 false,gG 25 (.fld 0 (tT 1)) 22 false,gG 26 (.load 1 false (tT 25)) 22 false,gG 27 (.bin .geq (tT 24) (tT 26)) 22 false,sS 28 (.pick (tT 22) (bB true) (tT 27))] [1,28] [1])
(.cond (tT 28)
(.seq
(.region [sS 2 (.mov (zZ 1))] [2] [])
.ret)
.skip))
(.seq
(.seq
(.region [sS 3 (.mov (zZ 0))] [1,3] [1])
(.block 0
(.loop
(.mask [1,3] [1]
(.seq
(.seq
(.region [sS 29 (.mov (tT 3)),sS 30 (.fld 2 (tT 1)),sS 31 (.load 1 false (tT 30)),sS 32 (.len 0 (tT 31)),sS 33 (.bin .lss (tT 29) (tT 32))] [1,3,33] [1])
(.cond (tT 33)
.skip
(.exit 0)))
(.seq
(.block 1
(.seq
(.region [sS 36 (.fld 2 (tT 1)),sS 37 (.load 1 false (tT 36)),sS 38 (.mov (tT 3)),sS 39 (.idx 4 (tT 37) (tT 38)),sS 40 (.load 4 true (tT 39)),sS 4 (.alloc 4 [pZ,.pv (.bool false),pZ,pZ]),nN (.store 4 (tT 4) (tT 40))] [1,3,4] [1,4])
(.seq
(.seq
(.region [sS 41 (.fld 0 (tT 4)),sS 42 (.load 1 false (tT 41)),sS 43 (.bin .lss (tT 42) (zZ 0)),sS 44 (.mov (tT 43)),gG 45 (.fld 0 (tT 4)) 44 false,gG 46 (.load 1 false (tT 45)) 44 false,gG 47 (.fld 0 (tT 1)) 44 false,gG 48 (.load 1 false (tT 47)) 44 false,gG 49 (.bin .geq (tT 46) (tT 48)) 44 false,sS 50 (.pick (tT 44) (bB true) (tT 49)),sS 51 (.mov (tT 50)),gG 52 (.fld 3 (tT 4)) 51 false,gG 53 (.load 1 false (tT 52)) 51 false,gG 54 (.bin .lss (tT 53) (zZ 0)) 51 false,sS 55 (.pick (tT 51) (bB true) (tT 54)),sS 56 (.mov (tT 55)),gG 57 (.fld 3 (tT 4)) 56 false,gG 58 (.load 1 false (tT 57)) 56 false,gG 59 (.fld 0 (tT 1)) 56 false,gG 60 (.load 1 false (tT 59)) 56 false,gG 61 (.bin .geq (tT 58) (tT 60)) 56 false,sS 62 (.pick (tT 56) (bB true) (tT 61)),sS 63 (.mov (tT 62)),gG 64 (.fld 2 (tT 4)) 63 false,gG 65 (.load 1 false (tT 64)) 63 false,gG 66 (.bin .lss (tT 65) (zZ 1)) 63 false,sS 67 (.pick (tT 63) (bB true) (tT 66)),sS 68 (.mov (tT 67)),gG 69 (.fld 2 (tT 4)) 68 false,gG 70 (.load 1 false (tT 69)) 68 false,gG 71 (.bin .gtr (tT 70) (zZ 1000)) 68 false,sS 72 (.pick (tT 68) (bB true) (tT 71))] [1,3,4,72] [1,4])
(.cond (tT 72)
(.seq
(.region [sS 2 (.mov (zZ 1))] [2] [])
.ret)
.skip))
(.seq
(.draw [(sS 73 (.mov (tT 3)),[]),(sS 74 (.bin .gtr (tT 73) (zZ 0)),[]),(sS 75 (.mov (tT 74)),[]),(gG 76 (.fld 2 (tT 1)) 75 true,[]),(gG 77 (.load 1 false (tT 76)) 75 true,[]),(gG 78 (.mov (tT 3)) 75 true,[]),(gG 79 (.bin .sub (tT 78) (zZ 1)) 75 true,[]),(gG 80 (.idx 4 (tT 77) (tT 79)) 75 true,[]),(gG 81 (.load 4 true (tT 80)) 75 true,[]),(gG 82 (.load 4 true (tT 4)) 75 true,[]),(gG 83 (.call (.val (.func 44 [])) [(tT 81),(tT 82)]) 75 true,[]),(gG 84 (.un .not (tT 83)) 75 true,[]),(sS 85 (.pick (tT 75) (tT 84) (bB false)),[])] [1,3,85] [1])
(.cond (tT 85)
(.seq
(.region [sS 2 (.mov (zZ 1))] [2] [])
.ret)
.skip)))))
(.region [sS 34 (.mov (tT 3)),sS 35 (.bin .add (tT 34) (zZ 1)),sS 3 (.mov (tT 35))] [1,3] [1])))))))
(.seq
(.region [sS 2 (.mov (zZ 0))] [2] [])
.ret))))),[.tmp 2],false,false,false⟩
def F29 : AFunc := ⟨1,(.seq
(.region [sS 1 (.box 1 3 (tT 0)),sS 2 (.mov (zZ 0))] [1] [1])
(.seq
(.seq
(.region [sS 6 (.fld 0 (tT 1)),sS 7 (.load 1 false (tT 6)),sS 8 (.bin .gtr (tT 7) (zZ 12)),sS 9 (.mov (tT 8)),gG 10 (.fld 2 (tT 1)) 9 false,gG 11 (.load 1 false (tT 10)) 9 false,gG 12 (.len 0 (tT 11)) 9 false,gG 13 (.bin .gtr (tT 12) (zZ 100)) 9 false,sS 14 (.pick (tT 9) (bB true) (tT 13))] [1,14] [1])
(.cond (tT 14)
(.seq
(.region [sS 2 (.mov (zZ 3))] [2] [])
.ret)
.skip))
(.seq
(.region [sS 15 (.clos 46 [(tT 1)]),sS 3 (.mov (tT 15))] [1,3] [1])
(.seq
(.seq
(.region [sS 16 (.mov (tT 3)),sS 17 (.fld 1 (tT 1)),sS 18 (.load 1 false (tT 17)),sS 19 (.call (tT 16) [(tT 18)]),sS 20 (.un .not (tT 19))] [1,3,20] [1])
(.cond (tT 20)
(.seq
(.region [sS 2 (.mov (zZ 1))] [2] [])
.ret)
.skip))
(.seq
(.seq
(.region [sS 21 (.fld 2 (tT 1)),sS 22 (.load 1 false (tT 21)),sS 23 (.len 0 (tT 22)),sS 24 (.mov (zZ 0))] [1,3,22,23,24] [1])
(.block 0
(.loop
(.mask [1,3,22,23,24] [1]
(.seq
(.region [sS 25 (.bin .lss (tT 24) (tT 23))] [1,3,22,23,24,25] [1])
(.seq
(.cond (tT 25)
.skip
(.exit 0))
(.seq
(.block 1
(.seq
(.region [sS 26 (.mov (tT 24)),sS 27 (.idx 4 (tT 22) (tT 24)),sS 28 (.load 4 true (tT 27)),sS 5 (.alloc 5 [pZ,.pv (.bool false),pZ,pZ]),sS 4 (.mov (tT 26)),nN (.store 4 (tT 5) (tT 28))] [1,3,4,5,22,23,24] [1,5])
(.seq
(.draw [(sS 29 (.mov (tT 3)),[]),(sS 30 (.fld 0 (tT 5)),[]),(sS 31 (.load 1 false (tT 30)),[]),(sS 32 (.call (tT 29) [(tT 31)]),[]),(sS 33 (.un .not (tT 32)),[]),(sS 34 (.mov (tT 33)),[]),(gG 35 (.mov (tT 3)) 34 false,[]),(gG 36 (.fld 3 (tT 5)) 34 false,[]),(gG 37 (.load 1 false (tT 36)) 34 false,[]),(gG 38 (.call (tT 35) [(tT 37)]) 34 false,[]),(gG 39 (.un .not (tT 38)) 34 false,[]),(sS 40 (.pick (tT 34) (bB true) (tT 39)),[]),(sS 41 (.mov (tT 40)),[]),(gG 42 (.fld 2 (tT 5)) 41 false,[]),(gG 43 (.load 1 false (tT 42)) 41 false,[]),(gG 44 (.bin .lss (tT 43) (zZ 1)) 41 false,[]),(sS 45 (.pick (tT 41) (bB true) (tT 44)),[]),(sS 46 (.mov (tT 45)),[]),(gG 47 (.fld 2 (tT 5)) 46 false,[]),(gG 48 (.load 1 false (tT 47)) 46 false,[]),(gG 49 (.bin .gtr (tT 48) (zZ 1000)) 46 false,[]),(sS 50 (.pick (tT 46) (bB true) (tT 49)),[]),(sS 51 (.mov (tT 50)),[]),(gG 52 (.mov (tT 4)) 51 false,[]),(gG 53 (.bin .gtr (tT 52) (zZ 0)) 51 false,[]),(gG 54 (.mov (tT 53)) 51 false,[]),(gG 55 (.fld 2 (tT 1)) 54 true,[]),(gG 56 (.load 1 false (tT 55)) 54 true,[]),(gG 57 (.mov (tT 4)) 54 true,[]),(gG 58 (.bin .sub (tT 57) (zZ 1)) 54 true,[]),(gG 59 (.idx 4 (tT 56) (tT 58)) 54 true,[]),(gG 60 (.load 4 true (tT 59)) 54 true,[]),(gG 61 (.load 4 true (tT 5)) 54 true,[]),(gG 62 (.call (.val (.func 47 [])) [(tT 60),(tT 61)]) 54 true,[]),(gG 63 (.bin .geq (tT 62) (zZ 0)) 54 true,[]),(gG 64 (.pick (tT 54) (tT 63) (bB false)) 51 false,[]),(sS 65 (.pick (tT 51) (bB true) (tT 64)),[])] [1,3,22,23,24,65] [1])
(.cond (tT 65)
(.seq
(.region [sS 2 (.mov (zZ 1))] [2] [])
.ret)
.skip))))
(.region [sS 66 (.bin .add (tT 24) (zZ 1)),sS 24 (.mov (tT 66))] [1,3,22,23,24] [1]))))))))
(.seq
(.region [sS 2 (.mov (zZ 0))] [2] [])
.ret)))))),[.tmp 2],false,false,false⟩
def F39 : AFunc := ⟨4,(.seq
(.region [sS 4 (.box 4 3 (tT 0)),sS 8 (.mov (zZ 0)),sS 9 (.mov (bB false))] [1,2,3,4] [4])
(.seq
(.seq
(.region [sS 10 (.mov (zZ 0))] [1,2,3,4,10] [4])
(.block 0
(.loop
(.mask [1,2,3,4,10] [4]
(.seq
(.seq
(.region [sS 12 (.mov (tT 10)),sS 13 (.fld 2 (tT 4)),sS 14 (.load 1 false (tT 13)),sS 15 (.len 0 (tT 14)),sS 16 (.bin .lss (tT 12) (tT 15))] [1,2,3,4,10,16] [4])
(.cond (tT 16)
.skip
(.exit 0)))
(.seq
(.block 1
(.seq
(.region [sS 19 (.fld 2 (tT 4)),sS 20 (.load 1 false (tT 19)),sS 21 (.mov (tT 10)),sS 22 (.idx 4 (tT 20) (tT 21)),sS 23 (.load 4 true (tT 22)),sS 11 (.alloc 11 [pZ,.pv (.bool false),pZ,pZ]),nN (.store 4 (tT 11) (tT 23))] [1,2,3,4,10,11] [4,11])
(.seq
(.region [sS 24 (.fld 0 (tT 11)),sS 25 (.load 1 false (tT 24)),sS 26 (.mov (tT 1)),sS 27 (.bin .eql (tT 25) (tT 26)),sS 28 (.mov (tT 27)),gG 29 (.fld 1 (tT 11)) 28 true,gG 30 (.load 1 false (tT 29)) 28 true,gG 31 (.mov (tT 2)) 28 true,gG 32 (.eqa false [0] false (tT 30) (tT 31)) 28 true,sS 33 (.pick (tT 28) (tT 32) (bB false)),sS 34 (.mov (tT 33)),gG 35 (.fld 2 (tT 11)) 34 true,gG 36 (.load 1 false (tT 35)) 34 true,gG 37 (.mov (tT 3)) 34 true,gG 38 (.bin .eql (tT 36) (tT 37)) 34 true,sS 39 (.pick (tT 34) (tT 38) (bB false))] [1,2,3,4,10,11,39] [4,11])
(.cond (tT 39)
(.seq
(.region [sS 40 (.fld 3 (tT 11)),sS 41 (.load 1 false (tT 40)),sS 8 (.mov (tT 41)),sS 9 (.mov (bB true))] [8,9] [])
.ret)
.skip))))
(.region [sS 17 (.mov (tT 10)),sS 18 (.bin .add (tT 17) (zZ 1)),sS 10 (.mov (tT 18))] [1,2,3,4,10] [4])))))))
(.seq
(.region [sS 8 (.mov (zZ 0)),sS 9 (.mov (bB false))] [8,9] [])
.ret))),[.tmp 8,.tmp 9],false,false,false⟩
def F43 : AFunc := ⟨1,(.seq
(.region [sS 1 (.box 1 3 (tT 0)),sS 2 (.alloc 2 [pZ,pZ,.tl []])] [1,2] [1,2])
(.seq
(.region [sS 6 (.fld 0 (tT 1)),sS 7 (.load 1 false (tT 6)),sS 8 (.fld 1 (tT 1)),sS 9 (.load 1 false (tT 8)),sS 10 (.build [pZ,pZ,.tl []] [(0,1,(tT 7)),(1,1,(tT 9))]),sS 3 (.alloc 3 [pZ,pZ,.tl []]),nN (.store 3 (tT 3) (tT 10))] [1,2,3] [1,2,3])
(.seq
(.seq
(.region [sS 4 (.mov (zZ 0))] [1,2,3,4] [1,2,3])
(.block 0
(.loop
(.mask [1,2,3,4] [1,2,3]
(.seq
(.seq
(.region [sS 11 (.mov (tT 4)),sS 12 (.fld 2 (tT 1)),sS 13 (.load 1 false (tT 12)),sS 14 (.len 0 (tT 13)),sS 15 (.bin .lss (tT 11) (tT 14))] [1,2,3,4,15] [1,2,3])
(.cond (tT 15)
.skip
(.exit 0)))
(.seq
(.block 1
(.seq
(.draw [(sS 18 (.fld 2 (tT 3)),[]),(sS 19 (.load 1 false (tT 18)),[]),(sS 20 (.fld 2 (tT 1)),[]),(sS 21 (.load 1 false (tT 20)),[]),(sS 22 (.mov (tT 4)),[]),(sS 23 (.idx 4 (tT 21) (tT 22)),[]),(sS 24 (.load 4 true (tT 23)),[]),(sS 25 (.lit 4 [pZ,.pv (.bool false),pZ,pZ] 1 [(0,4,(tT 24))]),[1]),(sS 26 (.app 4 (tT 19) (tT 25)),[]),(sS 27 (.fld 2 (tT 3)),[]),(nN (.store 1 (tT 27) (tT 26)),[])] [1,2,3,4] [1,2,3])
(.seq
(.region [sS 28 (.fld 2 (tT 3)),sS 29 (.load 1 false (tT 28)),sS 30 (.len 0 (tT 29)),sS 31 (.bin .sub (tT 30) (zZ 1)),sS 5 (.mov (tT 31))] [1,2,3,4,5] [1,2,3])
(.block 2
(.loop
(.mask [1,2,3,4,5] [1,2,3]
(.seq
(.seq
(.draw [(sS 32 (.mov (tT 5)),[]),(sS 33 (.bin .gtr (tT 32) (zZ 0)),[]),(sS 34 (.mov (tT 33)),[]),(gG 35 (.fld 2 (tT 3)) 34 true,[]),(gG 36 (.load 1 false (tT 35)) 34 true,[]),(gG 37 (.mov (tT 5)) 34 true,[]),(gG 38 (.idx 4 (tT 36) (tT 37)) 34 true,[]),(gG 39 (.load 4 true (tT 38)) 34 true,[]),(gG 40 (.fld 2 (tT 3)) 34 true,[]),(gG 41 (.load 1 false (tT 40)) 34 true,[]),(gG 42 (.mov (tT 5)) 34 true,[]),(gG 43 (.bin .sub (tT 42) (zZ 1)) 34 true,[]),(gG 44 (.idx 4 (tT 41) (tT 43)) 34 true,[]),(gG 45 (.load 4 true (tT 44)) 34 true,[]),(gG 46 (.call (.val (.func 44 [])) [(tT 39),(tT 45)]) 34 true,[]),(sS 47 (.pick (tT 34) (tT 46) (bB false)),[])] [1,2,3,4,5,47] [1,2,3])
(.cond (tT 47)
.skip
(.exit 2)))
(.seq
(.block 3
(.draw [(sS 50 (.fld 2 (tT 3)),[]),(sS 51 (.load 1 false (tT 50)),[]),(sS 52 (.mov (tT 5)),[]),(sS 53 (.fld 2 (tT 3)),[]),(sS 54 (.load 1 false (tT 53)),[]),(sS 55 (.mov (tT 5)),[]),(sS 56 (.bin .sub (tT 55) (zZ 1)),[]),(sS 57 (.fld 2 (tT 3)),[]),(sS 58 (.load 1 false (tT 57)),[]),(sS 59 (.mov (tT 5)),[]),(sS 60 (.bin .sub (tT 59) (zZ 1)),[]),(sS 61 (.idx 4 (tT 58) (tT 60)),[]),(sS 62 (.load 4 true (tT 61)),[]),(sS 63 (.fld 2 (tT 3)),[]),(sS 64 (.load 1 false (tT 63)),[]),(sS 65 (.mov (tT 5)),[]),(sS 66 (.idx 4 (tT 64) (tT 65)),[]),(sS 67 (.load 4 true (tT 66)),[]),(sS 68 (.idx 4 (tT 51) (tT 52)),[]),(nN (.store 4 (tT 68) (tT 62)),[4]),(sS 69 (.idx 4 (tT 54) (tT 56)),[]),(nN (.store 4 (tT 69) (tT 67)),[])] [1,2,3,4,5] [1,2,3]))
(.region [sS 48 (.mov (tT 5)),sS 49 (.bin .sub (tT 48) (zZ 1)),sS 5 (.mov (tT 49))] [1,2,3,4,5] [1,2,3])))))))))
(.region [sS 16 (.mov (tT 4)),sS 17 (.bin .add (tT 16) (zZ 1)),sS 4 (.mov (tT 17))] [1,2,3,4] [1,2,3])))))))
(.seq
(.region [sS 70 (.load 3 true (tT 3)),nN (.store 3 (tT 2) (tT 70))] [2] [2])
.ret)))),[.cell 2 3 true],false,false,false⟩
def F44 : AFunc := ⟨2,(.seq
(.region [sS 2 (.box 2 4 (tT 0)),sS 3 (.box 3 4 (tT 1)),sS 4 (.mov (bB false))] [2,3] [2,3])
(.seq
(.seq
(.region [sS 5 (.fld 0 (tT 2)),sS 6 (.load 1 false (tT 5)),sS 7 (.fld 0 (tT 3)),sS 8 (.load 1 false (tT 7)),sS 9 (.bin .neq (tT 6) (tT 8))] [2,3,9] [2,3])
(.cond (tT 9)
(.seq
(.region [sS 10 (.fld 0 (tT 2)),sS 11 (.load 1 false (tT 10)),sS 12 (.fld 0 (tT 3)),sS 13 (.load 1 false (tT 12)),sS 14 (.bin .lss (tT 11) (tT 13)),sS 4 (.mov (tT 14))] [4] [])
.ret)
.skip))
(.seq
(.seq
(.region [sS 15 (.fld 1 (tT 2)),sS 16 (.load 1 false (tT 15)),sS 17 (.fld 1 (tT 3)),sS 18 (.load 1 false (tT 17)),sS 19 (.eqa false [0] true (tT 16) (tT 18))] [2,3,19] [2,3])
(.cond (tT 19)
(.seq
(.region [sS 20 (.fld 1 (tT 3)),sS 21 (.load 1 false (tT 20)),sS 4 (.mov (tT 21))] [4] [])
.ret)
.skip))
(.seq
(.region [sS 22 (.fld 2 (tT 2)),sS 23 (.load 1 false (tT 22)),sS 24 (.fld 2 (tT 3)),sS 25 (.load 1 false (tT 24)),sS 26 (.bin .lss (tT 23) (tT 25)),sS 4 (.mov (tT 26))] [4] [])
.ret)))),[.tmp 4],false,false,false⟩
def F45 : AFunc := ⟨4,(.seq
(.region [sS 4 (.box 4 3 (tT 0)),sS 8 (.mov (zZ 0)),sS 9 (.mov (bB false))] [1,2,3,4] [4])
(.seq
(.seq
(.region [sS 12 (.fld 2 (tT 4)),sS 13 (.load 1 false (tT 12)),sS 14 (.len 0 (tT 13)),sS 15 (.mov (zZ 0))] [1,2,3,13,14,15] [])
(.block 0
(.loop
(.mask [1,2,3,13,14,15] []
(.seq
(.region [sS 16 (.bin .lss (tT 15) (tT 14))] [1,2,3,13,14,15,16] [])
(.seq
(.cond (tT 16)
.skip
(.exit 0))
(.seq
(.block 1
(.seq
(.region [sS 17 (.idx 4 (tT 13) (tT 15)),sS 18 (.load 4 true (tT 17)),sS 11 (.alloc 11 [pZ,.pv (.bool false),pZ,pZ]),nN (.store 4 (tT 11) (tT 18))] [1,2,3,11,13,14,15] [11])
(.seq
(.region [sS 19 (.fld 0 (tT 11)),sS 20 (.load 1 false (tT 19)),sS 21 (.mov (tT 1)),sS 22 (.bin .eql (tT 20) (tT 21)),sS 23 (.mov (tT 22)),gG 24 (.fld 1 (tT 11)) 23 true,gG 25 (.load 1 false (tT 24)) 23 true,gG 26 (.mov (tT 2)) 23 true,gG 27 (.eqa false [0] false (tT 25) (tT 26)) 23 true,sS 28 (.pick (tT 23) (tT 27) (bB false)),sS 29 (.mov (tT 28)),gG 30 (.fld 2 (tT 11)) 29 true,gG 31 (.load 1 false (tT 30)) 29 true,gG 32 (.mov (tT 3)) 29 true,gG 33 (.bin .eql (tT 31) (tT 32)) 29 true,sS 34 (.pick (tT 29) (tT 33) (bB false))] [1,2,3,11,13,14,15,34] [11])
(.cond (tT 34)
(.seq
(.region [sS 35 (.fld 3 (tT 11)),sS 36 (.load 1 false (tT 35)),sS 8 (.mov (tT 36)),sS 9 (.mov (bB true))] [8,9] [])
.ret)
.skip))))
(.region [sS 37 (.bin .add (tT 15) (zZ 1)),sS 15 (.mov (tT 37))] [1,2,3,13,14,15] []))))))))
(.seq
(.region [sS 8 (.mov (zZ 0)),sS 9 (.mov (bB false))] [8,9] [])
.ret))),[.tmp 8,.tmp 9],false,false,false⟩
def F46 : AFunc := ⟨2,(.seq
(.region [sS 3 (.mov (bB false))] [0,1] [])
(.seq
(.region [sS 4 (.mov (tT 0)),sS 5 (.bin .geq (tT 4) (zZ 0)),sS 6 (.mov (tT 5)),gG 7 (.mov (tT 0)) 6 true,gG 8 (.fld 0 (tT 1)) 6 true,gG 9 (.load 1 false (tT 8)) 6 true,gG 10 (.bin .lss (tT 7) (tT 9)) 6 true,sS 11 (.pick (tT 6) (tT 10) (bB false)),sS 3 (.mov (tT 11))] [3] [])
.ret)),[.tmp 3],false,false,false⟩
def F47 : AFunc := ⟨2,(.seq
(.region [sS 2 (.box 2 4 (tT 0)),sS 3 (.box 3 4 (tT 1)),sS 4 (.mov (zZ 0))] [2,3] [2,3])
(.seq
(.region [sS 5 (.mov (.val (.func 58 [])))] [2,3,5] [2,3])
(.seq
(.draw [(sS 6 (.fld 0 (tT 2)),[]),(sS 7 (.load 1 false (tT 6)),[]),(sS 8 (.fld 0 (tT 3)),[]),(sS 9 (.load 1 false (tT 8)),[]),(sS 10 (.call (.val (.func 60 [])) [(tT 7),(tT 9)]),[]),(sS 11 (.mov (tT 5)),[]),(sS 12 (.load 4 true (tT 2)),[4]),(sS 13 (.call (tT 11) [(tT 12)]),[]),(sS 14 (.mov (tT 5)),[]),(sS 15 (.load 4 true (tT 3)),[4,7]),(sS 16 (.call (tT 14) [(tT 15)]),[]),(sS 17 (.call (.val (.func 60 [])) [(tT 13),(tT 16)]),[]),(sS 18 (.fld 2 (tT 2)),[]),(sS 19 (.load 1 false (tT 18)),[4,7,10,11]),(sS 20 (.fld 2 (tT 3)),[]),(sS 21 (.load 1 false (tT 20)),[4,7,10,11]),(sS 22 (.call (.val (.func 60 [])) [(tT 19),(tT 21)]),[]),(sS 23 (.lit 1 [pZ] 3 [(0,1,(tT 10)),(1,1,(tT 17)),(2,1,(tT 22))]),[]),(sS 24 (.call (.val (.func 59 [])) [(tT 23)]),[]),(sS 4 (.mov (tT 24)),[])] [4] [])
.ret))),[.tmp 4],false,false,false⟩
def F58 : AFunc := ⟨1,(.seq
(.region [sS 1 (.box 1 4 (tT 0)),sS 2 (.mov (zZ 0))] [1] [1])
(.seq
(.seq
(.region [sS 3 (.fld 1 (tT 1)),sS 4 (.load 1 false (tT 3))] [4] [])
(.cond (tT 4)
(.seq
(.region [sS 2 (.mov (zZ 1))] [2] [])
.ret)
.skip))
(.seq
(.region [sS 2 (.mov (zZ 0))] [2] [])
.ret))),[.tmp 2],false,false,false⟩
def F59 : AFunc := ⟨1,(.seq
(.region [sS 2 (.mov (zZ 0))] [0] [])
(.seq
(.region [sS 3 (.mov (zZ 0))] [0,3] [])
(.seq
(.seq
(.region [sS 6 (.mov (tT 0)),sS 7 (.len 0 (tT 6)),sS 8 (.mov (zZ 0))] [3,6,7,8] [])
(.block 0
(.loop
(.mask [3,6,7,8] []
(.seq
(.region [sS 9 (.bin .lss (tT 8) (tT 7))] [3,6,7,8,9] [])
(.seq
(.cond (tT 9)
.skip
(.exit 0))
(.seq
(.block 1
(.seq
(.region [sS 10 (.idx 1 (tT 6) (tT 8)),sS 11 (.load 1 false (tT 10)),sS 5 (.mov (tT 11))] [3,5,6,7,8] [])
(.seq
(.region [sS 12 (.mov (tT 5)),sS 13 (.mov (tT 3)),sS 14 (.bin .neq (tT 12) (tT 13))] [3,5,6,7,8,14] [])
(.cond (tT 14)
(.seq
(.region [sS 15 (.mov (tT 5)),sS 2 (.mov (tT 15))] [2] [])
.ret)
.skip))))
(.region [sS 16 (.bin .add (tT 8) (zZ 1)),sS 8 (.mov (tT 16))] [3,6,7,8] []))))))))
(.seq
(.region [sS 17 (.mov (tT 3)),sS 2 (.mov (tT 17))] [2] [])
.ret)))),[.tmp 2],false,false,false⟩
def F60 : AFunc := ⟨2,(.seq
(.region [sS 4 (.mov (zZ 0))] [0,1] [])
(.seq
(.region [sS 7 (.mov (tT 0)),sS 8 (.call (.val (.func 66 [])) [(tT 7)]),sS 5 (.mov (tT 8))] [0,1,5] [])
(.seq
(.region [sS 9 (.mov (tT 1)),sS 10 (.call (.val (.func 66 [])) [(tT 9)]),sS 6 (.mov (tT 10))] [0,1,5,6] [])
(.seq
(.seq
(.region [sS 11 (.mov (tT 5))] [0,1,6,11] [])
(.cond (tT 11)
(.seq
(.seq
(.region [sS 12 (.mov (tT 6))] [12] [])
(.cond (tT 12)
(.seq
(.region [sS 4 (.mov (zZ 0))] [4] [])
.ret)
.skip))
(.seq
(.region [sS 4 (.mov (.val (.pv (.int .i64 (-1)))))] [4] [])
.ret))
.skip))
(.seq
(.seq
(.region [sS 13 (.mov (tT 6))] [0,1,13] [])
(.cond (tT 13)
(.seq
(.region [sS 4 (.mov (zZ 1))] [4] [])
.ret)
.skip))
(.seq
(.seq
(.region [sS 14 (.mov (tT 0)),sS 15 (.mov (tT 1)),sS 16 (.bin .lss (tT 14) (tT 15))] [0,1,16] [])
(.cond (tT 16)
(.seq
(.region [sS 4 (.mov (.val (.pv (.int .i64 (-1)))))] [4] [])
.ret)
.skip))
(.seq
(.seq
(.region [sS 17 (.mov (tT 0)),sS 18 (.mov (tT 1)),sS 19 (.bin .gtr (tT 17) (tT 18))] [19] [])
(.cond (tT 19)
(.seq
(.region [sS 4 (.mov (zZ 1))] [4] [])
.ret)
.skip))
(.seq
(.region [sS 4 (.mov (zZ 0))] [4] [])
.ret)))))))),[.tmp 4],false,false,false⟩
def F66 : AFunc := ⟨1,(.seq
(.region [sS 2 (.mov (bB false))] [0] [])
(.seq
(.region [sS 3 (.mov (tT 0)),sS 4 (.mov (tT 0)),sS 5 (.bin .neq (tT 3) (tT 4)),sS 2 (.mov (tT 5))] [2] [])
.ret)),[.tmp 2],false,false,false⟩
def F77 : AFunc := ⟨2,(.seq
(.region [sS 4 (.mov (zZ 0))] [0,1] [])
(.seq
(.seq
(.region [sS 6 (.mov (tT 0)),sS 7 (.len 0 (tT 6)),sS 8 (.mov (zZ 0))] [0,1,7,8] [])
(.block 0
(.loop
(.mask [0,1,7,8] []
(.seq
(.region [sS 9 (.bin .lss (tT 8) (tT 7))] [0,1,7,8,9] [])
(.seq
(.cond (tT 9)
.skip
(.exit 0))
(.seq
(.block 1
(.seq
(.region [sS 10 (.mov (tT 8)),sS 5 (.mov (tT 10))] [0,1,5,7,8] [])
(.seq
(.region [sS 11 (.mov (tT 1)),sS 12 (.mov (tT 0)),sS 13 (.mov (tT 5)),sS 14 (.idx 4 (tT 12) (tT 13)),sS 15 (.load 4 true (tT 14)),sS 16 (.call (tT 11) [(tT 15)])] [0,1,5,7,8,16] [])
(.cond (tT 16)
(.seq
(.region [sS 17 (.mov (tT 5)),sS 4 (.mov (tT 17))] [4] [])
.ret)
.skip))))
(.region [sS 18 (.bin .add (tT 8) (zZ 1)),sS 8 (.mov (tT 18))] [0,1,7,8] []))))))))
(.seq
(.region [sS 4 (.mov (.val (.pv (.int .i64 (-1)))))] [4] [])
.ret))),[.tmp 4],false,false,false⟩
def F95 : AFunc := ⟨1,(.seq
(.region [sS 1 (.box 1 3 (tT 0)),sS 2 (.mov (.val (.tl [])))] [1] [1])
(.seq
(.seq
(.region [sS 9 (.fld 0 (tT 1)),sS 10 (.load 1 false (tT 9)),sS 11 (.bin .lss (tT 10) (zZ 1)),sS 12 (.mov (tT 11)),gG 13 (.fld 0 (tT 1)) 12 false,gG 14 (.load 1 false (tT 13)) 12 false,gG 15 (.bin .gtr (tT 14) (zZ 12)) 12 false,sS 16 (.pick (tT 12) (bB true) (tT 15))] [1,16] [1])
(.cond (tT 16)
(.seq
(.region [sS 2 (.mov (.val (.tl [])))] [2] [])
.ret)
.skip))
(.seq
(.region [sS 17 (.fld 0 (tT 1)),sS 18 (.load 1 false (tT 17)),sS 19 (.make 1 [.pv (.bool false)] (tT 18) (tT 18)),sS 3 (.mov (tT 19))] [1,3] [1])
(.seq
(.seq
(.region [sS 20 (.fld 2 (tT 1)),sS 21 (.load 1 false (tT 20)),sS 22 (.len 0 (tT 21)),sS 23 (.mov (zZ 0))] [1,3,21,22,23] [1])
(.block 0
(.loop
(.mask [1,3,21,22,23] [1]
(.seq
(.region [sS 24 (.bin .lss (tT 23) (tT 22))] [1,3,21,22,23,24] [1])
(.seq
(.cond (tT 24)
.skip
(.exit 0))
(.seq
(.block 1
(.seq
(.region [sS 25 (.idx 4 (tT 21) (tT 23)),sS 26 (.load 4 true (tT 25)),sS 5 (.alloc 5 [pZ,.pv (.bool false),pZ,pZ]),nN (.store 4 (tT 5) (tT 26))] [1,3,5,21,22,23] [1,5])
(.seq
(.region [sS 27 (.fld 0 (tT 5)),sS 28 (.load 1 false (tT 27)),sS 29 (.bin .geq (tT 28) (zZ 0)),sS 30 (.mov (tT 29)),gG 31 (.fld 0 (tT 5)) 30 true,gG 32 (.load 1 false (tT 31)) 30 true,gG 33 (.fld 0 (tT 1)) 30 true,gG 34 (.load 1 false (tT 33)) 30 true,gG 35 (.bin .lss (tT 32) (tT 34)) 30 true,sS 36 (.pick (tT 30) (tT 35) (bB false))] [1,3,5,21,22,23,36] [1,5])
(.cond (tT 36)
(.region [sS 37 (.mov (tT 3)),sS 38 (.fld 0 (tT 5)),sS 39 (.load 1 false (tT 38)),sS 40 (.idx 1 (tT 37) (tT 39)),nN (.store 1 (tT 40) (bB true))] [1,3,21,22,23] [1])
.skip))))
(.region [sS 41 (.bin .add (tT 23) (zZ 1)),sS 23 (.mov (tT 41))] [1,3,21,22,23] [1]))))))))
(.seq
(.region [sS 6 (.mov (.val (.tl [])))] [3,6] [])
(.seq
(.seq
(.region [sS 42 (.mov (tT 3)),sS 43 (.len 0 (tT 42)),sS 44 (.mov (zZ 0))] [6,42,43,44] [])
(.block 2
(.loop
(.mask [6,42,43,44] []
(.seq
(.region [sS 45 (.bin .lss (tT 44) (tT 43))] [6,42,43,44,45] [])
(.seq
(.cond (tT 45)
.skip
(.exit 2))
(.seq
(.block 3
(.seq
(.region [sS 46 (.mov (tT 44)),sS 47 (.idx 1 (tT 42) (tT 44)),sS 48 (.load 1 false (tT 47)),sS 7 (.mov (tT 46)),sS 8 (.mov (tT 48))] [6,7,8,42,43,44] [])
(.seq
(.region [sS 49 (.mov (tT 8)),sS 50 (.un .not (tT 49))] [6,7,42,43,44,50] [])
(.cond (tT 50)
(.region [sS 51 (.mov (tT 6)),sS 52 (.mov (tT 7)),sS 53 (.lit 1 [pZ] 1 [(0,1,(tT 52))]),sS 54 (.app 1 (tT 51) (tT 53)),sS 6 (.mov (tT 54))] [6,42,43,44] [])
.skip))))
(.region [sS 55 (.bin .add (tT 44) (zZ 1)),sS 44 (.mov (tT 55))] [6,42,43,44] []))))))))
(.seq
(.region [sS 56 (.mov (tT 6)),sS 2 (.mov (tT 56))] [2] [])
.ret))))))),[.tmp 2],false,false,false⟩
def F106 : AFunc := ⟨2,(.seq
(.region [sS 2 (.box 2 3 (tT 0)),sS 4 (.mov (bB false))] [1,2] [2])
(.seq
(.seq
(.region [sS 5 (.mov (zZ 0))] [1,2,5] [2])
(.block 0
(.loop
(.mask [1,2,5] [2]
(.seq
(.seq
(.region [sS 6 (.mov (tT 5)),sS 7 (.fld 2 (tT 2)),sS 8 (.load 1 false (tT 7)),sS 9 (.len 0 (tT 8)),sS 10 (.bin .lss (tT 6) (tT 9))] [1,2,5,10] [2])
(.cond (tT 10)
.skip
(.exit 0)))
(.seq
(.block 1
(.seq
(.region [sS 13 (.fld 2 (tT 2)),sS 14 (.load 1 false (tT 13)),sS 15 (.mov (tT 5)),sS 16 (.idx 4 (tT 14) (tT 15)),sS 17 (.fld 0 (tT 16)),sS 18 (.load 1 false (tT 17)),sS 19 (.mov (tT 1)),sS 20 (.bin .eql (tT 18) (tT 19))] [1,2,5,20] [2])
(.cond (tT 20)
(.seq
(.region [sS 4 (.mov (bB false))] [4] [])
.ret)
.skip)))
(.region [sS 11 (.mov (tT 5)),sS 12 (.bin .add (tT 11) (zZ 1)),sS 5 (.mov (tT 12))] [1,2,5] [2])))))))
(.seq
(.region [sS 4 (.mov (bB true))] [4] [])
.ret))),[.tmp 4],false,false,false⟩
def F108 : AFunc := ⟨2,(.seq
(.region [sS 4 (.mov (bB false))] [0,1] [])
(.seq
(.region [sS 5 (.mov (tT 0)),sS 6 (.mov (tT 1)),sS 7 (.call (.val (.func 117 [])) [(tT 5),(tT 6)]),sS 8 (.bin .geq (tT 7) (zZ 0)),sS 4 (.mov (tT 8))] [4] [])
.ret)),[.tmp 4],false,false,false⟩
def F110 : AFunc := ⟨2,(.seq
(.region [sS 4 (.mov (bB false))] [0,1] [])
(.seq
(.region [sS 5 (.mov (tT 0)),sS 6 (.mov (tT 1)),sS 7 (.call (.val (.func 118 [])) [(tT 5),(tT 6)]),sS 8 (.bin .geq (tT 7) (zZ 0)),sS 4 (.mov (tT 8))] [4] [])
.ret)),[.tmp 4],false,false,false⟩
def F117 : AFunc := ⟨2,(.seq
(.region [sS 4 (.mov (zZ 0))] [0,1] [])
(.seq
(.seq
(.region [sS 6 (.mov (tT 0)),sS 7 (.len 0 (tT 6)),sS 8 (.mov (zZ 0))] [0,1,7,8] [])
(.block 0
(.loop
(.mask [0,1,7,8] []
(.seq
(.region [sS 9 (.bin .lss (tT 8) (tT 7))] [0,1,7,8,9] [])
(.seq
(.cond (tT 9)
.skip
(.exit 0))
(.seq
(.block 1
(.seq
(.region [sS 10 (.mov (tT 8)),sS 5 (.mov (tT 10))] [0,1,5,7,8] [])
(.seq
(.region [sS 11 (.mov (tT 1)),sS 12 (.mov (tT 0)),sS 13 (.mov (tT 5)),sS 14 (.idx 1 (tT 12) (tT 13)),sS 15 (.load 1 false (tT 14)),sS 16 (.call (tT 11) [(tT 15)])] [0,1,5,7,8,16] [])
(.cond (tT 16)
(.seq
(.region [sS 17 (.mov (tT 5)),sS 4 (.mov (tT 17))] [4] [])
.ret)
.skip))))
(.region [sS 18 (.bin .add (tT 8) (zZ 1)),sS 8 (.mov (tT 18))] [0,1,7,8] []))))))))
(.seq
(.region [sS 4 (.mov (.val (.pv (.int .i64 (-1)))))] [4] [])
.ret))),[.tmp 4],false,false,false⟩
def F118 : AFunc := ⟨2,(.seq
(.region [sS 4 (.mov (zZ 0))] [0,1] [])
(.seq
(.seq
(.region [sS 6 (.mov (tT 0)),sS 7 (.len 0 (tT 6)),sS 8 (.mov (zZ 0))] [0,1,7,8] [])
(.block 0
(.loop
(.mask [0,1,7,8] []
(.seq
(.region [sS 9 (.bin .lss (tT 8) (tT 7))] [0,1,7,8,9] [])
(.seq
(.cond (tT 9)
.skip
(.exit 0))
(.seq
(.block 1
(.seq
(.region [sS 10 (.mov (tT 8)),sS 5 (.mov (tT 10))] [0,1,5,7,8] [])
(.seq
(.region [sS 11 (.mov (tT 1)),sS 12 (.mov (tT 0)),sS 13 (.mov (tT 5)),sS 14 (.idx 1 (tT 12) (tT 13)),sS 15 (.load 1 false (tT 14)),sS 16 (.bin .eql (tT 11) (tT 15))] [0,1,5,7,8,16] [])
(.cond (tT 16)
(.seq
(.region [sS 17 (.mov (tT 5)),sS 4 (.mov (tT 17))] [4] [])
.ret)
.skip))))
(.region [sS 18 (.bin .add (tT 8) (zZ 1)),sS 8 (.mov (tT 18))] [0,1,7,8] []))))))))
(.seq
(.region [sS 4 (.mov (.val (.pv (.int .i64 (-1)))))] [4] [])
.ret))),[.tmp 4],false,false,false⟩
def F152 : AFunc := ⟨1,(.seq
(.region [sS 1 (.box 1 7 (tT 0)),sS 2 (.mov (zZ 0))] [1] [1])
(.seq
(.seq
(.region [sS 5 (.fld 0 (tT 1)),sS 6 (.load 3 true (tT 5)),sS 7 (.call (.val (.func 29 [])) [(tT 6)]),sS 3 (.mov (tT 7))] [1,3] [1])
(.seq
(.region [sS 8 (.mov (tT 3)),sS 9 (.bin .neq (tT 8) (zZ 0))] [1,3,9] [1])
(.cond (tT 9)
(.seq
(.region [sS 10 (.mov (tT 3)),sS 2 (.mov (tT 10))] [2] [])
.ret)
.skip)))
(.seq
(.seq
(.region [sS 11 (.fld 3 (tT 1)),sS 12 (.load 3 true (tT 11)),sS 13 (.call (.val (.func 29 [])) [(tT 12)]),sS 4 (.mov (tT 13))] [1,4] [1])
(.seq
(.region [sS 14 (.mov (tT 4)),sS 15 (.bin .neq (tT 14) (zZ 0))] [1,4,15] [1])
(.cond (tT 15)
(.seq
(.region [sS 16 (.mov (tT 4)),sS 2 (.mov (tT 16))] [2] [])
.ret)
.skip)))
(.seq
(.seq
(.region [sS 17 (.fld 6 (tT 1)),sS 18 (.load 1 false (tT 17)),sS 19 (.bin .lss (tT 18) (zZ 1)),sS 20 (.mov (tT 19)),gG 21 (.fld 6 (tT 1)) 20 false,gG 22 (.load 1 false (tT 21)) 20 false,gG 23 (.bin .gtr (tT 22) (zZ 3)) 20 false,sS 24 (.pick (tT 20) (bB true) (tT 23))] [24] [])
(.cond (tT 24)
(.seq
(.region [sS 2 (.mov (zZ 7))] [2] [])
.ret)
.skip))
(.seq
(.region [sS 2 (.mov (zZ 0))] [2] [])
.ret))))),[.tmp 2],false,false,false⟩
def F153 : AFunc := ⟨1,(.seq
(.region [sS 1 (.box 1 7 (tT 0)),sS 2 (.mov (zZ 0))] [1] [1])
(.seq
(.seq
(.region [sS 5 (.fld 0 (tT 1)),sS 6 (.load 3 true (tT 5)),sS 7 (.call (.val (.func 26 [])) [(tT 6)]),sS 3 (.mov (tT 7))] [1,3] [1])
(.seq
(.region [sS 8 (.mov (tT 3)),sS 9 (.bin .neq (tT 8) (zZ 0))] [1,3,9] [1])
(.cond (tT 9)
(.seq
(.region [sS 10 (.mov (tT 3)),sS 2 (.mov (tT 10))] [2] [])
.ret)
.skip)))
(.seq
(.seq
(.region [sS 11 (.fld 3 (tT 1)),sS 12 (.load 3 true (tT 11)),sS 13 (.call (.val (.func 26 [])) [(tT 12)]),sS 4 (.mov (tT 13))] [1,4] [1])
(.seq
(.region [sS 14 (.mov (tT 4)),sS 15 (.bin .neq (tT 14) (zZ 0))] [1,4,15] [1])
(.cond (tT 15)
(.seq
(.region [sS 16 (.mov (tT 4)),sS 2 (.mov (tT 16))] [2] [])
.ret)
.skip)))
(.seq
(.seq
(.region [sS 17 (.fld 6 (tT 1)),sS 18 (.load 1 false (tT 17)),sS 19 (.bin .lss (tT 18) (zZ 1)),sS 20 (.mov (tT 19)),gG 21 (.fld 6 (tT 1)) 20 false,gG 22 (.load 1 false (tT 21)) 20 false,gG 23 (.bin .gtr (tT 22) (zZ 3)) 20 false,sS 24 (.pick (tT 20) (bB true) (tT 23))] [24] [])
(.cond (tT 24)
(.seq
(.region [sS 2 (.mov (zZ 7))] [2] [])
.ret)
.skip))
(.seq
(.region [sS 2 (.mov (zZ 0))] [2] [])
.ret))))),[.tmp 2],false,false,false⟩
def F154 : AFunc := ⟨2,(.seq
(.region [sS 2 (.box 2 4 (tT 0)),sS 3 (.box 3 4 (tT 1)),sS 4 (.mov (bB false))] [2,3] [2,3])
(.seq
(.region [sS 5 (.fld 0 (tT 2)),sS 6 (.load 1 false (tT 5)),sS 7 (.fld 0 (tT 3)),sS 8 (.load 1 false (tT 7)),sS 9 (.bin .eql (tT 6) (tT 8)),sS 10 (.mov (tT 9)),gG 11 (.fld 1 (tT 2)) 10 true,gG 12 (.load 1 false (tT 11)) 10 true,gG 13 (.fld 1 (tT 3)) 10 true,gG 14 (.load 1 false (tT 13)) 10 true,gG 15 (.bin .eql (tT 12) (tT 14)) 10 true,sS 16 (.pick (tT 10) (tT 15) (bB false)),sS 17 (.mov (tT 16)),gG 18 (.fld 2 (tT 2)) 17 true,gG 19 (.load 1 false (tT 18)) 17 true,gG 20 (.fld 2 (tT 3)) 17 true,gG 21 (.load 1 false (tT 20)) 17 true,gG 22 (.call (.val (.func 176 [])) [(tT 19),(tT 21)]) 17 true,sS 23 (.pick (tT 17) (tT 22) (bB false)),sS 24 (.mov (tT 23)),gG 25 (.fld 3 (tT 2)) 24 true,gG 26 (.load 1 false (tT 25)) 24 true,gG 27 (.fld 3 (tT 3)) 24 true,gG 28 (.load 1 false (tT 27)) 24 true,gG 29 (.call (.val (.func 176 [])) [(tT 26),(tT 28)]) 24 true,sS 30 (.pick (tT 24) (tT 29) (bB false)),sS 4 (.mov (tT 30))] [4] [])
.ret)),[.tmp 4],false,false,false⟩
def F155 : AFunc := ⟨1,(.seq
(.region [sS 1 (.box 1 7 (tT 0)),sS 2 (.alloc 2 [pZ,pZ,.tl [],.tl []])] [1,2] [1,2])
(.seq
(.region [sS 3 (.fld 0 (tT 1)),sS 4 (.fld 1 (tT 3)),sS 5 (.load 1 false (tT 4)),sS 6 (.fld 3 (tT 1)),sS 7 (.fld 1 (tT 6)),sS 8 (.load 1 false (tT 7)),sS 9 (.build [pZ,pZ,.tl [],.tl []] [(0,1,(tT 5)),(1,1,(tT 8))]),nN (.store 4 (tT 2) (tT 9))] [2] [2])
.ret)),[.cell 2 4 true],false,false,false⟩
def F156 : AFunc := ⟨1,(.seq
(.region [sS 1 (.box 1 7 (tT 0)),sS 2 (.alloc 2 [pZ,pZ,.tl [],.tl []])] [1,2] [1,2])
(.seq
(.region [sS 3 (.fld 0 (tT 1)),sS 4 (.fld 1 (tT 3)),sS 5 (.load 1 false (tT 4)),sS 6 (.fld 3 (tT 1)),sS 7 (.fld 1 (tT 6)),sS 8 (.load 1 false (tT 7)),sS 9 (.build [pZ,pZ,.tl [],.tl []] [(0,1,(tT 5)),(1,1,(tT 8))]),nN (.store 4 (tT 2) (tT 9))] [2] [2])
.ret)),[.cell 2 4 true],false,false,false⟩
def F157 : AFunc := ⟨2,(.seq
(.region [sS 2 (.box 2 7 (tT 0)),sS 3 (.box 3 4 (tT 1)),sS 4 (.mov (bB false))] [2,3] [2,3])
(.seq
(.region [sS 6 (.fld 0 (tT 3)),sS 7 (.load 1 false (tT 6)),sS 8 (.fld 1 (tT 3)),sS 9 (.load 1 false (tT 8)),sS 10 (.minmax false [(tT 7),(tT 9)]),sS 11 (.bin .geq (tT 10) (zZ 0)),sS 12 (.mov (tT 11)),gG 13 (.fld 0 (tT 3)) 12 true,gG 14 (.load 1 false (tT 13)) 12 true,gG 15 (.fld 0 (tT 2)) 12 true,gG 16 (.fld 0 (tT 15)) 12 true,gG 17 (.load 1 false (tT 16)) 12 true,gG 18 (.bin .lss (tT 14) (tT 17)) 12 true,sS 19 (.pick (tT 12) (tT 18) (bB false)),sS 20 (.mov (tT 19)),gG 21 (.fld 1 (tT 3)) 20 true,gG 22 (.load 1 false (tT 21)) 20 true,gG 23 (.fld 3 (tT 2)) 20 true,gG 24 (.fld 0 (tT 23)) 20 true,gG 25 (.load 1 false (tT 24)) 20 true,gG 26 (.bin .lss (tT 22) (tT 25)) 20 true,sS 27 (.pick (tT 20) (tT 26) (bB false)),sS 5 (.mov (tT 27))] [2,3,5] [2,3])
(.seq
(.region [sS 28 (.load 7 true (tT 2)),sS 29 (.call (.val (.func 152 [])) [(tT 28)]),sS 30 (.bin .eql (tT 29) (zZ 0)),sS 31 (.mov (tT 30)),gG 32 (.mov (tT 5)) 31 true,sS 33 (.pick (tT 31) (tT 32) (bB false)),sS 34 (.mov (tT 33)),gG 35 (.fld 2 (tT 3)) 34 true,gG 36 (.load 1 false (tT 35)) 34 true,gG 37 (.fld 6 (tT 2)) 34 true,gG 38 (.load 1 false (tT 37)) 34 true,gG 39 (.call (.val (.func 177 [])) [(tT 36),(tT 38)]) 34 true,sS 40 (.pick (tT 34) (tT 39) (bB false)),sS 41 (.mov (tT 40)),gG 42 (.fld 3 (tT 3)) 41 true,gG 43 (.load 1 false (tT 42)) 41 true,gG 44 (.fld 6 (tT 2)) 41 true,gG 45 (.load 1 false (tT 44)) 41 true,gG 46 (.call (.val (.func 177 [])) [(tT 43),(tT 45)]) 41 true,sS 47 (.pick (tT 41) (tT 46) (bB false)),sS 4 (.mov (tT 47))] [4] [])
.ret))),[.tmp 4],false,false,false⟩
def F158 : AFunc := ⟨2,(.seq
(.region [sS 2 (.box 2 7 (tT 0)),sS 3 (.box 3 4 (tT 1)),sS 4 (.mov (bB false))] [2,3] [2,3])
(.seq
(.region [sS 5 (.load 7 true (tT 2)),sS 6 (.call (.val (.func 153 [])) [(tT 5)]),sS 7 (.bin .eql (tT 6) (zZ 0)),sS 8 (.mov (tT 7)),gG 9 (.fld 0 (tT 3)) 8 true,gG 10 (.load 1 false (tT 9)) 8 true,gG 11 (.bin .geq (tT 10) (zZ 0)) 8 true,sS 12 (.pick (tT 8) (tT 11) (bB false)),sS 13 (.mov (tT 12)),gG 14 (.fld 0 (tT 3)) 13 true,gG 15 (.load 1 false (tT 14)) 13 true,gG 16 (.fld 0 (tT 2)) 13 true,gG 17 (.fld 0 (tT 16)) 13 true,gG 18 (.load 1 false (tT 17)) 13 true,gG 19 (.bin .lss (tT 15) (tT 18)) 13 true,sS 20 (.pick (tT 13) (tT 19) (bB false)),sS 21 (.mov (tT 20)),gG 22 (.fld 1 (tT 3)) 21 true,gG 23 (.load 1 false (tT 22)) 21 true,gG 24 (.bin .geq (tT 23) (zZ 0)) 21 true,sS 25 (.pick (tT 21) (tT 24) (bB false)),sS 26 (.mov (tT 25)),gG 27 (.fld 1 (tT 3)) 26 true,gG 28 (.load 1 false (tT 27)) 26 true,gG 29 (.fld 3 (tT 2)) 26 true,gG 30 (.fld 0 (tT 29)) 26 true,gG 31 (.load 1 false (tT 30)) 26 true,gG 32 (.bin .lss (tT 28) (tT 31)) 26 true,sS 33 (.pick (tT 26) (tT 32) (bB false)),sS 34 (.mov (tT 33)),gG 35 (.fld 2 (tT 3)) 34 true,gG 36 (.load 1 false (tT 35)) 34 true,gG 37 (.fld 6 (tT 2)) 34 true,gG 38 (.load 1 false (tT 37)) 34 true,gG 39 (.call (.val (.func 178 [])) [(tT 36),(tT 38)]) 34 true,sS 40 (.pick (tT 34) (tT 39) (bB false)),sS 41 (.mov (tT 40)),gG 42 (.fld 3 (tT 3)) 41 true,gG 43 (.load 1 false (tT 42)) 41 true,gG 44 (.fld 6 (tT 2)) 41 true,gG 45 (.load 1 false (tT 44)) 41 true,gG 46 (.call (.val (.func 178 [])) [(tT 43),(tT 45)]) 41 true,sS 47 (.pick (tT 41) (tT 46) (bB false)),sS 4 (.mov (tT 47))] [4] [])
.ret)),[.tmp 4],false,false,false⟩
def F159 : AFunc := ⟨2,(.seq
(.region [sS 2 (.box 2 7 (tT 0)),sS 3 (.box 3 4 (tT 1)),sS 4 (.mov (bB false))] [2,3] [2,3])
(.seq
(.seq
(.region [sS 6 (.load 7 true (tT 2)),sS 7 (.load 4 true (tT 3)),sS 8 (.call (.val (.func 157 [])) [(tT 6),(tT 7)]),sS 9 (.un .not (tT 8)),sS 10 (.mov (tT 9)),gG 11 (.fld 2 (tT 3)) 10 false,gG 12 (.load 1 false (tT 11)) 10 false,gG 13 (.len 0 (tT 12)) 10 false,gG 14 (.fld 3 (tT 3)) 10 false,gG 15 (.load 1 false (tT 14)) 10 false,gG 16 (.len 0 (tT 15)) 10 false,gG 17 (.bin .add (tT 13) (tT 16)) 10 false,gG 18 (.bin .gtr (tT 17) (zZ 0)) 10 false,sS 19 (.pick (tT 10) (bB true) (tT 18))] [2,3,19] [2,3])
(.cond (tT 19)
(.seq
(.region [sS 4 (.mov (bB false))] [4] [])
.ret)
.skip))
(.seq
(.region [sS 5 (.mov (.val (.func 179 [])))] [2,3,5] [2,3])
(.seq
(.region [sS 20 (.mov (tT 5)),sS 21 (.fld 0 (tT 2)),sS 22 (.load 3 true (tT 21)),sS 23 (.fld 0 (tT 3)),sS 24 (.load 1 false (tT 23)),sS 25 (.call (tT 20) [(tT 22),(tT 24)]),sS 26 (.un .not (tT 25)),sS 27 (.mov (tT 26)),gG 28 (.mov (tT 5)) 27 true,gG 29 (.fld 3 (tT 2)) 27 true,gG 30 (.load 3 true (tT 29)) 27 true,gG 31 (.fld 1 (tT 3)) 27 true,gG 32 (.load 1 false (tT 31)) 27 true,gG 33 (.call (tT 28) [(tT 30),(tT 32)]) 27 true,gG 34 (.un .not (tT 33)) 27 true,sS 35 (.pick (tT 27) (tT 34) (bB false)),sS 4 (.mov (tT 35))] [4] [])
.ret)))),[.tmp 4],false,false,false⟩
def F160 : AFunc := ⟨2,(.seq
(.region [sS 2 (.box 2 7 (tT 0)),sS 3 (.box 3 4 (tT 1)),sS 4 (.mov (bB false))] [2,3] [2,3])
(.seq
(.region [sS 5 (.load 7 true (tT 2)),sS 6 (.load 4 true (tT 3)),sS 7 (.call (.val (.func 158 [])) [(tT 5),(tT 6)]),sS 8 (.mov (tT 7)),gG 9 (.fld 2 (tT 3)) 8 true,gG 10 (.load 1 false (tT 9)) 8 true,gG 11 (.len 0 (tT 10)) 8 true,gG 12 (.fld 3 (tT 3)) 8 true,gG 13 (.load 1 false (tT 12)) 8 true,gG 14 (.len 0 (tT 13)) 8 true,gG 15 (.bin .add (tT 11) (tT 14)) 8 true,gG 16 (.bin .eql (tT 15) (zZ 0)) 8 true,sS 17 (.pick (tT 8) (tT 16) (bB false)),sS 18 (.mov (tT 17)),gG 19 (.fld 0 (tT 2)) 18 true,gG 20 (.load 3 true (tT 19)) 18 true,gG 21 (.fld 0 (tT 3)) 18 true,gG 22 (.load 1 false (tT 21)) 18 true,gG 23 (.call (.val (.func 106 [])) [(tT 20),(tT 22)]) 18 true,sS 24 (.pick (tT 18) (tT 23) (bB false)),sS 25 (.mov (tT 24)),gG 26 (.fld 3 (tT 2)) 25 true,gG 27 (.load 3 true (tT 26)) 25 true,gG 28 (.fld 1 (tT 3)) 25 true,gG 29 (.load 1 false (tT 28)) 25 true,gG 30 (.call (.val (.func 106 [])) [(tT 27),(tT 29)]) 25 true,sS 31 (.pick (tT 25) (tT 30) (bB false)),sS 4 (.mov (tT 31))] [4] [])
.ret)),[.tmp 4],false,false,false⟩
def F164 : AFunc := ⟨1,(.seq
(.region [sS 1 (.box 1 6 (tT 0)),sS 2 (.alloc 2 [pZ,pZ,.tl [],pZ,pZ,.tl [],pZ]),sS 3 (.mov (bB false))] [1,2] [1,2])
(.seq
(.seq
(.region [sS 13 (.fld 0 (tT 1)),sS 14 (.fld 1 (tT 13)),sS 15 (.load 1 false (tT 14)),sS 16 (.len 0 (tT 15)),sS 17 (.bin .gtr (tT 16) (zZ 12)),sS 18 (.mov (tT 17)),gG 19 (.fld 2 (tT 1)) 18 false,gG 20 (.load 1 false (tT 19)) 18 false,gG 21 (.len 0 (tT 20)) 18 false,gG 22 (.bin .gtr (tT 21) (zZ 12)) 18 false,sS 23 (.pick (tT 18) (bB true) (tT 22))] [1,2,23] [1,2])
(.cond (tT 23)
(.seq
(.region [sS 24 (.build [pZ,pZ,.tl [],pZ,pZ,.tl [],pZ] []),nN (.store 7 (tT 2) (tT 24)),sS 3 (.mov (bB false))] [2,3] [2])
.ret)
.skip))
(.seq
(.region [sS 26 (.fld 0 (tT 1)),sS 27 (.fld 0 (tT 26)),sS 28 (.load 1 false (tT 27)),sS 29 (.fld 0 (tT 1)),sS 30 (.fld 1 (tT 29)),sS 31 (.load 1 false (tT 30)),sS 32 (.call (.val (.func 184 [])) [(tT 28),(tT 31)]),sS 33 (.call (.val (.func 25 [])) [(tT 32)]),sS 25 (.mov (tT 33)),sS 34 (.ext (tT 25) 0),sS 35 (.ext (tT 25) 1),sS 4 (.alloc 4 [pZ,pZ,.tl []]),nN (.store 3 (tT 4) (tT 34)),sS 5 (.mov (tT 35))] [1,2,4] [1,2,4])
(.seq
(.region [sS 36 (.fld 0 (tT 1)),sS 37 (.fld 0 (tT 36)),sS 38 (.load 1 false (tT 37)),sS 6 (.mov (tT 38))] [1,2,4,6] [1,2,4])
(.seq
(.region [sS 7 (.mov (.val (.tl [])))] [1,2,4,6,7] [1,2,4])
(.seq
(.seq
(.region [sS 39 (.fld 3 (tT 1)),sS 40 (.load 1 false (tT 39))] [1,2,4,6,7,40] [1,2,4])
(.cond (tT 40)
(.seq
(.region [sS 8 (.mov (zZ 0))] [1,2,4,6,7,8] [1,2,4])
(.block 0
(.loop
(.mask [1,2,4,6,7,8] [1,2,4]
(.seq
(.seq
(.region [sS 41 (.mov (tT 8)),sS 42 (.fld 2 (tT 4)),sS 43 (.load 1 false (tT 42)),sS 44 (.len 0 (tT 43)),sS 45 (.bin .lss (tT 41) (tT 44))] [1,2,4,6,7,8,45] [1,2,4])
(.cond (tT 45)
.skip
(.exit 0)))
(.seq
(.block 1
(.seq
(.region [sS 48 (.fld 2 (tT 4)),sS 49 (.load 1 false (tT 48)),sS 50 (.mov (tT 8)),sS 51 (.idx 4 (tT 49) (tT 50)),sS 52 (.load 4 true (tT 51)),sS 9 (.alloc 9 [pZ,.pv (.bool false),pZ,pZ]),nN (.store 4 (tT 9) (tT 52))] [1,2,4,6,7,8,9] [1,2,4,9])
(.seq
(.region [sS 53 (.fld 2 (tT 9)),sS 54 (.load 1 false (tT 53)),sS 55 (.bin .sub (tT 54) (zZ 1)),sS 56 (.bin .mul (zZ 2) (tT 55)),sS 57 (.conv .u8 (tT 56)),sS 10 (.mov (tT 57))] [1,2,4,6,7,8,9,10] [1,2,4,9])
(.seq
(.seq
(.region [sS 58 (.fld 1 (tT 9)),sS 59 (.load 1 false (tT 58)),sS 60 (.un .not (tT 59))] [1,2,4,6,7,8,9,10,60] [1,2,4,9])
(.cond (tT 60)
(.region [sS 61 (.mov (tT 10)),sS 62 (.bin .add (tT 61) (.val (.pv (.int .u8 1)))),sS 10 (.mov (tT 62))] [1,2,4,6,7,8,9,10] [1,2,4,9])
.skip))
(.seq
(.region [sS 63 (.fld 4 (tT 1)),sS 64 (.load 1 false (tT 63)),sS 65 (.mov (tT 8)),sS 66 (.bin .rem (tT 65) (zZ 8)),sS 67 (.bin .shr (tT 64) (tT 66)),sS 68 (.bin .and (tT 67) (.val (.pv (.int .u8 1)))),sS 69 (.bin .eql (tT 68) (.val (.pv (.int .u8 0))))] [1,2,4,6,7,8,9,10,69] [1,2,4,9])
(.cond (tT 69)
(.region [sS 70 (.mov (tT 7)),sS 71 (.fld 0 (tT 9)),sS 72 (.load 1 false (tT 71)),sS 73 (.conv .u8 (tT 72)),sS 74 (.mov (tT 10)),sS 75 (.fld 3 (tT 9)),sS 76 (.load 1 false (tT 75)),sS 77 (.conv .u8 (tT 76)),sS 78 (.build [.pv (.int .u8 0),.pv (.int .u8 0),.pv (.int .u8 0)] [(0,1,(tT 73)),(1,1,(tT 74)),(2,1,(tT 77))]),sS 79 (.lit 3 [.pv (.int .u8 0),.pv (.int .u8 0),.pv (.int .u8 0)] 1 [(0,3,(tT 78))]),sS 80 (.app 3 (tT 70) (tT 79)),sS 7 (.mov (tT 80))] [1,2,4,6,7,8] [1,2,4])
.skip))))))
(.region [sS 46 (.mov (tT 8)),sS 47 (.bin .add (tT 46) (zZ 1)),sS 8 (.mov (tT 47))] [1,2,4,6,7,8] [1,2,4])))))))
(.region [sS 81 (.fld 0 (tT 1)),sS 82 (.fld 0 (tT 81)),sS 83 (.load 1 false (tT 82)),sS 84 (.fld 4 (tT 1)),sS 85 (.load 1 false (tT 84)),sS 86 (.bin .add (tT 83) (tT 85)),sS 6 (.mov (tT 86))] [1,2,4,6,7] [1,2,4])))
(.seq
(.region [sS 87 (.mov (tT 7)),sS 88 (.fld 2 (tT 1)),sS 89 (.load 1 false (tT 88)),sS 90 (.app 3 (tT 87) (tT 89)),sS 7 (.mov (tT 90))] [1,2,4,6,7] [1,2,4])
(.seq
(.region [sS 92 (.mov (tT 6)),sS 93 (.mov (tT 7)),sS 94 (.call (.val (.func 184 [])) [(tT 92),(tT 93)]),sS 95 (.call (.val (.func 25 [])) [(tT 94)]),sS 91 (.mov (tT 95)),sS 96 (.ext (tT 91) 0),sS 97 (.ext (tT 91) 1),sS 11 (.alloc 11 [pZ,pZ,.tl []]),nN (.store 3 (tT 11) (tT 96)),sS 12 (.mov (tT 97))] [1,2,4,11] [1,2,4,11])
(.seq
(.region [sS 98 (.load 3 true (tT 4)),sS 99 (.load 3 true (tT 11)),sS 100 (.fld 5 (tT 1)),sS 101 (.load 1 false (tT 100)),sS 102 (.bin .rem (tT 101) (.val (.pv (.int .u8 2)))),sS 103 (.conv .i64 (tT 102)),sS 104 (.bin .add (zZ 1) (tT 103)),sS 105 (.build [pZ,pZ,.tl [],pZ,pZ,.tl [],pZ] [(0,3,(tT 98)),(3,3,(tT 99)),(6,1,(tT 104))]),nN (.store 7 (tT 2) (tT 105)),sS 3 (.mov (bB true))] [2,3] [2])
.ret))))))))),[.cell 2 7 true,.tmp 3],false,false,false⟩
def F167 : AFunc := ⟨1,(.seq
(.region [sS 1 (.box 1 7 (tT 0)),sS 2 (.mov (.val (.tl [])))] [1] [1])
(.seq
(.region [sS 9 (.load 7 true (tT 1)),sS 10 (.call (.val (.func 156 [])) [(tT 9)]),sS 11 (.lit 4 [pZ,pZ,.tl [],.tl []] 1 [(0,4,(tT 10))]),sS 3 (.mov (tT 11))] [1,3] [1])
(.seq
(.seq
(.region [sS 4 (.mov (zZ 0))] [1,3,4] [1])
(.block 0
(.loop
(.mask [1,3,4] [1]
(.seq
(.seq
(.region [sS 12 (.mov (tT 4)),sS 13 (.mov (tT 3)),sS 14 (.len 0 (tT 13)),sS 15 (.bin .lss (tT 12) (tT 14))] [1,3,4,15] [1])
(.cond (tT 15)
.skip
(.exit 0)))
(.seq
(.block 1
(.seq
(.draw [(sS 18 (.load 7 true (tT 1)),[]),(sS 19 (.mov (tT 3)),[]),(sS 20 (.mov (tT 4)),[]),(sS 21 (.idx 4 (tT 19) (tT 20)),[]),(sS 22 (.load 4 true (tT 21)),[]),(sS 23 (.call (.val (.func 173 [])) [(tT 18),(tT 22)]),[]),(sS 5 (.mov (tT 23)),[])] [1,3,4,5] [1])
(.seq
(.region [sS 6 (.mov (zZ 0))] [1,3,4,5,6] [1])
(.block 2
(.loop
(.mask [1,3,4,5,6] [1]
(.seq
(.seq
(.region [sS 24 (.mov (tT 6)),sS 25 (.mov (tT 5)),sS 26 (.len 0 (tT 25)),sS 27 (.bin .lss (tT 24) (tT 26))] [1,3,4,5,6,27] [1])
(.cond (tT 27)
.skip
(.exit 2)))
(.seq
(.block 3
(.seq
(.draw [(sS 31 (.load 7 true (tT 1)),[]),(sS 32 (.mov (tT 3)),[]),(sS 33 (.mov (tT 4)),[]),(sS 34 (.idx 4 (tT 32) (tT 33)),[]),(sS 35 (.load 4 true (tT 34)),[]),(sS 36 (.mov (tT 5)),[]),(sS 37 (.mov (tT 6)),[]),(sS 38 (.idx 3 (tT 36) (tT 37)),[]),(sS 39 (.load 3 true (tT 38)),[]),(sS 40 (.call (.val (.func 183 [])) [(tT 31),(tT 35),(tT 39)]),[]),(sS 30 (.mov (tT 40)),[]),(sS 41 (.ext (tT 30) 0),[]),(sS 42 (.ext (tT 30) 1),[]),(sS 7 (.alloc 7 [pZ,pZ,.tl [],.tl []]),[0,3,4,7,8,9]),(nN (.store 4 (tT 7) (tT 41)),[]),(sS 8 (.mov (tT 42)),[])] [1,3,4,5,6,7] [1,7])
(.seq
(.region [sS 43 (.mov (tT 3)),sS 44 (.load 4 true (tT 7)),sS 45 (.call (.val (.func 168 [])) [(tT 43),(tT 44)]),sS 46 (.bin .lss (tT 45) (zZ 0))] [1,3,4,5,6,7,46] [1,7])
(.cond (tT 46)
(.region [sS 47 (.mov (tT 3)),sS 48 (.load 4 true (tT 7)),sS 49 (.lit 4 [pZ,pZ,.tl [],.tl []] 1 [(0,4,(tT 48))]),sS 50 (.app 4 (tT 47) (tT 49)),sS 3 (.mov (tT 50))] [1,3,4,5,6] [1])
.skip))))
(.region [sS 28 (.mov (tT 6)),sS 29 (.bin .add (tT 28) (zZ 1)),sS 6 (.mov (tT 29))] [1,3,4,5,6] [1])))))))))
(.region [sS 16 (.mov (tT 4)),sS 17 (.bin .add (tT 16) (zZ 1)),sS 4 (.mov (tT 17))] [1,3,4] [1])))))))
(.seq
(.region [sS 51 (.mov (tT 3)),sS 2 (.mov (tT 51))] [2] [])
.ret)))),[.tmp 2],false,false,false⟩
def F168 : AFunc := ⟨2,(.seq
(.region [sS 3 (.box 3 4 (tT 1)),sS 4 (.mov (zZ 0))] [0,3] [3])
(.seq
(.seq
(.region [sS 5 (.mov (zZ 0))] [0,3,5] [3])
(.block 0
(.loop
(.mask [0,3,5] [3]
(.seq
(.seq
(.region [sS 6 (.mov (tT 5)),sS 7 (.mov (tT 0)),sS 8 (.len 0 (tT 7)),sS 9 (.bin .lss (tT 6) (tT 8))] [0,3,5,9] [3])
(.cond (tT 9)
.skip
(.exit 0)))
(.seq
(.block 1
(.seq
(.draw [(sS 12 (.mov (tT 0)),[]),(sS 13 (.mov (tT 5)),[]),(sS 14 (.idx 4 (tT 12) (tT 13)),[]),(sS 15 (.load 4 true (tT 14)),[]),(sS 16 (.load 4 true (tT 3)),[]),(sS 17 (.call (.val (.func 154 [])) [(tT 15),(tT 16)]),[])] [0,3,5,17] [3])
(.cond (tT 17)
(.seq
(.region [sS 18 (.mov (tT 5)),sS 4 (.mov (tT 18))] [4] [])
.ret)
.skip)))
(.region [sS 10 (.mov (tT 5)),sS 11 (.bin .add (tT 10) (zZ 1)),sS 5 (.mov (tT 11))] [0,3,5] [3])))))))
(.seq
(.region [sS 4 (.mov (.val (.pv (.int .i64 (-1)))))] [4] [])
.ret))),[.tmp 4],false,false,false⟩
def F169 : AFunc := ⟨1,(.seq
(.region [sS 1 (.box 1 4 (tT 0)),sS 2 (.alloc 2 [pZ,pZ,.tl [],.tl []])] [1,2] [1,2])
(.seq
(.region [sS 3 (.fld 1 (tT 1)),sS 4 (.load 1 false (tT 3)),sS 5 (.fld 0 (tT 1)),sS 6 (.load 1 false (tT 5)),sS 7 (.fld 3 (tT 1)),sS 8 (.load 1 false (tT 7)),sS 9 (.fld 2 (tT 1)),sS 10 (.load 1 false (tT 9)),sS 11 (.build [pZ,pZ,.tl [],.tl []] [(0,1,(tT 4)),(1,1,(tT 6)),(2,1,(tT 8)),(3,1,(tT 10))]),nN (.store 4 (tT 2) (tT 11))] [2] [2])
.ret)),[.cell 2 4 true],false,false,false⟩
def F171 : AFunc := ⟨2,(.seq
(.region [sS 2 (.box 2 7 (tT 0)),sS 3 (.box 3 4 (tT 1)),sS 4 (.mov (.val (.tl []))),sS 5 (.mov (zZ 0))] [2,3] [2,3])
(.seq
(.seq
(.region [sS 7 (.load 7 true (tT 2)),sS 8 (.load 4 true (tT 3)),sS 9 (.call (.val (.func 187 [])) [(tT 7),(tT 8)]),sS 6 (.mov (tT 9))] [2,3,6] [2,3])
(.seq
(.region [sS 10 (.mov (tT 6)),sS 11 (.bin .neq (tT 10) (zZ 0))] [2,3,6,11] [2,3])
(.cond (tT 11)
(.seq
(.region [sS 12 (.mov (tT 6)),sS 4 (.mov (.val (.tl []))),sS 5 (.mov (tT 12))] [4,5] [])
.ret)
.skip)))
(.seq
(.region [sS 13 (.load 7 true (tT 2)),sS 14 (.load 4 true (tT 3)),sS 15 (.call (.val (.func 186 [])) [(tT 13),(tT 14)]),sS 4 (.mov (tT 15)),sS 5 (.mov (zZ 0))] [4,5] [])
.ret))),[.tmp 4,.tmp 5],false,false,false⟩
def F173 : AFunc := ⟨2,(.seq
(.region [sS 2 (.box 2 7 (tT 0)),sS 3 (.box 3 4 (tT 1)),sS 4 (.mov (.val (.tl [])))] [2,3] [2,3])
(.seq
(.region [sS 5 (.mov (.val (.tl [])))] [2,3,5] [2,3])
(.seq
(.seq
(.region [sS 6 (.mov (zZ 0))] [2,3,5,6] [2,3])
(.block 0
(.loop
(.mask [2,3,5,6] [2,3]
(.seq
(.seq
(.region [sS 13 (.mov (tT 6)),sS 14 (.bin .lss (tT 13) (zZ 2))] [2,3,5,6,14] [2,3])
(.cond (tT 14)
.skip
(.exit 0)))
(.seq
(.block 1
(.seq
(.draw [(sS 17 (.fld 0 (tT 2)),[]),(sS 18 (.fld 2 (tT 17)),[]),(sS 19 (.load 1 false (tT 18)),[]),(sS 20 (.fld 0 (tT 3)),[]),(sS 21 (.load 1 false (tT 20)),[]),(sS 7 (.mov (tT 19)),[]),(sS 8 (.mov (tT 21)),[])] [2,3,5,6,7,8] [2,3])
(.seq
(.seq
(.region [sS 22 (.mov (tT 6)),sS 23 (.bin .eql (tT 22) (zZ 1))] [2,3,5,6,7,8,23] [2,3])
(.cond (tT 23)
(.draw [(sS 24 (.fld 3 (tT 2)),[]),(sS 25 (.fld 2 (tT 24)),[]),(sS 26 (.load 1 false (tT 25)),[]),(sS 27 (.fld 1 (tT 3)),[]),(sS 28 (.load 1 false (tT 27)),[]),(sS 7 (.mov (tT 26)),[]),(sS 8 (.mov (tT 28)),[])] [2,3,5,6,7,8] [2,3])
.skip))
(.seq
(.region [sS 9 (.mov (zZ 0))] [2,3,5,6,7,8,9] [2,3])
(.block 2
(.loop
(.mask [2,3,5,6,7,8,9] [2,3]
(.seq
(.seq
(.region [sS 29 (.mov (tT 9)),sS 30 (.mov (tT 7)),sS 31 (.len 0 (tT 30)),sS 32 (.bin .lss (tT 29) (tT 31))] [2,3,5,6,7,8,9,32] [2,3])
(.cond (tT 32)
.skip
(.exit 2)))
(.seq
(.block 3
(.seq
(.draw [(sS 35 (.mov (tT 6)),[]),(sS 36 (.mov (tT 7)),[]),(sS 37 (.mov (tT 9)),[]),(sS 38 (.idx 4 (tT 36) (tT 37)),[]),(sS 39 (.fld 1 (tT 38)),[]),(sS 40 (.load 1 false (tT 39)),[]),(sS 41 (.mov (tT 7)),[]),(sS 42 (.mov (tT 9)),[]),(sS 43 (.idx 4 (tT 41) (tT 42)),[]),(sS 44 (.fld 2 (tT 43)),[]),(sS 45 (.load 1 false (tT 44)),[]),(sS 46 (.build [pZ,.pv (.bool false),pZ] [(0,1,(tT 35)),(1,1,(tT 40)),(2,1,(tT 45))]),[]),(sS 10 (.alloc 10 [pZ,.pv (.bool false),pZ]),[3,5,8,10]),(nN (.store 3 (tT 10) (tT 46)),[])] [2,3,5,6,7,8,9,10] [2,3,10])
(.seq
(.seq
(.region [sS 47 (.mov (tT 7)),sS 48 (.mov (tT 9)),sS 49 (.idx 4 (tT 47) (tT 48)),sS 50 (.fld 0 (tT 49)),sS 51 (.load 1 false (tT 50)),sS 52 (.mov (tT 8)),sS 53 (.bin .neq (tT 51) (tT 52))] [2,3,5,6,7,8,9,10,53] [2,3,10])
(.cond (tT 53)
(.exit 3)
.skip))
(.seq
(.region [sS 55 (.load 7 true (tT 2)),sS 56 (.load 4 true (tT 3)),sS 57 (.load 3 true (tT 10)),sS 58 (.call (.val (.func 183 [])) [(tT 55),(tT 56),(tT 57)]),sS 54 (.mov (tT 58)),sS 59 (.ext (tT 54) 0),sS 60 (.ext (tT 54) 1),sS 11 (.alloc 11 [pZ,pZ,.tl [],.tl []]),nN (.store 4 (tT 11) (tT 59)),sS 12 (.mov (tT 60))] [2,3,5,6,7,8,9,10,12] [2,3,10])
(.seq
(.region [sS 61 (.mov (tT 12))] [2,3,5,6,7,8,9,10,61] [2,3,10])
(.cond (tT 61)
(.region [sS 62 (.mov (tT 5)),sS 63 (.load 3 true (tT 10)),sS 64 (.lit 3 [pZ,.pv (.bool false),pZ] 1 [(0,3,(tT 63))]),sS 65 (.app 3 (tT 62) (tT 64)),sS 5 (.mov (tT 65))] [2,3,5,6,7,8,9] [2,3])
.skip))))))
(.region [sS 33 (.mov (tT 9)),sS 34 (.bin .add (tT 33) (zZ 1)),sS 9 (.mov (tT 34))] [2,3,5,6,7,8,9] [2,3]))))))))))
(.region [sS 15 (.mov (tT 6)),sS 16 (.bin .add (tT 15) (zZ 1)),sS 6 (.mov (tT 16))] [2,3,5,6] [2,3])))))))
(.seq
(.region [sS 66 (.mov (tT 5)),sS 4 (.mov (tT 66))] [4] [])
.ret)))),[.tmp 4],false,false,false⟩
def F174 : AFunc := ⟨3,(.seq
(.region [sS 3 (.box 3 7 (tT 0)),sS 4 (.box 4 4 (tT 1)),sS 5 (.box 5 3 (tT 2)),sS 6 (.alloc 6 [pZ,pZ,.tl [],.tl []]),sS 7 (.mov (zZ 0))] [3,4,5,6] [3,4,5,6])
(.seq
(.seq
(.region [sS 11 (.load 7 true (tT 3)),sS 12 (.load 4 true (tT 4)),sS 13 (.call (.val (.func 187 [])) [(tT 11),(tT 12)]),sS 8 (.mov (tT 13))] [3,4,5,6,8] [3,4,5,6])
(.seq
(.region [sS 14 (.mov (tT 8)),sS 15 (.bin .neq (tT 14) (zZ 0))] [3,4,5,6,8,15] [3,4,5,6])
(.cond (tT 15)
(.seq
(.region [sS 16 (.build [pZ,pZ,.tl [],.tl []] []),sS 17 (.mov (tT 8)),nN (.store 4 (tT 6) (tT 16)),sS 7 (.mov (tT 17))] [6,7] [6])
.ret)
.skip)))
(.seq
(.region [sS 19 (.load 7 true (tT 3)),sS 20 (.load 4 true (tT 4)),sS 21 (.load 3 true (tT 5)),sS 22 (.call (.val (.func 182 [])) [(tT 19),(tT 20),(tT 21)]),sS 18 (.mov (tT 22)),sS 23 (.ext (tT 18) 0),sS 24 (.ext (tT 18) 1),sS 9 (.alloc 9 [pZ,pZ,.tl [],.tl []]),nN (.store 4 (tT 9) (tT 23)),sS 10 (.mov (tT 24))] [6,9,10] [6,9])
(.seq
(.seq
(.region [sS 25 (.mov (tT 10)),sS 26 (.un .not (tT 25))] [6,9,26] [6,9])
(.cond (tT 26)
(.seq
(.region [sS 27 (.build [pZ,pZ,.tl [],.tl []] []),nN (.store 4 (tT 6) (tT 27)),sS 7 (.mov (zZ 11))] [6,7] [6])
.ret)
.skip))
(.seq
(.region [sS 28 (.load 4 true (tT 9)),nN (.store 4 (tT 6) (tT 28)),sS 7 (.mov (zZ 0))] [6,7] [6])
.ret))))),[.cell 6 4 true,.tmp 7],false,false,false⟩
def F176 : AFunc := ⟨2,(.seq
(.region [sS 4 (.mov (bB false))] [0,1] [])
(.seq
(.seq
(.region [sS 6 (.mov (tT 0)),sS 7 (.len 0 (tT 6)),sS 8 (.mov (tT 1)),sS 9 (.len 0 (tT 8)),sS 10 (.bin .neq (tT 7) (tT 9))] [0,1,10] [])
(.cond (tT 10)
(.seq
(.region [sS 4 (.mov (bB false))] [4] [])
.ret)
.skip))
(.seq
(.seq
(.region [sS 5 (.mov (zZ 0))] [0,1,5] [])
(.block 0
(.loop
(.mask [0,1,5] []
(.seq
(.seq
(.region [sS 11 (.mov (tT 5)),sS 12 (.mov (tT 0)),sS 13 (.len 0 (tT 12)),sS 14 (.bin .lss (tT 11) (tT 13))] [0,1,5,14] [])
(.cond (tT 14)
.skip
(.exit 0)))
(.seq
(.block 1
(.seq
(.draw [(sS 17 (.mov (tT 0)),[]),(sS 18 (.mov (tT 5)),[]),(sS 19 (.idx 1 (tT 17) (tT 18)),[]),(sS 20 (.load 1 false (tT 19)),[]),(sS 21 (.mov (tT 1)),[]),(sS 22 (.mov (tT 5)),[]),(sS 23 (.idx 1 (tT 21) (tT 22)),[]),(sS 24 (.load 1 false (tT 23)),[]),(sS 25 (.bin .neq (tT 20) (tT 24)),[])] [0,1,5,25] [])
(.cond (tT 25)
(.seq
(.region [sS 4 (.mov (bB false))] [4] [])
.ret)
.skip)))
(.region [sS 15 (.mov (tT 5)),sS 16 (.bin .add (tT 15) (zZ 1)),sS 5 (.mov (tT 16))] [0,1,5] [])))))))
(.seq
(.region [sS 4 (.mov (bB true))] [4] [])
.ret)))),[.tmp 4],false,false,false⟩
def F177 : AFunc := ⟨2,(.seq
(.region [sS 4 (.mov (bB false))] [0,1] [])
(.seq
(.region [sS 5 (.mov (tT 0)),sS 6 (.len 0 (tT 5)),sS 7 (.mov (tT 1)),sS 8 (.bin .leq (tT 6) (tT 7)),sS 9 (.mov (tT 8)),gG 10 (.mov (tT 0)) 9 true,gG 11 (.call (.val (.func 108 [])) [(tT 10),(.val (.func 188 []))]) 9 true,gG 12 (.un .not (tT 11)) 9 true,sS 13 (.pick (tT 9) (tT 12) (bB false)),sS 4 (.mov (tT 13))] [4] [])
.ret)),[.tmp 4],false,false,false⟩
def F178 : AFunc := ⟨2,(.seq
(.region [sS 4 (.mov (bB false))] [0,1] [])
(.seq
(.seq
(.region [sS 5 (.mov (zZ 0))] [0,1,5] [])
(.block 0
(.loop
(.mask [0,1,5] []
(.seq
(.seq
(.region [sS 6 (.mov (tT 5)),sS 7 (.mov (tT 0)),sS 8 (.len 0 (tT 7)),sS 9 (.bin .lss (tT 6) (tT 8))] [0,1,5,9] [])
(.cond (tT 9)
.skip
(.exit 0)))
(.seq
(.block 1
(.seq
(.region [sS 12 (.mov (tT 0)),sS 13 (.mov (tT 5)),sS 14 (.idx 1 (tT 12) (tT 13)),sS 15 (.load 1 false (tT 14)),sS 16 (.bin .lss (tT 15) (zZ 1)),sS 17 (.mov (tT 16)),gG 18 (.mov (tT 0)) 17 false,gG 19 (.mov (tT 5)) 17 false,gG 20 (.idx 1 (tT 18) (tT 19)) 17 false,gG 21 (.load 1 false (tT 20)) 17 false,gG 22 (.bin .gtr (tT 21) (zZ 1000)) 17 false,sS 23 (.pick (tT 17) (bB true) (tT 22))] [0,1,5,23] [])
(.cond (tT 23)
(.seq
(.region [sS 4 (.mov (bB false))] [4] [])
.ret)
.skip)))
(.region [sS 10 (.mov (tT 5)),sS 11 (.bin .add (tT 10) (zZ 1)),sS 5 (.mov (tT 11))] [0,1,5] [])))))))
(.seq
(.region [sS 24 (.mov (tT 0)),sS 25 (.len 0 (tT 24)),sS 26 (.mov (tT 1)),sS 27 (.bin .leq (tT 25) (tT 26)),sS 4 (.mov (tT 27))] [4] [])
.ret))),[.tmp 4],false,false,false⟩
def F179 : AFunc := ⟨2,(.seq
(.region [sS 2 (.box 2 3 (tT 0)),sS 3 (.box 3 1 (tT 1)),sS 4 (.mov (bB false))] [2,3] [2,3])
(.seq
(.region [sS 5 (.fld 2 (tT 2)),sS 6 (.load 1 false (tT 5)),sS 7 (.clos 181 [(tT 3)]),sS 8 (.call (.val (.func 180 [])) [(tT 6),(tT 7)]),sS 4 (.mov (tT 8))] [4] [])
.ret)),[.tmp 4],false,false,false⟩
def F180 : AFunc := ⟨2,(.seq
(.region [sS 4 (.mov (bB false))] [0,1] [])
(.seq
(.region [sS 5 (.mov (tT 0)),sS 6 (.mov (tT 1)),sS 7 (.call (.val (.func 77 [])) [(tT 5),(tT 6)]),sS 8 (.bin .geq (tT 7) (zZ 0)),sS 4 (.mov (tT 8))] [4] [])
.ret)),[.tmp 4],false,false,false⟩
def F181 : AFunc := ⟨2,(.seq
(.region [sS 2 (.box 2 4 (tT 0)),sS 3 (.mov (bB false))] [1,2] [2])
(.seq
(.region [sS 4 (.fld 0 (tT 2)),sS 5 (.load 1 false (tT 4)),sS 6 (.load 1 false (tT 1)),sS 7 (.bin .eql (tT 5) (tT 6)),sS 3 (.mov (tT 7))] [3] [])
.ret)),[.tmp 3],false,false,false⟩
def F182 : AFunc := ⟨3,(.seq
(.region [sS 3 (.box 3 7 (tT 0)),sS 4 (.box 4 4 (tT 1)),sS 5 (.box 5 3 (tT 2)),sS 6 (.alloc 6 [pZ,pZ,.tl [],.tl []]),sS 7 (.mov (bB false))] [3,4,5,6] [3,4,5,6])
(.seq
(.seq
(.region [sS 11 (.fld 0 (tT 5)),sS 12 (.load 1 false (tT 11)),sS 13 (.bin .neq (tT 12) (zZ 0)),sS 14 (.mov (tT 13)),gG 15 (.fld 0 (tT 5)) 14 true,gG 16 (.load 1 false (tT 15)) 14 true,gG 17 (.bin .neq (tT 16) (zZ 1)) 14 true,sS 18 (.pick (tT 14) (tT 17) (bB false))] [3,4,5,6,18] [3,4,5,6])
(.cond (tT 18)
(.seq
(.region [sS 19 (.build [pZ,pZ,.tl [],.tl []] []),nN (.store 4 (tT 6) (tT 19)),sS 7 (.mov (bB false))] [6,7] [6])
.ret)
.skip))
(.seq
(.region [sS 20 (.load 7 true (tT 3)),sS 21 (.load 4 true (tT 4)),sS 22 (.fld 0 (tT 5)),sS 23 (.load 1 false (tT 22)),sS 24 (.call (.val (.func 189 [])) [(tT 20),(tT 21),(tT 23)]),sS 8 (.alloc 8 [pZ,pZ,.tl [],pZ,.tl [],.tl [],pZ]),nN (.store 7 (tT 8) (tT 24))] [4,5,6,8] [4,5,6,8])
(.seq
(.region [sS 26 (.fld 0 (tT 8)),sS 27 (.load 3 true (tT 26)),sS 28 (.fld 3 (tT 8)),sS 29 (.load 1 false (tT 28)),sS 30 (.fld 1 (tT 5)),sS 31 (.load 1 false (tT 30)),sS 32 (.fld 2 (tT 5)),sS 33 (.load 1 false (tT 32)),sS 34 (.call (.val (.func 45 [])) [(tT 27),(tT 29),(tT 31),(tT 33)]),sS 25 (.mov (tT 34)),sS 35 (.ext (tT 25) 0),sS 36 (.ext (tT 25) 1),sS 9 (.mov (tT 35)),sS 10 (.mov (tT 36))] [4,5,6,8,9,10] [4,5,6,8])
(.seq
(.block 0
(.seq
(.region [sS 38 (.mov (tT 10)),sS 39 (.un .not (tT 38)),sS 37 (.mov (tT 39))] [4,5,6,8,9,37] [4,5,6,8])
(.cond (tT 37)
(.seq
(.region [sS 40 (.build [pZ,pZ,.tl [],.tl []] []),nN (.store 4 (tT 6) (tT 40)),sS 7 (.mov (bB false))] [6,7] [6])
.ret)
(.seq
(.region [sS 42 (.fld 1 (tT 5)),sS 43 (.load 1 false (tT 42)),sS 41 (.mov (tT 43))] [4,5,6,8,9,41] [4,5,6,8])
(.cond (tT 41)
(.seq
(.draw [(sS 44 (.load 4 true (tT 4)),[]),(sS 45 (.fld 0 (tT 5)),[]),(sS 46 (.load 1 false (tT 45)),[]),(sS 47 (.mov (tT 9)),[]),(sS 48 (.fld 4 (tT 8)),[]),(sS 49 (.load 1 false (tT 48)),[]),(sS 50 (.fld 5 (tT 8)),[]),(sS 51 (.load 1 false (tT 50)),[]),(sS 52 (.call (.val (.func 191 [])) [(tT 51)]),[0,2,5]),(sS 53 (.fld 2 (tT 5)),[]),(sS 54 (.load 1 false (tT 53)),[8]),(sS 55 (.lit 1 [pZ] 1 [(0,1,(tT 54))]),[0,2,5,7,8]),(sS 56 (.app 1 (tT 52) (tT 55)),[0,2,5]),(sS 57 (.call (.val (.func 190 [])) [(tT 44),(tT 46),(tT 47),(tT 49),(tT 56)]),[]),(sS 58 (.fld 5 (tT 8)),[]),(sS 59 (.load 1 false (tT 58)),[8,11,12,13]),(sS 60 (.len 0 (tT 59)),[8,11,12,13]),(sS 61 (.fld 6 (tT 8)),[]),(sS 62 (.load 1 false (tT 61)),[8,11,12,13]),(sS 63 (.bin .lss (tT 60) (tT 62)),[]),(nN (.store 4 (tT 6) (tT 57)),[15,16,18]),(sS 7 (.mov (tT 63)),[])] [6,7] [6])
.ret)
(.seq
(.draw [(sS 65 (.fld 4 (tT 8)),[]),(sS 66 (.load 1 false (tT 65)),[]),(sS 67 (.len 0 (tT 66)),[]),(sS 68 (.bin .eql (tT 67) (zZ 0)),[]),(sS 69 (.mov (tT 68)),[]),(gG 70 (.fld 4 (tT 8)) 69 false,[]),(gG 71 (.load 1 false (tT 70)) 69 false,[]),(gG 72 (.idx 1 (tT 71) (zZ 0)) 69 false,[]),(gG 73 (.load 1 false (tT 72)) 69 false,[]),(gG 74 (.fld 2 (tT 5)) 69 false,[]),(gG 75 (.load 1 false (tT 74)) 69 false,[]),(gG 76 (.bin .neq (tT 73) (tT 75)) 69 false,[]),(sS 77 (.pick (tT 69) (bB true) (tT 76)),[]),(sS 64 (.mov (tT 77)),[])] [4,5,6,8,9,64] [4,5,6,8])
(.cond (tT 64)
(.seq
(.region [sS 78 (.build [pZ,pZ,.tl [],.tl []] []),nN (.store 4 (tT 6) (tT 78)),sS 7 (.mov (bB false))] [6,7] [6])
.ret)
.skip)))))))
(.seq
(.draw [(sS 79 (.load 4 true (tT 4)),[]),(sS 80 (.fld 0 (tT 5)),[]),(sS 81 (.load 1 false (tT 80)),[]),(sS 82 (.mov (tT 9)),[]),(sS 83 (.fld 4 (tT 8)),[]),(sS 84 (.load 1 false (tT 83)),[]),(sS 85 (.sl 1 (tT 84) (some (zZ 1)) none none),[]),(sS 86 (.fld 5 (tT 8)),[]),(sS 87 (.load 1 false (tT 86)),[]),(sS 88 (.call (.val (.func 190 [])) [(tT 79),(tT 81),(tT 82),(tT 85),(tT 87)]),[]),(nN (.store 4 (tT 6) (tT 88)),[]),(sS 7 (.mov (bB true)),[])] [6,7] [6])
.ret)))))),[.cell 6 4 true,.tmp 7],false,false,false⟩
def F183 : AFunc := ⟨3,(.seq
(.region [sS 3 (.box 3 7 (tT 0)),sS 4 (.box 4 4 (tT 1)),sS 5 (.box 5 3 (tT 2)),sS 6 (.alloc 6 [pZ,pZ,.tl [],.tl []]),sS 7 (.mov (bB false))] [3,4,5,6] [3,4,5,6])
(.seq
(.seq
(.region [sS 10 (.fld 0 (tT 5)),sS 11 (.load 1 false (tT 10)),sS 12 (.bin .eql (tT 11) (zZ 0))] [3,4,5,6,12] [3,4,5,6])
(.cond (tT 12)
(.seq
(.region [sS 13 (.load 7 true (tT 3)),sS 14 (.load 4 true (tT 4)),sS 15 (.fld 1 (tT 5)),sS 16 (.load 1 false (tT 15)),sS 17 (.fld 2 (tT 5)),sS 18 (.load 1 false (tT 17)),sS 19 (.call (.val (.func 192 [])) [(tT 13),(tT 14),(tT 16),(tT 18)]),sS 20 (.ext (tT 19) 0),sS 21 (.ext (tT 19) 1),nN (.store 4 (tT 6) (tT 20)),sS 7 (.mov (tT 21))] [6,7] [6])
.ret)
.skip))
(.seq
(.seq
(.region [sS 22 (.fld 0 (tT 5)),sS 23 (.load 1 false (tT 22)),sS 24 (.bin .neq (tT 23) (zZ 1))] [3,4,5,6,24] [3,4,5,6])
(.cond (tT 24)
(.seq
(.region [sS 25 (.build [pZ,pZ,.tl [],.tl []] []),nN (.store 4 (tT 6) (tT 25)),sS 7 (.mov (bB false))] [6,7] [6])
.ret)
.skip))
(.seq
(.draw [(sS 27 (.fld 3 (tT 3)),[]),(sS 28 (.load 3 true (tT 27)),[]),(sS 29 (.fld 0 (tT 3)),[]),(sS 30 (.load 3 true (tT 29)),[]),(sS 31 (.fld 6 (tT 3)),[]),(sS 32 (.load 1 false (tT 31)),[]),(sS 33 (.build [pZ,pZ,.tl [],pZ,pZ,.tl [],pZ] [(0,3,(tT 28)),(3,3,(tT 30)),(6,1,(tT 32))]),[]),(sS 34 (.load 4 true (tT 4)),[]),(sS 35 (.call (.val (.func 169 [])) [(tT 34)]),[1,3,5]),(sS 36 (.fld 1 (tT 5)),[]),(sS 37 (.load 1 false (tT 36)),[8]),(sS 38 (.fld 2 (tT 5)),[]),(sS 39 (.load 1 false (tT 38)),[8]),(sS 40 (.call (.val (.func 192 [])) [(tT 33),(tT 35),(tT 37),(tT 39)]),[]),(sS 26 (.mov (tT 40)),[]),(sS 41 (.ext (tT 26) 0),[]),(sS 42 (.ext (tT 26) 1),[]),(sS 8 (.alloc 8 [pZ,pZ,.tl [],.tl []]),[1,3,5,7,8,10,12,13]),(nN (.store 4 (tT 8) (tT 41)),[]),(sS 9 (.mov (tT 42)),[])] [6,8,9] [6,8])
(.seq
(.region [sS 43 (.load 4 true (tT 8)),sS 44 (.call (.val (.func 169 [])) [(tT 43)]),sS 45 (.mov (tT 9)),nN (.store 4 (tT 6) (tT 44)),sS 7 (.mov (tT 45))] [6,7] [6])
.ret))))),[.cell 6 4 true,.tmp 7],false,false,false⟩
def F184 : AFunc := ⟨2,(.seq
(.region [sS 4 (.alloc 4 [.pv (.int .u8 0),.tl []])] [0,1,4] [4])
(.seq
(.region [sS 8 (.mov (tT 0)),sS 9 (.bin .rem (tT 8) (.val (.pv (.int .u8 3)))),sS 10 (.build [.pv (.int .u8 0),.tl []] [(0,1,(tT 9))]),sS 5 (.alloc 5 [.pv (.int .u8 0),.tl []]),nN (.store 2 (tT 5) (tT 10))] [1,4,5] [4,5])
(.seq
(.seq
(.region [sS 6 (.mov (zZ 0))] [1,4,5,6] [4,5])
(.block 0
(.loop
(.mask [1,4,5,6] [4,5]
(.seq
(.seq
(.region [sS 11 (.mov (tT 6)),sS 12 (.mov (tT 1)),sS 13 (.len 0 (tT 12)),sS 14 (.bin .lss (tT 11) (tT 13)),sS 15 (.mov (tT 14)),gG 16 (.mov (tT 6)) 15 true,gG 17 (.bin .lss (tT 16) (zZ 12)) 15 true,sS 18 (.pick (tT 15) (tT 17) (bB false))] [1,4,5,6,18] [4,5])
(.cond (tT 18)
.skip
(.exit 0)))
(.seq
(.block 1
(.seq
(.region [sS 21 (.mov (tT 1)),sS 22 (.mov (tT 6)),sS 23 (.idx 3 (tT 21) (tT 22)),sS 24 (.load 3 true (tT 23)),sS 7 (.alloc 7 [.pv (.int .u8 0),.pv (.int .u8 0),.pv (.int .u8 0)]),nN (.store 3 (tT 7) (tT 24))] [1,4,5,6,7] [4,5,7])
(.seq
(.draw [(sS 25 (.fld 0 (tT 7)),[]),(sS 26 (.load 1 false (tT 25)),[]),(sS 27 (.fld 0 (tT 5)),[]),(sS 28 (.load 1 false (tT 27)),[]),(sS 29 (.bin .add (tT 28) (.val (.pv (.int .u8 1)))),[]),(sS 30 (.bin .rem (tT 26) (tT 29)),[]),(sS 31 (.fld 2 (tT 7)),[]),(sS 32 (.load 1 false (tT 31)),[]),(sS 33 (.fld 0 (tT 5)),[]),(sS 34 (.load 1 false (tT 33)),[]),(sS 35 (.bin .add (tT 34) (.val (.pv (.int .u8 1)))),[]),(sS 36 (.bin .rem (tT 32) (tT 35)),[]),(sS 37 (.fld 1 (tT 7)),[]),(sS 38 (.load 1 false (tT 37)),[]),(sS 39 (.bin .rem (tT 38) (.val (.pv (.int .u8 4)))),[]),(sS 40 (.fld 0 (tT 7)),[]),(nN (.store 1 (tT 40) (tT 30)),[9]),(sS 41 (.fld 2 (tT 7)),[]),(nN (.store 1 (tT 41) (tT 36)),[]),(sS 42 (.fld 1 (tT 7)),[]),(nN (.store 1 (tT 42) (tT 39)),[])] [1,4,5,6,7] [4,5,7])
(.region [sS 43 (.fld 1 (tT 5)),sS 44 (.load 1 false (tT 43)),sS 45 (.load 3 true (tT 7)),sS 46 (.lit 3 [.pv (.int .u8 0),.pv (.int .u8 0),.pv (.int .u8 0)] 1 [(0,3,(tT 45))]),sS 47 (.app 3 (tT 44) (tT 46)),sS 48 (.fld 1 (tT 5)),nN (.store 1 (tT 48) (tT 47))] [1,4,5,6] [4,5]))))
(.region [sS 19 (.mov (tT 6)),sS 20 (.bin .add (tT 19) (zZ 1)),sS 6 (.mov (tT 20))] [1,4,5,6] [4,5])))))))
(.seq
(.region [sS 49 (.load 2 true (tT 5)),nN (.store 2 (tT 4) (tT 49))] [4] [4])
.ret)))),[.cell 4 2 true],false,false,false⟩
def F186 : AFunc := ⟨2,(.seq
(.region [sS 2 (.box 2 7 (tT 0)),sS 3 (.box 3 4 (tT 1)),sS 4 (.mov (.val (.tl [])))] [2,3] [2,3])
(.seq
(.region [sS 5 (.mov (.val (.tl [])))] [2,3,5] [2,3])
(.seq
(.seq
(.region [sS 13 (.mov (zZ 0))] [2,3,5,13] [2,3])
(.block 0
(.loop
(.mask [2,3,5,13] [2,3]
(.seq
(.region [sS 14 (.bin .lss (tT 13) (zZ 2))] [2,3,5,13,14] [2,3])
(.seq
(.cond (tT 14)
.skip
(.exit 0))
(.seq
(.block 1
(.seq
(.region [sS 15 (.mov (tT 13)),sS 6 (.mov (tT 15))] [2,3,5,6,13] [2,3])
(.seq
(.region [sS 16 (.load 7 true (tT 2)),sS 17 (.load 4 true (tT 3)),sS 18 (.mov (tT 6)),sS 19 (.call (.val (.func 189 [])) [(tT 16),(tT 17),(tT 18)]),sS 7 (.alloc 7 [pZ,pZ,.tl [],pZ,.tl [],.tl [],pZ]),nN (.store 7 (tT 7) (tT 19))] [2,3,5,6,7,13] [2,3,7])
(.seq
(.region [sS 20 (.fld 0 (tT 7)),sS 21 (.fld 2 (tT 20)),sS 22 (.load 1 false (tT 21)),sS 23 (.len 0 (tT 22)),sS 24 (.mov (zZ 0))] [2,3,5,6,7,13,22,23,24] [2,3,7])
(.block 2
(.loop
(.mask [2,3,5,6,7,13,22,23,24] [2,3,7]
(.seq
(.region [sS 25 (.bin .lss (tT 24) (tT 23))] [2,3,5,6,7,13,22,23,24,25] [2,3,7])
(.seq
(.cond (tT 25)
.skip
(.exit 2))
(.seq
(.block 3
(.seq
(.region [sS 26 (.idx 4 (tT 22) (tT 24)),sS 27 (.load 4 true (tT 26)),sS 9 (.alloc 9 [pZ,.pv (.bool false),pZ,pZ]),nN (.store 4 (tT 9) (tT 27))] [2,3,5,6,7,9,13,22,23,24] [2,3,7,9])
(.seq
(.region [sS 28 (.mov (tT 6)),sS 29 (.fld 1 (tT 9)),sS 30 (.load 1 false (tT 29)),sS 31 (.fld 2 (tT 9)),sS 32 (.load 1 false (tT 31)),sS 33 (.build [pZ,.pv (.bool false),pZ] [(0,1,(tT 28)),(1,1,(tT 30)),(2,1,(tT 32))]),sS 10 (.alloc 10 [pZ,.pv (.bool false),pZ]),nN (.store 3 (tT 10) (tT 33))] [2,3,5,6,7,9,10,13,22,23,24] [2,3,7,9,10])
(.seq
(.seq
(.region [sS 34 (.fld 0 (tT 9)),sS 35 (.load 1 false (tT 34)),sS 36 (.fld 3 (tT 7)),sS 37 (.load 1 false (tT 36)),sS 38 (.bin .neq (tT 35) (tT 37))] [2,3,5,6,7,10,13,22,23,24,38] [2,3,7,10])
(.cond (tT 38)
(.exit 3)
.skip))
(.seq
(.region [sS 40 (.load 7 true (tT 2)),sS 41 (.load 4 true (tT 3)),sS 42 (.load 3 true (tT 10)),sS 43 (.call (.val (.func 182 [])) [(tT 40),(tT 41),(tT 42)]),sS 39 (.mov (tT 43)),sS 44 (.ext (tT 39) 0),sS 45 (.ext (tT 39) 1),sS 11 (.alloc 11 [pZ,pZ,.tl [],.tl []]),nN (.store 4 (tT 11) (tT 44)),sS 12 (.mov (tT 45))] [2,3,5,6,7,10,12,13,22,23,24] [2,3,7,10])
(.seq
(.region [sS 46 (.mov (tT 12))] [2,3,5,6,7,10,13,22,23,24,46] [2,3,7,10])
(.cond (tT 46)
(.region [sS 47 (.mov (tT 5)),sS 48 (.load 3 true (tT 10)),sS 49 (.lit 3 [pZ,.pv (.bool false),pZ] 1 [(0,3,(tT 48))]),sS 50 (.app 3 (tT 47) (tT 49)),sS 5 (.mov (tT 50))] [2,3,5,6,7,13,22,23,24] [2,3,7])
.skip)))))))
(.region [sS 51 (.bin .add (tT 24) (zZ 1)),sS 24 (.mov (tT 51))] [2,3,5,6,7,13,22,23,24] [2,3,7])))))))))))
(.region [sS 52 (.bin .add (tT 13) (zZ 1)),sS 13 (.mov (tT 52))] [2,3,5,13] [2,3]))))))))
(.seq
(.region [sS 53 (.mov (tT 5)),sS 54 (.call (.val (.func 196 [])) [(tT 53),(.val (.func 197 []))])] [5] [])
(.seq
(.region [sS 55 (.mov (tT 5)),sS 4 (.mov (tT 55))] [4] [])
.ret))))),[.tmp 4],false,false,false⟩
def F187 : AFunc := ⟨2,(.seq
(.region [sS 2 (.box 2 7 (tT 0)),sS 3 (.box 3 4 (tT 1)),sS 4 (.mov (zZ 0))] [2,3] [2,3])
(.seq
(.seq
(.region [sS 6 (.load 7 true (tT 2)),sS 7 (.call (.val (.func 152 [])) [(tT 6)]),sS 5 (.mov (tT 7))] [2,3,5] [2,3])
(.seq
(.region [sS 8 (.mov (tT 5)),sS 9 (.bin .neq (tT 8) (zZ 0))] [2,3,5,9] [2,3])
(.cond (tT 9)
(.seq
(.region [sS 10 (.mov (tT 5)),sS 4 (.mov (tT 10))] [4] [])
.ret)
.skip)))
(.seq
(.seq
(.region [sS 11 (.load 7 true (tT 2)),sS 12 (.load 4 true (tT 3)),sS 13 (.call (.val (.func 157 [])) [(tT 11),(tT 12)]),sS 14 (.un .not (tT 13))] [14] [])
(.cond (tT 14)
(.seq
(.region [sS 4 (.mov (zZ 1))] [4] [])
.ret)
.skip))
(.seq
(.region [sS 4 (.mov (zZ 0))] [4] [])
.ret)))),[.tmp 4],false,false,false⟩
def F188 : AFunc := ⟨1,(.seq
(.region [sS 2 (.mov (bB false))] [0] [])
(.seq
(.region [sS 3 (.mov (tT 0)),sS 4 (.bin .lss (tT 3) (zZ 1)),sS 5 (.mov (tT 4)),gG 6 (.mov (tT 0)) 5 false,gG 7 (.bin .gtr (tT 6) (zZ 1000)) 5 false,sS 8 (.pick (tT 5) (bB true) (tT 7)),sS 2 (.mov (tT 8))] [2] [])
.ret)),[.tmp 2],false,false,false⟩
def F189 : AFunc := ⟨3,(.seq
(.region [sS 3 (.box 3 7 (tT 0)),sS 4 (.box 4 4 (tT 1)),sS 6 (.alloc 6 [pZ,pZ,.tl [],pZ,.tl [],.tl [],pZ])] [2,3,4,6] [3,4,6])
(.seq
(.seq
(.region [sS 7 (.mov (tT 2)),sS 8 (.bin .eql (tT 7) (zZ 0))] [3,4,6,8] [3,4,6])
(.cond (tT 8)
(.seq
(.region [sS 9 (.fld 0 (tT 3)),sS 10 (.load 3 true (tT 9)),sS 11 (.fld 0 (tT 4)),sS 12 (.load 1 false (tT 11)),sS 13 (.fld 2 (tT 4)),sS 14 (.load 1 false (tT 13)),sS 15 (.fld 3 (tT 4)),sS 16 (.load 1 false (tT 15)),sS 17 (.fld 6 (tT 3)),sS 18 (.load 1 false (tT 17)),sS 19 (.build [pZ,pZ,.tl [],pZ,.tl [],.tl [],pZ] [(0,3,(tT 10)),(3,1,(tT 12)),(4,1,(tT 14)),(5,1,(tT 16)),(6,1,(tT 18))]),nN (.store 7 (tT 6) (tT 19))] [6] [6])
.ret)
.skip))
(.seq
(.region [sS 20 (.fld 3 (tT 3)),sS 21 (.load 3 true (tT 20)),sS 22 (.fld 1 (tT 4)),sS 23 (.load 1 false (tT 22)),sS 24 (.fld 3 (tT 4)),sS 25 (.load 1 false (tT 24)),sS 26 (.fld 2 (tT 4)),sS 27 (.load 1 false (tT 26)),sS 28 (.fld 6 (tT 3)),sS 29 (.load 1 false (tT 28)),sS 30 (.build [pZ,pZ,.tl [],pZ,.tl [],.tl [],pZ] [(0,3,(tT 21)),(3,1,(tT 23)),(4,1,(tT 25)),(5,1,(tT 27)),(6,1,(tT 29))]),nN (.store 7 (tT 6) (tT 30))] [6] [6])
.ret))),[.cell 6 7 true],false,false,false⟩
def F190 : AFunc := ⟨5,(.seq
(.region [sS 5 (.box 5 4 (tT 0)),sS 10 (.alloc 10 [pZ,pZ,.tl [],.tl []])] [1,2,3,4,5,10] [5,10])
(.seq
(.seq
(.region [sS 11 (.mov (tT 1)),sS 12 (.bin .eql (tT 11) (zZ 0))] [2,3,4,5,10,12] [5,10])
(.cond (tT 12)
(.seq
(.draw [(sS 13 (.mov (tT 2)),[]),(sS 14 (.fld 1 (tT 5)),[]),(sS 15 (.load 1 false (tT 14)),[]),(sS 16 (.mov (tT 3)),[]),(sS 17 (.call (.val (.func 191 [])) [(tT 16)]),[2]),(sS 18 (.mov (tT 4)),[]),(sS 19 (.call (.val (.func 191 [])) [(tT 18)]),[2]),(sS 20 (.build [pZ,pZ,.tl [],.tl []] [(0,1,(tT 13)),(1,1,(tT 15)),(2,1,(tT 17)),(3,1,(tT 19))]),[]),(nN (.store 4 (tT 10) (tT 20)),[])] [10] [10])
.ret)
.skip))
(.seq
(.draw [(sS 21 (.fld 0 (tT 5)),[]),(sS 22 (.load 1 false (tT 21)),[]),(sS 23 (.mov (tT 2)),[]),(sS 24 (.mov (tT 4)),[]),(sS 25 (.call (.val (.func 191 [])) [(tT 24)]),[1]),(sS 26 (.mov (tT 3)),[]),(sS 27 (.call (.val (.func 191 [])) [(tT 26)]),[1]),(sS 28 (.build [pZ,pZ,.tl [],.tl []] [(0,1,(tT 22)),(1,1,(tT 23)),(2,1,(tT 25)),(3,1,(tT 27))]),[]),(nN (.store 4 (tT 10) (tT 28)),[])] [10] [10])
.ret))),[.cell 10 4 true],false,false,false⟩
def F192 : AFunc := ⟨4,(.seq
(.region [sS 4 (.box 4 7 (tT 0)),sS 5 (.box 5 4 (tT 1)),sS 8 (.alloc 8 [pZ,pZ,.tl [],.tl []]),sS 9 (.mov (bB false))] [2,3,4,5,8] [4,5,8])
(.seq
(.region [sS 14 (.fld 0 (tT 4)),sS 15 (.load 3 true (tT 14)),sS 16 (.fld 0 (tT 5)),sS 17 (.load 1 false (tT 16)),sS 18 (.mov (tT 2)),sS 19 (.mov (tT 3)),sS 20 (.call (.val (.func 39 [])) [(tT 15),(tT 17),(tT 18),(tT 19)]),sS 13 (.mov (tT 20)),sS 21 (.ext (tT 13) 0),sS 22 (.ext (tT 13) 1),sS 10 (.mov (tT 21)),sS 11 (.mov (tT 22))] [2,3,4,5,8,10,11] [4,5,8])
(.seq
(.seq
(.region [sS 23 (.mov (tT 11)),sS 24 (.un .not (tT 23))] [2,3,4,5,8,10,24] [4,5,8])
(.cond (tT 24)
(.seq
(.region [sS 25 (.build [pZ,pZ,.tl [],.tl []] []),nN (.store 4 (tT 8) (tT 25)),sS 9 (.mov (bB false))] [8,9] [8])
.ret)
.skip))
(.seq
(.draw [(sS 26 (.mov (tT 10)),[]),(sS 27 (.fld 1 (tT 5)),[]),(sS 28 (.load 1 false (tT 27)),[]),(sS 29 (.lit 1 [pZ] 0 []),[2]),(sS 30 (.fld 2 (tT 5)),[]),(sS 31 (.load 1 false (tT 30)),[3]),(sS 32 (.app 1 (tT 29) (tT 31)),[2]),(sS 33 (.lit 1 [pZ] 0 []),[2,3,5,6]),(sS 34 (.fld 3 (tT 5)),[]),(sS 35 (.load 1 false (tT 34)),[3,6,7]),(sS 36 (.app 1 (tT 33) (tT 35)),[2]),(sS 37 (.build [pZ,pZ,.tl [],.tl []] [(0,1,(tT 26)),(1,1,(tT 28)),(2,1,(tT 32)),(3,1,(tT 36))]),[]),(sS 12 (.alloc 12 [pZ,pZ,.tl [],.tl []]),[2,3,5,6,7,9,10]),(nN (.store 4 (tT 12) (tT 37)),[])] [2,3,4,5,8,12] [4,5,8,12])
(.seq
(.seq
(.region [sS 38 (.mov (tT 2))] [3,4,5,8,12,38] [4,5,8,12])
(.cond (tT 38)
(.seq
(.region [sS 39 (.fld 3 (tT 12)),sS 40 (.load 1 false (tT 39)),sS 41 (.mov (tT 3)),sS 42 (.lit 1 [pZ] 1 [(0,1,(tT 41))]),sS 43 (.app 1 (tT 40) (tT 42)),sS 44 (.fld 3 (tT 12)),nN (.store 1 (tT 44) (tT 43))] [4,5,8,12] [4,5,8,12])
(.seq
(.draw [(sS 45 (.load 4 true (tT 12)),[]),(sS 46 (.fld 3 (tT 5)),[]),(sS 47 (.load 1 false (tT 46)),[]),(sS 48 (.len 0 (tT 47)),[]),(sS 49 (.fld 6 (tT 4)),[]),(sS 50 (.load 1 false (tT 49)),[]),(sS 51 (.bin .lss (tT 48) (tT 50)),[]),(nN (.store 4 (tT 8) (tT 45)),[2,3,5]),(sS 9 (.mov (tT 51)),[])] [8,9] [8])
.ret))
.skip))
(.seq
(.seq
(.region [sS 52 (.fld 2 (tT 5)),sS 53 (.load 1 false (tT 52)),sS 54 (.len 0 (tT 53)),sS 55 (.bin .eql (tT 54) (zZ 0)),sS 56 (.mov (tT 55)),gG 57 (.fld 2 (tT 5)) 56 false,gG 58 (.load 1 false (tT 57)) 56 false,gG 59 (.idx 1 (tT 58) (zZ 0)) 56 false,gG 60 (.load 1 false (tT 59)) 56 false,gG 61 (.mov (tT 3)) 56 false,gG 62 (.bin .neq (tT 60) (tT 61)) 56 false,sS 63 (.pick (tT 56) (bB true) (tT 62))] [8,12,63] [8,12])
(.cond (tT 63)
(.seq
(.region [sS 64 (.build [pZ,pZ,.tl [],.tl []] []),nN (.store 4 (tT 8) (tT 64)),sS 9 (.mov (bB false))] [8,9] [8])
.ret)
.skip))
(.seq
(.region [sS 65 (.fld 2 (tT 12)),sS 66 (.load 1 false (tT 65)),sS 67 (.sl 1 (tT 66) (some (zZ 1)) none none),sS 68 (.fld 2 (tT 12)),nN (.store 1 (tT 68) (tT 67))] [8,12] [8,12])
(.seq
(.region [sS 69 (.load 4 true (tT 12)),nN (.store 4 (tT 8) (tT 69)),sS 9 (.mov (bB true))] [8,9] [8])
.ret)))))))),[.cell 8 4 true,.tmp 9],false,false,false⟩
def F197 : AFunc := ⟨2,(.seq
(.region [sS 2 (.box 2 3 (tT 0)),sS 3 (.box 3 3 (tT 1)),sS 4 (.mov (zZ 0))] [2,3] [2,3])
(.seq
(.draw [(sS 5 (.fld 0 (tT 2)),[]),(sS 6 (.load 1 false (tT 5)),[]),(sS 7 (.fld 0 (tT 3)),[]),(sS 8 (.load 1 false (tT 7)),[]),(sS 9 (.call (.val (.func 60 [])) [(tT 6),(tT 8)]),[]),(sS 10 (.fld 1 (tT 2)),[]),(sS 11 (.load 1 false (tT 10)),[4]),(sS 12 (.call (.val (.func 198 [])) [(tT 11)]),[]),(sS 13 (.fld 1 (tT 3)),[]),(sS 14 (.load 1 false (tT 13)),[4,7]),(sS 15 (.call (.val (.func 198 [])) [(tT 14)]),[]),(sS 16 (.call (.val (.func 60 [])) [(tT 12),(tT 15)]),[]),(sS 17 (.fld 2 (tT 2)),[]),(sS 18 (.load 1 false (tT 17)),[4,7,10,11]),(sS 19 (.fld 2 (tT 3)),[]),(sS 20 (.load 1 false (tT 19)),[4,7,10,11]),(sS 21 (.call (.val (.func 60 [])) [(tT 18),(tT 20)]),[]),(sS 22 (.lit 1 [pZ] 3 [(0,1,(tT 9)),(1,1,(tT 16)),(2,1,(tT 21))]),[]),(sS 23 (.call (.val (.func 59 [])) [(tT 22)]),[]),(sS 4 (.mov (tT 23)),[])] [4] [])
.ret)),[.tmp 4],false,false,false⟩
def F198 : AFunc := ⟨1,(.seq
(.region [sS 2 (.mov (zZ 0))] [0] [])
(.seq
(.seq
(.region [sS 3 (.mov (tT 0))] [3] [])
(.cond (tT 3)
(.seq
(.region [sS 2 (.mov (zZ 1))] [2] [])
.ret)
.skip))
(.seq
(.region [sS 2 (.mov (zZ 0))] [2] [])
.ret))),[.tmp 2],false,false,false⟩
def F235 : AFunc := ⟨0,(.seq
(.region [sS 0 (.mov (bB false))] [] [])
(.seq
(.region [sS 11 (.call (.val (.func 244 [])) [(bB false)]),sS 12 (.call (.val (.func 236 [])) [(tT 11)]),sS 10 (.mov (tT 12)),sS 13 (.ext (tT 10) 0),sS 14 (.ext (tT 10) 1),sS 1 (.mov (tT 13)),sS 2 (.mov (tT 14))] [1,2] [])
(.seq
(.region [sS 16 (.call (.val (.func 244 [])) [(bB true)]),sS 17 (.call (.val (.func 240 [])) [(tT 16)]),sS 15 (.mov (tT 17)),sS 18 (.ext (tT 15) 0),sS 19 (.ext (tT 15) 1),sS 20 (.ext (tT 15) 2),sS 21 (.ext (tT 15) 3),sS 4 (.alloc 4 [pZ,pZ,.tl [],.tl []]),sS 3 (.mov (tT 18)),nN (.store 4 (tT 4) (tT 19)),sS 5 (.mov (tT 20)),sS 6 (.mov (tT 21))] [1,2,3,5,6] [])
(.seq
(.region [sS 23 (.call (.val (.func 244 [])) [(bB true)]),sS 24 (.lit 1 [pZ] 1 [(0,1,(zZ 3))]),sS 25 (.lit 1 [pZ] 1 [(0,1,(zZ 1))]),sS 26 (.build [pZ,pZ,.tl [],.tl []] [(0,1,(zZ 1)),(1,1,(zZ 2)),(2,1,(tT 24)),(3,1,(tT 25))]),sS 27 (.call (.val (.func 241 [])) [(tT 23),(tT 26)]),sS 22 (.mov (tT 27)),sS 28 (.ext (tT 22) 0),sS 29 (.ext (tT 22) 1),sS 7 (.mov (tT 28)),sS 8 (.mov (tT 29))] [1,2,3,5,6,7,8] [])
(.seq
(.region [sS 30 (.mov (tT 2)),sS 31 (.bin .eql (tT 30) (zZ 0)),sS 32 (.mov (tT 31)),gG 33 (.mov (tT 6)) 32 true,gG 34 (.bin .eql (tT 33) (zZ 0)) 32 true,sS 35 (.pick (tT 32) (tT 34) (bB false)),sS 36 (.mov (tT 35)),gG 37 (.mov (tT 8)) 36 true,gG 38 (.bin .eql (tT 37) (zZ 0)) 36 true,sS 39 (.pick (tT 36) (tT 38) (bB false)),sS 40 (.mov (tT 39)),gG 41 (.mov (tT 1)) 40 true,gG 42 (.len 0 (tT 41)) 40 true,gG 43 (.bin .eql (tT 42) (zZ 5)) 40 true,sS 44 (.pick (tT 40) (tT 43) (bB false)),sS 9 (.mov (tT 44))] [1,3,5,7,9] [])
(.seq
(.region [sS 45 (.mov (tT 9)),sS 46 (.mov (tT 45)),gG 47 (.mov (tT 1)) 46 true,gG 48 (.idx 5 (tT 47) (zZ 0)) 46 true,gG 49 (.fld 4 (tT 48)) 46 true,gG 50 (.load 1 false (tT 49)) 46 true,gG 51 (.bin .eql (tT 50) (zZ 4)) 46 true,sS 52 (.pick (tT 46) (tT 51) (bB false)),sS 53 (.mov (tT 52)),gG 54 (.mov (tT 1)) 53 true,gG 55 (.idx 5 (tT 54) (zZ 4)) 53 true,gG 56 (.fld 4 (tT 55)) 53 true,gG 57 (.load 1 false (tT 56)) 53 true,gG 58 (.bin .eql (tT 57) (zZ 0)) 53 true,sS 59 (.pick (tT 53) (tT 58) (bB false)),sS 60 (.mov (tT 59)),gG 61 (.mov (tT 3)) 60 true,gG 62 (.build [pZ,.pv (.bool false),pZ] [(0,1,(zZ 1)),(1,1,(bB true)),(2,1,(zZ 3))]) 60 true,gG 63 (.lit 3 [pZ,.pv (.bool false),pZ] 1 [(0,3,(tT 62))]) 60 true,gG 64 (.call (.val (.func 245 [])) [(tT 61),(tT 63)]) 60 true,sS 65 (.pick (tT 60) (tT 64) (bB false)),sS 66 (.mov (tT 65)),gG 67 (.mov (tT 5)) 66 true,gG 68 (.bin .eql (tT 67) (zZ 4)) 66 true,sS 69 (.pick (tT 66) (tT 68) (bB false)),sS 70 (.mov (tT 69)),gG 71 (.mov (tT 7)) 70 true,gG 72 (.bin .eql (tT 71) (zZ 1)) 70 true,sS 73 (.pick (tT 70) (tT 72) (bB false)),sS 0 (.mov (tT 73))] [0] [])
.ret)))))),[.tmp 0],false,false,false⟩
def F236 : AFunc := ⟨1,(.seq
(.region [sS 1 (.box 1 7 (tT 0)),sS 2 (.mov (.val (.tl []))),sS 3 (.mov (zZ 0))] [1] [1])
(.seq
(.region [sS 10 (.load 7 true (tT 1)),sS 11 (.call (.val (.func 246 [])) [(tT 10)]),sS 9 (.mov (tT 11)),sS 12 (.ext (tT 9) 0),sS 13 (.ext (tT 9) 1),sS 4 (.mov (tT 12)),sS 5 (.mov (tT 13))] [4,5] [])
(.seq
(.seq
(.region [sS 14 (.mov (tT 5)),sS 15 (.bin .neq (tT 14) (zZ 0))] [4,5,15] [])
(.cond (tT 15)
(.seq
(.region [sS 16 (.mov (tT 5)),sS 2 (.mov (.val (.tl []))),sS 3 (.mov (tT 16))] [2,3] [])
.ret)
.skip))
(.seq
(.region [sS 6 (.mov (.val (.tl [])))] [4,6] [])
(.seq
(.seq
(.region [sS 17 (.mov (tT 4)),sS 18 (.call (.val (.func 247 [])) [(tT 17)]),sS 19 (.len 0 (tT 18)),sS 20 (.mov (zZ 0))] [4,6,18,19,20] [])
(.block 0
(.loop
(.mask [4,6,18,19,20] []
(.seq
(.region [sS 21 (.bin .lss (tT 20) (tT 19))] [4,6,18,19,20,21] [])
(.seq
(.cond (tT 21)
.skip
(.exit 0))
(.seq
(.block 1
(.seq
(.region [sS 22 (.mov (tT 20)),sS 23 (.idx 1 (tT 18) (tT 20)),sS 24 (.load 1 false (tT 23)),sS 7 (.mov (tT 22)),sS 8 (.mov (tT 24))] [4,6,7,8,18,19,20] [])
(.seq
(.seq
(.region [sS 25 (.mov (tT 8)),sS 26 (.bin .lss (tT 25) (zZ 0))] [4,6,7,8,18,19,20,26] [])
(.cond (tT 26)
(.seq
(.region [sS 2 (.mov (.val (.tl []))),sS 3 (.mov (zZ 18))] [2,3] [])
.ret)
.skip))
(.region [sS 27 (.mov (tT 6)),sS 28 (.mov (tT 4)),sS 29 (.nilck (tT 28)),sS 30 (.fld 7 (tT 29)),sS 31 (.load 1 false (tT 30)),sS 32 (.mov (tT 7)),sS 33 (.idx 4 (tT 31) (tT 32)),sS 34 (.load 4 true (tT 33)),sS 35 (.mov (tT 8)),sS 36 (.build [pZ,pZ,.tl [],.tl [],pZ] [(0,4,(tT 34)),(4,1,(tT 35))]),sS 37 (.lit 5 [pZ,pZ,.tl [],.tl [],pZ] 1 [(0,5,(tT 36))]),sS 38 (.app 5 (tT 27) (tT 37)),sS 6 (.mov (tT 38))] [4,6,18,19,20] []))))
(.region [sS 39 (.bin .add (tT 20) (zZ 1)),sS 20 (.mov (tT 39))] [4,6,18,19,20] []))))))))
(.seq
(.region [sS 40 (.mov (tT 6)),sS 2 (.mov (tT 40)),sS 3 (.mov (zZ 0))] [2,3] [])
.ret)))))),[.tmp 2,.tmp 3],false,false,false⟩
def F240 : AFunc := ⟨1,(.seq
(.region [sS 1 (.box 1 7 (tT 0)),sS 2 (.mov (.val (.tl []))),sS 3 (.alloc 3 [pZ,pZ,.tl [],.tl []]),sS 4 (.mov (zZ 0)),sS 5 (.mov (zZ 0))] [1,3] [1,3])
(.seq
(.region [sS 10 (.load 7 true (tT 1)),sS 11 (.call (.val (.func 246 [])) [(tT 10)]),sS 9 (.mov (tT 11)),sS 12 (.ext (tT 9) 0),sS 13 (.ext (tT 9) 1),sS 6 (.mov (tT 12)),sS 7 (.mov (tT 13))] [1,3,6,7] [1,3])
(.seq
(.seq
(.region [sS 14 (.mov (tT 7)),sS 15 (.bin .neq (tT 14) (zZ 0))] [1,3,6,7,15] [1,3])
(.cond (tT 15)
(.seq
(.region [sS 16 (.build [pZ,pZ,.tl [],.tl []] []),sS 17 (.mov (tT 7)),sS 2 (.mov (.val (.tl []))),nN (.store 4 (tT 3) (tT 16)),sS 4 (.mov (zZ 0)),sS 5 (.mov (tT 17))] [2,3,4,5] [3])
.ret)
.skip))
(.seq
(.region [sS 18 (.mov (tT 6)),sS 19 (.call (.val (.func 247 [])) [(tT 18)]),sS 20 (.call (.val (.func 118 [])) [(tT 19),(.val (.pv (.int .i64 (-1))))]),sS 8 (.mov (tT 20))] [1,3,6,8] [1,3])
(.seq
(.seq
(.region [sS 21 (.mov (tT 8)),sS 22 (.bin .lss (tT 21) (zZ 0))] [1,3,6,8,22] [1,3])
(.cond (tT 22)
(.seq
(.region [sS 23 (.build [pZ,pZ,.tl [],.tl []] []),sS 2 (.mov (.val (.tl []))),nN (.store 4 (tT 3) (tT 23)),sS 4 (.mov (zZ 0)),sS 5 (.mov (zZ 15))] [2,3,4,5] [3])
.ret)
.skip))
(.seq
(.draw [(sS 24 (.mov (tT 6)),[]),(sS 25 (.mov (tT 8)),[]),(sS 26 (.call (.val (.func 249 [])) [(tT 24),(tT 25)]),[]),(sS 27 (.mov (tT 6)),[]),(sS 28 (.nilck (tT 27)),[]),(sS 29 (.fld 7 (tT 28)),[]),(sS 30 (.load 1 false (tT 29)),[2]),(sS 31 (.mov (tT 8)),[]),(sS 32 (.idx 4 (tT 30) (tT 31)),[2]),(sS 33 (.load 4 true (tT 32)),[2]),(sS 34 (.load 7 true (tT 1)),[2]),(sS 35 (.mov (tT 6)),[]),(sS 36 (.nilck (tT 35)),[]),(sS 37 (.fld 7 (tT 36)),[]),(sS 38 (.load 1 false (tT 37)),[2]),(sS 39 (.mov (tT 8)),[]),(sS 40 (.idx 4 (tT 38) (tT 39)),[2]),(sS 41 (.load 4 true (tT 40)),[2]),(sS 42 (.mov (tT 6)),[]),(sS 43 (.nilck (tT 42)),[]),(sS 44 (.fld 8 (tT 43)),[]),(sS 45 (.load 1 false (tT 44)),[2]),(sS 46 (.mov (tT 8)),[]),(sS 47 (.idx 1 (tT 45) (tT 46)),[2]),(sS 48 (.load 1 false (tT 47)),[2]),(sS 49 (.call (.val (.func 250 [])) [(tT 34),(tT 41),(tT 48)]),[6,8,9]),(sS 2 (.mov (tT 26)),[]),(nN (.store 4 (tT 3) (tT 33)),[]),(sS 4 (.mov (tT 49)),[]),(sS 5 (.mov (zZ 0)),[])] [2,3,4,5] [3])
.ret)))))),[.tmp 2,.cell 3 4 true,.tmp 4,.tmp 5],false,false,false⟩
def F241 : AFunc := ⟨2,(.seq
(.region [sS 2 (.box 2 7 (tT 0)),sS 3 (.box 3 4 (tT 1)),sS 4 (.mov (zZ 0)),sS 5 (.mov (zZ 0))] [2,3] [2,3])
(.seq
(.region [sS 9 (.load 7 true (tT 2)),sS 10 (.load 4 true (tT 3)),sS 11 (.call (.val (.func 248 [])) [(tT 9),(tT 10)]),sS 8 (.mov (tT 11)),sS 12 (.ext (tT 8) 0),sS 13 (.ext (tT 8) 1),sS 6 (.mov (tT 12)),sS 7 (.mov (tT 13))] [2,3,6,7] [2,3])
(.seq
(.seq
(.region [sS 14 (.mov (tT 7)),sS 15 (.bin .neq (tT 14) (zZ 0))] [2,3,6,7,15] [2,3])
(.cond (tT 15)
(.seq
(.region [sS 16 (.mov (tT 7)),sS 4 (.mov (zZ 0)),sS 5 (.mov (tT 16))] [4,5] [])
.ret)
.skip))
(.seq
(.seq
(.region [sS 17 (.mov (tT 6)),sS 18 (.call (.val (.func 247 [])) [(tT 17)]),sS 19 (.idx 1 (tT 18) (zZ 0)),sS 20 (.load 1 false (tT 19)),sS 21 (.bin .geq (tT 20) (zZ 0))] [2,3,6,21] [2,3])
(.cond (tT 21)
(.seq
(.region [sS 4 (.mov (zZ 0)),sS 5 (.mov (zZ 15))] [4,5] [])
.ret)
.skip))
(.seq
(.draw [(sS 22 (.load 7 true (tT 2)),[]),(sS 23 (.load 4 true (tT 3)),[]),(sS 24 (.mov (tT 6)),[]),(sS 25 (.nilck (tT 24)),[]),(sS 26 (.fld 8 (tT 25)),[]),(sS 27 (.load 1 false (tT 26)),[]),(sS 28 (.idx 1 (tT 27) (zZ 0)),[]),(sS 29 (.load 1 false (tT 28)),[]),(sS 30 (.call (.val (.func 250 [])) [(tT 22),(tT 23),(tT 29)]),[]),(sS 4 (.mov (tT 30)),[]),(sS 5 (.mov (zZ 0)),[])] [4,5] [])
.ret))))),[.tmp 4,.tmp 5],false,false,false⟩
def F243 : AFunc := ⟨2,(.seq
(.region [sS 2 (.box 2 7 (tT 0)),sS 4 (.mov (bB false))] [1,2] [2])
(.seq
(.seq
(.region [sS 24 (.load 7 true (tT 2)),sS 25 (.call (.val (.func 152 [])) [(tT 24)]),sS 26 (.bin .neq (tT 25) (zZ 0))] [1,2,26] [2])
(.cond (tT 26)
(.seq
(.region [sS 4 (.mov (bB false))] [4] [])
.ret)
.skip))
(.seq
(.region [sS 27 (.mkmap),sS 5 (.mov (tT 27))] [1,2,5] [2])
(.seq
(.seq
(.region [sS 28 (.mov (tT 1)),sS 29 (.len 0 (tT 28)),sS 30 (.mov (zZ 0))] [1,2,5,28,29,30] [2])
(.block 0
(.loop
(.mask [1,2,5,28,29,30] [2]
(.seq
(.region [sS 31 (.bin .lss (tT 30) (tT 29))] [1,2,5,28,29,30,31] [2])
(.seq
(.cond (tT 31)
.skip
(.exit 0))
(.seq
(.block 1
(.seq
(.region [sS 32 (.idx 5 (tT 28) (tT 30)),sS 33 (.load 5 true (tT 32)),sS 7 (.alloc 7 [pZ,pZ,.tl [],.tl [],pZ]),nN (.store 5 (tT 7) (tT 33))] [1,2,5,7,28,29,30] [2,7])
(.seq
(.region [sS 34 (.fld 0 (tT 7)),sS 35 (.load 4 true (tT 34)),sS 36 (.call (.val (.func 251 [])) [(tT 35)]),sS 8 (.mov (tT 36))] [1,2,5,7,8,28,29,30] [2,7])
(.seq
(.seq
(.region [sS 38 (.mov (tT 5)),sS 39 (.mov (tT 8)),sS 40 (.look false [2] (.pv (.int .i64 0)) (tT 38) (tT 39) true),sS 37 (.mov (tT 40)),sS 41 (.ext (tT 37) 0),sS 42 (.ext (tT 37) 1),sS 9 (.mov (tT 41)),sS 10 (.mov (tT 42))] [1,2,5,7,8,10,28,29,30] [2,7])
(.seq
(.region [sS 43 (.mov (tT 10)),sS 44 (.mov (tT 43)),gG 45 (.load 7 true (tT 2)) 44 false,gG 46 (.fld 0 (tT 7)) 44 false,gG 47 (.load 4 true (tT 46)) 44 false,gG 48 (.call (.val (.func 157 [])) [(tT 45),(tT 47)]) 44 false,gG 49 (.un .not (tT 48)) 44 false,sS 50 (.pick (tT 44) (bB true) (tT 49))] [1,2,5,7,8,28,29,30,50] [2,7])
(.cond (tT 50)
(.seq
(.region [sS 4 (.mov (bB false))] [4] [])
.ret)
.skip)))
(.region [sS 51 (.mov (tT 5)),sS 52 (.mov (tT 8)),sS 53 (.fld 4 (tT 7)),sS 54 (.load 1 false (tT 53)),nN (.upd false [2] (tT 51) (tT 52) (tT 54))] [1,2,5,28,29,30] [2])))))
(.region [sS 55 (.bin .add (tT 30) (zZ 1)),sS 30 (.mov (tT 55))] [1,2,5,28,29,30] [2]))))))))
(.seq
(.seq
(.region [sS 57 (.mov (tT 5)),sS 58 (.load 7 true (tT 2)),sS 59 (.call (.val (.func 155 [])) [(tT 58)]),sS 60 (.call (.val (.func 251 [])) [(tT 59)]),sS 61 (.look false [2] (.pv (.int .i64 0)) (tT 57) (tT 60) true),sS 56 (.mov (tT 61)),sS 62 (.ext (tT 56) 0),sS 63 (.ext (tT 56) 1),sS 11 (.mov (tT 62)),sS 12 (.mov (tT 63))] [1,2,5,12] [2])
(.seq
(.region [sS 64 (.mov (tT 12)),sS 65 (.un .not (tT 64))] [1,2,5,65] [2])
(.cond (tT 65)
(.seq
(.region [sS 4 (.mov (bB false))] [4] [])
.ret)
.skip)))
(.seq
(.seq
(.region [sS 66 (.mov (tT 1)),sS 67 (.len 0 (tT 66)),sS 68 (.mov (zZ 0))] [2,5,66,67,68] [2])
(.block 2
(.loop
(.mask [2,5,66,67,68] [2]
(.seq
(.region [sS 69 (.bin .lss (tT 68) (tT 67))] [2,5,66,67,68,69] [2])
(.seq
(.cond (tT 69)
.skip
(.exit 2))
(.seq
(.block 3
(.seq
(.region [sS 70 (.idx 5 (tT 66) (tT 68)),sS 71 (.load 5 true (tT 70)),sS 14 (.alloc 14 [pZ,pZ,.tl [],.tl [],pZ]),nN (.store 5 (tT 14) (tT 71))] [2,5,14,66,67,68] [2,14])
(.seq
(.region [sS 73 (.load 7 true (tT 2)),sS 74 (.fld 0 (tT 14)),sS 75 (.load 4 true (tT 74)),sS 76 (.call (.val (.func 171 [])) [(tT 73),(tT 75)]),sS 72 (.mov (tT 76)),sS 77 (.ext (tT 72) 0),sS 78 (.ext (tT 72) 1),sS 15 (.mov (tT 77)),sS 16 (.mov (tT 78))] [2,5,14,15,16,66,67,68] [2,14])
(.seq
(.seq
(.region [sS 79 (.mov (tT 16)),sS 80 (.bin .neq (tT 79) (zZ 0))] [2,5,14,15,66,67,68,80] [2,14])
(.cond (tT 80)
(.seq
(.region [sS 4 (.mov (bB false))] [4] [])
.ret)
.skip))
(.seq
(.region [sS 17 (.mov (bB false))] [2,5,14,15,17,66,67,68] [2,14])
(.seq
(.seq
(.region [sS 81 (.mov (tT 15)),sS 82 (.len 0 (tT 81)),sS 83 (.mov (zZ 0))] [2,5,14,17,66,67,68,81,82,83] [2,14])
(.block 4
(.loop
(.mask [2,5,14,17,66,67,68,81,82,83] [2,14]
(.seq
(.region [sS 84 (.bin .lss (tT 83) (tT 82))] [2,5,14,17,66,67,68,81,82,83,84] [2,14])
(.seq
(.cond (tT 84)
.skip
(.exit 4))
(.seq
(.block 5
(.seq
(.region [sS 85 (.idx 3 (tT 81) (tT 83)),sS 86 (.load 3 true (tT 85)),sS 19 (.alloc 19 [pZ,.pv (.bool false),pZ]),nN (.store 3 (tT 19) (tT 86))] [2,5,14,17,19,66,67,68,81,82,83] [2,14,19])
(.seq
(.region [sS 88 (.load 7 true (tT 2)),sS 89 (.fld 0 (tT 14)),sS 90 (.load 4 true (tT 89)),sS 91 (.load 3 true (tT 19)),sS 92 (.call (.val (.func 174 [])) [(tT 88),(tT 90),(tT 91)]),sS 87 (.mov (tT 92)),sS 93 (.ext (tT 87) 0),sS 94 (.ext (tT 87) 1),sS 20 (.alloc 20 [pZ,pZ,.tl [],.tl []]),nN (.store 4 (tT 20) (tT 93)),sS 21 (.mov (tT 94))] [2,5,14,17,20,21,66,67,68,81,82,83] [2,14,20])
(.seq
(.region [sS 96 (.mov (tT 5)),sS 97 (.load 4 true (tT 20)),sS 98 (.call (.val (.func 251 [])) [(tT 97)]),sS 99 (.look false [2] (.pv (.int .i64 0)) (tT 96) (tT 98) true),sS 95 (.mov (tT 99)),sS 100 (.ext (tT 95) 0),sS 101 (.ext (tT 95) 1),sS 22 (.mov (tT 100)),sS 23 (.mov (tT 101))] [2,5,14,17,21,22,23,66,67,68,81,82,83] [2,14])
(.seq
(.seq
(.region [sS 102 (.mov (tT 21)),sS 103 (.bin .neq (tT 102) (zZ 0)),sS 104 (.mov (tT 103)),gG 105 (.mov (tT 23)) 104 false,gG 106 (.un .not (tT 105)) 104 false,sS 107 (.pick (tT 104) (bB true) (tT 106))] [2,5,14,17,22,66,67,68,81,82,83,107] [2,14])
(.cond (tT 107)
(.seq
(.region [sS 4 (.mov (bB false))] [4] [])
.ret)
.skip))
(.region [sS 108 (.mov (tT 17)),sS 109 (.mov (tT 108)),gG 110 (.mov (tT 22)) 109 false,gG 111 (.fld 4 (tT 14)) 109 false,gG 112 (.load 1 false (tT 111)) 109 false,gG 113 (.bin .lss (tT 110) (tT 112)) 109 false,sS 114 (.pick (tT 109) (bB true) (tT 113)),sS 17 (.mov (tT 114))] [2,5,14,17,66,67,68,81,82,83] [2,14]))))))
(.region [sS 115 (.bin .add (tT 83) (zZ 1)),sS 83 (.mov (tT 115))] [2,5,14,17,66,67,68,81,82,83] [2,14]))))))))
(.seq
(.region [sS 116 (.fld 4 (tT 14)),sS 117 (.load 1 false (tT 116)),sS 118 (.bin .eql (tT 117) (zZ 0)),sS 119 (.mov (tT 118)),gG 120 (.load 7 true (tT 2)) 119 true,gG 121 (.fld 0 (tT 14)) 119 true,gG 122 (.load 4 true (tT 121)) 119 true,gG 123 (.call (.val (.func 159 [])) [(tT 120),(tT 122)]) 119 true,sS 124 (.pick (tT 119) (tT 123) (bB false)),sS 125 (.mov (tT 124)),gG 126 (.fld 4 (tT 14)) 125 false,gG 127 (.load 1 false (tT 126)) 125 false,gG 128 (.bin .gtr (tT 127) (zZ 0)) 125 false,gG 129 (.mov (tT 128)) 125 false,gG 130 (.mov (tT 17)) 129 true,gG 131 (.pick (tT 129) (tT 130) (bB false)) 125 false,sS 132 (.pick (tT 125) (bB true) (tT 131)),sS 133 (.un .not (tT 132))] [2,5,66,67,68,133] [2])
(.cond (tT 133)
(.seq
(.region [sS 4 (.mov (bB false))] [4] [])
.ret)
.skip))))))))
(.region [sS 134 (.bin .add (tT 68) (zZ 1)),sS 68 (.mov (tT 134))] [2,5,66,67,68] [2]))))))))
(.seq
(.region [sS 4 (.mov (bB true))] [4] [])
.ret))))))),[.tmp 4],false,false,false⟩
def F244 : AFunc := ⟨1,(.seq
(.region [sS 2 (.alloc 2 [pZ,pZ,.tl [],pZ,pZ,.tl [],pZ])] [0,2] [2])
(.seq
(.region [sS 5 (.build [pZ,.pv (.bool false),pZ,pZ] [(0,1,(zZ 0)),(1,1,(bB true)),(2,1,(zZ 1)),(3,1,(zZ 1))]),sS 6 (.build [pZ,.pv (.bool false),pZ,pZ] [(0,1,(zZ 1)),(2,1,(zZ 2)),(3,1,(zZ 2))]),sS 7 (.lit 4 [pZ,.pv (.bool false),pZ,pZ] 2 [(0,4,(tT 5)),(4,4,(tT 6))]),sS 8 (.call (.val (.func 252 [])) [(zZ 3),(tT 7)]),sS 3 (.alloc 3 [pZ,pZ,.tl []]),nN (.store 3 (tT 3) (tT 8))] [0,2,3] [2,3])
(.seq
(.region [sS 9 (.build [pZ,.pv (.bool false),pZ,pZ] [(0,1,(zZ 0)),(2,1,(zZ 1)),(3,1,(zZ 1))]),sS 10 (.lit 4 [pZ,.pv (.bool false),pZ,pZ] 1 [(0,4,(tT 9))]),sS 4 (.mov (tT 10))] [0,2,3,4] [2,3])
(.seq
(.seq
(.region [sS 11 (.mov (tT 0))] [2,3,4,11] [2,3])
(.cond (tT 11)
(.region [sS 12 (.mov (tT 4)),sS 13 (.build [pZ,.pv (.bool false),pZ,pZ] [(0,1,(zZ 0)),(1,1,(bB true)),(2,1,(zZ 3)),(3,1,(zZ 2))]),sS 14 (.lit 4 [pZ,.pv (.bool false),pZ,pZ] 1 [(0,4,(tT 13))]),sS 15 (.app 4 (tT 12) (tT 14)),sS 4 (.mov (tT 15))] [2,3,4] [2,3])
.skip))
(.seq
(.draw [(sS 16 (.load 3 true (tT 3)),[]),(sS 17 (.mov (tT 4)),[]),(sS 18 (.build [pZ,.pv (.bool false),pZ,pZ] [(0,1,(zZ 1)),(1,1,(bB true)),(2,1,(zZ 2)),(3,1,(zZ 2))]),[]),(sS 19 (.lit 4 [pZ,.pv (.bool false),pZ,pZ] 1 [(0,4,(tT 18))]),[0]),(sS 20 (.app 4 (tT 17) (tT 19)),[0]),(sS 21 (.call (.val (.func 252 [])) [(zZ 3),(tT 20)]),[0]),(sS 22 (.build [pZ,pZ,.tl [],pZ,pZ,.tl [],pZ] [(0,3,(tT 16)),(3,3,(tT 21)),(6,1,(zZ 1))]),[]),(nN (.store 7 (tT 2) (tT 22)),[])] [2] [2])
.ret))))),[.cell 2 7 true],false,false,false⟩
def F245 : AFunc := ⟨2,(.seq
(.region [sS 4 (.mov (bB false))] [0,1] [])
(.seq
(.seq
(.region [sS 6 (.mov (tT 0)),sS 7 (.len 0 (tT 6)),sS 8 (.mov (tT 1)),sS 9 (.len 0 (tT 8)),sS 10 (.bin .neq (tT 7) (tT 9))] [0,1,10] [])
(.cond (tT 10)
(.seq
(.region [sS 4 (.mov (bB false))] [4] [])
.ret)
.skip))
(.seq
(.seq
(.region [sS 11 (.mov (tT 0)),sS 12 (.len 0 (tT 11)),sS 13 (.mov (zZ 0))] [0,1,12,13] [])
(.block 0
(.loop
(.mask [0,1,12,13] []
(.seq
(.region [sS 14 (.bin .lss (tT 13) (tT 12))] [0,1,12,13,14] [])
(.seq
(.cond (tT 14)
.skip
(.exit 0))
(.seq
(.block 1
(.seq
(.region [sS 15 (.mov (tT 13)),sS 5 (.mov (tT 15))] [0,1,5,12,13] [])
(.seq
(.draw [(sS 16 (.mov (tT 0)),[]),(sS 17 (.mov (tT 5)),[]),(sS 18 (.idx 3 (tT 16) (tT 17)),[]),(sS 19 (.load 3 true (tT 18)),[]),(sS 20 (.mov (tT 1)),[]),(sS 21 (.mov (tT 5)),[]),(sS 22 (.idx 3 (tT 20) (tT 21)),[]),(sS 23 (.load 3 true (tT 22)),[]),(sS 24 (.eqa true [1,0,1] true (tT 19) (tT 23)),[])] [0,1,12,13,24] [])
(.cond (tT 24)
(.seq
(.region [sS 4 (.mov (bB false))] [4] [])
.ret)
.skip))))
(.region [sS 25 (.bin .add (tT 13) (zZ 1)),sS 13 (.mov (tT 25))] [0,1,12,13] []))))))))
(.seq
(.region [sS 4 (.mov (bB true))] [4] [])
.ret)))),[.tmp 4],false,false,false⟩
def F246 : AFunc := ⟨1,(.seq
(.region [sS 1 (.box 1 7 (tT 0)),sS 2 (.mov (.val (.pv (.nilp)))),sS 3 (.mov (zZ 0))] [1] [1])
(.seq
(.seq
(.region [sS 5 (.load 7 true (tT 1)),sS 6 (.call (.val (.func 152 [])) [(tT 5)]),sS 4 (.mov (tT 6))] [1,4] [1])
(.seq
(.region [sS 7 (.mov (tT 4)),sS 8 (.bin .neq (tT 7) (zZ 0))] [1,4,8] [1])
(.cond (tT 8)
(.seq
(.region [sS 9 (.mov (tT 4)),sS 2 (.mov (.val (.pv (.nilp)))),sS 3 (.mov (tT 9))] [2,3] [])
.ret)
.skip)))
(.seq
(.draw [(sS 10 (.load 7 true (tT 1)),[]),(sS 11 (.load 7 true (tT 1)),[]),(sS 12 (.call (.val (.func 155 [])) [(tT 11)]),[0]),(sS 13 (.call (.val (.func 253 [])) [(tT 10),(tT 12)]),[]),(sS 14 (.ext (tT 13) 0),[]),(sS 15 (.ext (tT 13) 1),[]),(sS 2 (.mov (tT 14)),[]),(sS 3 (.mov (tT 15)),[])] [2,3] [])
.ret))),[.tmp 2,.tmp 3],false,false,false⟩
def F247 : AFunc := ⟨1,(.seq
(.region [sS 2 (.mov (.val (.tl [])))] [0] [])
(.seq
(.region [sS 15 (.mov (tT 0)),sS 16 (.nilck (tT 15)),sS 17 (.fld 7 (tT 16)),sS 18 (.load 1 false (tT 17)),sS 19 (.len 0 (tT 18)),sS 20 (.make 1 [.tl []] (tT 19) (tT 19)),sS 3 (.mov (tT 20))] [0,3] [])
(.seq
(.seq
(.region [sS 21 (.mov (tT 0)),sS 22 (.nilck (tT 21)),sS 23 (.fld 9 (tT 22)),sS 24 (.load 1 false (tT 23)),sS 25 (.len 0 (tT 24)),sS 26 (.mov (zZ 0))] [0,3,24,25,26] [])
(.block 0
(.loop
(.mask [0,3,24,25,26] []
(.seq
(.region [sS 27 (.bin .lss (tT 26) (tT 25))] [0,3,24,25,26,27] [])
(.seq
(.cond (tT 27)
.skip
(.exit 0))
(.seq
(.block 1
(.seq
(.region [sS 28 (.mov (tT 26)),sS 29 (.idx 1 (tT 24) (tT 26)),sS 30 (.load 1 false (tT 29)),sS 4 (.mov (tT 28)),sS 5 (.mov (tT 30))] [0,3,4,5,24,25,26] [])
(.seq
(.region [sS 31 (.mov (tT 5)),sS 32 (.len 0 (tT 31)),sS 33 (.mov (zZ 0))] [0,3,4,24,25,26,31,32,33] [])
(.block 2
(.loop
(.mask [0,3,4,24,25,26,31,32,33] []
(.seq
(.region [sS 34 (.bin .lss (tT 33) (tT 32))] [0,3,4,24,25,26,31,32,33,34] [])
(.seq
(.cond (tT 34)
.skip
(.exit 2))
(.seq
(.block 3
(.seq
(.region [sS 35 (.idx 1 (tT 31) (tT 33)),sS 36 (.load 1 false (tT 35)),sS 7 (.mov (tT 36))] [0,3,4,7,24,25,26,31,32,33] [])
(.region [sS 37 (.mov (tT 3)),sS 38 (.mov (tT 7)),sS 39 (.mov (tT 3)),sS 40 (.mov (tT 7)),sS 41 (.idx 1 (tT 39) (tT 40)),sS 42 (.load 1 false (tT 41)),sS 43 (.mov (tT 4)),sS 44 (.lit 1 [pZ] 1 [(0,1,(tT 43))]),sS 45 (.app 1 (tT 42) (tT 44)),sS 46 (.idx 1 (tT 37) (tT 38)),nN (.store 1 (tT 46) (tT 45))] [0,3,4,24,25,26,31,32,33] [])))
(.region [sS 47 (.bin .add (tT 33) (zZ 1)),sS 33 (.mov (tT 47))] [0,3,4,24,25,26,31,32,33] []))))))))))
(.region [sS 48 (.bin .add (tT 26) (zZ 1)),sS 26 (.mov (tT 48))] [0,3,24,25,26] []))))))))
(.seq
(.region [sS 49 (.mov (tT 0)),sS 50 (.nilck (tT 49)),sS 51 (.fld 7 (tT 50)),sS 52 (.load 1 false (tT 51)),sS 53 (.len 0 (tT 52)),sS 54 (.make 1 [pZ] (tT 53) (tT 53)),sS 8 (.mov (tT 54))] [0,3,8] [])
(.seq
(.region [sS 9 (.mov (.val (.tl [])))] [0,3,8,9] [])
(.seq
(.seq
(.region [sS 55 (.mov (tT 0)),sS 56 (.nilck (tT 55)),sS 57 (.fld 7 (tT 56)),sS 58 (.load 1 false (tT 57)),sS 59 (.len 0 (tT 58)),sS 60 (.mov (zZ 0))] [0,3,8,9,58,59,60] [])
(.block 4
(.loop
(.mask [0,3,8,9,58,59,60] []
(.seq
(.region [sS 61 (.bin .lss (tT 60) (tT 59))] [0,3,8,9,58,59,60,61] [])
(.seq
(.cond (tT 61)
.skip
(.exit 4))
(.seq
(.block 5
(.seq
(.region [sS 62 (.mov (tT 60)),sS 63 (.idx 4 (tT 58) (tT 60)),sS 64 (.load 4 true (tT 63)),sS 11 (.alloc 11 [pZ,pZ,.tl [],.tl []]),sS 10 (.mov (tT 62)),nN (.store 4 (tT 11) (tT 64))] [0,3,8,9,10,11,58,59,60] [11])
(.seq
(.region [sS 65 (.mov (tT 8)),sS 66 (.mov (tT 10)),sS 67 (.idx 1 (tT 65) (tT 66)),nN (.store 1 (tT 67) (.val (.pv (.int .i64 (-1)))))] [0,3,8,9,10,11,58,59,60] [11])
(.seq
(.draw [(sS 68 (.mov (tT 0)),[]),(sS 69 (.nilck (tT 68)),[]),(sS 70 (.fld 0 (tT 69)),[]),(sS 71 (.load 7 true (tT 70)),[]),(sS 72 (.load 4 true (tT 11)),[]),(sS 73 (.call (.val (.func 159 [])) [(tT 71),(tT 72)]),[])] [0,3,8,9,10,58,59,60,73] [])
(.cond (tT 73)
(.seq
(.region [sS 74 (.mov (tT 8)),sS 75 (.mov (tT 10)),sS 76 (.idx 1 (tT 74) (tT 75)),nN (.store 1 (tT 76) (zZ 0))] [0,3,8,9,10,58,59,60] [])
(.region [sS 77 (.mov (tT 9)),sS 78 (.mov (tT 10)),sS 79 (.lit 1 [pZ] 1 [(0,1,(tT 78))]),sS 80 (.app 1 (tT 77) (tT 79)),sS 9 (.mov (tT 80))] [0,3,8,9,58,59,60] []))
.skip)))))
(.region [sS 81 (.bin .add (tT 60) (zZ 1)),sS 60 (.mov (tT 81))] [0,3,8,9,58,59,60] []))))))))
(.seq
(.seq
(.region [sS 12 (.mov (zZ 0))] [3,8,9,12] [])
(.block 6
(.loop
(.mask [3,8,9,12] []
(.seq
(.seq
(.region [sS 82 (.mov (tT 12)),sS 83 (.mov (tT 9)),sS 84 (.len 0 (tT 83)),sS 85 (.bin .lss (tT 82) (tT 84))] [3,8,9,12,85] [])
(.cond (tT 85)
.skip
(.exit 6)))
(.seq
(.block 7
(.seq
(.region [sS 88 (.mov (tT 3)),sS 89 (.mov (tT 9)),sS 90 (.mov (tT 12)),sS 91 (.idx 1 (tT 89) (tT 90)),sS 92 (.load 1 false (tT 91)),sS 93 (.idx 1 (tT 88) (tT 92)),sS 94 (.load 1 false (tT 93)),sS 95 (.len 0 (tT 94)),sS 96 (.mov (zZ 0))] [3,8,9,12,94,95,96] [])
(.block 8
(.loop
(.mask [3,8,9,12,94,95,96] []
(.seq
(.region [sS 97 (.bin .lss (tT 96) (tT 95))] [3,8,9,12,94,95,96,97] [])
(.seq
(.cond (tT 97)
.skip
(.exit 8))
(.seq
(.block 9
(.seq
(.region [sS 98 (.idx 1 (tT 94) (tT 96)),sS 99 (.load 1 false (tT 98)),sS 14 (.mov (tT 99))] [3,8,9,12,14,94,95,96] [])
(.seq
(.region [sS 100 (.mov (tT 8)),sS 101 (.mov (tT 14)),sS 102 (.idx 1 (tT 100) (tT 101)),sS 103 (.load 1 false (tT 102)),sS 104 (.bin .lss (tT 103) (zZ 0))] [3,8,9,12,14,94,95,96,104] [])
(.cond (tT 104)
(.seq
(.region [sS 105 (.mov (tT 8)),sS 106 (.mov (tT 14)),sS 107 (.mov (tT 8)),sS 108 (.mov (tT 9)),sS 109 (.mov (tT 12)),sS 110 (.idx 1 (tT 108) (tT 109)),sS 111 (.load 1 false (tT 110)),sS 112 (.idx 1 (tT 107) (tT 111)),sS 113 (.load 1 false (tT 112)),sS 114 (.bin .add (tT 113) (zZ 1)),sS 115 (.idx 1 (tT 105) (tT 106)),nN (.store 1 (tT 115) (tT 114))] [3,8,9,12,14,94,95,96] [])
(.region [sS 116 (.mov (tT 9)),sS 117 (.mov (tT 14)),sS 118 (.lit 1 [pZ] 1 [(0,1,(tT 117))]),sS 119 (.app 1 (tT 116) (tT 118)),sS 9 (.mov (tT 119))] [3,8,9,12,94,95,96] []))
.skip))))
(.region [sS 120 (.bin .add (tT 96) (zZ 1)),sS 96 (.mov (tT 120))] [3,8,9,12,94,95,96] [])))))))))
(.region [sS 86 (.mov (tT 12)),sS 87 (.bin .add (tT 86) (zZ 1)),sS 12 (.mov (tT 87))] [3,8,9,12] [])))))))
(.seq
(.region [sS 121 (.mov (tT 8)),sS 2 (.mov (tT 121))] [2] [])
.ret)))))))),[.tmp 2],false,false,false⟩
def F248 : AFunc := ⟨2,(.seq
(.region [sS 2 (.box 2 7 (tT 0)),sS 3 (.box 3 4 (tT 1)),sS 4 (.mov (.val (.pv (.nilp)))),sS 5 (.mov (zZ 0))] [2,3] [2,3])
(.seq
(.seq
(.region [sS 7 (.load 7 true (tT 2)),sS 8 (.call (.val (.func 152 [])) [(tT 7)]),sS 6 (.mov (tT 8))] [2,3,6] [2,3])
(.seq
(.region [sS 9 (.mov (tT 6)),sS 10 (.bin .neq (tT 9) (zZ 0))] [2,3,6,10] [2,3])
(.cond (tT 10)
(.seq
(.region [sS 11 (.mov (tT 6)),sS 4 (.mov (.val (.pv (.nilp)))),sS 5 (.mov (tT 11))] [4,5] [])
.ret)
.skip)))
(.seq
(.seq
(.region [sS 12 (.load 7 true (tT 2)),sS 13 (.load 4 true (tT 3)),sS 14 (.call (.val (.func 157 [])) [(tT 12),(tT 13)]),sS 15 (.un .not (tT 14))] [2,3,15] [2,3])
(.cond (tT 15)
(.seq
(.region [sS 4 (.mov (.val (.pv (.nilp)))),sS 5 (.mov (zZ 1))] [4,5] [])
.ret)
.skip))
(.seq
(.region [sS 16 (.load 7 true (tT 2)),sS 17 (.load 4 true (tT 3)),sS 18 (.call (.val (.func 253 [])) [(tT 16),(tT 17)]),sS 19 (.ext (tT 18) 0),sS 20 (.ext (tT 18) 1),sS 4 (.mov (tT 19)),sS 5 (.mov (tT 20))] [4,5] [])
.ret)))),[.tmp 4,.tmp 5],false,false,false⟩
def F249 : AFunc := ⟨2,(.seq
(.region [sS 4 (.mov (.val (.tl [])))] [0,1] [])
(.seq
(.region [sS 5 (.mov (.val (.tl [])))] [0,1,5] [])
(.seq
(.block 0
(.loop
(.mask [0,1,5] []
(.seq
(.seq
(.region [sS 6 (.mov (tT 0)),sS 7 (.nilck (tT 6)),sS 8 (.fld 10 (tT 7)),sS 9 (.load 1 false (tT 8)),sS 10 (.mov (tT 1)),sS 11 (.idx 1 (tT 9) (tT 10)),sS 12 (.load 1 false (tT 11)),sS 13 (.bin .geq (tT 12) (zZ 0))] [0,1,5,13] [])
(.cond (tT 13)
.skip
(.exit 0)))
(.seq
(.block 1
(.region [sS 21 (.mov (tT 5)),sS 22 (.mov (tT 0)),sS 23 (.nilck (tT 22)),sS 24 (.fld 11 (tT 23)),sS 25 (.load 1 false (tT 24)),sS 26 (.mov (tT 1)),sS 27 (.idx 3 (tT 25) (tT 26)),sS 28 (.load 3 true (tT 27)),sS 29 (.lit 3 [pZ,.pv (.bool false),pZ] 1 [(0,3,(tT 28))]),sS 30 (.app 3 (tT 21) (tT 29)),sS 5 (.mov (tT 30))] [0,1,5] []))
(.region [sS 14 (.mov (tT 0)),sS 15 (.nilck (tT 14)),sS 16 (.fld 10 (tT 15)),sS 17 (.load 1 false (tT 16)),sS 18 (.mov (tT 1)),sS 19 (.idx 1 (tT 17) (tT 18)),sS 20 (.load 1 false (tT 19)),sS 1 (.mov (tT 20))] [0,1,5] []))))))
(.seq
(.region [sS 31 (.mov (tT 5)),sS 32 (.call (.val (.func 254 [])) [(tT 31)])] [5] [])
(.seq
(.region [sS 33 (.mov (tT 5)),sS 4 (.mov (tT 33))] [4] [])
.ret))))),[.tmp 4],false,false,false⟩
def F250 : AFunc := ⟨3,(.seq
(.region [sS 3 (.box 3 7 (tT 0)),sS 4 (.box 4 4 (tT 1)),sS 6 (.mov (zZ 0))] [2,3,4] [3,4])
(.seq
(.block 0
(.seq
(.draw [(sS 8 (.fld 0 (tT 3)),[]),(sS 9 (.load 3 true (tT 8)),[]),(sS 10 (.call (.val (.func 95 [])) [(tT 9)]),[]),(sS 11 (.fld 0 (tT 4)),[]),(sS 12 (.load 1 false (tT 11)),[2]),(sS 13 (.call (.val (.func 110 [])) [(tT 10),(tT 12)]),[]),(sS 14 (.mov (tT 13)),[]),(gG 15 (.fld 3 (tT 3)) 14 true,[]),(gG 16 (.load 3 true (tT 15)) 14 true,[]),(gG 17 (.call (.val (.func 95 [])) [(tT 16)]) 14 true,[]),(gG 18 (.fld 1 (tT 4)) 14 true,[]),(gG 19 (.load 1 false (tT 18)) 14 true,[9]),(gG 20 (.call (.val (.func 110 [])) [(tT 17),(tT 19)]) 14 true,[]),(sS 21 (.pick (tT 14) (tT 20) (bB false)),[]),(sS 7 (.mov (tT 21)),[])] [2,3,4,7] [3,4])
(.cond (tT 7)
(.seq
(.region [sS 6 (.mov (zZ 2))] [6] [])
.ret)
(.seq
(.region [sS 23 (.fld 0 (tT 3)),sS 24 (.load 3 true (tT 23)),sS 25 (.fld 0 (tT 4)),sS 26 (.load 1 false (tT 25)),sS 27 (.fld 2 (tT 4)),sS 28 (.load 1 false (tT 27)),sS 29 (.call (.val (.func 255 [])) [(tT 24),(tT 26),(tT 28)]),sS 30 (.mov (tT 29)),gG 31 (.fld 3 (tT 3)) 30 false,gG 32 (.load 3 true (tT 31)) 30 false,gG 33 (.fld 1 (tT 4)) 30 false,gG 34 (.load 1 false (tT 33)) 30 false,gG 35 (.fld 3 (tT 4)) 30 false,gG 36 (.load 1 false (tT 35)) 30 false,gG 37 (.call (.val (.func 255 [])) [(tT 32),(tT 34),(tT 36)]) 30 false,sS 38 (.pick (tT 30) (bB true) (tT 37)),sS 22 (.mov (tT 38))] [2,22] [])
(.cond (tT 22)
(.seq
(.region [sS 6 (.mov (zZ 1))] [6] [])
.ret)
(.seq
(.region [sS 40 (.mov (tT 2)),sS 41 (.len 0 (tT 40)),sS 42 (.bin .eql (tT 41) (zZ 0)),sS 39 (.mov (tT 42))] [39] [])
(.cond (tT 39)
(.seq
(.region [sS 6 (.mov (zZ 3))] [6] [])
.ret)
.skip)))))))
(.seq
(.region [sS 6 (.mov (zZ 4))] [6] [])
.ret))),[.tmp 6],false,false,false⟩
def F251 : AFunc := ⟨1,(.seq
(.region [sS 1 (.box 1 4 (tT 0)),⟨some 2,.mov (.val (.pv (.str ⟨#[]⟩))),none⟩] [1] [1])
(.seq
(.draw [(sS 8 (.fld 0 (tT 1)),[]),(sS 9 (.load 1 false (tT 8)),[]),(sS 10 (.call (.val (.func 194 [])) [(tT 9)]),[]),(⟨some 11,.bin .add (tT 10) (.val (.pv (.str ⟨#[32]⟩))),none⟩,[]),(sS 12 (.fld 1 (tT 1)),[]),(sS 13 (.load 1 false (tT 12)),[2]),(sS 14 (.call (.val (.func 194 [])) [(tT 13)]),[]),(sS 15 (.bin .add (tT 11) (tT 14)),[]),(sS 3 (.mov (tT 15)),[])] [1,3] [1])
(.seq
(.seq
(.region [sS 16 (.fld 2 (tT 1)),sS 17 (.load 1 false (tT 16)),sS 18 (.len 0 (tT 17)),sS 19 (.mov (zZ 0))] [1,3,17,18,19] [1])
(.block 0
(.loop
(.mask [1,3,17,18,19] [1]
(.seq
(.region [sS 20 (.bin .lss (tT 19) (tT 18))] [1,3,17,18,19,20] [1])
(.seq
(.cond (tT 20)
.skip
(.exit 0))
(.seq
(.block 1
(.seq
(.region [sS 21 (.idx 1 (tT 17) (tT 19)),sS 22 (.load 1 false (tT 21)),sS 5 (.mov (tT 22))] [1,3,5,17,18,19] [1])
(.region [sS 23 (.mov (tT 3)),sS 24 (.mov (tT 5)),sS 25 (.call (.val (.func 194 [])) [(tT 24)]),⟨some 26,.bin .add (.val (.pv (.str ⟨#[32]⟩))) (tT 25),none⟩,sS 27 (.bin .add (tT 23) (tT 26)),sS 3 (.mov (tT 27))] [1,3,17,18,19] [1])))
(.region [sS 28 (.bin .add (tT 19) (zZ 1)),sS 19 (.mov (tT 28))] [1,3,17,18,19] [1]))))))))
(.seq
(.region [sS 29 (.mov (tT 3)),⟨some 30,.bin .add (tT 29) (.val (.pv (.str ⟨#[59]⟩))),none⟩,sS 3 (.mov (tT 30))] [1,3] [1])
(.seq
(.seq
(.region [sS 31 (.fld 3 (tT 1)),sS 32 (.load 1 false (tT 31)),sS 33 (.len 0 (tT 32)),sS 34 (.mov (zZ 0))] [3,32,33,34] [])
(.block 2
(.loop
(.mask [3,32,33,34] []
(.seq
(.region [sS 35 (.bin .lss (tT 34) (tT 33))] [3,32,33,34,35] [])
(.seq
(.cond (tT 35)
.skip
(.exit 2))
(.seq
(.block 3
(.seq
(.region [sS 36 (.idx 1 (tT 32) (tT 34)),sS 37 (.load 1 false (tT 36)),sS 7 (.mov (tT 37))] [3,7,32,33,34] [])
(.region [sS 38 (.mov (tT 3)),sS 39 (.mov (tT 7)),sS 40 (.call (.val (.func 194 [])) [(tT 39)]),⟨some 41,.bin .add (.val (.pv (.str ⟨#[32]⟩))) (tT 40),none⟩,sS 42 (.bin .add (tT 38) (tT 41)),sS 3 (.mov (tT 42))] [3,32,33,34] [])))
(.region [sS 43 (.bin .add (tT 34) (zZ 1)),sS 34 (.mov (tT 43))] [3,32,33,34] []))))))))
(.seq
(.region [sS 44 (.mov (tT 3)),sS 2 (.mov (tT 44))] [2] [])
.ret)))))),[.tmp 2],false,false,false⟩
def F253 : AFunc := ⟨2,(.seq
(.region [sS 2 (.box 100002 7 (tT 0)),sS 3 (.box 100003 4 (tT 1)),sS 4 (.mov (.val (.pv (.nilp)))),sS 5 (.mov (zZ 0))] [2,3] [])
(.seq
(.region [sS 17 (.load 7 true (tT 2)),sS 18 (.build [pZ,pZ,.tl [],pZ,pZ,.tl [],pZ,.tl [],.tl [],.tl [],.tl [],.tl []] [(0,7,(tT 17))]),sS 19 (.box 100019 12 (tT 18)),sS 6 (.alloc 100006 [.pv (.nilp)]),nN (.store 1 (tT 6) (tT 19))] [2,3,6] [])
(.seq
(.region [sS 20 (.mkmap),sS 7 (.alloc 100007 [.nilm]),nN (.store 1 (tT 7) (tT 20))] [2,3,6,7] [])
(.seq
(.region [sS 21 (.clos 256 [(tT 7),(tT 6)]),sS 8 (.mov (tT 21))] [2,3,6,8] [])
(.seq
(.region [sS 22 (.mov (tT 8)),sS 23 (.load 4 true (tT 3)),sS 24 (.call (.val (.func 257 [])) [(tT 23)]),sS 25 (.build [pZ,.pv (.bool false),pZ] []),sS 26 (.call (tT 22) [(tT 24),(.val (.pv (.int .i64 (-1)))),(tT 25)])] [2,6,8] [])
(.seq
(.seq
(.region [sS 9 (.mov (zZ 0))] [2,6,8,9] [])
(.block 0
(.loop
(.mask [2,6,8,9] []
(.seq
(.seq
(.region [sS 27 (.mov (tT 9)),sS 28 (.load 1 false (tT 6)),sS 29 (.nilck (tT 28)),sS 30 (.fld 7 (tT 29)),sS 31 (.load 1 false (tT 30)),sS 32 (.len 0 (tT 31)),sS 33 (.bin .lss (tT 27) (tT 32))] [2,6,8,9,33] [])
(.cond (tT 33)
.skip
(.exit 0)))
(.seq
(.block 1
(.seq
(.draw [(sS 37 (.load 7 true (tT 2)),[]),(sS 38 (.load 1 false (tT 6)),[]),(sS 39 (.nilck (tT 38)),[]),(sS 40 (.fld 7 (tT 39)),[]),(sS 41 (.load 1 false (tT 40)),[]),(sS 42 (.mov (tT 9)),[]),(sS 43 (.idx 4 (tT 41) (tT 42)),[]),(sS 44 (.load 4 true (tT 43)),[]),(sS 45 (.call (.val (.func 171 [])) [(tT 37),(tT 44)]),[]),(sS 36 (.mov (tT 45)),[]),(sS 46 (.ext (tT 36) 0),[]),(sS 47 (.ext (tT 36) 1),[]),(sS 10 (.mov (tT 46)),[]),(sS 11 (.mov (tT 47)),[])] [2,6,8,9,10,11] [])
(.seq
(.seq
(.region [sS 48 (.mov (tT 11)),sS 49 (.bin .neq (tT 48) (zZ 0))] [2,6,8,9,10,11,49] [])
(.cond (tT 49)
(.seq
(.region [sS 50 (.mov (tT 11)),sS 4 (.mov (.val (.pv (.nilp)))),sS 5 (.mov (tT 50))] [4,5] [])
.ret)
.skip))
(.seq
(.region [sS 12 (.mov (.val (.tl [])))] [2,6,8,9,10,12] [])
(.seq
(.seq
(.region [sS 51 (.mov (tT 10)),sS 52 (.len 0 (tT 51)),sS 53 (.mov (zZ 0))] [2,6,8,9,10,12,51,52,53] [])
(.block 2
(.loop
(.mask [2,6,8,9,10,12,51,52,53] []
(.seq
(.region [sS 54 (.bin .lss (tT 53) (tT 52))] [2,6,8,9,10,12,51,52,53,54] [])
(.seq
(.cond (tT 54)
.skip
(.exit 2))
(.seq
(.block 3
(.seq
(.region [sS 55 (.idx 3 (tT 51) (tT 53)),sS 56 (.load 3 true (tT 55)),sS 14 (.alloc 14 [pZ,.pv (.bool false),pZ]),nN (.store 3 (tT 14) (tT 56))] [2,6,8,9,10,12,14,51,52,53] [14])
(.seq
(.draw [(sS 58 (.load 7 true (tT 2)),[]),(sS 59 (.load 1 false (tT 6)),[]),(sS 60 (.nilck (tT 59)),[]),(sS 61 (.fld 7 (tT 60)),[]),(sS 62 (.load 1 false (tT 61)),[]),(sS 63 (.mov (tT 9)),[]),(sS 64 (.idx 4 (tT 62) (tT 63)),[]),(sS 65 (.load 4 true (tT 64)),[]),(sS 66 (.load 3 true (tT 14)),[]),(sS 67 (.call (.val (.func 174 [])) [(tT 58),(tT 65),(tT 66)]),[]),(sS 57 (.mov (tT 67)),[]),(sS 68 (.ext (tT 57) 0),[]),(sS 69 (.ext (tT 57) 1),[]),(sS 15 (.alloc 15 [pZ,pZ,.tl [],.tl []]),[0,1,4,6,7,8,9]),(nN (.store 4 (tT 15) (tT 68)),[]),(sS 16 (.mov (tT 69)),[])] [2,6,8,9,10,12,14,15,16,51,52,53] [14,15])
(.seq
(.seq
(.region [sS 70 (.mov (tT 16)),sS 71 (.bin .neq (tT 70) (zZ 0))] [2,6,8,9,10,12,14,15,16,51,52,53,71] [14,15])
(.cond (tT 71)
(.seq
(.region [sS 72 (.mov (tT 16)),sS 4 (.mov (.val (.pv (.nilp)))),sS 5 (.mov (tT 72))] [4,5] [])
.ret)
.skip))
(.seq
(.region [sS 73 (.mov (tT 12)),sS 74 (.mov (tT 8)),sS 75 (.load 4 true (tT 15)),sS 76 (.mov (tT 9)),sS 77 (.load 3 true (tT 14)),sS 78 (.call (tT 74) [(tT 75),(tT 76),(tT 77)]),sS 79 (.lit 1 [pZ] 1 [(0,1,(tT 78))]),sS 80 (.app 1 (tT 73) (tT 79)),sS 12 (.mov (tT 80))] [2,6,8,9,10,12,51,52,53] [])
(.seq
(.region [sS 81 (.load 1 false (tT 6)),sS 82 (.nilck (tT 81)),sS 83 (.fld 7 (tT 82)),sS 84 (.load 1 false (tT 83)),sS 85 (.len 0 (tT 84)),sS 86 (.bin .gtr (tT 85) (zZ 5000))] [2,6,8,9,10,12,51,52,53,86] [])
(.cond (tT 86)
(.seq
(.region [sS 4 (.mov (.val (.pv (.nilp)))),sS 5 (.mov (zZ 3))] [4,5] [])
.ret)
.skip)))))))
(.region [sS 87 (.bin .add (tT 53) (zZ 1)),sS 53 (.mov (tT 87))] [2,6,8,9,10,12,51,52,53] []))))))))
(.drawR 4 [(sS 88 (.load 1 false (tT 6)),[]),(sS 89 (.load 1 false (tT 6)),[]),(sS 90 (.load 1 false (tT 6)),[]),(sS 91 (.nilck (tT 90)),[]),(sS 92 (.fld 8 (tT 91)),[]),(sS 93 (.load 1 false (tT 92)),[]),(sS 94 (.mov (tT 10)),[]),(sS 95 (.litAt 0 1 [.tl []] 1 [(0,1,(tT 94))]),[0,1,2,5]),(sS 96 (.appAt 1 1 (tT 93) (tT 95)),[0,1]),(sS 97 (.load 1 false (tT 6)),[7,8]),(sS 98 (.nilck (tT 97)),[]),(sS 99 (.fld 9 (tT 98)),[]),(sS 100 (.load 1 false (tT 99)),[7,8]),(sS 101 (.mov (tT 12)),[]),(sS 102 (.litAt 2 1 [.tl []] 1 [(0,1,(tT 101))]),[0,1,2,5,7,8,9,12]),(sS 103 (.appAt 3 1 (tT 100) (tT 102)),[0,1]),(sS 104 (.nilck (tT 88)),[]),(sS 105 (.fld 8 (tT 104)),[]),(nN (.store 1 (tT 105) (tT 96)),[1]),(sS 106 (.nilck (tT 89)),[]),(sS 107 (.fld 9 (tT 106)),[]),(nN (.store 1 (tT 107) (tT 103)),[])] [2,6,8,9] []))))))
(.region [sS 34 (.mov (tT 9)),sS 35 (.bin .add (tT 34) (zZ 1)),sS 9 (.mov (tT 35))] [2,6,8,9] [])))))))
(.seq
(.region [sS 108 (.load 1 false (tT 6)),sS 4 (.mov (tT 108)),sS 5 (.mov (zZ 0))] [4,5] [])
.ret))))))),[.tmp 4,.tmp 5],false,false,false⟩
def F254 : AFunc := ⟨1,(.seq
(.region [sS 4 (.mov (tT 0)),sS 5 (.len 0 (tT 4)),sS 6 (.bin .sub (tT 5) (zZ 1)),sS 2 (.mov (zZ 0)),sS 3 (.mov (tT 6))] [0,2,3] [])
(.block 0
(.loop
(.mask [0,2,3] []
(.seq
(.seq
(.region [sS 7 (.mov (tT 2)),sS 8 (.mov (tT 3)),sS 9 (.bin .lss (tT 7) (tT 8))] [0,2,3,9] [])
(.cond (tT 9)
.skip
(.exit 0)))
(.seq
(.block 1
(.draw [(sS 14 (.mov (tT 0)),[]),(sS 15 (.mov (tT 2)),[]),(sS 16 (.mov (tT 0)),[]),(sS 17 (.mov (tT 3)),[]),(sS 18 (.mov (tT 0)),[]),(sS 19 (.mov (tT 3)),[]),(sS 20 (.idx 3 (tT 18) (tT 19)),[]),(sS 21 (.load 3 true (tT 20)),[]),(sS 22 (.mov (tT 0)),[]),(sS 23 (.mov (tT 2)),[]),(sS 24 (.idx 3 (tT 22) (tT 23)),[]),(sS 25 (.load 3 true (tT 24)),[]),(sS 26 (.idx 3 (tT 14) (tT 15)),[]),(nN (.store 3 (tT 26) (tT 21)),[]),(sS 27 (.idx 3 (tT 16) (tT 17)),[]),(nN (.store 3 (tT 27) (tT 25)),[])] [0,2,3] []))
(.region [sS 10 (.mov (tT 2)),sS 11 (.bin .add (tT 10) (zZ 1)),sS 12 (.mov (tT 3)),sS 13 (.bin .sub (tT 12) (zZ 1)),sS 2 (.mov (tT 11)),sS 3 (.mov (tT 13))] [0,2,3] []))))))),[],false,false,true⟩
def F255 : AFunc := ⟨3,(.seq
(.region [sS 3 (.box 3 3 (tT 0)),sS 4 (.box 4 1 (tT 1)),sS 6 (.mov (bB false))] [2,3,4] [3,4])
(.seq
(.seq
(.region [sS 9 (.mov (tT 2)),sS 10 (.len 0 (tT 9)),sS 11 (.bin .eql (tT 10) (zZ 0))] [2,3,4,11] [3,4])
(.cond (tT 11)
(.seq
(.region [sS 6 (.mov (bB false))] [6] [])
.ret)
.skip))
(.seq
(.seq
(.draw [(sS 13 (.load 3 true (tT 3)),[]),(sS 14 (.load 1 false (tT 4)),[]),(sS 15 (.mov (tT 2)),[]),(sS 16 (.idx 1 (tT 15) (zZ 0)),[]),(sS 17 (.load 1 false (tT 16)),[]),(sS 18 (.call (.val (.func 45 [])) [(tT 13),(tT 14),(bB false),(tT 17)]),[]),(sS 12 (.mov (tT 18)),[]),(sS 19 (.ext (tT 12) 0),[]),(sS 20 (.ext (tT 12) 1),[]),(sS 7 (.mov (tT 19)),[]),(sS 8 (.mov (tT 20)),[])] [3,4,8] [3,4])
(.seq
(.region [sS 21 (.mov (tT 8))] [3,4,21] [3,4])
(.cond (tT 21)
(.seq
(.region [sS 6 (.mov (bB false))] [6] [])
.ret)
.skip)))
(.seq
(.region [sS 22 (.fld 2 (tT 3)),sS 23 (.load 1 false (tT 22)),sS 24 (.clos 258 [(tT 4)]),sS 25 (.call (.val (.func 180 [])) [(tT 23),(tT 24)]),sS 26 (.un .not (tT 25)),sS 6 (.mov (tT 26))] [6] [])
.ret)))),[.tmp 6],false,false,false⟩
def F256 : AFunc := ⟨5,(.seq
(.region [sS 5 (.box 5 4 (tT 0)),sS 7 (.box 7 3 (tT 2)),sS 8 (.mov (zZ 0))] [1,3,4,5,7] [5,7])
(.seq
(.draw [(sS 12 (.load 1 false (tT 3)),[]),(sS 13 (.load 4 true (tT 5)),[]),(sS 14 (.call (.val (.func 251 [])) [(tT 13)]),[0]),(sS 15 (.look false [2] (.pv (.int .i64 0)) (tT 12) (tT 14) true),[]),(sS 11 (.mov (tT 15)),[]),(sS 16 (.ext (tT 11) 0),[]),(sS 17 (.ext (tT 11) 1),[]),(sS 9 (.mov (tT 16)),[]),(sS 10 (.mov (tT 17)),[])] [1,3,4,5,7,9,10] [5,7])
(.seq
(.seq
(.region [sS 18 (.mov (tT 10)),sS 19 (.un .not (tT 18))] [1,3,4,5,7,9,19] [5,7])
(.cond (tT 19)
(.seq
(.region [sS 20 (.load 1 false (tT 4)),sS 21 (.nilck (tT 20)),sS 22 (.fld 7 (tT 21)),sS 23 (.load 1 false (tT 22)),sS 24 (.len 0 (tT 23)),sS 9 (.mov (tT 24))] [1,3,4,5,7,9] [5,7])
(.seq
(.draw [(sS 25 (.load 1 false (tT 3)),[]),(sS 26 (.load 4 true (tT 5)),[]),(sS 27 (.call (.val (.func 251 [])) [(tT 26)]),[0]),(sS 28 (.mov (tT 9)),[]),(nN (.upd false [2] (tT 25) (tT 27) (tT 28)),[])] [1,4,5,7,9] [5,7])
(.seq
(.draw [(sS 29 (.load 1 false (tT 4)),[]),(sS 30 (.load 1 false (tT 4)),[]),(sS 31 (.nilck (tT 30)),[]),(sS 32 (.fld 7 (tT 31)),[]),(sS 33 (.load 1 false (tT 32)),[]),(sS 34 (.load 4 true (tT 5)),[]),(sS 35 (.lit 4 [pZ,pZ,.tl [],.tl []] 1 [(0,4,(tT 34))]),[0,1,4]),(sS 36 (.app 4 (tT 33) (tT 35)),[0]),(sS 37 (.nilck (tT 29)),[]),(sS 38 (.fld 7 (tT 37)),[]),(nN (.store 1 (tT 38) (tT 36)),[])] [1,4,7,9] [7])
(.seq
(.draw [(sS 39 (.load 1 false (tT 4)),[]),(sS 40 (.load 1 false (tT 4)),[]),(sS 41 (.nilck (tT 40)),[]),(sS 42 (.fld 10 (tT 41)),[]),(sS 43 (.load 1 false (tT 42)),[]),(sS 44 (.mov (tT 1)),[]),(sS 45 (.lit 1 [pZ] 1 [(0,1,(tT 44))]),[0,1,4]),(sS 46 (.app 1 (tT 43) (tT 45)),[0]),(sS 47 (.nilck (tT 39)),[]),(sS 48 (.fld 10 (tT 47)),[]),(nN (.store 1 (tT 48) (tT 46)),[])] [4,7,9] [7])
(.draw [(sS 49 (.load 1 false (tT 4)),[]),(sS 50 (.load 1 false (tT 4)),[]),(sS 51 (.nilck (tT 50)),[]),(sS 52 (.fld 11 (tT 51)),[]),(sS 53 (.load 1 false (tT 52)),[]),(sS 54 (.load 3 true (tT 7)),[]),(sS 55 (.lit 3 [pZ,.pv (.bool false),pZ] 1 [(0,3,(tT 54))]),[0,1,4]),(sS 56 (.app 3 (tT 53) (tT 55)),[0]),(sS 57 (.nilck (tT 49)),[]),(sS 58 (.fld 11 (tT 57)),[]),(nN (.store 1 (tT 58) (tT 56)),[])] [9] [])))))
.skip))
(.seq
(.region [sS 59 (.mov (tT 9)),sS 8 (.mov (tT 59))] [8] [])
.ret)))),[.tmp 8],false,false,true⟩
def F257 : AFunc := ⟨1,(.seq
(.region [sS 1 (.box 1 4 (tT 0)),sS 2 (.alloc 2 [pZ,pZ,.tl [],.tl []])] [1,2] [1,2])
(.seq
(.draw [(sS 3 (.fld 0 (tT 1)),[]),(sS 4 (.load 1 false (tT 3)),[]),(sS 5 (.fld 1 (tT 1)),[]),(sS 6 (.load 1 false (tT 5)),[]),(sS 7 (.fld 2 (tT 1)),[]),(sS 8 (.load 1 false (tT 7)),[]),(sS 9 (.call (.val (.func 191 [])) [(tT 8)]),[1,3]),(sS 10 (.fld 3 (tT 1)),[]),(sS 11 (.load 1 false (tT 10)),[6]),(sS 12 (.call (.val (.func 191 [])) [(tT 11)]),[1,3]),(sS 13 (.build [pZ,pZ,.tl [],.tl []] [(0,1,(tT 4)),(1,1,(tT 6)),(2,1,(tT 9)),(3,1,(tT 12))]),[]),(nN (.store 4 (tT 2) (tT 13)),[])] [2] [2])
.ret)),[.cell 2 4 true],false,false,false⟩
def F258 : AFunc := ⟨2,(.seq
(.region [sS 2 (.box 2 4 (tT 0)),sS 3 (.mov (bB false))] [1,2] [2])
(.seq
(.region [sS 4 (.fld 0 (tT 2)),sS 5 (.load 1 false (tT 4)),sS 6 (.load 1 false (tT 1)),sS 7 (.bin .eql (tT 5) (tT 6)),sS 8 (.mov (tT 7)),gG 9 (.fld 1 (tT 2)) 8 true,gG 10 (.load 1 false (tT 9)) 8 true,sS 11 (.pick (tT 8) (tT 10) (bB false)),sS 3 (.mov (tT 11))] [3] [])
.ret)),[.tmp 3],false,false,false⟩
def F528 : AFunc := ⟨2,(.seq
(.region [sS 2 (.box 2 6 (tT 0)),sS 4 (.mov (bB false))] [1,2] [2])
(.seq
(.region [sS 8 (.load 6 true (tT 2)),sS 9 (.call (.val (.func 164 [])) [(tT 8)]),sS 7 (.mov (tT 9)),sS 10 (.ext (tT 7) 0),sS 11 (.ext (tT 7) 1),sS 5 (.alloc 5 [pZ,pZ,.tl [],pZ,pZ,.tl [],pZ]),nN (.store 7 (tT 5) (tT 10)),sS 6 (.mov (tT 11))] [1,5,6] [5])
(.seq
(.seq
(.region [sS 12 (.call (.val (.func 235 [])) []),sS 13 (.un .not (tT 12)),sS 14 (.mov (tT 13)),gG 15 (.mov (tT 6)) 14 false,gG 16 (.un .not (tT 15)) 14 false,sS 17 (.pick (tT 14) (bB true) (tT 16)),sS 18 (.mov (tT 17)),gG 19 (.mov (tT 1)) 18 false,gG 20 (.len 0 (tT 19)) 18 false,gG 21 (.bin .gtr (tT 20) (zZ 500)) 18 false,sS 22 (.pick (tT 18) (bB true) (tT 21))] [1,5,22] [5])
(.cond (tT 22)
(.seq
(.region [sS 23 (.call (.val (.func 235 [])) []),sS 4 (.mov (tT 23))] [4] [])
.ret)
.skip))
(.seq
(.region [sS 24 (.load 7 true (tT 5)),sS 25 (.mov (tT 1)),sS 26 (.call (.val (.func 243 [])) [(tT 24),(tT 25)]),sS 27 (.un .not (tT 26)),sS 28 (.mov (tT 27)),gG 29 (.load 7 true (tT 5)) 28 false,gG 30 (.call (.val (.func 534 [])) [(tT 29)]) 28 false,sS 31 (.pick (tT 28) (bB true) (tT 30)),sS 4 (.mov (tT 31))] [4] [])
.ret)))),[.tmp 4],false,false,false⟩
def F534 : AFunc := ⟨1,(.seq
(.region [sS 1 (.box 1 7 (tT 0)),sS 2 (.mov (bB false))] [1] [1])
(.seq
(.draw [(sS 5 (.load 7 true (tT 1)),[]),(sS 6 (.load 7 true (tT 1)),[]),(sS 7 (.call (.val (.func 167 [])) [(tT 6)]),[0]),(sS 8 (.call (.val (.func 541 [])) [(tT 5),(tT 7)]),[]),(sS 3 (.mov (tT 8)),[])] [3] [])
(.seq
(.seq
(.region [sS 4 (.mov (zZ 0))] [3,4] [])
(.block 0
(.loop
(.mask [3,4] []
(.seq
(.seq
(.region [sS 9 (.mov (tT 4)),sS 10 (.mov (tT 3)),sS 11 (.len 0 (tT 10)),sS 12 (.bin .lss (tT 9) (tT 11))] [3,4,12] [])
(.cond (tT 12)
.skip
(.exit 0)))
(.seq
(.block 1
(.seq
(.region [sS 15 (.mov (tT 3)),sS 16 (.mov (tT 4)),sS 17 (.idx 1 (tT 15) (tT 16)),sS 18 (.load 1 false (tT 17)),sS 19 (.bin .lss (tT 18) (zZ 0))] [3,4,19] [])
(.cond (tT 19)
(.seq
(.region [sS 2 (.mov (bB false))] [2] [])
.ret)
.skip)))
(.region [sS 13 (.mov (tT 4)),sS 14 (.bin .add (tT 13) (zZ 1)),sS 4 (.mov (tT 14))] [3,4] [])))))))
(.seq
(.region [sS 2 (.mov (bB true))] [2] [])
.ret)))),[.tmp 2],false,false,false⟩
def F541 : AFunc := ⟨2,(.seq
(.region [sS 2 (.box 2 7 (tT 0)),sS 4 (.mov (.val (.tl [])))] [1,2] [2])
(.seq
(.region [sS 13 (.mov (tT 1)),sS 14 (.len 0 (tT 13)),sS 15 (.make 1 [pZ] (tT 14) (tT 14)),sS 5 (.mov (tT 15))] [1,2,5] [2])
(.seq
(.seq
(.region [sS 6 (.mov (zZ 0))] [1,2,5,6] [2])
(.block 0
(.loop
(.mask [1,2,5,6] [2]
(.seq
(.seq
(.region [sS 16 (.mov (tT 6)),sS 17 (.mov (tT 1)),sS 18 (.len 0 (tT 17)),sS 19 (.bin .lss (tT 16) (tT 18))] [1,2,5,6,19] [2])
(.cond (tT 19)
.skip
(.exit 0)))
(.seq
(.block 1
(.seq
(.region [sS 22 (.mov (tT 5)),sS 23 (.mov (tT 6)),sS 24 (.idx 1 (tT 22) (tT 23)),nN (.store 1 (tT 24) (.val (.pv (.int .i64 (-1)))))] [1,2,5,6] [2])
(.seq
(.draw [(sS 25 (.load 7 true (tT 2)),[]),(sS 26 (.mov (tT 1)),[]),(sS 27 (.mov (tT 6)),[]),(sS 28 (.idx 4 (tT 26) (tT 27)),[]),(sS 29 (.load 4 true (tT 28)),[]),(sS 30 (.call (.val (.func 160 [])) [(tT 25),(tT 29)]),[])] [1,2,5,6,30] [2])
(.cond (tT 30)
(.region [sS 31 (.mov (tT 5)),sS 32 (.mov (tT 6)),sS 33 (.idx 1 (tT 31) (tT 32)),nN (.store 1 (tT 33) (zZ 0))] [1,2,5,6] [2])
.skip))))
(.region [sS 20 (.mov (tT 6)),sS 21 (.bin .add (tT 20) (zZ 1)),sS 6 (.mov (tT 21))] [1,2,5,6] [2])))))))
(.seq
(.seq
(.region [sS 7 (.mov (zZ 0))] [1,2,5,7] [2])
(.block 2
(.loop
(.mask [1,2,5,7] [2]
(.seq
(.seq
(.region [sS 34 (.mov (tT 7)),sS 35 (.mov (tT 1)),sS 36 (.len 0 (tT 35)),sS 37 (.bin .lss (tT 34) (tT 36))] [1,2,5,7,37] [2])
(.cond (tT 37)
.skip
(.exit 2)))
(.seq
(.block 3
(.seq
(.region [sS 8 (.mov (zZ 0))] [1,2,5,7,8] [2])
(.block 4
(.loop
(.mask [1,2,5,7,8] [2]
(.seq
(.seq
(.region [sS 40 (.mov (tT 8)),sS 41 (.mov (tT 1)),sS 42 (.len 0 (tT 41)),sS 43 (.bin .lss (tT 40) (tT 42))] [1,2,5,7,8,43] [2])
(.cond (tT 43)
.skip
(.exit 4)))
(.seq
(.block 5
(.seq
(.seq
(.region [sS 46 (.mov (tT 5)),sS 47 (.mov (tT 8)),sS 48 (.idx 1 (tT 46) (tT 47)),sS 49 (.load 1 false (tT 48)),sS 50 (.bin .geq (tT 49) (zZ 0))] [1,2,5,7,8,50] [2])
(.cond (tT 50)
(.exit 5)
.skip))
(.seq
(.draw [(sS 51 (.load 7 true (tT 2)),[]),(sS 52 (.mov (tT 1)),[]),(sS 53 (.mov (tT 8)),[]),(sS 54 (.idx 4 (tT 52) (tT 53)),[]),(sS 55 (.load 4 true (tT 54)),[]),(sS 56 (.call (.val (.func 173 [])) [(tT 51),(tT 55)]),[]),(sS 9 (.mov (tT 56)),[])] [1,2,5,7,8,9] [2])
(.seq
(.region [sS 10 (.mov (zZ 0))] [1,2,5,7,8,9,10] [2])
(.block 6
(.loop
(.mask [1,2,5,7,8,9,10] [2]
(.seq
(.seq
(.region [sS 57 (.mov (tT 10)),sS 58 (.mov (tT 9)),sS 59 (.len 0 (tT 58)),sS 60 (.bin .lss (tT 57) (tT 59))] [1,2,5,7,8,9,10,60] [2])
(.cond (tT 60)
.skip
(.exit 6)))
(.seq
(.block 7
(.seq
(.draw [(sS 64 (.load 7 true (tT 2)),[]),(sS 65 (.mov (tT 1)),[]),(sS 66 (.mov (tT 8)),[]),(sS 67 (.idx 4 (tT 65) (tT 66)),[]),(sS 68 (.load 4 true (tT 67)),[]),(sS 69 (.mov (tT 9)),[]),(sS 70 (.mov (tT 10)),[]),(sS 71 (.idx 3 (tT 69) (tT 70)),[]),(sS 72 (.load 3 true (tT 71)),[]),(sS 73 (.call (.val (.func 183 [])) [(tT 64),(tT 68),(tT 72)]),[]),(sS 63 (.mov (tT 73)),[]),(sS 74 (.ext (tT 63) 0),[]),(sS 75 (.ext (tT 63) 1),[]),(sS 11 (.alloc 11 [pZ,pZ,.tl [],.tl []]),[0,3,4,7,8,9]),(nN (.store 4 (tT 11) (tT 74)),[]),(sS 12 (.mov (tT 75)),[])] [1,2,5,7,8,9,10,11] [2,11])
(.seq
(.region [sS 76 (.mov (tT 5)),sS 77 (.mov (tT 1)),sS 78 (.load 4 true (tT 11)),sS 79 (.call (.val (.func 168 [])) [(tT 77),(tT 78)]),sS 80 (.idx 1 (tT 76) (tT 79)),sS 81 (.load 1 false (tT 80)),sS 82 (.mov (tT 7)),sS 83 (.bin .eql (tT 81) (tT 82))] [1,2,5,7,8,9,10,83] [2])
(.cond (tT 83)
(.region [sS 84 (.mov (tT 5)),sS 85 (.mov (tT 8)),sS 86 (.mov (tT 7)),sS 87 (.bin .add (tT 86) (zZ 1)),sS 88 (.idx 1 (tT 84) (tT 85)),nN (.store 1 (tT 88) (tT 87))] [1,2,5,7,8,9,10] [2])
.skip))))
(.region [sS 61 (.mov (tT 10)),sS 62 (.bin .add (tT 61) (zZ 1)),sS 10 (.mov (tT 62))] [1,2,5,7,8,9,10] [2]))))))))))
(.region [sS 44 (.mov (tT 8)),sS 45 (.bin .add (tT 44) (zZ 1)),sS 8 (.mov (tT 45))] [1,2,5,7,8] [2]))))))))
(.region [sS 38 (.mov (tT 7)),sS 39 (.bin .add (tT 38) (zZ 1)),sS 7 (.mov (tT 39))] [1,2,5,7] [2])))))))
(.seq
(.region [sS 89 (.mov (tT 5)),sS 4 (.mov (tT 89))] [4] [])
.ret))))),[.tmp 4],false,false,false⟩
def F252 : AFunc := ⟨2,(.seq
(.region [sS 4 (.alloc 4 [pZ,pZ,.tl []])] [0,1,4] [4])
(.seq
(.region [sS 5 (.mov (tT 0)),sS 6 (.mov (tT 1)),sS 7 (.build [pZ,pZ,.tl []] [(0,1,(tT 5)),(2,1,(tT 6))]),nN (.store 3 (tT 4) (tT 7))] [4] [4])
.ret)),[.cell 4 3 true],false,false,false⟩
end Go.Pv
