/-
  Functions of the program,read for the interpreter.
-/
import Derived.Test.YtpchfogcccagjaaGreatA4
namespace Go.Pv
@[reducible] def tT (n : Nat) : Opd := .tmp n
@[reducible] def zZ (n : Int) : Opd := .val (.pv (.int .i64 n))
@[reducible] def bB (b : Bool) : Opd := .val (.pv (.bool b))
@[reducible] def pZ : V := .pv (.int .i64 0)
@[reducible] def sS (n : Nat) (o : AOp) : AOper := ⟨some n,o,none⟩
@[reducible] def nN (o : AOp) : AOper := ⟨none,o,none⟩
@[reducible] def gG (n : Nat) (o : AOp) (t : Nat) (b : Bool) : AOper := ⟨some n,o,some (t,b)⟩
def F14 : AFunc := ⟨2,(.seq
(.region [sS 4 (.mov (bB false))] [0,1] [])
(.seq
(.seq
(.region [sS 6 (.mov (tT 0)),sS 7 (.len 0 (tT 6)),sS 8 (.mov (tT 1)),sS 9 (.len 0 (tT 8)),sS 10 (.bin .neq (tT 7) (tT 9))] [0,1,10] [])
(.cond (tT 10)
(.seq
(.region [sS 4 (.mov (bB false))] [4] [])
.ret)
.skip))
(.seq
(.seq
(.region [sS 11 (.mov (tT 0)),sS 12 (.len 0 (tT 11)),sS 13 (.mov (zZ 0))] [0,1,12,13] [])
(.block 0
(.loop
(.mask [0,1,12,13] []
(.seq
(.region [sS 14 (.bin .lss (tT 13) (tT 12))] [0,1,12,13,14] [])
(.seq
(.cond (tT 14)
.skip
(.exit 0))
(.seq
(.block 1
(.seq
(.region [sS 15 (.mov (tT 13)),sS 5 (.mov (tT 15))] [0,1,5,12,13] [])
(.seq
(.draw [(sS 16 (.mov (tT 0)),[]),(sS 17 (.mov (tT 5)),[]),(sS 18 (.idx 1 (tT 16) (tT 17)),[]),(sS 19 (.load 1 false (tT 18)),[]),(sS 20 (.mov (tT 1)),[]),(sS 21 (.mov (tT 5)),[]),(sS 22 (.idx 1 (tT 20) (tT 21)),[]),(sS 23 (.load 1 false (tT 22)),[]),(sS 24 (.bin .neq (tT 19) (tT 23)),[])] [0,1,12,13,24] [])
(.cond (tT 24)
(.seq
(.region [sS 4 (.mov (bB false))] [4] [])
.ret)
.skip))))
(.region [sS 25 (.bin .add (tT 13) (zZ 1)),sS 13 (.mov (tT 25))] [0,1,12,13] []))))))))
(.seq
(.region [sS 4 (.mov (bB true))] [4] [])
.ret)))),[.tmp 4],false,false,false⟩
def F15 : AFunc := ⟨2,(.seq
(.region [sS 2 (.box 2 3 (tT 0)),sS 3 (.box 3 3 (tT 1)),sS 4 (.mov (bB false))] [2,3] [2,3])
(.seq
(.seq
(.region [sS 6 (.fld 0 (tT 2)),sS 7 (.load 1 false (tT 6)),sS 8 (.fld 0 (tT 3)),sS 9 (.load 1 false (tT 8)),sS 10 (.bin .neq (tT 7) (tT 9)),sS 11 (.mov (tT 10)),gG 12 (.fld 1 (tT 2)) 11 false,gG 13 (.load 1 false (tT 12)) 11 false,gG 14 (.fld 1 (tT 3)) 11 false,gG 15 (.load 1 false (tT 14)) 11 false,gG 16 (.bin .neq (tT 13) (tT 15)) 11 false,sS 17 (.pick (tT 11) (bB true) (tT 16)),sS 18 (.mov (tT 17)),gG 19 (.fld 2 (tT 2)) 18 false,gG 20 (.load 1 false (tT 19)) 18 false,gG 21 (.len 0 (tT 20)) 18 false,gG 22 (.fld 2 (tT 3)) 18 false,gG 23 (.load 1 false (tT 22)) 18 false,gG 24 (.len 0 (tT 23)) 18 false,gG 25 (.bin .neq (tT 21) (tT 24)) 18 false,sS 26 (.pick (tT 18) (bB true) (tT 25))] [2,3,26] [2,3])
(.cond (tT 26)
(.seq
(.region [sS 4 (.mov (bB false))] [4] [])
.ret)
.skip))
(.seq
(.seq
(.region [sS 5 (.mov (zZ 0))] [2,3,5] [2,3])
(.block 0
(.loop
(.mask [2,3,5] [2,3]
(.seq
(.seq
(.region [sS 27 (.mov (tT 5)),sS 28 (.fld 2 (tT 2)),sS 29 (.load 1 false (tT 28)),sS 30 (.len 0 (tT 29)),sS 31 (.bin .lss (tT 27) (tT 30))] [2,3,5,31] [2,3])
(.cond (tT 31)
.skip
(.exit 0)))
(.seq
(.block 1
(.seq
(.draw [(sS 34 (.fld 2 (tT 2)),[]),(sS 35 (.load 1 false (tT 34)),[]),(sS 36 (.mov (tT 5)),[]),(sS 37 (.idx 4 (tT 35) (tT 36)),[]),(sS 38 (.load 4 true (tT 37)),[]),(sS 39 (.fld 2 (tT 3)),[]),(sS 40 (.load 1 false (tT 39)),[]),(sS 41 (.mov (tT 5)),[]),(sS 42 (.idx 4 (tT 40) (tT 41)),[]),(sS 43 (.load 4 true (tT 42)),[]),(sS 44 (.eqa true [1,0,1,1] true (tT 38) (tT 43)),[])] [2,3,5,44] [2,3])
(.cond (tT 44)
(.seq
(.region [sS 4 (.mov (bB false))] [4] [])
.ret)
.skip)))
(.region [sS 32 (.mov (tT 5)),sS 33 (.bin .add (tT 32) (zZ 1)),sS 5 (.mov (tT 33))] [2,3,5] [2,3])))))))
(.seq
(.region [sS 4 (.mov (bB true))] [4] [])
.ret)))),[.tmp 4],false,false,false⟩
def F16 : AFunc := ⟨2,(.seq
(.region [sS 2 (.box 2 3 (tT 0)),sS 3 (.box 3 3 (tT 1)),sS 4 (.mov (bB false)),sS 5 (.mov (zZ 0))] [2,3] [2,3])
(.seq
(.seq
(.region [sS 10 (.load 3 true (tT 2)),sS 11 (.load 3 true (tT 3)),sS 12 (.call (.val (.func 34 [])) [(tT 10),(tT 11)]),sS 6 (.mov (tT 12))] [2,3,6] [2,3])
(.seq
(.region [sS 13 (.mov (tT 6)),sS 14 (.bin .neq (tT 13) (zZ 0))] [2,3,6,14] [2,3])
(.cond (tT 14)
(.seq
(.region [sS 15 (.mov (tT 6)),sS 4 (.mov (bB false)),sS 5 (.mov (tT 15))] [4,5] [])
.ret)
.skip)))
(.seq
(.region [sS 17 (.load 3 true (tT 2)),sS 18 (.load 3 true (tT 3)),sS 19 (.call (.val (.func 35 [])) [(tT 17),(tT 18),(bB false)]),sS 16 (.mov (tT 19)),sS 20 (.ext (tT 16) 0),sS 21 (.ext (tT 16) 1),sS 22 (.ext (tT 16) 2),sS 7 (.mov (tT 20)),sS 8 (.mov (tT 21)),sS 9 (.mov (tT 22))] [9] [])
(.seq
(.region [sS 23 (.mov (tT 9)),sS 24 (.un .not (tT 23)),sS 4 (.mov (tT 24)),sS 5 (.mov (zZ 0))] [4,5] [])
.ret)))),[.tmp 4,.tmp 5],false,false,false⟩
def F29 : AFunc := ⟨1,(.seq
(.region [sS 1 (.box 1 3 (tT 0)),sS 2 (.mov (zZ 0))] [1] [1])
(.seq
(.seq
(.region [sS 6 (.fld 0 (tT 1)),sS 7 (.load 1 false (tT 6)),sS 8 (.bin .gtr (tT 7) (zZ 12)),sS 9 (.mov (tT 8)),gG 10 (.fld 2 (tT 1)) 9 false,gG 11 (.load 1 false (tT 10)) 9 false,gG 12 (.len 0 (tT 11)) 9 false,gG 13 (.bin .gtr (tT 12) (zZ 100)) 9 false,sS 14 (.pick (tT 9) (bB true) (tT 13))] [1,14] [1])
(.cond (tT 14)
(.seq
(.region [sS 2 (.mov (zZ 3))] [2] [])
.ret)
.skip))
(.seq
(.region [sS 15 (.clos 46 [(tT 1)]),sS 3 (.mov (tT 15))] [1,3] [1])
(.seq
(.seq
(.region [sS 16 (.mov (tT 3)),sS 17 (.fld 1 (tT 1)),sS 18 (.load 1 false (tT 17)),sS 19 (.call (tT 16) [(tT 18)]),sS 20 (.un .not (tT 19))] [1,3,20] [1])
(.cond (tT 20)
(.seq
(.region [sS 2 (.mov (zZ 1))] [2] [])
.ret)
.skip))
(.seq
(.seq
(.region [sS 21 (.fld 2 (tT 1)),sS 22 (.load 1 false (tT 21)),sS 23 (.len 0 (tT 22)),sS 24 (.mov (zZ 0))] [1,3,22,23,24] [1])
(.block 0
(.loop
(.mask [1,3,22,23,24] [1]
(.seq
(.region [sS 25 (.bin .lss (tT 24) (tT 23))] [1,3,22,23,24,25] [1])
(.seq
(.cond (tT 25)
.skip
(.exit 0))
(.seq
(.block 1
(.seq
(.region [sS 26 (.mov (tT 24)),sS 27 (.idx 4 (tT 22) (tT 24)),sS 28 (.load 4 true (tT 27)),sS 5 (.alloc 5 [pZ,.pv (.bool false),pZ,pZ]),sS 4 (.mov (tT 26)),nN (.store 4 (tT 5) (tT 28))] [1,3,4,5,22,23,24] [1,5])
(.seq
(.draw [(sS 29 (.mov (tT 3)),[]),(sS 30 (.fld 0 (tT 5)),[]),(sS 31 (.load 1 false (tT 30)),[]),(sS 32 (.call (tT 29) [(tT 31)]),[]),(sS 33 (.un .not (tT 32)),[]),(sS 34 (.mov (tT 33)),[]),(gG 35 (.mov (tT 3)) 34 false,[]),(gG 36 (.fld 3 (tT 5)) 34 false,[]),(gG 37 (.load 1 false (tT 36)) 34 false,[]),(gG 38 (.call (tT 35) [(tT 37)]) 34 false,[]),(gG 39 (.un .not (tT 38)) 34 false,[]),(sS 40 (.pick (tT 34) (bB true) (tT 39)),[]),(sS 41 (.mov (tT 40)),[]),(gG 42 (.fld 2 (tT 5)) 41 false,[]),(gG 43 (.load 1 false (tT 42)) 41 false,[]),(gG 44 (.bin .lss (tT 43) (zZ 1)) 41 false,[]),(sS 45 (.pick (tT 41) (bB true) (tT 44)),[]),(sS 46 (.mov (tT 45)),[]),(gG 47 (.fld 2 (tT 5)) 46 false,[]),(gG 48 (.load 1 false (tT 47)) 46 false,[]),(gG 49 (.bin .gtr (tT 48) (zZ 1000)) 46 false,[]),(sS 50 (.pick (tT 46) (bB true) (tT 49)),[]),(sS 51 (.mov (tT 50)),[]),(gG 52 (.mov (tT 4)) 51 false,[]),(gG 53 (.bin .gtr (tT 52) (zZ 0)) 51 false,[]),(gG 54 (.mov (tT 53)) 51 false,[]),(gG 55 (.fld 2 (tT 1)) 54 true,[]),(gG 56 (.load 1 false (tT 55)) 54 true,[]),(gG 57 (.mov (tT 4)) 54 true,[]),(gG 58 (.bin .sub (tT 57) (zZ 1)) 54 true,[]),(gG 59 (.idx 4 (tT 56) (tT 58)) 54 true,[]),(gG 60 (.load 4 true (tT 59)) 54 true,[]),(gG 61 (.load 4 true (tT 5)) 54 true,[]),(gG 62 (.call (.val (.func 47 [])) [(tT 60),(tT 61)]) 54 true,[]),(gG 63 (.bin .geq (tT 62) (zZ 0)) 54 true,[]),(gG 64 (.pick (tT 54) (tT 63) (bB false)) 51 false,[]),(sS 65 (.pick (tT 51) (bB true) (tT 64)),[])] [1,3,22,23,24,65] [1])
(.cond (tT 65)
(.seq
(.region [sS 2 (.mov (zZ 1))] [2] [])
.ret)
.skip))))
(.region [sS 66 (.bin .add (tT 24) (zZ 1)),sS 24 (.mov (tT 66))] [1,3,22,23,24] [1]))))))))
(.seq
(.region [sS 2 (.mov (zZ 0))] [2] [])
.ret)))))),[.tmp 2],false,false,false⟩
def F32 : AFunc := ⟨1,(.seq
(.region [sS 1 (.box 1 3 (tT 0)),sS 2 (.alloc 2 [pZ,pZ,.tl []]),sS 3 (.mov (zZ 0))] [1,2] [1,2])
(.seq
(.seq
(.region [sS 10 (.load 3 true (tT 1)),sS 11 (.call (.val (.func 29 [])) [(tT 10)]),sS 4 (.mov (tT 11))] [1,2,4] [1,2])
(.seq
(.region [sS 12 (.mov (tT 4)),sS 13 (.bin .neq (tT 12) (zZ 0))] [1,2,4,13] [1,2])
(.cond (tT 13)
(.seq
(.region [sS 14 (.build [pZ,pZ,.tl []] []),sS 15 (.mov (tT 4)),nN (.store 3 (tT 2) (tT 14)),sS 3 (.mov (tT 15))] [2,3] [2])
.ret)
.skip)))
(.seq
(.region [sS 17 (.load 3 true (tT 1)),sS 18 (.call (.val (.func 50 [])) [(tT 17)]),sS 16 (.mov (tT 18)),sS 19 (.ext (tT 16) 0),sS 20 (.ext (tT 16) 1),sS 5 (.mov (tT 19)),sS 6 (.mov (tT 20))] [1,2,5,6] [1,2])
(.seq
(.region [sS 21 (.mov (tT 5)),sS 22 (.len 0 (tT 21)),sS 23 (.build [pZ,pZ,.tl []] [(0,1,(tT 22))]),sS 7 (.alloc 7 [pZ,pZ,.tl []]),nN (.store 3 (tT 7) (tT 23))] [1,2,6,7] [1,2,7])
(.seq
(.seq
(.region [sS 24 (.fld 2 (tT 1)),sS 25 (.load 1 false (tT 24)),sS 26 (.len 0 (tT 25)),sS 27 (.mov (zZ 0))] [2,6,7,25,26,27] [2,7])
(.block 0
(.loop
(.mask [2,6,7,25,26,27] [2,7]
(.seq
(.region [sS 28 (.bin .lss (tT 27) (tT 26))] [2,6,7,25,26,27,28] [2,7])
(.seq
(.cond (tT 28)
.skip
(.exit 0))
(.seq
(.block 1
(.seq
(.region [sS 29 (.idx 4 (tT 25) (tT 27)),sS 30 (.load 4 true (tT 29)),sS 9 (.alloc 9 [pZ,.pv (.bool false),pZ,pZ]),nN (.store 4 (tT 9) (tT 30))] [2,6,7,9,25,26,27] [2,7,9])
(.seq
(.region [sS 31 (.mov (tT 6)),sS 32 (.fld 0 (tT 9)),sS 33 (.load 1 false (tT 32)),sS 34 (.idx 1 (tT 31) (tT 33)),sS 35 (.load 1 false (tT 34)),sS 36 (.bin .geq (tT 35) (zZ 0))] [2,6,7,9,25,26,27,36] [2,7,9])
(.cond (tT 36)
(.seq
(.draw [(sS 37 (.mov (tT 6)),[]),(sS 38 (.fld 0 (tT 9)),[]),(sS 39 (.load 1 false (tT 38)),[]),(sS 40 (.idx 1 (tT 37) (tT 39)),[]),(sS 41 (.load 1 false (tT 40)),[]),(sS 42 (.mov (tT 6)),[]),(sS 43 (.fld 3 (tT 9)),[]),(sS 44 (.load 1 false (tT 43)),[]),(sS 45 (.idx 1 (tT 42) (tT 44)),[]),(sS 46 (.load 1 false (tT 45)),[]),(sS 47 (.fld 0 (tT 9)),[]),(nN (.store 1 (tT 47) (tT 41)),[8,9]),(sS 48 (.fld 3 (tT 9)),[]),(nN (.store 1 (tT 48) (tT 46)),[])] [2,6,7,9,25,26,27] [2,7,9])
(.region [sS 49 (.fld 2 (tT 7)),sS 50 (.load 1 false (tT 49)),sS 51 (.load 4 true (tT 9)),sS 52 (.lit 4 [pZ,.pv (.bool false),pZ,pZ] 1 [(0,4,(tT 51))]),sS 53 (.app 4 (tT 50) (tT 52)),sS 54 (.fld 2 (tT 7)),nN (.store 1 (tT 54) (tT 53))] [2,6,7,25,26,27] [2,7]))
.skip))))
(.region [sS 55 (.bin .add (tT 27) (zZ 1)),sS 27 (.mov (tT 55))] [2,6,7,25,26,27] [2,7]))))))))
(.seq
(.region [sS 56 (.fld 2 (tT 7)),sS 57 (.load 1 false (tT 56)),sS 58 (.call (.val (.func 51 [])) [(tT 57),(.val (.func 47 []))])] [2,7] [2,7])
(.seq
(.region [sS 59 (.load 3 true (tT 7)),nN (.store 3 (tT 2) (tT 59)),sS 3 (.mov (zZ 0))] [2,3] [2])
.ret))))))),[.cell 2 3 true,.tmp 3],false,false,false⟩
def F34 : AFunc := ⟨2,(.seq
(.region [sS 2 (.box 2 3 (tT 0)),sS 3 (.box 3 3 (tT 1)),sS 4 (.mov (zZ 0))] [2,3] [2,3])
(.seq
(.seq
(.region [sS 6 (.load 3 true (tT 2)),sS 7 (.call (.val (.func 29 [])) [(tT 6)]),sS 5 (.mov (tT 7))] [3,5] [3])
(.seq
(.region [sS 8 (.mov (tT 5)),sS 9 (.bin .neq (tT 8) (zZ 0))] [3,5,9] [3])
(.cond (tT 9)
(.seq
(.region [sS 10 (.mov (tT 5)),sS 4 (.mov (tT 10))] [4] [])
.ret)
.skip)))
(.seq
(.region [sS 11 (.load 3 true (tT 3)),sS 12 (.call (.val (.func 29 [])) [(tT 11)]),sS 4 (.mov (tT 12))] [4] [])
.ret))),[.tmp 4],false,false,false⟩
def F35 : AFunc := ⟨3,(.seq
(.region [sS 3 (.box 3 3 (tT 0)),sS 4 (.box 4 3 (tT 1)),sS 6 (.mov (.val (.tl []))),sS 7 (.mov (zZ 0)),sS 8 (.mov (bB false))] [2,3,4] [3,4])
(.seq
(.region [sS 21 (.fld 1 (tT 3)),sS 22 (.load 1 false (tT 21)),sS 23 (.fld 1 (tT 4)),sS 24 (.load 1 false (tT 23)),sS 25 (.build [pZ,pZ,.tl []] [(0,1,(tT 22)),(1,1,(tT 24)),(2,1,(.val (.tl [])))]),sS 26 (.lit 3 [pZ,pZ,.tl []] 1 [(0,3,(tT 25))]),sS 9 (.mov (tT 26))] [2,3,4,9] [3,4])
(.seq
(.region [sS 27 (.mkmap),sS 28 (.fld 1 (tT 3)),sS 29 (.load 1 false (tT 28)),sS 30 (.fld 1 (tT 4)),sS 31 (.load 1 false (tT 30)),sS 32 (.build [pZ,pZ] [(0,1,(tT 29)),(1,1,(tT 31))]),nN (.upd true [1,1] (tT 27) (tT 32) (bB true)),sS 33 (.mov (tT 27)),sS 10 (.mov (tT 33))] [2,3,4,9,10] [3,4])
(.seq
(.block 0
(.loop
(.mask [2,3,4,9,10] [3,4]
(.seq
(.seq
(.region [sS 34 (.mov (tT 9)),sS 35 (.len 0 (tT 34)),sS 36 (.bin .gtr (tT 35) (zZ 0))] [2,3,4,9,10,36] [3,4])
(.cond (tT 36)
.skip
(.exit 0)))
(.block 1
(.seq
(.region [sS 37 (.mov (tT 9)),sS 38 (.idx 3 (tT 37) (zZ 0)),sS 39 (.load 3 true (tT 38)),sS 11 (.alloc 11 [pZ,pZ,.tl []]),nN (.store 3 (tT 11) (tT 39))] [2,3,4,9,10,11] [3,4,11])
(.seq
(.region [sS 40 (.mov (tT 9)),sS 41 (.sl 3 (tT 40) (some (zZ 1)) none none),sS 9 (.mov (tT 41))] [2,3,4,9,10,11] [3,4,11])
(.seq
(.draw [(sS 42 (.load 3 true (tT 3)),[]),(sS 43 (.fld 0 (tT 11)),[]),(sS 44 (.load 1 false (tT 43)),[]),(sS 45 (.call (.val (.func 54 [])) [(tT 42),(tT 44)]),[]),(sS 46 (.load 3 true (tT 4)),[3]),(sS 47 (.fld 1 (tT 11)),[]),(sS 48 (.load 1 false (tT 47)),[3]),(sS 49 (.call (.val (.func 54 [])) [(tT 46),(tT 48)]),[]),(sS 12 (.mov (tT 45)),[]),(sS 13 (.mov (tT 49)),[])] [2,3,4,9,10,11,12,13] [3,4,11])
(.seq
(.seq
(.region [sS 14 (.mov (zZ 0)),sS 15 (.mov (zZ 0))] [2,3,4,9,10,11,12,13,14,15] [3,4,11])
(.block 2
(.loop
(.mask [2,3,4,9,10,11,12,13,14,15] [3,4,11]
(.seq
(.seq
(.region [sS 50 (.mov (tT 14)),sS 51 (.mov (tT 12)),sS 52 (.len 0 (tT 51)),sS 53 (.bin .lss (tT 50) (tT 52)),sS 54 (.mov (tT 53)),gG 55 (.mov (tT 15)) 54 false,gG 56 (.mov (tT 13)) 54 false,gG 57 (.len 0 (tT 56)) 54 false,gG 58 (.bin .lss (tT 55) (tT 57)) 54 false,sS 59 (.pick (tT 54) (bB true) (tT 58))] [2,3,4,9,10,11,12,13,14,15,59] [3,4,11])
(.cond (tT 59)
.skip
(.exit 2)))
(.block 3
(.block 4
(.seq
(.draw [(sS 65 (.mov (tT 15)),[]),(sS 66 (.mov (tT 13)),[]),(sS 67 (.len 0 (tT 66)),[]),(sS 68 (.bin .eql (tT 65) (tT 67)),[]),(sS 69 (.mov (tT 68)),[]),(gG 70 (.mov (tT 14)) 69 false,[]),(gG 71 (.mov (tT 12)) 69 false,[]),(gG 72 (.len 0 (tT 71)) 69 false,[]),(gG 73 (.bin .lss (tT 70) (tT 72)) 69 false,[]),(gG 74 (.mov (tT 73)) 69 false,[]),(gG 75 (.mov (tT 12)) 74 true,[]),(gG 76 (.mov (tT 14)) 74 true,[]),(gG 77 (.idx 4 (tT 75) (tT 76)) 74 true,[]),(gG 78 (.load 4 true (tT 77)) 74 true,[]),(gG 79 (.mov (tT 13)) 74 true,[]),(gG 80 (.mov (tT 15)) 74 true,[]),(gG 81 (.idx 4 (tT 79) (tT 80)) 74 true,[]),(gG 82 (.load 4 true (tT 81)) 74 true,[]),(gG 83 (.call (.val (.func 55 [])) [(tT 78),(tT 82)]) 74 true,[]),(gG 84 (.pick (tT 74) (tT 83) (bB false)) 69 false,[]),(sS 85 (.pick (tT 69) (bB true) (tT 84)),[]),(sS 64 (.mov (tT 85)),[])] [2,3,4,9,10,11,12,13,14,15,64] [3,4,11])
(.cond (tT 64)
(.seq
(.draw [(sS 86 (.fld 2 (tT 11)),[]),(sS 87 (.load 1 false (tT 86)),[]),(sS 88 (.mov (tT 12)),[]),(sS 89 (.mov (tT 14)),[]),(sS 90 (.idx 4 (tT 88) (tT 89)),[]),(sS 91 (.load 4 true (tT 90)),[]),(sS 92 (.call (.val (.func 56 [])) [(tT 91)]),[1]),(sS 93 (.lit 2 [.pv (.bool false),pZ] 1 [(0,2,(tT 92))]),[1]),(sS 94 (.app 2 (tT 87) (tT 93)),[]),(sS 6 (.mov (tT 94)),[]),(sS 7 (.mov (zZ 0)),[]),(sS 8 (.mov (bB true)),[])] [6,7,8] [])
.ret)
(.seq
(.draw [(sS 96 (.mov (tT 14)),[]),(sS 97 (.mov (tT 12)),[]),(sS 98 (.len 0 (tT 97)),[]),(sS 99 (.bin .eql (tT 96) (tT 98)),[]),(sS 100 (.mov (tT 99)),[]),(gG 101 (.mov (tT 13)) 100 false,[]),(gG 102 (.mov (tT 15)) 100 false,[]),(gG 103 (.idx 4 (tT 101) (tT 102)) 100 false,[]),(gG 104 (.load 4 true (tT 103)) 100 false,[]),(gG 105 (.mov (tT 12)) 100 false,[]),(gG 106 (.mov (tT 14)) 100 false,[]),(gG 107 (.idx 4 (tT 105) (tT 106)) 100 false,[]),(gG 108 (.load 4 true (tT 107)) 100 false,[]),(gG 109 (.call (.val (.func 55 [])) [(tT 104),(tT 108)]) 100 false,[]),(sS 110 (.pick (tT 100) (bB true) (tT 109)),[]),(sS 95 (.mov (tT 110)),[])] [2,3,4,9,10,11,12,13,14,15,95] [3,4,11])
(.cond (tT 95)
(.seq
(.seq
(.region [sS 111 (.mov (tT 2)),sS 112 (.un .not (tT 111))] [2,3,4,9,10,11,12,13,14,15,112] [3,4,11])
(.cond (tT 112)
(.seq
(.draw [(sS 113 (.fld 2 (tT 11)),[]),(sS 114 (.load 1 false (tT 113)),[]),(sS 115 (.mov (tT 13)),[]),(sS 116 (.mov (tT 15)),[]),(sS 117 (.idx 4 (tT 115) (tT 116)),[]),(sS 118 (.load 4 true (tT 117)),[]),(sS 119 (.call (.val (.func 56 [])) [(tT 118)]),[1]),(sS 120 (.lit 2 [.pv (.bool false),pZ] 1 [(0,2,(tT 119))]),[1]),(sS 121 (.app 2 (tT 114) (tT 120)),[]),(sS 6 (.mov (tT 121)),[]),(sS 7 (.mov (zZ 1)),[]),(sS 8 (.mov (bB true)),[])] [6,7,8] [])
.ret)
.skip))
(.region [sS 122 (.mov (tT 15)),sS 123 (.bin .add (tT 122) (zZ 1)),sS 15 (.mov (tT 123))] [2,3,4,9,10,11,12,13,14,15] [3,4,11]))
(.region [sS 60 (.mov (tT 14)),sS 61 (.bin .add (tT 60) (zZ 1)),sS 62 (.mov (tT 15)),sS 63 (.bin .add (tT 62) (zZ 1)),sS 14 (.mov (tT 61)),sS 15 (.mov (tT 63))] [2,3,4,9,10,11,12,13,14,15] [3,4,11]))))))))))))
(.seq
(.region [sS 124 (.mov (tT 12)),sS 125 (.len 0 (tT 124)),sS 126 (.mov (zZ 0))] [2,3,4,9,10,11,124,125,126] [3,4,11])
(.block 5
(.loop
(.mask [2,3,4,9,10,11,124,125,126] [3,4,11]
(.seq
(.region [sS 127 (.bin .lss (tT 126) (tT 125))] [2,3,4,9,10,11,124,125,126,127] [3,4,11])
(.seq
(.cond (tT 127)
.skip
(.exit 5))
(.seq
(.block 6
(.seq
(.region [sS 128 (.idx 4 (tT 124) (tT 126)),sS 129 (.load 4 true (tT 128)),sS 17 (.alloc 17 [pZ,.pv (.bool false),pZ,pZ]),nN (.store 4 (tT 17) (tT 129))] [2,3,4,9,10,11,17,124,125,126] [3,4,11,17])
(.seq
(.region [sS 131 (.load 3 true (tT 4)),sS 132 (.fld 1 (tT 11)),sS 133 (.load 1 false (tT 132)),sS 134 (.fld 1 (tT 17)),sS 135 (.load 1 false (tT 134)),sS 136 (.fld 2 (tT 17)),sS 137 (.load 1 false (tT 136)),sS 138 (.call (.val (.func 45 [])) [(tT 131),(tT 133),(tT 135),(tT 137)]),sS 130 (.mov (tT 138)),sS 139 (.ext (tT 130) 0),sS 140 (.ext (tT 130) 1),sS 18 (.mov (tT 139)),sS 19 (.mov (tT 140))] [2,3,4,9,10,11,17,18,19,124,125,126] [3,4,11,17])
(.seq
(.region [sS 141 (.fld 3 (tT 17)),sS 142 (.load 1 false (tT 141)),sS 143 (.mov (tT 18)),sS 144 (.build [pZ,pZ] [(0,1,(tT 142)),(1,1,(tT 143))]),sS 20 (.alloc 20 [pZ,pZ]),nN (.store 2 (tT 20) (tT 144))] [2,3,4,9,10,11,17,18,19,20,124,125,126] [3,4,11,17,20])
(.seq
(.region [sS 145 (.mov (tT 19)),sS 146 (.mov (tT 145)),gG 147 (.mov (tT 10)) 146 true,gG 148 (.load 2 true (tT 20)) 146 true,gG 149 (.look true [1,1] (.pv (.bool false)) (tT 147) (tT 148) false) 146 true,gG 150 (.un .not (tT 149)) 146 true,sS 151 (.pick (tT 146) (tT 150) (bB false))] [2,3,4,9,10,11,17,18,20,124,125,126,151] [3,4,11,17,20])
(.cond (tT 151)
(.seq
(.region [sS 152 (.mov (tT 10)),sS 153 (.load 2 true (tT 20)),nN (.upd true [1,1] (tT 152) (tT 153) (bB true))] [2,3,4,9,10,11,17,18,124,125,126] [3,4,11,17])
(.draw [(sS 154 (.mov (tT 9)),[]),(sS 155 (.fld 3 (tT 17)),[]),(sS 156 (.load 1 false (tT 155)),[]),(sS 157 (.mov (tT 18)),[]),(sS 158 (.fld 2 (tT 11)),[]),(sS 159 (.load 1 false (tT 158)),[]),(sS 160 (.call (.val (.func 57 [])) [(tT 159)]),[2]),(sS 161 (.load 4 true (tT 17)),[6]),(sS 162 (.call (.val (.func 56 [])) [(tT 161)]),[2]),(sS 163 (.lit 2 [.pv (.bool false),pZ] 1 [(0,2,(tT 162))]),[2]),(sS 164 (.app 2 (tT 160) (tT 163)),[2]),(sS 165 (.build [pZ,pZ,.tl []] [(0,1,(tT 156)),(1,1,(tT 157)),(2,1,(tT 164))]),[]),(sS 166 (.lit 3 [pZ,pZ,.tl []] 1 [(0,3,(tT 165))]),[]),(sS 167 (.app 3 (tT 154) (tT 166)),[]),(sS 9 (.mov (tT 167)),[])] [2,3,4,9,10,11,124,125,126] [3,4,11]))
.skip))))))
(.region [sS 168 (.bin .add (tT 126) (zZ 1)),sS 126 (.mov (tT 168))] [2,3,4,9,10,11,124,125,126] [3,4,11])))))))))))))))))
(.seq
(.region [sS 6 (.mov (.val (.tl []))),sS 7 (.mov (zZ 0)),sS 8 (.mov (bB false))] [6,7,8] [])
.ret))))),[.tmp 6,.tmp 7,.tmp 8],false,false,false⟩
def F45 : AFunc := ⟨4,(.seq
(.region [sS 4 (.box 4 3 (tT 0)),sS 8 (.mov (zZ 0)),sS 9 (.mov (bB false))] [1,2,3,4] [4])
(.seq
(.seq
(.region [sS 12 (.fld 2 (tT 4)),sS 13 (.load 1 false (tT 12)),sS 14 (.len 0 (tT 13)),sS 15 (.mov (zZ 0))] [1,2,3,13,14,15] [])
(.block 0
(.loop
(.mask [1,2,3,13,14,15] []
(.seq
(.region [sS 16 (.bin .lss (tT 15) (tT 14))] [1,2,3,13,14,15,16] [])
(.seq
(.cond (tT 16)
.skip
(.exit 0))
(.seq
(.block 1
(.seq
(.region [sS 17 (.idx 4 (tT 13) (tT 15)),sS 18 (.load 4 true (tT 17)),sS 11 (.alloc 11 [pZ,.pv (.bool false),pZ,pZ]),nN (.store 4 (tT 11) (tT 18))] [1,2,3,11,13,14,15] [11])
(.seq
(.region [sS 19 (.fld 0 (tT 11)),sS 20 (.load 1 false (tT 19)),sS 21 (.mov (tT 1)),sS 22 (.bin .eql (tT 20) (tT 21)),sS 23 (.mov (tT 22)),gG 24 (.fld 1 (tT 11)) 23 true,gG 25 (.load 1 false (tT 24)) 23 true,gG 26 (.mov (tT 2)) 23 true,gG 27 (.eqa false [0] false (tT 25) (tT 26)) 23 true,sS 28 (.pick (tT 23) (tT 27) (bB false)),sS 29 (.mov (tT 28)),gG 30 (.fld 2 (tT 11)) 29 true,gG 31 (.load 1 false (tT 30)) 29 true,gG 32 (.mov (tT 3)) 29 true,gG 33 (.bin .eql (tT 31) (tT 32)) 29 true,sS 34 (.pick (tT 29) (tT 33) (bB false))] [1,2,3,11,13,14,15,34] [11])
(.cond (tT 34)
(.seq
(.region [sS 35 (.fld 3 (tT 11)),sS 36 (.load 1 false (tT 35)),sS 8 (.mov (tT 36)),sS 9 (.mov (bB true))] [8,9] [])
.ret)
.skip))))
(.region [sS 37 (.bin .add (tT 15) (zZ 1)),sS 15 (.mov (tT 37))] [1,2,3,13,14,15] []))))))))
(.seq
(.region [sS 8 (.mov (zZ 0)),sS 9 (.mov (bB false))] [8,9] [])
.ret))),[.tmp 8,.tmp 9],false,false,false⟩
def F46 : AFunc := ⟨2,(.seq
(.region [sS 3 (.mov (bB false))] [0,1] [])
(.seq
(.region [sS 4 (.mov (tT 0)),sS 5 (.bin .geq (tT 4) (zZ 0)),sS 6 (.mov (tT 5)),gG 7 (.mov (tT 0)) 6 true,gG 8 (.fld 0 (tT 1)) 6 true,gG 9 (.load 1 false (tT 8)) 6 true,gG 10 (.bin .lss (tT 7) (tT 9)) 6 true,sS 11 (.pick (tT 6) (tT 10) (bB false)),sS 3 (.mov (tT 11))] [3] [])
.ret)),[.tmp 3],false,false,false⟩
def F47 : AFunc := ⟨2,(.seq
(.region [sS 2 (.box 2 4 (tT 0)),sS 3 (.box 3 4 (tT 1)),sS 4 (.mov (zZ 0))] [2,3] [2,3])
(.seq
(.region [sS 5 (.mov (.val (.func 58 [])))] [2,3,5] [2,3])
(.seq
(.draw [(sS 6 (.fld 0 (tT 2)),[]),(sS 7 (.load 1 false (tT 6)),[]),(sS 8 (.fld 0 (tT 3)),[]),(sS 9 (.load 1 false (tT 8)),[]),(sS 10 (.call (.val (.func 60 [])) [(tT 7),(tT 9)]),[]),(sS 11 (.mov (tT 5)),[]),(sS 12 (.load 4 true (tT 2)),[4]),(sS 13 (.call (tT 11) [(tT 12)]),[]),(sS 14 (.mov (tT 5)),[]),(sS 15 (.load 4 true (tT 3)),[4,7]),(sS 16 (.call (tT 14) [(tT 15)]),[]),(sS 17 (.call (.val (.func 60 [])) [(tT 13),(tT 16)]),[]),(sS 18 (.fld 2 (tT 2)),[]),(sS 19 (.load 1 false (tT 18)),[4,7,10,11]),(sS 20 (.fld 2 (tT 3)),[]),(sS 21 (.load 1 false (tT 20)),[4,7,10,11]),(sS 22 (.call (.val (.func 60 [])) [(tT 19),(tT 21)]),[]),(sS 23 (.lit 1 [pZ] 3 [(0,1,(tT 10)),(1,1,(tT 17)),(2,1,(tT 22))]),[]),(sS 24 (.call (.val (.func 59 [])) [(tT 23)]),[]),(sS 4 (.mov (tT 24)),[])] [4] [])
.ret))),[.tmp 4],false,false,false⟩
def F50 : AFunc := ⟨1,(.seq
(.region [sS 1 (.box 1 3 (tT 0)),sS 2 (.mov (.val (.tl []))),sS 3 (.mov (.val (.tl [])))] [1] [1])
(.seq
(.region [sS 10 (.fld 0 (tT 1)),sS 11 (.load 1 false (tT 10)),sS 12 (.make 1 [pZ] (tT 11) (tT 11)),sS 4 (.mov (tT 12))] [1,4] [1])
(.seq
(.seq
(.region [sS 13 (.mov (tT 4)),sS 14 (.len 0 (tT 13)),sS 15 (.mov (zZ 0))] [1,4,14,15] [1])
(.block 0
(.loop
(.mask [1,4,14,15] [1]
(.seq
(.region [sS 16 (.bin .lss (tT 15) (tT 14))] [1,4,14,15,16] [1])
(.seq
(.cond (tT 16)
.skip
(.exit 0))
(.seq
(.block 1
(.seq
(.region [sS 17 (.mov (tT 15)),sS 5 (.mov (tT 17))] [1,4,5,14,15] [1])
(.region [sS 18 (.mov (tT 4)),sS 19 (.mov (tT 5)),sS 20 (.idx 1 (tT 18) (tT 19)),nN (.store 1 (tT 20) (.val (.pv (.int .i64 (-1)))))] [1,4,14,15] [1])))
(.region [sS 21 (.bin .add (tT 15) (zZ 1)),sS 15 (.mov (tT 21))] [1,4,14,15] [1]))))))))
(.seq
(.region [sS 22 (.fld 1 (tT 1)),sS 23 (.load 1 false (tT 22)),sS 24 (.lit 1 [pZ] 1 [(0,1,(tT 23))]),sS 6 (.mov (tT 24))] [1,4,6] [1])
(.seq
(.region [sS 25 (.mov (tT 4)),sS 26 (.fld 1 (tT 1)),sS 27 (.load 1 false (tT 26)),sS 28 (.idx 1 (tT 25) (tT 27)),nN (.store 1 (tT 28) (zZ 0))] [1,4,6] [1])
(.seq
(.seq
(.region [sS 7 (.mov (zZ 0))] [1,4,6,7] [1])
(.block 2
(.loop
(.mask [1,4,6,7] [1]
(.seq
(.seq
(.region [sS 29 (.mov (tT 7)),sS 30 (.mov (tT 6)),sS 31 (.len 0 (tT 30)),sS 32 (.bin .lss (tT 29) (tT 31))] [1,4,6,7,32] [1])
(.cond (tT 32)
.skip
(.exit 2)))
(.seq
(.block 3
(.seq
(.region [sS 35 (.fld 2 (tT 1)),sS 36 (.load 1 false (tT 35)),sS 37 (.len 0 (tT 36)),sS 38 (.mov (zZ 0))] [1,4,6,7,36,37,38] [1])
(.block 4
(.loop
(.mask [1,4,6,7,36,37,38] [1]
(.seq
(.region [sS 39 (.bin .lss (tT 38) (tT 37))] [1,4,6,7,36,37,38,39] [1])
(.seq
(.cond (tT 39)
.skip
(.exit 4))
(.seq
(.block 5
(.seq
(.region [sS 40 (.idx 4 (tT 36) (tT 38)),sS 41 (.load 4 true (tT 40)),sS 9 (.alloc 9 [pZ,.pv (.bool false),pZ,pZ]),nN (.store 4 (tT 9) (tT 41))] [1,4,6,7,9,36,37,38] [1,9])
(.seq
(.draw [(sS 42 (.fld 0 (tT 9)),[]),(sS 43 (.load 1 false (tT 42)),[]),(sS 44 (.mov (tT 6)),[]),(sS 45 (.mov (tT 7)),[]),(sS 46 (.idx 1 (tT 44) (tT 45)),[]),(sS 47 (.load 1 false (tT 46)),[]),(sS 48 (.bin .eql (tT 43) (tT 47)),[]),(sS 49 (.mov (tT 48)),[]),(gG 50 (.mov (tT 4)) 49 true,[]),(gG 51 (.fld 3 (tT 9)) 49 true,[]),(gG 52 (.load 1 false (tT 51)) 49 true,[]),(gG 53 (.idx 1 (tT 50) (tT 52)) 49 true,[]),(gG 54 (.load 1 false (tT 53)) 49 true,[]),(gG 55 (.bin .lss (tT 54) (zZ 0)) 49 true,[]),(sS 56 (.pick (tT 49) (tT 55) (bB false)),[])] [1,4,6,7,9,36,37,38,56] [1,9])
(.cond (tT 56)
(.seq
(.region [sS 57 (.mov (tT 4)),sS 58 (.fld 3 (tT 9)),sS 59 (.load 1 false (tT 58)),sS 60 (.mov (tT 6)),sS 61 (.len 0 (tT 60)),sS 62 (.idx 1 (tT 57) (tT 59)),nN (.store 1 (tT 62) (tT 61))] [1,4,6,7,9,36,37,38] [1,9])
(.region [sS 63 (.mov (tT 6)),sS 64 (.fld 3 (tT 9)),sS 65 (.load 1 false (tT 64)),sS 66 (.lit 1 [pZ] 1 [(0,1,(tT 65))]),sS 67 (.app 1 (tT 63) (tT 66)),sS 6 (.mov (tT 67))] [1,4,6,7,36,37,38] [1]))
.skip))))
(.region [sS 68 (.bin .add (tT 38) (zZ 1)),sS 38 (.mov (tT 68))] [1,4,6,7,36,37,38] [1])))))))))
(.region [sS 33 (.mov (tT 7)),sS 34 (.bin .add (tT 33) (zZ 1)),sS 7 (.mov (tT 34))] [1,4,6,7] [1])))))))
(.seq
(.region [sS 69 (.mov (tT 6)),sS 70 (.mov (tT 4)),sS 2 (.mov (tT 69)),sS 3 (.mov (tT 70))] [2,3] [])
.ret))))))),[.tmp 2,.tmp 3],false,false,false⟩
def F54 : AFunc := ⟨2,(.seq
(.region [sS 2 (.box 2 3 (tT 0)),sS 3 (.box 3 1 (tT 1)),sS 4 (.mov (.val (.tl [])))] [2,3] [2,3])
(.seq
(.region [sS 5 (.fld 2 (tT 2)),sS 6 (.load 1 false (tT 5)),sS 7 (.call (.val (.func 64 [])) [(tT 6)]),sS 8 (.clos 65 [(tT 3)]),sS 9 (.call (.val (.func 63 [])) [(tT 7),(tT 8)]),sS 4 (.mov (tT 9))] [4] [])
.ret)),[.tmp 4],false,false,false⟩
def F55 : AFunc := ⟨2,(.seq
(.region [sS 2 (.box 2 4 (tT 0)),sS 3 (.box 3 4 (tT 1)),sS 4 (.mov (bB false))] [2,3] [2,3])
(.seq
(.seq
(.region [sS 5 (.fld 1 (tT 2)),sS 6 (.load 1 false (tT 5)),sS 7 (.fld 1 (tT 3)),sS 8 (.load 1 false (tT 7)),sS 9 (.eqa false [0] true (tT 6) (tT 8))] [2,3,9] [2,3])
(.cond (tT 9)
(.seq
(.region [sS 10 (.fld 1 (tT 3)),sS 11 (.load 1 false (tT 10)),sS 4 (.mov (tT 11))] [4] [])
.ret)
.skip))
(.seq
(.region [sS 12 (.fld 2 (tT 2)),sS 13 (.load 1 false (tT 12)),sS 14 (.fld 2 (tT 3)),sS 15 (.load 1 false (tT 14)),sS 16 (.bin .lss (tT 13) (tT 15)),sS 4 (.mov (tT 16))] [4] [])
.ret))),[.tmp 4],false,false,false⟩
def F56 : AFunc := ⟨1,(.seq
(.region [sS 1 (.box 1 4 (tT 0)),sS 2 (.alloc 2 [.pv (.bool false),pZ])] [1,2] [1,2])
(.seq
(.region [sS 3 (.fld 1 (tT 1)),sS 4 (.load 1 false (tT 3)),sS 5 (.fld 2 (tT 1)),sS 6 (.load 1 false (tT 5)),sS 7 (.build [.pv (.bool false),pZ] [(0,1,(tT 4)),(1,1,(tT 6))]),nN (.store 2 (tT 2) (tT 7))] [2] [2])
.ret)),[.cell 2 2 true],false,false,false⟩
def F58 : AFunc := ⟨1,(.seq
(.region [sS 1 (.box 1 4 (tT 0)),sS 2 (.mov (zZ 0))] [1] [1])
(.seq
(.seq
(.region [sS 3 (.fld 1 (tT 1)),sS 4 (.load 1 false (tT 3))] [4] [])
(.cond (tT 4)
(.seq
(.region [sS 2 (.mov (zZ 1))] [2] [])
.ret)
.skip))
(.seq
(.region [sS 2 (.mov (zZ 0))] [2] [])
.ret))),[.tmp 2],false,false,false⟩
def F59 : AFunc := ⟨1,(.seq
(.region [sS 2 (.mov (zZ 0))] [0] [])
(.seq
(.region [sS 3 (.mov (zZ 0))] [0,3] [])
(.seq
(.seq
(.region [sS 6 (.mov (tT 0)),sS 7 (.len 0 (tT 6)),sS 8 (.mov (zZ 0))] [3,6,7,8] [])
(.block 0
(.loop
(.mask [3,6,7,8] []
(.seq
(.region [sS 9 (.bin .lss (tT 8) (tT 7))] [3,6,7,8,9] [])
(.seq
(.cond (tT 9)
.skip
(.exit 0))
(.seq
(.block 1
(.seq
(.region [sS 10 (.idx 1 (tT 6) (tT 8)),sS 11 (.load 1 false (tT 10)),sS 5 (.mov (tT 11))] [3,5,6,7,8] [])
(.seq
(.region [sS 12 (.mov (tT 5)),sS 13 (.mov (tT 3)),sS 14 (.bin .neq (tT 12) (tT 13))] [3,5,6,7,8,14] [])
(.cond (tT 14)
(.seq
(.region [sS 15 (.mov (tT 5)),sS 2 (.mov (tT 15))] [2] [])
.ret)
.skip))))
(.region [sS 16 (.bin .add (tT 8) (zZ 1)),sS 8 (.mov (tT 16))] [3,6,7,8] []))))))))
(.seq
(.region [sS 17 (.mov (tT 3)),sS 2 (.mov (tT 17))] [2] [])
.ret)))),[.tmp 2],false,false,false⟩
def F60 : AFunc := ⟨2,(.seq
(.region [sS 4 (.mov (zZ 0))] [0,1] [])
(.seq
(.region [sS 7 (.mov (tT 0)),sS 8 (.call (.val (.func 66 [])) [(tT 7)]),sS 5 (.mov (tT 8))] [0,1,5] [])
(.seq
(.region [sS 9 (.mov (tT 1)),sS 10 (.call (.val (.func 66 [])) [(tT 9)]),sS 6 (.mov (tT 10))] [0,1,5,6] [])
(.seq
(.seq
(.region [sS 11 (.mov (tT 5))] [0,1,6,11] [])
(.cond (tT 11)
(.seq
(.seq
(.region [sS 12 (.mov (tT 6))] [12] [])
(.cond (tT 12)
(.seq
(.region [sS 4 (.mov (zZ 0))] [4] [])
.ret)
.skip))
(.seq
(.region [sS 4 (.mov (.val (.pv (.int .i64 (-1)))))] [4] [])
.ret))
.skip))
(.seq
(.seq
(.region [sS 13 (.mov (tT 6))] [0,1,13] [])
(.cond (tT 13)
(.seq
(.region [sS 4 (.mov (zZ 1))] [4] [])
.ret)
.skip))
(.seq
(.seq
(.region [sS 14 (.mov (tT 0)),sS 15 (.mov (tT 1)),sS 16 (.bin .lss (tT 14) (tT 15))] [0,1,16] [])
(.cond (tT 16)
(.seq
(.region [sS 4 (.mov (.val (.pv (.int .i64 (-1)))))] [4] [])
.ret)
.skip))
(.seq
(.seq
(.region [sS 17 (.mov (tT 0)),sS 18 (.mov (tT 1)),sS 19 (.bin .gtr (tT 17) (tT 18))] [19] [])
(.cond (tT 19)
(.seq
(.region [sS 4 (.mov (zZ 1))] [4] [])
.ret)
.skip))
(.seq
(.region [sS 4 (.mov (zZ 0))] [4] [])
.ret)))))))),[.tmp 4],false,false,false⟩
def F63 : AFunc := ⟨2,(.seq
(.region [sS 4 (.mov (.val (.tl [])))] [0,1] [])
(.seq
(.region [sS 8 (.mov (tT 0)),sS 9 (.mov (tT 1)),sS 10 (.call (.val (.func 77 [])) [(tT 8),(tT 9)]),sS 5 (.mov (tT 10))] [0,1,5] [])
(.seq
(.seq
(.region [sS 11 (.mov (tT 5)),sS 12 (.bin .eql (tT 11) (.val (.pv (.int .i64 (-1)))))] [0,1,5,12] [])
(.cond (tT 12)
(.seq
(.region [sS 13 (.mov (tT 0)),sS 4 (.mov (tT 13))] [4] [])
.ret)
.skip))
(.seq
(.seq
(.region [sS 14 (.mov (tT 5)),sS 15 (.bin .add (tT 14) (zZ 1)),sS 6 (.mov (tT 15))] [0,1,5,6] [])
(.block 0
(.loop
(.mask [0,1,5,6] []
(.seq
(.seq
(.region [sS 16 (.mov (tT 6)),sS 17 (.mov (tT 0)),sS 18 (.len 0 (tT 17)),sS 19 (.bin .lss (tT 16) (tT 18))] [0,1,5,6,19] [])
(.cond (tT 19)
.skip
(.exit 0)))
(.seq
(.block 1
(.seq
(.region [sS 22 (.mov (tT 0)),sS 23 (.mov (tT 6)),sS 24 (.idx 4 (tT 22) (tT 23)),sS 25 (.load 4 true (tT 24)),sS 7 (.alloc 7 [pZ,.pv (.bool false),pZ,pZ]),nN (.store 4 (tT 7) (tT 25))] [0,1,5,6,7] [7])
(.seq
(.region [sS 26 (.mov (tT 1)),sS 27 (.load 4 true (tT 7)),sS 28 (.call (tT 26) [(tT 27)]),sS 29 (.un .not (tT 28))] [0,1,5,6,7,29] [7])
(.cond (tT 29)
(.seq
(.region [sS 30 (.mov (tT 0)),sS 31 (.mov (tT 5)),sS 32 (.load 4 true (tT 7)),sS 33 (.idx 4 (tT 30) (tT 31)),nN (.store 4 (tT 33) (tT 32))] [0,1,5,6] [])
(.region [sS 34 (.mov (tT 5)),sS 35 (.bin .add (tT 34) (zZ 1)),sS 5 (.mov (tT 35))] [0,1,5,6] []))
.skip))))
(.region [sS 20 (.mov (tT 6)),sS 21 (.bin .add (tT 20) (zZ 1)),sS 6 (.mov (tT 21))] [0,1,5,6] [])))))))
(.seq
(.region [sS 36 (.mov (tT 0)),sS 37 (.mov (tT 5)),sS 38 (.sl 4 (tT 36) (some (tT 37)) none none),nN (.clr 4 [pZ,.pv (.bool false),pZ,pZ] (tT 38))] [0,5] [])
(.seq
(.region [sS 39 (.mov (tT 0)),sS 40 (.mov (tT 5)),sS 41 (.sl 4 (tT 39) none (some (tT 40)) none),sS 4 (.mov (tT 41))] [4] [])
.ret)))))),[.tmp 4],true,true,false⟩
def F65 : AFunc := ⟨2,(.seq
(.region [sS 2 (.box 2 4 (tT 0)),sS 3 (.mov (bB false))] [1,2] [2])
(.seq
(.region [sS 4 (.fld 0 (tT 2)),sS 5 (.load 1 false (tT 4)),sS 6 (.load 1 false (tT 1)),sS 7 (.bin .neq (tT 5) (tT 6)),sS 3 (.mov (tT 7))] [3] [])
.ret)),[.tmp 3],false,false,false⟩
def F66 : AFunc := ⟨1,(.seq
(.region [sS 2 (.mov (bB false))] [0] [])
(.seq
(.region [sS 3 (.mov (tT 0)),sS 4 (.mov (tT 0)),sS 5 (.bin .neq (tT 3) (tT 4)),sS 2 (.mov (tT 5))] [2] [])
.ret)),[.tmp 2],false,false,false⟩
def F77 : AFunc := ⟨2,(.seq
(.region [sS 4 (.mov (zZ 0))] [0,1] [])
(.seq
(.seq
(.region [sS 6 (.mov (tT 0)),sS 7 (.len 0 (tT 6)),sS 8 (.mov (zZ 0))] [0,1,7,8] [])
(.block 0
(.loop
(.mask [0,1,7,8] []
(.seq
(.region [sS 9 (.bin .lss (tT 8) (tT 7))] [0,1,7,8,9] [])
(.seq
(.cond (tT 9)
.skip
(.exit 0))
(.seq
(.block 1
(.seq
(.region [sS 10 (.mov (tT 8)),sS 5 (.mov (tT 10))] [0,1,5,7,8] [])
(.seq
(.region [sS 11 (.mov (tT 1)),sS 12 (.mov (tT 0)),sS 13 (.mov (tT 5)),sS 14 (.idx 4 (tT 12) (tT 13)),sS 15 (.load 4 true (tT 14)),sS 16 (.call (tT 11) [(tT 15)])] [0,1,5,7,8,16] [])
(.cond (tT 16)
(.seq
(.region [sS 17 (.mov (tT 5)),sS 4 (.mov (tT 17))] [4] [])
.ret)
.skip))))
(.region [sS 18 (.bin .add (tT 8) (zZ 1)),sS 8 (.mov (tT 18))] [0,1,7,8] []))))))))
(.seq
(.region [sS 4 (.mov (.val (.pv (.int .i64 (-1)))))] [4] [])
.ret))),[.tmp 4],false,false,false⟩
def F104 : AFunc := ⟨1,(.seq
(.region [sS 2 (.mov (.val (.tl [])))] [0] [])
(.seq
(.seq
(.region [sS 6 (.mov (tT 0)),sS 7 (.len 0 (tT 6)),sS 8 (.bin .lss (tT 7) (zZ 2))] [0,8] [])
(.cond (tT 8)
(.seq
(.region [sS 9 (.mov (tT 0)),sS 2 (.mov (tT 9))] [2] [])
.ret)
.skip))
(.seq
(.seq
(.region [sS 3 (.mov (zZ 1))] [0,3] [])
(.block 0
(.loop
(.mask [0,3] []
(.seq
(.seq
(.region [sS 10 (.mov (tT 3)),sS 11 (.mov (tT 0)),sS 12 (.len 0 (tT 11)),sS 13 (.bin .lss (tT 10) (tT 12))] [0,3,13] [])
(.cond (tT 13)
.skip
(.exit 0)))
(.seq
(.block 1
(.seq
(.draw [(sS 16 (.mov (tT 0)),[]),(sS 17 (.mov (tT 3)),[]),(sS 18 (.idx 1 (tT 16) (tT 17)),[]),(sS 19 (.load 1 false (tT 18)),[]),(sS 20 (.mov (tT 0)),[]),(sS 21 (.mov (tT 3)),[]),(sS 22 (.bin .sub (tT 21) (zZ 1)),[]),(sS 23 (.idx 1 (tT 20) (tT 22)),[]),(sS 24 (.load 1 false (tT 23)),[]),(sS 25 (.bin .eql (tT 19) (tT 24)),[])] [0,3,25] [])
(.cond (tT 25)
(.seq
(.region [sS 26 (.mov (tT 0)),sS 27 (.mov (tT 3)),sS 28 (.sl 1 (tT 26) (some (tT 27)) none none),sS 4 (.mov (tT 28))] [0,3,4] [])
(.seq
(.seq
(.region [sS 5 (.mov (zZ 1))] [0,3,4,5] [])
(.block 2
(.loop
(.mask [0,3,4,5] []
(.seq
(.seq
(.region [sS 29 (.mov (tT 5)),sS 30 (.mov (tT 4)),sS 31 (.len 0 (tT 30)),sS 32 (.bin .lss (tT 29) (tT 31))] [0,3,4,5,32] [])
(.cond (tT 32)
.skip
(.exit 2)))
(.seq
(.block 3
(.seq
(.draw [(sS 35 (.mov (tT 4)),[]),(sS 36 (.mov (tT 5)),[]),(sS 37 (.idx 1 (tT 35) (tT 36)),[]),(sS 38 (.load 1 false (tT 37)),[]),(sS 39 (.mov (tT 4)),[]),(sS 40 (.mov (tT 5)),[]),(sS 41 (.bin .sub (tT 40) (zZ 1)),[]),(sS 42 (.idx 1 (tT 39) (tT 41)),[]),(sS 43 (.load 1 false (tT 42)),[]),(sS 44 (.bin .neq (tT 38) (tT 43)),[])] [0,3,4,5,44] [])
(.cond (tT 44)
(.seq
(.region [sS 45 (.mov (tT 0)),sS 46 (.mov (tT 3)),sS 47 (.mov (tT 4)),sS 48 (.mov (tT 5)),sS 49 (.idx 1 (tT 47) (tT 48)),sS 50 (.load 1 false (tT 49)),sS 51 (.idx 1 (tT 45) (tT 46)),nN (.store 1 (tT 51) (tT 50))] [0,3,4,5] [])
(.region [sS 52 (.mov (tT 3)),sS 53 (.bin .add (tT 52) (zZ 1)),sS 3 (.mov (tT 53))] [0,3,4,5] []))
.skip)))
(.region [sS 33 (.mov (tT 5)),sS 34 (.bin .add (tT 33) (zZ 1)),sS 5 (.mov (tT 34))] [0,3,4,5] [])))))))
(.seq
(.region [sS 54 (.mov (tT 0)),sS 55 (.mov (tT 3)),sS 56 (.sl 1 (tT 54) (some (tT 55)) none none),nN (.clr 1 [pZ] (tT 56))] [0,3] [])
(.seq
(.region [sS 57 (.mov (tT 0)),sS 58 (.mov (tT 3)),sS 59 (.sl 1 (tT 57) none (some (tT 58)) none),sS 2 (.mov (tT 59))] [2] [])
.ret))))
.skip)))
(.region [sS 14 (.mov (tT 3)),sS 15 (.bin .add (tT 14) (zZ 1)),sS 3 (.mov (tT 15))] [0,3] [])))))))
(.seq
(.region [sS 60 (.mov (tT 0)),sS 2 (.mov (tT 60))] [2] [])
.ret)))),[.tmp 2],true,true,false⟩
def F110 : AFunc := ⟨2,(.seq
(.region [sS 4 (.mov (bB false))] [0,1] [])
(.seq
(.region [sS 5 (.mov (tT 0)),sS 6 (.mov (tT 1)),sS 7 (.call (.val (.func 118 [])) [(tT 5),(tT 6)]),sS 8 (.bin .geq (tT 7) (zZ 0)),sS 4 (.mov (tT 8))] [4] [])
.ret)),[.tmp 4],false,false,false⟩
def F118 : AFunc := ⟨2,(.seq
(.region [sS 4 (.mov (zZ 0))] [0,1] [])
(.seq
(.seq
(.region [sS 6 (.mov (tT 0)),sS 7 (.len 0 (tT 6)),sS 8 (.mov (zZ 0))] [0,1,7,8] [])
(.block 0
(.loop
(.mask [0,1,7,8] []
(.seq
(.region [sS 9 (.bin .lss (tT 8) (tT 7))] [0,1,7,8,9] [])
(.seq
(.cond (tT 9)
.skip
(.exit 0))
(.seq
(.block 1
(.seq
(.region [sS 10 (.mov (tT 8)),sS 5 (.mov (tT 10))] [0,1,5,7,8] [])
(.seq
(.region [sS 11 (.mov (tT 1)),sS 12 (.mov (tT 0)),sS 13 (.mov (tT 5)),sS 14 (.idx 1 (tT 12) (tT 13)),sS 15 (.load 1 false (tT 14)),sS 16 (.bin .eql (tT 11) (tT 15))] [0,1,5,7,8,16] [])
(.cond (tT 16)
(.seq
(.region [sS 17 (.mov (tT 5)),sS 4 (.mov (tT 17))] [4] [])
.ret)
.skip))))
(.region [sS 18 (.bin .add (tT 8) (zZ 1)),sS 8 (.mov (tT 18))] [0,1,7,8] []))))))))
(.seq
(.region [sS 4 (.mov (.val (.pv (.int .i64 (-1)))))] [4] [])
.ret))),[.tmp 4],false,false,false⟩
def F266 : AFunc := ⟨1,(.seq
(.region [sS 1 (.box 1 1 (tT 0)),sS 2 (.mov (bB false))] [1] [1])
(.seq
(.seq
(.region [sS 7 (.fld 0 (tT 1)),sS 8 (.load 1 false (tT 7)),sS 9 (.len 0 (tT 8)),sS 10 (.bin .gtr (tT 9) (zZ 40))] [1,10] [1])
(.cond (tT 10)
(.seq
(.region [sS 2 (.mov (bB false))] [2] [])
.ret)
.skip))
(.seq
(.region [sS 3 (.mov (zZ 0))] [1,3] [1])
(.seq
(.seq
(.region [sS 4 (.mov (zZ 0))] [1,3,4] [1])
(.block 0
(.loop
(.mask [1,3,4] [1]
(.seq
(.seq
(.region [sS 11 (.mov (tT 4)),sS 12 (.fld 0 (tT 1)),sS 13 (.load 1 false (tT 12)),sS 14 (.len 0 (tT 13)),sS 15 (.bin .lss (tT 11) (tT 14))] [1,3,4,15] [1])
(.cond (tT 15)
.skip
(.exit 0)))
(.seq
(.block 1
(.seq
(.region [sS 18 (.fld 0 (tT 1)),sS 19 (.load 1 false (tT 18)),sS 20 (.mov (tT 4)),sS 21 (.idx 10 (tT 19) (tT 20)),sS 22 (.load 10 true (tT 21)),⟨some 5,.alloc 5 [pZ,.pv (.str ⟨#[]⟩),pZ,pZ,pZ,.tl [],.tl [],pZ,pZ,.pv (.bool false)],none⟩,nN (.store 10 (tT 5) (tT 22))] [1,3,4,5] [1,5])
(.seq
(.region [sS 23 (.mov (tT 3)),sS 24 (.fld 6 (tT 5)),sS 25 (.load 1 false (tT 24)),sS 26 (.len 0 (tT 25)),sS 27 (.bin .add (tT 23) (tT 26)),sS 28 (.fld 5 (tT 5)),sS 29 (.load 1 false (tT 28)),sS 30 (.len 0 (tT 29)),sS 31 (.bin .add (tT 27) (tT 30)),sS 32 (.fld 1 (tT 5)),sS 33 (.load 1 false (tT 32)),sS 34 (.len 1 (tT 33)),sS 35 (.bin .add (tT 31) (tT 34)),sS 3 (.mov (tT 35))] [1,3,4,5] [1,5])
(.seq
(.region [sS 6 (.mov (zZ 0))] [1,3,4,5,6] [1,5])
(.block 2
(.loop
(.mask [1,3,4,5,6] [1,5]
(.seq
(.seq
(.region [sS 36 (.mov (tT 6)),sS 37 (.fld 6 (tT 5)),sS 38 (.load 1 false (tT 37)),sS 39 (.len 0 (tT 38)),sS 40 (.bin .lss (tT 36) (tT 39)),sS 41 (.mov (tT 40)),gG 42 (.mov (tT 6)) 41 true,gG 43 (.bin .lss (tT 42) (zZ 100)) 41 true,sS 44 (.pick (tT 41) (tT 43) (bB false))] [1,3,4,5,6,44] [1,5])
(.cond (tT 44)
.skip
(.exit 2)))
(.seq
(.block 3
(.draw [(sS 47 (.mov (tT 3)),[]),(sS 48 (.fld 6 (tT 5)),[]),(sS 49 (.load 1 false (tT 48)),[]),(sS 50 (.mov (tT 6)),[]),(sS 51 (.idx 13 (tT 49) (tT 50)),[]),(sS 52 (.fld 5 (tT 51)),[]),(sS 53 (.load 8 true (tT 52)),[]),(sS 54 (.call (.val (.func 282 [])) [(tT 53)]),[]),(sS 55 (.bin .add (tT 47) (tT 54)),[]),(sS 56 (.fld 6 (tT 5)),[]),(sS 57 (.load 1 false (tT 56)),[7]),(sS 58 (.mov (tT 6)),[]),(sS 59 (.idx 13 (tT 57) (tT 58)),[7]),(sS 60 (.fld 1 (tT 59)),[]),(sS 61 (.load 1 false (tT 60)),[7]),(sS 62 (.len 1 (tT 61)),[7]),(sS 63 (.bin .add (tT 55) (tT 62)),[]),(sS 3 (.mov (tT 63)),[])] [1,3,4,5,6] [1,5]))
(.region [sS 45 (.mov (tT 6)),sS 46 (.bin .add (tT 45) (zZ 1)),sS 6 (.mov (tT 46))] [1,3,4,5,6] [1,5]))))))))))
(.region [sS 16 (.mov (tT 4)),sS 17 (.bin .add (tT 16) (zZ 1)),sS 4 (.mov (tT 17))] [1,3,4] [1])))))))
(.seq
(.region [sS 64 (.mov (tT 3)),sS 65 (.bin .leq (tT 64) (zZ 400)),sS 2 (.mov (tT 65))] [2] [])
.ret))))),[.tmp 2],false,false,false⟩
def F267 : AFunc := ⟨1,(.seq
(.region [sS 1 (.box 1 1 (tT 0)),sS 2 (.mov (zZ 0))] [1] [1])
(.seq
(.seq
(.region [sS 8 (.fld 0 (tT 1)),sS 9 (.load 1 false (tT 8)),sS 10 (.len 0 (tT 9)),sS 11 (.bin .gtr (tT 10) (zZ 32))] [1,11] [1])
(.cond (tT 11)
(.seq
(.region [sS 2 (.mov (zZ 3))] [2] [])
.ret)
.skip))
(.seq
(.region [sS 12 (.mkmap),sS 3 (.mov (tT 12))] [1,3] [1])
(.seq
(.seq
(.region [sS 13 (.fld 0 (tT 1)),sS 14 (.load 1 false (tT 13)),sS 15 (.len 0 (tT 14)),sS 16 (.mov (zZ 0))] [1,3,14,15,16] [1])
(.block 0
(.loop
(.mask [1,3,14,15,16] [1]
(.seq
(.region [sS 17 (.bin .lss (tT 16) (tT 15))] [1,3,14,15,16,17] [1])
(.seq
(.cond (tT 17)
.skip
(.exit 0))
(.seq
(.block 1
(.seq
(.region [sS 18 (.idx 10 (tT 14) (tT 16)),sS 19 (.load 10 true (tT 18)),⟨some 5,.alloc 5 [pZ,.pv (.str ⟨#[]⟩),pZ,pZ,pZ,.tl [],.tl [],pZ,pZ,.pv (.bool false)],none⟩,nN (.store 10 (tT 5) (tT 19))] [1,3,5,14,15,16] [1,5])
(.seq
(.seq
(.region [sS 20 (.load 10 true (tT 5)),sS 21 (.call (.val (.func 283 [])) [(tT 20)]),sS 22 (.un .not (tT 21)),sS 23 (.mov (tT 22)),gG 24 (.fld 1 (tT 5)) 23 false,gG 25 (.load 1 false (tT 24)) 23 false,⟨some 26,.bin .neq (tT 25) (.val (.pv (.str ⟨#[]⟩))),some (23,false)⟩,gG 27 (.mov (tT 26)) 23 false,gG 28 (.mov (tT 3)) 27 true,gG 29 (.fld 1 (tT 5)) 27 true,gG 30 (.load 1 false (tT 29)) 27 true,gG 31 (.look false [2] (.pv (.bool false)) (tT 28) (tT 30) false) 27 true,gG 32 (.pick (tT 27) (tT 31) (bB false)) 23 false,sS 33 (.pick (tT 23) (bB true) (tT 32))] [1,3,5,14,15,16,33] [1,5])
(.cond (tT 33)
(.seq
(.region [sS 2 (.mov (zZ 1))] [2] [])
.ret)
.skip))
(.seq
(.region [sS 34 (.mov (tT 3)),sS 35 (.fld 1 (tT 5)),sS 36 (.load 1 false (tT 35)),nN (.upd false [2] (tT 34) (tT 36) (bB true))] [1,3,5,14,15,16] [1,5])
(.seq
(.seq
(.region [sS 37 (.load 10 true (tT 5)),sS 38 (.call (.val (.func 284 [])) [(tT 37)]),sS 39 (.len 0 (tT 38)),sS 40 (.mov (zZ 0))] [1,3,5,14,15,16,38,39,40] [1,5])
(.block 2
(.loop
(.mask [1,3,5,14,15,16,38,39,40] [1,5]
(.seq
(.region [sS 41 (.bin .lss (tT 40) (tT 39))] [1,3,5,14,15,16,38,39,40,41] [1,5])
(.seq
(.cond (tT 41)
.skip
(.exit 2))
(.seq
(.block 3
(.seq
(.region [sS 42 (.idx 1 (tT 38) (tT 40)),sS 43 (.load 1 false (tT 42)),sS 7 (.mov (tT 43))] [1,3,5,7,14,15,16,38,39,40] [1,5])
(.seq
(.region [sS 44 (.mov (tT 7)),sS 45 (.bin .lss (tT 44) (zZ 0)),sS 46 (.mov (tT 45)),gG 47 (.mov (tT 7)) 46 false,gG 48 (.fld 0 (tT 1)) 46 false,gG 49 (.load 1 false (tT 48)) 46 false,gG 50 (.len 0 (tT 49)) 46 false,gG 51 (.bin .geq (tT 47) (tT 50)) 46 false,sS 52 (.pick (tT 46) (bB true) (tT 51))] [1,3,5,14,15,16,38,39,40,52] [1,5])
(.cond (tT 52)
(.seq
(.region [sS 2 (.mov (zZ 4))] [2] [])
.ret)
.skip))))
(.region [sS 53 (.bin .add (tT 40) (zZ 1)),sS 40 (.mov (tT 53))] [1,3,5,14,15,16,38,39,40] [1,5]))))))))
(.seq
(.region [sS 54 (.fld 0 (tT 5)),sS 55 (.load 1 false (tT 54)),sS 56 (.bin .eql (tT 55) (zZ 8)),sS 57 (.mov (tT 56)),gG 58 (.fld 0 (tT 1)) 57 true,gG 59 (.load 1 false (tT 58)) 57 true,gG 60 (.fld 7 (tT 5)) 57 true,gG 61 (.load 1 false (tT 60)) 57 true,gG 62 (.idx 10 (tT 59) (tT 61)) 57 true,gG 63 (.fld 0 (tT 62)) 57 true,gG 64 (.load 1 false (tT 63)) 57 true,gG 65 (.bin .lss (tT 64) (zZ 1)) 57 true,gG 66 (.mov (tT 65)) 57 true,gG 67 (.fld 0 (tT 1)) 66 false,gG 68 (.load 1 false (tT 67)) 66 false,gG 69 (.fld 7 (tT 5)) 66 false,gG 70 (.load 1 false (tT 69)) 66 false,gG 71 (.idx 10 (tT 68) (tT 70)) 66 false,gG 72 (.fld 0 (tT 71)) 66 false,gG 73 (.load 1 false (tT 72)) 66 false,gG 74 (.bin .gtr (tT 73) (zZ 4)) 66 false,gG 75 (.pick (tT 66) (bB true) (tT 74)) 57 true,sS 76 (.pick (tT 57) (tT 75) (bB false))] [1,3,14,15,16,76] [1])
(.cond (tT 76)
(.seq
(.region [sS 2 (.mov (zZ 1))] [2] [])
.ret)
.skip)))))))
(.region [sS 77 (.bin .add (tT 16) (zZ 1)),sS 16 (.mov (tT 77))] [1,3,14,15,16] [1]))))))))
(.seq
(.region [sS 2 (.mov (zZ 0))] [2] [])
.ret))))),[.tmp 2],false,false,false⟩
def F273 : AFunc := ⟨2,(.seq
(.region [sS 2 (.box 2 1 (tT 0)),sS 4 (.mov (.val (.tl []))),sS 5 (.mov (zZ 0))] [1,2] [2])
(.seq
(.seq
(.region [sS 11 (.load 1 true (tT 2)),sS 12 (.mov (tT 1)),sS 13 (.call (.val (.func 291 [])) [(tT 11),(tT 12)]),sS 6 (.mov (tT 13))] [1,2,6] [2])
(.seq
(.region [sS 14 (.mov (tT 6)),sS 15 (.bin .neq (tT 14) (zZ 0))] [1,2,6,15] [2])
(.cond (tT 15)
(.seq
(.region [sS 16 (.mov (tT 6)),sS 4 (.mov (.val (.tl []))),sS 5 (.mov (tT 16))] [4,5] [])
.ret)
.skip)))
(.seq
(.region [sS 17 (.mov (tT 1)),sS 18 (.lit 1 [pZ] 1 [(0,1,(tT 17))]),sS 7 (.mov (tT 18))] [2,7] [2])
(.seq
(.seq
(.region [sS 8 (.mov (zZ 0))] [2,7,8] [2])
(.block 0
(.loop
(.mask [2,7,8] [2]
(.seq
(.seq
(.region [sS 19 (.mov (tT 8)),sS 20 (.mov (tT 7)),sS 21 (.len 0 (tT 20)),sS 22 (.bin .lss (tT 19) (tT 21))] [2,7,8,22] [2])
(.cond (tT 22)
.skip
(.exit 0)))
(.seq
(.block 1
(.seq
(.draw [(sS 25 (.fld 0 (tT 2)),[]),(sS 26 (.load 1 false (tT 25)),[]),(sS 27 (.mov (tT 7)),[]),(sS 28 (.mov (tT 8)),[]),(sS 29 (.idx 1 (tT 27) (tT 28)),[]),(sS 30 (.load 1 false (tT 29)),[]),(sS 31 (.idx 10 (tT 26) (tT 30)),[]),(sS 32 (.load 10 true (tT 31)),[]),(sS 33 (.call (.val (.func 284 [])) [(tT 32)]),[]),(sS 34 (.len 0 (tT 33)),[]),(sS 35 (.mov (zZ 0)),[])] [2,7,8,33,34,35] [2])
(.block 2
(.loop
(.mask [2,7,8,33,34,35] [2]
(.seq
(.region [sS 36 (.bin .lss (tT 35) (tT 34))] [2,7,8,33,34,35,36] [2])
(.seq
(.cond (tT 36)
.skip
(.exit 2))
(.seq
(.block 3
(.seq
(.region [sS 37 (.idx 1 (tT 33) (tT 35)),sS 38 (.load 1 false (tT 37)),sS 10 (.mov (tT 38))] [2,7,8,10,33,34,35] [2])
(.seq
(.region [sS 39 (.mov (tT 7)),sS 40 (.mov (tT 10)),sS 41 (.call (.val (.func 110 [])) [(tT 39),(tT 40)]),sS 42 (.un .not (tT 41))] [2,7,8,10,33,34,35,42] [2])
(.cond (tT 42)
(.region [sS 43 (.mov (tT 7)),sS 44 (.mov (tT 10)),sS 45 (.lit 1 [pZ] 1 [(0,1,(tT 44))]),sS 46 (.app 1 (tT 43) (tT 45)),sS 7 (.mov (tT 46))] [2,7,8,33,34,35] [2])
.skip))))
(.region [sS 47 (.bin .add (tT 35) (zZ 1)),sS 35 (.mov (tT 47))] [2,7,8,33,34,35] [2])))))))))
(.region [sS 23 (.mov (tT 8)),sS 24 (.bin .add (tT 23) (zZ 1)),sS 8 (.mov (tT 24))] [2,7,8] [2])))))))
(.seq
(.region [sS 48 (.mov (tT 7)),sS 49 (.call (.val (.func 103 [])) [(tT 48)])] [7] [])
(.seq
(.region [sS 50 (.mov (tT 7)),sS 4 (.mov (tT 50)),sS 5 (.mov (zZ 0))] [4,5] [])
.ret)))))),[.tmp 4,.tmp 5],false,false,false⟩
def F281 : AFunc := ⟨2,(.seq
(.region [sS 2 (.box 2 10 (tT 0)),sS 3 (.box 3 1 (tT 1)),sS 4 (.mov (zZ 0)),sS 5 (.mov (bB false))] [2,3] [2,3])
(.seq
(.region [sS 7 (.fld 6 (tT 2)),sS 8 (.load 1 false (tT 7)),sS 9 (.clos 305 [(tT 3)]),sS 10 (.call (.val (.func 304 [])) [(tT 8),(tT 9)]),sS 6 (.mov (tT 10))] [6] [])
(.seq
(.region [sS 11 (.mov (tT 6)),sS 12 (.minmax true [(tT 11),(zZ 0)]),sS 13 (.mov (tT 6)),sS 14 (.bin .geq (tT 13) (zZ 0)),sS 4 (.mov (tT 12)),sS 5 (.mov (tT 14))] [4,5] [])
.ret))),[.tmp 4,.tmp 5],false,false,false⟩
def F282 : AFunc := ⟨1,(.seq
(.region [sS 1 (.box 1 8 (tT 0)),sS 2 (.mov (zZ 0))] [1] [1])
(.seq
(.region [sS 7 (.fld 3 (tT 1)),sS 8 (.load 1 false (tT 7)),sS 9 (.len 1 (tT 8)),sS 10 (.bin .add (zZ 1) (tT 9)),sS 3 (.mov (tT 10))] [1,3] [1])
(.seq
(.seq
(.region [sS 4 (.mov (zZ 0))] [1,3,4] [1])
(.block 0
(.loop
(.mask [1,3,4] [1]
(.seq
(.seq
(.region [sS 11 (.mov (tT 4)),sS 12 (.fld 5 (tT 1)),sS 13 (.load 1 false (tT 12)),sS 14 (.len 0 (tT 13)),sS 15 (.bin .lss (tT 11) (tT 14))] [1,3,4,15] [1])
(.cond (tT 15)
.skip
(.exit 0)))
(.seq
(.block 1
(.region [sS 18 (.mov (tT 3)),sS 19 (.fld 5 (tT 1)),sS 20 (.load 1 false (tT 19)),sS 21 (.mov (tT 4)),sS 22 (.idx 8 (tT 20) (tT 21)),sS 23 (.load 8 true (tT 22)),sS 24 (.call (.val (.func 282 [])) [(tT 23)]),sS 25 (.bin .add (tT 18) (tT 24)),sS 3 (.mov (tT 25))] [1,3,4] [1]))
(.region [sS 16 (.mov (tT 4)),sS 17 (.bin .add (tT 16) (zZ 1)),sS 4 (.mov (tT 17))] [1,3,4] [1])))))))
(.seq
(.seq
(.region [sS 5 (.mov (zZ 0))] [1,3,5] [1])
(.block 2
(.loop
(.mask [1,3,5] [1]
(.seq
(.seq
(.region [sS 26 (.mov (tT 5)),sS 27 (.fld 6 (tT 1)),sS 28 (.load 1 false (tT 27)),sS 29 (.len 0 (tT 28)),sS 30 (.bin .lss (tT 26) (tT 29))] [1,3,5,30] [1])
(.cond (tT 30)
.skip
(.exit 2)))
(.seq
(.block 3
(.region [sS 33 (.mov (tT 3)),sS 34 (.fld 6 (tT 1)),sS 35 (.load 1 false (tT 34)),sS 36 (.mov (tT 5)),sS 37 (.idx 8 (tT 35) (tT 36)),sS 38 (.load 8 true (tT 37)),sS 39 (.call (.val (.func 282 [])) [(tT 38)]),sS 40 (.bin .add (tT 33) (tT 39)),sS 3 (.mov (tT 40))] [1,3,5] [1]))
(.region [sS 31 (.mov (tT 5)),sS 32 (.bin .add (tT 31) (zZ 1)),sS 5 (.mov (tT 32))] [1,3,5] [1])))))))
(.seq
(.seq
(.region [sS 6 (.mov (zZ 0))] [1,3,6] [1])
(.block 4
(.loop
(.mask [1,3,6] [1]
(.seq
(.seq
(.region [sS 41 (.mov (tT 6)),sS 42 (.fld 7 (tT 1)),sS 43 (.load 1 false (tT 42)),sS 44 (.len 0 (tT 43)),sS 45 (.bin .lss (tT 41) (tT 44))] [1,3,6,45] [1])
(.cond (tT 45)
.skip
(.exit 4)))
(.seq
(.block 5
(.region [sS 48 (.mov (tT 3)),sS 49 (.bin .add (tT 48) (zZ 1)),sS 50 (.fld 7 (tT 1)),sS 51 (.load 1 false (tT 50)),sS 52 (.mov (tT 6)),sS 53 (.idx 2 (tT 51) (tT 52)),sS 54 (.fld 1 (tT 53)),sS 55 (.load 1 false (tT 54)),sS 56 (.len 1 (tT 55)),sS 57 (.bin .add (tT 49) (tT 56)),sS 3 (.mov (tT 57))] [1,3,6] [1]))
(.region [sS 46 (.mov (tT 6)),sS 47 (.bin .add (tT 46) (zZ 1)),sS 6 (.mov (tT 47))] [1,3,6] [1])))))))
(.seq
(.region [sS 58 (.mov (tT 3)),sS 2 (.mov (tT 58))] [2] [])
.ret)))))),[.tmp 2],false,false,false⟩
def F283 : AFunc := ⟨1,(.seq
(.region [sS 1 (.box 1 10 (tT 0)),sS 2 (.mov (bB false))] [1] [1])
(.seq
(.region [sS 5 (.load 10 true (tT 1)),⟨some 3,.alloc 3 [pZ,.pv (.str ⟨#[]⟩),pZ,pZ,pZ,.tl [],.tl [],pZ,pZ,.pv (.bool false)],none⟩,nN (.store 10 (tT 3) (tT 5))] [1,3] [1,3])
(.seq
(.region [sS 6 (.fld 0 (tT 3)),nN (.store 1 (tT 6) (zZ 0))] [1,3] [1,3])
(.seq
(.region [sS 4 (.mov (bB true))] [1,3,4] [1,3])
(.seq
(.seq
(.region [sS 7 (.fld 0 (tT 1)),sS 8 (.load 1 false (tT 7))] [1,3,4,8] [1,3])
(.block 0
(.seq
(.region [sS 10 (.bin .eql (tT 8) (zZ 1)),sS 9 (.mov (tT 10))] [1,3,4,8,9] [1,3])
(.cond (tT 9)
.skip
(.seq
(.region [sS 12 (.bin .eql (tT 8) (zZ 2)),sS 11 (.mov (tT 12))] [1,3,4,8,11] [1,3])
(.cond (tT 11)
(.seq
(.region [sS 13 (.fld 2 (tT 1)),sS 14 (.load 1 false (tT 13)),sS 15 (.fld 3 (tT 1)),sS 16 (.load 1 false (tT 15)),sS 17 (.bin .leq (tT 14) (tT 16)),sS 4 (.mov (tT 17))] [3,4] [3])
(.region [sS 18 (.fld 2 (tT 3)),nN (.store 1 (tT 18) (zZ 0)),sS 19 (.fld 3 (tT 3)),nN (.store 1 (tT 19) (zZ 0))] [3,4] [3]))
(.seq
(.region [sS 21 (.bin .eql (tT 8) (zZ 3)),sS 20 (.mov (tT 21))] [1,3,4,8,20] [1,3])
(.cond (tT 20)
(.seq
(.region [sS 22 (.fld 4 (tT 1)),sS 23 (.load 1 false (tT 22)),sS 24 (.bin .geq (tT 23) (zZ 0)),sS 25 (.mov (tT 24)),gG 26 (.fld 4 (tT 1)) 25 true,gG 27 (.load 1 false (tT 26)) 25 true,gG 28 (.bin .leq (tT 27) (zZ 200)) 25 true,sS 29 (.pick (tT 25) (tT 28) (bB false)),sS 4 (.mov (tT 29))] [3,4] [3])
(.region [sS 30 (.fld 4 (tT 3)),nN (.store 1 (tT 30) (zZ 0))] [3,4] [3]))
(.seq
(.region [sS 32 (.bin .eql (tT 8) (zZ 4)),sS 31 (.mov (tT 32))] [1,3,4,8,31] [1,3])
(.cond (tT 31)
(.seq
(.region [sS 33 (.fld 1 (tT 1)),sS 34 (.load 1 false (tT 33)),sS 35 (.call (.val (.func 306 [])) [(tT 34)]),sS 36 (.mov (tT 35)),gG 37 (.fld 5 (tT 1)) 36 true,gG 38 (.load 1 false (tT 37)) 36 true,gG 39 (.call (.val (.func 307 [])) [(tT 38)]) 36 true,sS 40 (.pick (tT 36) (tT 39) (bB false)),sS 4 (.mov (tT 40))] [3,4] [3])
(.region [sS 41 (.fld 1 (tT 3)),⟨none,.store 1 (tT 41) (.val (.pv (.str ⟨#[]⟩))),none⟩,sS 42 (.fld 5 (tT 3)),nN (.store 1 (tT 42) (.val (.tl []))),sS 43 (.fld 9 (tT 3)),nN (.store 1 (tT 43) (bB false))] [3,4] [3]))
(.seq
(.seq
(.region [sS 45 (.bin .eql (tT 8) (zZ 5)),sS 44 (.mov (tT 45))] [1,3,4,8,44] [1,3])
(.cond (tT 44)
.skip
(.region [sS 46 (.bin .eql (tT 8) (zZ 6)),sS 44 (.mov (tT 46))] [1,3,4,8,44] [1,3])))
(.cond (tT 44)
(.seq
(.region [sS 47 (.fld 1 (tT 1)),sS 48 (.load 1 false (tT 47)),sS 49 (.call (.val (.func 306 [])) [(tT 48)]),sS 50 (.mov (tT 49)),gG 51 (.load 10 true (tT 1)) 50 true,gG 52 (.call (.val (.func 308 [])) [(tT 51)]) 50 true,sS 53 (.pick (tT 50) (tT 52) (bB false)),sS 4 (.mov (tT 53))] [1,3,4] [1,3])
(.seq
(.region [sS 54 (.fld 1 (tT 3)),⟨none,.store 1 (tT 54) (.val (.pv (.str ⟨#[]⟩))),none⟩,sS 55 (.fld 6 (tT 3)),nN (.store 1 (tT 55) (.val (.tl [])))] [1,3,4] [1,3])
(.region [sS 56 (.fld 9 (tT 1)),sS 57 (.load 1 false (tT 56)),sS 58 (.mov (tT 57)),gG 59 (.fld 0 (tT 1)) 58 true,gG 60 (.load 1 false (tT 59)) 58 true,gG 61 (.bin .eql (tT 60) (zZ 5)) 58 true,sS 62 (.pick (tT 58) (tT 61) (bB false)),sS 63 (.fld 9 (tT 3)),nN (.store 1 (tT 63) (tT 62))] [3,4] [3])))
(.seq
(.seq
(.region [sS 65 (.bin .eql (tT 8) (zZ 7)),sS 64 (.mov (tT 65))] [1,3,4,8,64] [1,3])
(.cond (tT 64)
.skip
(.region [sS 66 (.bin .eql (tT 8) (zZ 8)),sS 64 (.mov (tT 66))] [1,3,4,8,64] [1,3])))
(.cond (tT 64)
(.seq
(.region [sS 67 (.fld 4 (tT 1)),sS 68 (.load 1 false (tT 67)),sS 69 (.bin .geq (tT 68) (zZ 0)),sS 70 (.mov (tT 69)),gG 71 (.fld 4 (tT 1)) 70 true,gG 72 (.load 1 false (tT 71)) 70 true,gG 73 (.bin .leq (tT 72) (zZ 50)) 70 true,sS 74 (.pick (tT 70) (tT 73) (bB false)),sS 4 (.mov (tT 74))] [1,3,4] [1,3])
(.seq
(.region [sS 75 (.fld 4 (tT 3)),nN (.store 1 (tT 75) (zZ 0)),sS 76 (.fld 8 (tT 3)),nN (.store 1 (tT 76) (zZ 0))] [1,3,4] [1,3])
(.seq
(.region [sS 77 (.fld 0 (tT 1)),sS 78 (.load 1 false (tT 77)),sS 79 (.bin .eql (tT 78) (zZ 8))] [3,4,79] [3])
(.cond (tT 79)
(.region [sS 80 (.fld 7 (tT 3)),nN (.store 1 (tT 80) (zZ 0))] [3,4] [3])
.skip))))
(.seq
(.region [sS 82 (.bin .eql (tT 8) (zZ 9)),sS 81 (.mov (tT 82))] [3,4,81] [3])
(.cond (tT 81)
(.region [sS 83 (.fld 8 (tT 3)),nN (.store 1 (tT 83) (zZ 0))] [3,4] [3])
(.seq
(.region [sS 2 (.mov (bB false))] [2] [])
.ret)))))))))))))))))
(.seq
(.region [sS 84 (.mov (tT 4)),sS 85 (.mov (tT 84)),gG 86 (.load 10 true (tT 3)) 85 true,⟨some 87,.build [pZ,.pv (.str ⟨#[]⟩),pZ,pZ,pZ,.tl [],.tl [],pZ,pZ,.pv (.bool false)] [],some (85,true)⟩,gG 88 (.call (.val (.func 297 [])) [(tT 86),(tT 87)]) 85 true,sS 89 (.pick (tT 85) (tT 88) (bB false)),sS 2 (.mov (tT 89))] [2] [])
.ret)))))),[.tmp 2],false,false,false⟩
def F284 : AFunc := ⟨1,(.seq
(.region [sS 1 (.box 1 10 (tT 0)),sS 2 (.mov (.val (.tl [])))] [1] [1])
(.seq
(.region [sS 3 (.mov (.val (.tl [])))] [1,3] [1])
(.seq
(.seq
(.region [sS 6 (.fld 6 (tT 1)),sS 7 (.load 1 false (tT 6)),sS 8 (.len 0 (tT 7)),sS 9 (.mov (zZ 0))] [1,3,7,8,9] [1])
(.block 0
(.loop
(.mask [1,3,7,8,9] [1]
(.seq
(.region [sS 10 (.bin .lss (tT 9) (tT 8))] [1,3,7,8,9,10] [1])
(.seq
(.cond (tT 10)
.skip
(.exit 0))
(.seq
(.block 1
(.seq
(.region [sS 11 (.idx 13 (tT 7) (tT 9)),sS 12 (.load 13 true (tT 11)),⟨some 5,.alloc 5 [pZ,.pv (.str ⟨#[]⟩),pZ,.pv (.bool false),.pv (.bool false),pZ,.pv (.bool false),pZ,.pv (.str ⟨#[]⟩),pZ,.tl [],.tl [],.tl []],none⟩,nN (.store 13 (tT 5) (tT 12))] [1,3,5,7,8,9] [1,5])
(.region [sS 13 (.mov (tT 3)),sS 14 (.fld 2 (tT 5)),sS 15 (.load 1 false (tT 14)),sS 16 (.lit 1 [pZ] 1 [(0,1,(tT 15))]),sS 17 (.app 1 (tT 13) (tT 16)),sS 3 (.mov (tT 17))] [1,3,7,8,9] [1])))
(.region [sS 18 (.bin .add (tT 9) (zZ 1)),sS 9 (.mov (tT 18))] [1,3,7,8,9] [1]))))))))
(.seq
(.seq
(.region [sS 19 (.fld 0 (tT 1)),sS 20 (.load 1 false (tT 19)),sS 21 (.bin .eql (tT 20) (zZ 8))] [1,3,21] [1])
(.cond (tT 21)
(.region [sS 22 (.mov (tT 3)),sS 23 (.fld 7 (tT 1)),sS 24 (.load 1 false (tT 23)),sS 25 (.lit 1 [pZ] 1 [(0,1,(tT 24))]),sS 26 (.app 1 (tT 22) (tT 25)),sS 3 (.mov (tT 26))] [1,3] [1])
.skip))
(.seq
(.seq
(.region [sS 27 (.fld 0 (tT 1)),sS 28 (.load 1 false (tT 27)),sS 29 (.bin .geq (tT 28) (zZ 7))] [1,3,29] [1])
(.cond (tT 29)
(.region [sS 30 (.mov (tT 3)),sS 31 (.fld 8 (tT 1)),sS 32 (.load 1 false (tT 31)),sS 33 (.lit 1 [pZ] 1 [(0,1,(tT 32))]),sS 34 (.app 1 (tT 30) (tT 33)),sS 3 (.mov (tT 34))] [3] [])
.skip))
(.seq
(.region [sS 35 (.mov (tT 3)),sS 2 (.mov (tT 35))] [2] [])
.ret)))))),[.tmp 2],false,false,false⟩
def F291 : AFunc := ⟨2,(.seq
(.region [sS 2 (.box 2 1 (tT 0)),sS 4 (.mov (zZ 0))] [1,2] [2])
(.seq
(.seq
(.region [sS 6 (.load 1 true (tT 2)),sS 7 (.call (.val (.func 267 [])) [(tT 6)]),sS 5 (.mov (tT 7))] [1,2,5] [2])
(.seq
(.region [sS 8 (.mov (tT 5)),sS 9 (.bin .neq (tT 8) (zZ 0))] [1,2,5,9] [2])
(.cond (tT 9)
(.seq
(.region [sS 10 (.mov (tT 5)),sS 4 (.mov (tT 10))] [4] [])
.ret)
.skip)))
(.seq
(.seq
(.region [sS 11 (.mov (tT 1)),sS 12 (.bin .lss (tT 11) (zZ 0)),sS 13 (.mov (tT 12)),gG 14 (.mov (tT 1)) 13 false,gG 15 (.fld 0 (tT 2)) 13 false,gG 16 (.load 1 false (tT 15)) 13 false,gG 17 (.len 0 (tT 16)) 13 false,gG 18 (.bin .geq (tT 14) (tT 17)) 13 false,sS 19 (.pick (tT 13) (bB true) (tT 18))] [19] [])
(.cond (tT 19)
(.seq
(.region [sS 4 (.mov (zZ 4))] [4] [])
.ret)
.skip))
(.seq
(.region [sS 4 (.mov (zZ 0))] [4] [])
.ret)))),[.tmp 4],false,false,false⟩
def F297 : AFunc := ⟨2,(.seq
(.region [sS 2 (.box 2 10 (tT 0)),sS 3 (.box 3 10 (tT 1)),sS 4 (.mov (bB false))] [2,3] [2,3])
(.seq
(.region [sS 5 (.fld 0 (tT 2)),sS 6 (.load 1 false (tT 5)),sS 7 (.fld 0 (tT 3)),sS 8 (.load 1 false (tT 7)),sS 9 (.bin .eql (tT 6) (tT 8)),sS 10 (.mov (tT 9)),gG 11 (.fld 1 (tT 2)) 10 true,gG 12 (.load 1 false (tT 11)) 10 true,gG 13 (.fld 1 (tT 3)) 10 true,gG 14 (.load 1 false (tT 13)) 10 true,gG 15 (.bin .eql (tT 12) (tT 14)) 10 true,sS 16 (.pick (tT 10) (tT 15) (bB false)),sS 17 (.mov (tT 16)),gG 18 (.fld 2 (tT 2)) 17 true,gG 19 (.load 1 false (tT 18)) 17 true,gG 20 (.fld 2 (tT 3)) 17 true,gG 21 (.load 1 false (tT 20)) 17 true,gG 22 (.bin .eql (tT 19) (tT 21)) 17 true,sS 23 (.pick (tT 17) (tT 22) (bB false)),sS 24 (.mov (tT 23)),gG 25 (.fld 3 (tT 2)) 24 true,gG 26 (.load 1 false (tT 25)) 24 true,gG 27 (.fld 3 (tT 3)) 24 true,gG 28 (.load 1 false (tT 27)) 24 true,gG 29 (.bin .eql (tT 26) (tT 28)) 24 true,sS 30 (.pick (tT 24) (tT 29) (bB false)),sS 31 (.mov (tT 30)),gG 32 (.fld 4 (tT 2)) 31 true,gG 33 (.load 1 false (tT 32)) 31 true,gG 34 (.fld 4 (tT 3)) 31 true,gG 35 (.load 1 false (tT 34)) 31 true,gG 36 (.bin .eql (tT 33) (tT 35)) 31 true,sS 37 (.pick (tT 31) (tT 36) (bB false)),sS 38 (.mov (tT 37)),gG 39 (.fld 7 (tT 2)) 38 true,gG 40 (.load 1 false (tT 39)) 38 true,gG 41 (.fld 7 (tT 3)) 38 true,gG 42 (.load 1 false (tT 41)) 38 true,gG 43 (.bin .eql (tT 40) (tT 42)) 38 true,sS 44 (.pick (tT 38) (tT 43) (bB false)),sS 45 (.mov (tT 44)),gG 46 (.fld 8 (tT 2)) 45 true,gG 47 (.load 1 false (tT 46)) 45 true,gG 48 (.fld 8 (tT 3)) 45 true,gG 49 (.load 1 false (tT 48)) 45 true,gG 50 (.bin .eql (tT 47) (tT 49)) 45 true,sS 51 (.pick (tT 45) (tT 50) (bB false)),sS 52 (.mov (tT 51)),gG 53 (.fld 9 (tT 2)) 52 true,gG 54 (.load 1 false (tT 53)) 52 true,gG 55 (.fld 9 (tT 3)) 52 true,gG 56 (.load 1 false (tT 55)) 52 true,gG 57 (.eqa false [0] false (tT 54) (tT 56)) 52 true,sS 58 (.pick (tT 52) (tT 57) (bB false)),sS 59 (.mov (tT 58)),gG 60 (.fld 5 (tT 2)) 59 true,gG 61 (.load 1 false (tT 60)) 59 true,gG 62 (.fld 5 (tT 3)) 59 true,gG 63 (.load 1 false (tT 62)) 59 true,gG 64 (.call (.val (.func 317 [])) [(tT 61),(tT 63)]) 59 true,sS 65 (.pick (tT 59) (tT 64) (bB false)),sS 66 (.mov (tT 65)),gG 67 (.fld 6 (tT 2)) 66 true,gG 68 (.load 1 false (tT 67)) 66 true,gG 69 (.fld 6 (tT 3)) 66 true,gG 70 (.load 1 false (tT 69)) 66 true,gG 71 (.call (.val (.func 318 [])) [(tT 68),(tT 70),(.val (.func 319 []))]) 66 true,sS 72 (.pick (tT 66) (tT 71) (bB false)),sS 4 (.mov (tT 72))] [4] [])
.ret)),[.tmp 4],false,false,false⟩
def F304 : AFunc := ⟨2,(.seq
(.region [sS 4 (.mov (zZ 0))] [0,1] [])
(.seq
(.seq
(.region [sS 6 (.mov (tT 0)),sS 7 (.len 0 (tT 6)),sS 8 (.mov (zZ 0))] [0,1,7,8] [])
(.block 0
(.loop
(.mask [0,1,7,8] []
(.seq
(.region [sS 9 (.bin .lss (tT 8) (tT 7))] [0,1,7,8,9] [])
(.seq
(.cond (tT 9)
.skip
(.exit 0))
(.seq
(.block 1
(.seq
(.region [sS 10 (.mov (tT 8)),sS 5 (.mov (tT 10))] [0,1,5,7,8] [])
(.seq
(.region [sS 11 (.mov (tT 1)),sS 12 (.mov (tT 0)),sS 13 (.mov (tT 5)),sS 14 (.idx 13 (tT 12) (tT 13)),sS 15 (.load 13 true (tT 14)),sS 16 (.call (tT 11) [(tT 15)])] [0,1,5,7,8,16] [])
(.cond (tT 16)
(.seq
(.region [sS 17 (.mov (tT 5)),sS 4 (.mov (tT 17))] [4] [])
.ret)
.skip))))
(.region [sS 18 (.bin .add (tT 8) (zZ 1)),sS 8 (.mov (tT 18))] [0,1,7,8] []))))))))
(.seq
(.region [sS 4 (.mov (.val (.pv (.int .i64 (-1)))))] [4] [])
.ret))),[.tmp 4],false,false,false⟩
def F305 : AFunc := ⟨2,(.seq
(.region [sS 2 (.box 2 13 (tT 0)),sS 3 (.mov (bB false))] [1,2] [2])
(.seq
(.region [sS 4 (.fld 0 (tT 2)),sS 5 (.load 1 false (tT 4)),sS 6 (.load 1 false (tT 1)),sS 7 (.bin .eql (tT 5) (tT 6)),sS 3 (.mov (tT 7))] [3] [])
.ret)),[.tmp 3],false,false,false⟩
def F306 : AFunc := ⟨1,(.seq
(.region [sS 2 (.mov (bB false))] [0] [])
(.seq
(.seq
(.region [sS 4 (.mov (tT 0)),⟨some 5,.bin .eql (tT 4) (.val (.pv (.str ⟨#[]⟩))),none⟩,sS 6 (.mov (tT 5)),gG 7 (.mov (tT 0)) 6 false,gG 8 (.len 1 (tT 7)) 6 false,gG 9 (.bin .gtr (tT 8) (zZ 24)) 6 false,sS 10 (.pick (tT 6) (bB true) (tT 9)),sS 11 (.mov (tT 10)),gG 12 (.mov (tT 0)) 11 false,gG 13 (.ixs (tT 12) (zZ 0)) 11 false,gG 14 (.call (.val (.func 323 [])) [(tT 13)]) 11 false,gG 15 (.un .not (tT 14)) 11 false,sS 16 (.pick (tT 11) (bB true) (tT 15))] [0,16] [])
(.cond (tT 16)
(.seq
(.region [sS 2 (.mov (bB false))] [2] [])
.ret)
.skip))
(.seq
(.seq
(.region [sS 17 (.mov (tT 0)),sS 18 (.len 1 (tT 17)),sS 19 (.mov (zZ 0))] [0,18,19] [])
(.block 0
(.loop
(.mask [0,18,19] []
(.seq
(.region [sS 20 (.bin .lss (tT 19) (tT 18))] [0,18,19,20] [])
(.seq
(.cond (tT 20)
.skip
(.exit 0))
(.seq
(.block 1
(.seq
(.region [sS 21 (.mov (tT 19)),sS 3 (.mov (tT 21))] [0,3,18,19] [])
(.seq
(.region [sS 22 (.mov (tT 0)),sS 23 (.mov (tT 3)),sS 24 (.ixs (tT 22) (tT 23)),sS 25 (.call (.val (.func 323 [])) [(tT 24)]),sS 26 (.un .not (tT 25)),sS 27 (.mov (tT 26)),gG 28 (.mov (tT 0)) 27 true,gG 29 (.mov (tT 3)) 27 true,gG 30 (.ixs (tT 28) (tT 29)) 27 true,gG 31 (.call (.val (.func 324 [])) [(tT 30)]) 27 true,gG 32 (.un .not (tT 31)) 27 true,sS 33 (.pick (tT 27) (tT 32) (bB false))] [0,18,19,33] [])
(.cond (tT 33)
(.seq
(.region [sS 2 (.mov (bB false))] [2] [])
.ret)
.skip))))
(.region [sS 34 (.bin .add (tT 19) (zZ 1)),sS 19 (.mov (tT 34))] [0,18,19] []))))))))
(.seq
(.region [sS 2 (.mov (bB true))] [2] [])
.ret)))),[.tmp 2],false,false,false⟩
def F307 : AFunc := ⟨1,(.seq
(.region [sS 2 (.mov (bB false))] [0] [])
(.seq
(.region [sS 3 (.mov (.val (.tl [])))] [0,3] [])
(.seq
(.region [sS 4 (.mov (.val (.tl [])))] [0,3,4] [])
(.seq
(.seq
(.region [sS 7 (.mov (tT 0)),sS 8 (.len 0 (tT 7)),sS 9 (.mov (zZ 0))] [0,3,4,7,8,9] [])
(.block 0
(.loop
(.mask [0,3,4,7,8,9] []
(.seq
(.region [sS 10 (.bin .lss (tT 9) (tT 8))] [0,3,4,7,8,9,10] [])
(.seq
(.cond (tT 10)
.skip
(.exit 0))
(.seq
(.block 1
(.seq
(.region [sS 11 (.idx 2 (tT 7) (tT 9)),sS 12 (.load 2 true (tT 11)),⟨some 6,.alloc 6 [pZ,.pv (.str ⟨#[]⟩)],none⟩,nN (.store 2 (tT 6) (tT 12))] [0,3,4,6,7,8,9] [6])
(.draw [(sS 13 (.mov (tT 3)),[]),(sS 14 (.fld 0 (tT 6)),[]),(sS 15 (.load 1 false (tT 14)),[]),(sS 16 (.lit 1 [pZ] 1 [(0,1,(tT 15))]),[]),(sS 17 (.app 1 (tT 13) (tT 16)),[]),(sS 18 (.mov (tT 4)),[]),(sS 19 (.fld 1 (tT 6)),[]),(sS 20 (.load 1 false (tT 19)),[3,4]),(⟨some 21,.lit 1 [.pv (.str ⟨#[]⟩)] 1 [(0,1,(tT 20))],none⟩,[2,3,4]),(sS 22 (.app 1 (tT 18) (tT 21)),[]),(sS 3 (.mov (tT 17)),[]),(sS 4 (.mov (tT 22)),[])] [0,3,4,7,8,9] [])))
(.region [sS 23 (.bin .add (tT 9) (zZ 1)),sS 9 (.mov (tT 23))] [0,3,4,7,8,9] []))))))))
(.seq
(.region [sS 24 (.mov (tT 0)),sS 25 (.len 0 (tT 24)),sS 26 (.bin .gtr (tT 25) (zZ 0)),sS 27 (.mov (tT 26)),gG 28 (.mov (tT 3)) 27 true,gG 29 (.mov (tT 4)) 27 true,gG 30 (.call (.val (.func 325 [])) [(tT 28),(tT 29)]) 27 true,sS 31 (.pick (tT 27) (tT 30) (bB false)),sS 2 (.mov (tT 31))] [2] [])
.ret))))),[.tmp 2],false,false,false⟩
def F308 : AFunc := ⟨1,(.seq
(.region [sS 1 (.box 1 10 (tT 0)),sS 2 (.mov (bB false))] [1] [1])
(.seq
(.region [sS 3 (.mov (.val (.tl [])))] [1,3] [1])
(.seq
(.region [sS 4 (.mov (.val (.tl [])))] [1,3,4] [1])
(.seq
(.seq
(.region [sS 7 (.fld 6 (tT 1)),sS 8 (.load 1 false (tT 7)),sS 9 (.len 0 (tT 8)),sS 10 (.mov (zZ 0))] [1,3,4,8,9,10] [1])
(.block 0
(.loop
(.mask [1,3,4,8,9,10] [1]
(.seq
(.region [sS 11 (.bin .lss (tT 10) (tT 9))] [1,3,4,8,9,10,11] [1])
(.seq
(.cond (tT 11)
.skip
(.exit 0))
(.seq
(.block 1
(.seq
(.region [sS 12 (.idx 13 (tT 8) (tT 10)),sS 13 (.load 13 true (tT 12)),⟨some 6,.alloc 6 [pZ,.pv (.str ⟨#[]⟩),pZ,.pv (.bool false),.pv (.bool false),pZ,.pv (.bool false),pZ,.pv (.str ⟨#[]⟩),pZ,.tl [],.tl [],.tl []],none⟩,nN (.store 13 (tT 6) (tT 13))] [1,3,4,6,8,9,10] [1,6])
(.seq
(.draw [(sS 14 (.mov (tT 3)),[]),(sS 15 (.fld 0 (tT 6)),[]),(sS 16 (.load 1 false (tT 15)),[]),(sS 17 (.lit 1 [pZ] 1 [(0,1,(tT 16))]),[]),(sS 18 (.app 1 (tT 14) (tT 17)),[]),(sS 19 (.mov (tT 4)),[]),(sS 20 (.fld 1 (tT 6)),[]),(sS 21 (.load 1 false (tT 20)),[3,4]),(⟨some 22,.lit 1 [.pv (.str ⟨#[]⟩)] 1 [(0,1,(tT 21))],none⟩,[2,3,4]),(sS 23 (.app 1 (tT 19) (tT 22)),[]),(sS 3 (.mov (tT 18)),[]),(sS 4 (.mov (tT 23)),[])] [1,3,4,6,8,9,10] [1,6])
(.seq
(.region [sS 24 (.fld 0 (tT 1)),sS 25 (.load 1 false (tT 24)),sS 26 (.bin .eql (tT 25) (zZ 6)),sS 27 (.mov (tT 26)),gG 28 (.fld 3 (tT 6)) 27 true,gG 29 (.load 1 false (tT 28)) 27 true,gG 30 (.mov (tT 29)) 27 true,gG 31 (.fld 4 (tT 6)) 30 false,gG 32 (.load 1 false (tT 31)) 30 false,gG 33 (.pick (tT 30) (bB true) (tT 32)) 27 true,sS 34 (.pick (tT 27) (tT 33) (bB false)),sS 35 (.mov (tT 34)),gG 36 (.fld 3 (tT 6)) 35 false,gG 37 (.load 1 false (tT 36)) 35 false,gG 38 (.mov (tT 37)) 35 false,gG 39 (.fld 4 (tT 6)) 38 true,gG 40 (.load 1 false (tT 39)) 38 true,gG 41 (.pick (tT 38) (tT 40) (bB false)) 35 false,sS 42 (.pick (tT 35) (bB true) (tT 41)),sS 43 (.mov (tT 42)),gG 44 (.fld 4 (tT 6)) 43 false,gG 45 (.load 1 false (tT 44)) 43 false,gG 46 (.un .not (tT 45)) 43 false,gG 47 (.mov (tT 46)) 43 false,gG 48 (.fld 5 (tT 6)) 47 true,gG 49 (.load 8 true (tT 48)) 47 true,gG 50 (.call (.val (.func 326 [])) [(tT 49)]) 47 true,gG 51 (.un .not (tT 50)) 47 true,gG 52 (.pick (tT 47) (tT 51) (bB false)) 43 false,sS 53 (.pick (tT 43) (bB true) (tT 52))] [1,3,4,8,9,10,53] [1])
(.cond (tT 53)
(.seq
(.region [sS 2 (.mov (bB false))] [2] [])
.ret)
.skip)))))
(.region [sS 54 (.bin .add (tT 10) (zZ 1)),sS 10 (.mov (tT 54))] [1,3,4,8,9,10] [1]))))))))
(.seq
(.region [sS 55 (.fld 0 (tT 1)),sS 56 (.load 1 false (tT 55)),sS 57 (.bin .eql (tT 56) (zZ 5)),sS 58 (.mov (tT 57)),gG 59 (.mov (tT 3)) 58 false,gG 60 (.len 0 (tT 59)) 58 false,gG 61 (.bin .gtr (tT 60) (zZ 0)) 58 false,sS 62 (.pick (tT 58) (bB true) (tT 61)),sS 63 (.mov (tT 62)),gG 64 (.mov (tT 3)) 63 true,gG 65 (.mov (tT 4)) 63 true,gG 66 (.call (.val (.func 325 [])) [(tT 64),(tT 65)]) 63 true,sS 67 (.pick (tT 63) (tT 66) (bB false)),sS 2 (.mov (tT 67))] [2] [])
.ret))))),[.tmp 2],false,false,false⟩
def F317 : AFunc := ⟨2,(.seq
(.region [sS 4 (.mov (bB false))] [0,1] [])
(.seq
(.seq
(.region [sS 6 (.mov (tT 0)),sS 7 (.len 0 (tT 6)),sS 8 (.mov (tT 1)),sS 9 (.len 0 (tT 8)),sS 10 (.bin .neq (tT 7) (tT 9))] [0,1,10] [])
(.cond (tT 10)
(.seq
(.region [sS 4 (.mov (bB false))] [4] [])
.ret)
.skip))
(.seq
(.seq
(.region [sS 11 (.mov (tT 0)),sS 12 (.len 0 (tT 11)),sS 13 (.mov (zZ 0))] [0,1,12,13] [])
(.block 0
(.loop
(.mask [0,1,12,13] []
(.seq
(.region [sS 14 (.bin .lss (tT 13) (tT 12))] [0,1,12,13,14] [])
(.seq
(.cond (tT 14)
.skip
(.exit 0))
(.seq
(.block 1
(.seq
(.region [sS 15 (.mov (tT 13)),sS 5 (.mov (tT 15))] [0,1,5,12,13] [])
(.seq
(.draw [(sS 16 (.mov (tT 0)),[]),(sS 17 (.mov (tT 5)),[]),(sS 18 (.idx 2 (tT 16) (tT 17)),[]),(sS 19 (.load 2 true (tT 18)),[]),(sS 20 (.mov (tT 1)),[]),(sS 21 (.mov (tT 5)),[]),(sS 22 (.idx 2 (tT 20) (tT 21)),[]),(sS 23 (.load 2 true (tT 22)),[]),(sS 24 (.eqa true [1,2] true (tT 19) (tT 23)),[])] [0,1,12,13,24] [])
(.cond (tT 24)
(.seq
(.region [sS 4 (.mov (bB false))] [4] [])
.ret)
.skip))))
(.region [sS 25 (.bin .add (tT 13) (zZ 1)),sS 13 (.mov (tT 25))] [0,1,12,13] []))))))))
(.seq
(.region [sS 4 (.mov (bB true))] [4] [])
.ret)))),[.tmp 4],false,false,false⟩
def F318 : AFunc := ⟨3,(.seq
(.region [sS 6 (.mov (bB false))] [0,1,2] [])
(.seq
(.seq
(.region [sS 10 (.mov (tT 0)),sS 11 (.len 0 (tT 10)),sS 12 (.mov (tT 1)),sS 13 (.len 0 (tT 12)),sS 14 (.bin .neq (tT 11) (tT 13))] [0,1,2,14] [])
(.cond (tT 14)
(.seq
(.region [sS 6 (.mov (bB false))] [6] [])
.ret)
.skip))
(.seq
(.seq
(.region [sS 15 (.mov (tT 0)),sS 16 (.len 0 (tT 15)),sS 17 (.mov (zZ 0))] [1,2,15,16,17] [])
(.block 0
(.loop
(.mask [1,2,15,16,17] []
(.seq
(.region [sS 18 (.bin .lss (tT 17) (tT 16))] [1,2,15,16,17,18] [])
(.seq
(.cond (tT 18)
.skip
(.exit 0))
(.seq
(.block 1
(.seq
(.region [sS 19 (.mov (tT 17)),sS 20 (.idx 13 (tT 15) (tT 17)),sS 21 (.load 13 true (tT 20)),⟨some 8,.alloc 8 [pZ,.pv (.str ⟨#[]⟩),pZ,.pv (.bool false),.pv (.bool false),pZ,.pv (.bool false),pZ,.pv (.str ⟨#[]⟩),pZ,.tl [],.tl [],.tl []],none⟩,sS 7 (.mov (tT 19)),nN (.store 13 (tT 8) (tT 21))] [1,2,7,8,15,16,17] [8])
(.seq
(.region [sS 22 (.mov (tT 1)),sS 23 (.mov (tT 7)),sS 24 (.idx 13 (tT 22) (tT 23)),sS 25 (.load 13 true (tT 24)),⟨some 9,.alloc 9 [pZ,.pv (.str ⟨#[]⟩),pZ,.pv (.bool false),.pv (.bool false),pZ,.pv (.bool false),pZ,.pv (.str ⟨#[]⟩),pZ,.tl [],.tl [],.tl []],none⟩,nN (.store 13 (tT 9) (tT 25))] [1,2,8,9,15,16,17] [8,9])
(.seq
(.region [sS 26 (.mov (tT 2)),sS 27 (.load 13 true (tT 8)),sS 28 (.load 13 true (tT 9)),sS 29 (.call (tT 26) [(tT 27),(tT 28)]),sS 30 (.un .not (tT 29))] [1,2,15,16,17,30] [])
(.cond (tT 30)
(.seq
(.region [sS 6 (.mov (bB false))] [6] [])
.ret)
.skip)))))
(.region [sS 31 (.bin .add (tT 17) (zZ 1)),sS 17 (.mov (tT 31))] [1,2,15,16,17] []))))))))
(.seq
(.region [sS 6 (.mov (bB true))] [6] [])
.ret)))),[.tmp 6],false,false,false⟩
def F319 : AFunc := ⟨2,(.seq
(.region [sS 2 (.box 2 13 (tT 0)),sS 3 (.box 3 13 (tT 1)),sS 4 (.mov (bB false))] [2,3] [2,3])
(.seq
(.region [sS 5 (.fld 0 (tT 2)),sS 6 (.load 1 false (tT 5)),sS 7 (.fld 0 (tT 3)),sS 8 (.load 1 false (tT 7)),sS 9 (.bin .eql (tT 6) (tT 8)),sS 10 (.mov (tT 9)),gG 11 (.fld 1 (tT 2)) 10 true,gG 12 (.load 1 false (tT 11)) 10 true,gG 13 (.fld 1 (tT 3)) 10 true,gG 14 (.load 1 false (tT 13)) 10 true,gG 15 (.bin .eql (tT 12) (tT 14)) 10 true,sS 16 (.pick (tT 10) (tT 15) (bB false)),sS 17 (.mov (tT 16)),gG 18 (.fld 2 (tT 2)) 17 true,gG 19 (.load 1 false (tT 18)) 17 true,gG 20 (.fld 2 (tT 3)) 17 true,gG 21 (.load 1 false (tT 20)) 17 true,gG 22 (.bin .eql (tT 19) (tT 21)) 17 true,sS 23 (.pick (tT 17) (tT 22) (bB false)),sS 24 (.mov (tT 23)),gG 25 (.fld 3 (tT 2)) 24 true,gG 26 (.load 1 false (tT 25)) 24 true,gG 27 (.fld 3 (tT 3)) 24 true,gG 28 (.load 1 false (tT 27)) 24 true,gG 29 (.eqa false [0] false (tT 26) (tT 28)) 24 true,sS 30 (.pick (tT 24) (tT 29) (bB false)),sS 31 (.mov (tT 30)),gG 32 (.fld 4 (tT 2)) 31 true,gG 33 (.load 1 false (tT 32)) 31 true,gG 34 (.fld 4 (tT 3)) 31 true,gG 35 (.load 1 false (tT 34)) 31 true,gG 36 (.eqa false [0] false (tT 33) (tT 35)) 31 true,sS 37 (.pick (tT 31) (tT 36) (bB false)),sS 38 (.mov (tT 37)),gG 39 (.fld 5 (tT 2)) 38 true,gG 40 (.load 8 true (tT 39)) 38 true,gG 41 (.fld 5 (tT 3)) 38 true,gG 42 (.load 8 true (tT 41)) 38 true,gG 43 (.call (.val (.func 320 [])) [(tT 40),(tT 42)]) 38 true,sS 44 (.pick (tT 38) (tT 43) (bB false)),sS 4 (.mov (tT 44))] [4] [])
.ret)),[.tmp 4],false,false,false⟩
def F320 : AFunc := ⟨2,(.seq
(.region [sS 2 (.box 2 8 (tT 0)),sS 3 (.box 3 8 (tT 1)),sS 4 (.mov (bB false))] [2,3] [2,3])
(.seq
(.region [sS 5 (.fld 0 (tT 2)),sS 6 (.load 1 false (tT 5)),sS 7 (.fld 0 (tT 3)),sS 8 (.load 1 false (tT 7)),sS 9 (.bin .eql (tT 6) (tT 8)),sS 10 (.mov (tT 9)),gG 11 (.fld 1 (tT 2)) 10 true,gG 12 (.load 1 false (tT 11)) 10 true,gG 13 (.fld 1 (tT 3)) 10 true,gG 14 (.load 1 false (tT 13)) 10 true,gG 15 (.eqa false [0] false (tT 12) (tT 14)) 10 true,sS 16 (.pick (tT 10) (tT 15) (bB false)),sS 17 (.mov (tT 16)),gG 18 (.fld 2 (tT 2)) 17 true,gG 19 (.load 1 false (tT 18)) 17 true,gG 20 (.fld 2 (tT 3)) 17 true,gG 21 (.load 1 false (tT 20)) 17 true,gG 22 (.bin .eql (tT 19) (tT 21)) 17 true,sS 23 (.pick (tT 17) (tT 22) (bB false)),sS 24 (.mov (tT 23)),gG 25 (.fld 3 (tT 2)) 24 true,gG 26 (.load 1 false (tT 25)) 24 true,gG 27 (.fld 3 (tT 3)) 24 true,gG 28 (.load 1 false (tT 27)) 24 true,gG 29 (.bin .eql (tT 26) (tT 28)) 24 true,sS 30 (.pick (tT 24) (tT 29) (bB false)),sS 31 (.mov (tT 30)),gG 32 (.fld 4 (tT 2)) 31 true,gG 33 (.load 1 false (tT 32)) 31 true,gG 34 (.fld 4 (tT 3)) 31 true,gG 35 (.load 1 false (tT 34)) 31 true,gG 36 (.bin .eql (tT 33) (tT 35)) 31 true,sS 37 (.pick (tT 31) (tT 36) (bB false)),sS 38 (.mov (tT 37)),gG 39 (.fld 7 (tT 2)) 38 true,gG 40 (.load 1 false (tT 39)) 38 true,gG 41 (.fld 7 (tT 3)) 38 true,gG 42 (.load 1 false (tT 41)) 38 true,gG 43 (.call (.val (.func 333 [])) [(tT 40),(tT 42)]) 38 true,sS 44 (.pick (tT 38) (tT 43) (bB false)),sS 45 (.mov (tT 44)),gG 46 (.fld 5 (tT 2)) 45 true,gG 47 (.load 1 false (tT 46)) 45 true,gG 48 (.fld 5 (tT 3)) 45 true,gG 49 (.load 1 false (tT 48)) 45 true,gG 50 (.call (.val (.func 334 [])) [(tT 47),(tT 49),(.val (.func 320 []))]) 45 true,sS 51 (.pick (tT 45) (tT 50) (bB false)),sS 52 (.mov (tT 51)),gG 53 (.fld 6 (tT 2)) 52 true,gG 54 (.load 1 false (tT 53)) 52 true,gG 55 (.fld 6 (tT 3)) 52 true,gG 56 (.load 1 false (tT 55)) 52 true,gG 57 (.call (.val (.func 334 [])) [(tT 54),(tT 56),(.val (.func 320 []))]) 52 true,sS 58 (.pick (tT 52) (tT 57) (bB false)),sS 4 (.mov (tT 58))] [4] [])
.ret)),[.tmp 4],false,false,false⟩
def F323 : AFunc := ⟨1,(.seq
(.region [sS 2 (.mov (bB false))] [0] [])
(.seq
(.region [sS 3 (.mov (tT 0)),sS 4 (.bin .eql (tT 3) (.val (.pv (.int .u8 95)))),sS 5 (.mov (tT 4)),gG 6 (.mov (tT 0)) 5 false,gG 7 (.bin .geq (tT 6) (.val (.pv (.int .u8 97)))) 5 false,gG 8 (.mov (tT 7)) 5 false,gG 9 (.mov (tT 0)) 8 true,gG 10 (.bin .leq (tT 9) (.val (.pv (.int .u8 122)))) 8 true,gG 11 (.pick (tT 8) (tT 10) (bB false)) 5 false,sS 12 (.pick (tT 5) (bB true) (tT 11)),sS 13 (.mov (tT 12)),gG 14 (.mov (tT 0)) 13 false,gG 15 (.bin .geq (tT 14) (.val (.pv (.int .u8 65)))) 13 false,gG 16 (.mov (tT 15)) 13 false,gG 17 (.mov (tT 0)) 16 true,gG 18 (.bin .leq (tT 17) (.val (.pv (.int .u8 90)))) 16 true,gG 19 (.pick (tT 16) (tT 18) (bB false)) 13 false,sS 20 (.pick (tT 13) (bB true) (tT 19)),sS 2 (.mov (tT 20))] [2] [])
.ret)),[.tmp 2],false,false,false⟩
def F324 : AFunc := ⟨1,(.seq
(.region [sS 2 (.mov (bB false))] [0] [])
(.seq
(.region [sS 3 (.mov (tT 0)),sS 4 (.bin .geq (tT 3) (.val (.pv (.int .u8 48)))),sS 5 (.mov (tT 4)),gG 6 (.mov (tT 0)) 5 true,gG 7 (.bin .leq (tT 6) (.val (.pv (.int .u8 57)))) 5 true,sS 8 (.pick (tT 5) (tT 7) (bB false)),sS 2 (.mov (tT 8))] [2] [])
.ret)),[.tmp 2],false,false,false⟩
def F325 : AFunc := ⟨2,(.seq
(.region [sS 4 (.mov (bB false))] [0,1] [])
(.seq
(.region [sS 8 (.mkmap),sS 5 (.mov (tT 8))] [0,1,5] [])
(.seq
(.seq
(.region [sS 9 (.mov (tT 0)),sS 10 (.len 0 (tT 9)),sS 11 (.mov (zZ 0))] [0,1,5,9,10,11] [])
(.block 0
(.loop
(.mask [0,1,5,9,10,11] []
(.seq
(.region [sS 12 (.bin .lss (tT 11) (tT 10))] [0,1,5,9,10,11,12] [])
(.seq
(.cond (tT 12)
.skip
(.exit 0))
(.seq
(.block 1
(.seq
(.region [sS 13 (.mov (tT 11)),sS 14 (.idx 1 (tT 9) (tT 11)),sS 15 (.load 1 false (tT 14)),sS 6 (.mov (tT 13)),sS 7 (.mov (tT 15))] [0,1,5,6,7,9,10,11] [])
(.seq
(.seq
(.region [sS 16 (.mov (tT 7)),sS 17 (.bin .lss (tT 16) (zZ 1)),sS 18 (.mov (tT 17)),gG 19 (.mov (tT 7)) 18 false,gG 20 (.bin .gtr (tT 19) (zZ 1000)) 18 false,sS 21 (.pick (tT 18) (bB true) (tT 20)),sS 22 (.mov (tT 21)),gG 23 (.mov (tT 6)) 22 false,gG 24 (.bin .gtr (tT 23) (zZ 0)) 22 false,gG 25 (.mov (tT 24)) 22 false,gG 26 (.mov (tT 7)) 25 true,gG 27 (.mov (tT 0)) 25 true,gG 28 (.mov (tT 6)) 25 true,gG 29 (.bin .sub (tT 28) (zZ 1)) 25 true,gG 30 (.idx 1 (tT 27) (tT 29)) 25 true,gG 31 (.load 1 false (tT 30)) 25 true,gG 32 (.bin .leq (tT 26) (tT 31)) 25 true,gG 33 (.pick (tT 25) (tT 32) (bB false)) 22 false,sS 34 (.pick (tT 22) (bB true) (tT 33)),sS 35 (.mov (tT 34)),gG 36 (.mov (tT 5)) 35 false,gG 37 (.mov (tT 1)) 35 false,gG 38 (.mov (tT 6)) 35 false,gG 39 (.idx 1 (tT 37) (tT 38)) 35 false,gG 40 (.load 1 false (tT 39)) 35 false,gG 41 (.look false [2] (.pv (.bool false)) (tT 36) (tT 40) false) 35 false,sS 42 (.pick (tT 35) (bB true) (tT 41)),sS 43 (.mov (tT 42)),gG 44 (.mov (tT 1)) 43 false,gG 45 (.mov (tT 6)) 43 false,gG 46 (.idx 1 (tT 44) (tT 45)) 43 false,gG 47 (.load 1 false (tT 46)) 43 false,gG 48 (.call (.val (.func 306 [])) [(tT 47)]) 43 false,gG 49 (.un .not (tT 48)) 43 false,sS 50 (.pick (tT 43) (bB true) (tT 49))] [0,1,5,6,9,10,11,50] [])
(.cond (tT 50)
(.seq
(.region [sS 4 (.mov (bB false))] [4] [])
.ret)
.skip))
(.region [sS 51 (.mov (tT 5)),sS 52 (.mov (tT 1)),sS 53 (.mov (tT 6)),sS 54 (.idx 1 (tT 52) (tT 53)),sS 55 (.load 1 false (tT 54)),nN (.upd false [2] (tT 51) (tT 55) (bB true))] [0,1,5,9,10,11] []))))
(.region [sS 56 (.bin .add (tT 11) (zZ 1)),sS 11 (.mov (tT 56))] [0,1,5,9,10,11] []))))))))
(.seq
(.region [sS 57 (.mov (tT 0)),sS 58 (.len 0 (tT 57)),sS 59 (.bin .leq (tT 58) (zZ 16)),sS 4 (.mov (tT 59))] [4] [])
.ret)))),[.tmp 4],false,false,false⟩
def F326 : AFunc := ⟨1,(.seq
(.region [sS 1 (.box 1 8 (tT 0)),sS 2 (.mov (bB false))] [1] [1])
(.seq
(.region [sS 3 (.load 8 true (tT 1)),⟨some 4,.build [pZ,.pv (.bool false),pZ,.pv (.str ⟨#[]⟩),pZ,.tl [],.tl [],.tl []] [],none⟩,sS 5 (.call (.val (.func 320 [])) [(tT 3),(tT 4)]),sS 2 (.mov (tT 5))] [2] [])
.ret)),[.tmp 2],false,false,false⟩
def F333 : AFunc := ⟨2,(.seq
(.region [sS 4 (.mov (bB false))] [0,1] [])
(.seq
(.seq
(.region [sS 6 (.mov (tT 0)),sS 7 (.len 0 (tT 6)),sS 8 (.mov (tT 1)),sS 9 (.len 0 (tT 8)),sS 10 (.bin .neq (tT 7) (tT 9))] [0,1,10] [])
(.cond (tT 10)
(.seq
(.region [sS 4 (.mov (bB false))] [4] [])
.ret)
.skip))
(.seq
(.seq
(.region [sS 11 (.mov (tT 0)),sS 12 (.len 0 (tT 11)),sS 13 (.mov (zZ 0))] [0,1,12,13] [])
(.block 0
(.loop
(.mask [0,1,12,13] []
(.seq
(.region [sS 14 (.bin .lss (tT 13) (tT 12))] [0,1,12,13,14] [])
(.seq
(.cond (tT 14)
.skip
(.exit 0))
(.seq
(.block 1
(.seq
(.region [sS 15 (.mov (tT 13)),sS 5 (.mov (tT 15))] [0,1,5,12,13] [])
(.seq
(.draw [(sS 16 (.mov (tT 0)),[]),(sS 17 (.mov (tT 5)),[]),(sS 18 (.idx 2 (tT 16) (tT 17)),[]),(sS 19 (.load 2 true (tT 18)),[]),(sS 20 (.mov (tT 1)),[]),(sS 21 (.mov (tT 5)),[]),(sS 22 (.idx 2 (tT 20) (tT 21)),[]),(sS 23 (.load 2 true (tT 22)),[]),(sS 24 (.eqa true [1,2] true (tT 19) (tT 23)),[])] [0,1,12,13,24] [])
(.cond (tT 24)
(.seq
(.region [sS 4 (.mov (bB false))] [4] [])
.ret)
.skip))))
(.region [sS 25 (.bin .add (tT 13) (zZ 1)),sS 13 (.mov (tT 25))] [0,1,12,13] []))))))))
(.seq
(.region [sS 4 (.mov (bB true))] [4] [])
.ret)))),[.tmp 4],false,false,false⟩
def F334 : AFunc := ⟨3,(.seq
(.region [sS 6 (.mov (bB false))] [0,1,2] [])
(.seq
(.seq
(.region [sS 10 (.mov (tT 0)),sS 11 (.len 0 (tT 10)),sS 12 (.mov (tT 1)),sS 13 (.len 0 (tT 12)),sS 14 (.bin .neq (tT 11) (tT 13))] [0,1,2,14] [])
(.cond (tT 14)
(.seq
(.region [sS 6 (.mov (bB false))] [6] [])
.ret)
.skip))
(.seq
(.seq
(.region [sS 15 (.mov (tT 0)),sS 16 (.len 0 (tT 15)),sS 17 (.mov (zZ 0))] [1,2,15,16,17] [])
(.block 0
(.loop
(.mask [1,2,15,16,17] []
(.seq
(.region [sS 18 (.bin .lss (tT 17) (tT 16))] [1,2,15,16,17,18] [])
(.seq
(.cond (tT 18)
.skip
(.exit 0))
(.seq
(.block 1
(.seq
(.region [sS 19 (.mov (tT 17)),sS 20 (.idx 8 (tT 15) (tT 17)),sS 21 (.load 8 true (tT 20)),⟨some 8,.alloc 8 [pZ,.pv (.bool false),pZ,.pv (.str ⟨#[]⟩),pZ,.tl [],.tl [],.tl []],none⟩,sS 7 (.mov (tT 19)),nN (.store 8 (tT 8) (tT 21))] [1,2,7,8,15,16,17] [8])
(.seq
(.region [sS 22 (.mov (tT 1)),sS 23 (.mov (tT 7)),sS 24 (.idx 8 (tT 22) (tT 23)),sS 25 (.load 8 true (tT 24)),⟨some 9,.alloc 9 [pZ,.pv (.bool false),pZ,.pv (.str ⟨#[]⟩),pZ,.tl [],.tl [],.tl []],none⟩,nN (.store 8 (tT 9) (tT 25))] [1,2,8,9,15,16,17] [8,9])
(.seq
(.region [sS 26 (.mov (tT 2)),sS 27 (.load 8 true (tT 8)),sS 28 (.load 8 true (tT 9)),sS 29 (.call (tT 26) [(tT 27),(tT 28)]),sS 30 (.un .not (tT 29))] [1,2,15,16,17,30] [])
(.cond (tT 30)
(.seq
(.region [sS 6 (.mov (bB false))] [6] [])
.ret)
.skip)))))
(.region [sS 31 (.bin .add (tT 17) (zZ 1)),sS 17 (.mov (tT 31))] [1,2,15,16,17] []))))))))
(.seq
(.region [sS 6 (.mov (bB true))] [6] [])
.ret)))),[.tmp 6],false,false,false⟩
def F392 : AFunc := ⟨2,(.seq
(.region [sS 2 (.box 2 10 (tT 0)),sS 3 (.box 3 1 (tT 1)),sS 4 (.mov (zZ 0)),sS 5 (.mov (bB false))] [2,3] [2,3])
(.seq
(.region [sS 7 (.fld 5 (tT 2)),sS 8 (.load 1 false (tT 7)),sS 9 (.clos 395 [(tT 3)]),sS 10 (.call (.val (.func 394 [])) [(tT 8),(tT 9)]),sS 6 (.mov (tT 10))] [6] [])
(.seq
(.region [sS 11 (.mov (tT 6)),sS 12 (.minmax true [(tT 11),(zZ 0)]),sS 13 (.mov (tT 6)),sS 14 (.bin .geq (tT 13) (zZ 0)),sS 4 (.mov (tT 12)),sS 5 (.mov (tT 14))] [4,5] [])
.ret))),[.tmp 4,.tmp 5],false,false,false⟩
def F394 : AFunc := ⟨2,(.seq
(.region [sS 4 (.mov (zZ 0))] [0,1] [])
(.seq
(.seq
(.region [sS 6 (.mov (tT 0)),sS 7 (.len 0 (tT 6)),sS 8 (.mov (zZ 0))] [0,1,7,8] [])
(.block 0
(.loop
(.mask [0,1,7,8] []
(.seq
(.region [sS 9 (.bin .lss (tT 8) (tT 7))] [0,1,7,8,9] [])
(.seq
(.cond (tT 9)
.skip
(.exit 0))
(.seq
(.block 1
(.seq
(.region [sS 10 (.mov (tT 8)),sS 5 (.mov (tT 10))] [0,1,5,7,8] [])
(.seq
(.region [sS 11 (.mov (tT 1)),sS 12 (.mov (tT 0)),sS 13 (.mov (tT 5)),sS 14 (.idx 2 (tT 12) (tT 13)),sS 15 (.load 2 true (tT 14)),sS 16 (.call (tT 11) [(tT 15)])] [0,1,5,7,8,16] [])
(.cond (tT 16)
(.seq
(.region [sS 17 (.mov (tT 5)),sS 4 (.mov (tT 17))] [4] [])
.ret)
.skip))))
(.region [sS 18 (.bin .add (tT 8) (zZ 1)),sS 8 (.mov (tT 18))] [0,1,7,8] []))))))))
(.seq
(.region [sS 4 (.mov (.val (.pv (.int .i64 (-1)))))] [4] [])
.ret))),[.tmp 4],false,false,false⟩
def F395 : AFunc := ⟨2,(.seq
(.region [sS 2 (.box 2 2 (tT 0)),sS 3 (.mov (bB false))] [1,2] [2])
(.seq
(.region [sS 4 (.fld 0 (tT 2)),sS 5 (.load 1 false (tT 4)),sS 6 (.load 1 false (tT 1)),sS 7 (.bin .eql (tT 5) (tT 6)),sS 3 (.mov (tT 7))] [3] [])
.ret)),[.tmp 3],false,false,false⟩
def F397 : AFunc := ⟨2,(.seq
(.region [sS 2 (.box 2 5 (tT 0)),sS 4 (.mov (bB false))] [1,2] [2])
(.seq
(.seq
(.region [sS 17 (.call (.val (.func 404 [])) []),sS 18 (.un .not (tT 17)),sS 19 (.mov (tT 18)),gG 20 (.load 5 true (tT 2)) 19 false,gG 21 (.call (.val (.func 405 [])) [(tT 20)]) 19 false,gG 22 (.un .not (tT 21)) 19 false,sS 23 (.pick (tT 19) (bB true) (tT 22))] [1,2,23] [2])
(.cond (tT 23)
(.seq
(.region [sS 24 (.call (.val (.func 404 [])) []),sS 4 (.mov (tT 24))] [4] [])
.ret)
.skip))
(.seq
(.region [sS 26 (.load 5 true (tT 2)),sS 27 (.mov (tT 1)),sS 28 (.call (.val (.func 410 [])) [(tT 26),(tT 27)]),sS 25 (.mov (tT 28)),sS 29 (.ext (tT 25) 0),sS 30 (.ext (tT 25) 1),⟨some 5,.alloc 5 [.pv (.str ⟨#[]⟩),pZ,pZ],none⟩,nN (.store 3 (tT 5) (tT 29)),sS 6 (.mov (tT 30))] [1,2,5,6] [2,5])
(.seq
(.region [sS 32 (.load 5 true (tT 2)),sS 33 (.mov (tT 1)),sS 34 (.call (.val (.func 411 [])) [(tT 32),(tT 33)]),sS 31 (.mov (tT 34)),sS 35 (.ext (tT 31) 0),sS 36 (.ext (tT 31) 1),⟨some 7,.alloc 7 [.pv (.str ⟨#[]⟩),pZ,pZ],none⟩,nN (.store 3 (tT 7) (tT 35)),sS 8 (.mov (tT 36))] [1,2,5,6,7,8] [2,5,7])
(.seq
(.region [sS 38 (.load 5 true (tT 2)),sS 39 (.mov (tT 1)),sS 40 (.call (.val (.func 412 [])) [(tT 38),(tT 39)]),sS 37 (.mov (tT 40)),sS 41 (.ext (tT 37) 0),sS 42 (.ext (tT 37) 1),⟨some 9,.alloc 9 [.pv (.str ⟨#[]⟩),.tl [],pZ,pZ,.tl []],none⟩,nN (.store 5 (tT 9) (tT 41)),sS 10 (.mov (tT 42))] [1,2,5,6,7,8,9,10] [2,5,7,9])
(.seq
(.region [sS 44 (.load 5 true (tT 2)),sS 45 (.mov (tT 1)),sS 46 (.call (.val (.func 413 [])) [(tT 44),(tT 45)]),sS 43 (.mov (tT 46)),sS 47 (.ext (tT 43) 0),sS 48 (.ext (tT 43) 1),⟨some 11,.alloc 11 [.pv (.str ⟨#[]⟩),.tl [],pZ,pZ,.tl []],none⟩,nN (.store 5 (tT 11) (tT 47)),sS 12 (.mov (tT 48))] [1,2,5,6,7,8,9,10,11,12] [2,5,7,9,11])
(.seq
(.region [sS 50 (.load 5 true (tT 2)),sS 51 (.mov (tT 1)),sS 52 (.call (.val (.func 414 [])) [(tT 50),(tT 51)]),sS 49 (.mov (tT 52)),sS 53 (.ext (tT 49) 0),sS 54 (.ext (tT 49) 1),⟨some 13,.alloc 13 [.pv (.str ⟨#[]⟩),pZ],none⟩,nN (.store 2 (tT 13) (tT 53)),sS 14 (.mov (tT 54))] [1,2,5,6,7,8,9,10,11,12,13,14] [2,5,7,9,11,13])
(.seq
(.region [sS 56 (.load 5 true (tT 2)),sS 57 (.mov (tT 1)),sS 58 (.call (.val (.func 415 [])) [(tT 56),(tT 57)]),sS 55 (.mov (tT 58)),sS 59 (.ext (tT 55) 0),sS 60 (.ext (tT 55) 1),⟨some 15,.alloc 15 [.pv (.str ⟨#[]⟩),pZ],none⟩,nN (.store 2 (tT 15) (tT 59)),sS 16 (.mov (tT 60))] [2,5,6,7,8,9,10,11,12,13,14,15,16] [2,5,7,9,11,13,15])
(.seq
(.draw [(sS 61 (.load 3 true (tT 5)),[]),(sS 62 (.load 3 true (tT 7)),[]),(sS 63 (.eqa true [2,1,1] false (tT 61) (tT 62)),[]),(sS 64 (.mov (tT 63)),[]),(gG 65 (.mov (tT 6)) 64 true,[]),(gG 66 (.mov (tT 8)) 64 true,[]),(gG 67 (.eqa false [0] false (tT 65) (tT 66)) 64 true,[]),(sS 68 (.pick (tT 64) (tT 67) (bB false)),[]),(sS 69 (.mov (tT 68)),[]),(gG 70 (.load 5 true (tT 9)) 69 true,[]),(gG 71 (.load 5 true (tT 11)) 69 true,[]),(gG 72 (.call (.val (.func 416 [])) [(tT 70),(tT 71)]) 69 true,[]),(sS 73 (.pick (tT 69) (tT 72) (bB false)),[]),(sS 74 (.mov (tT 73)),[]),(gG 75 (.mov (tT 10)) 74 true,[]),(gG 76 (.mov (tT 12)) 74 true,[]),(gG 77 (.eqa false [0] false (tT 75) (tT 76)) 74 true,[]),(sS 78 (.pick (tT 74) (tT 77) (bB false)),[]),(sS 79 (.mov (tT 78)),[]),(gG 80 (.load 2 true (tT 13)) 79 true,[]),(gG 81 (.load 2 true (tT 15)) 79 true,[]),(gG 82 (.eqa true [2,1] false (tT 80) (tT 81)) 79 true,[]),(sS 83 (.pick (tT 79) (tT 82) (bB false)),[]),(sS 84 (.mov (tT 83)),[]),(gG 85 (.mov (tT 14)) 84 true,[]),(gG 86 (.mov (tT 16)) 84 true,[]),(gG 87 (.eqa false [0] false (tT 85) (tT 86)) 84 true,[]),(sS 88 (.pick (tT 84) (tT 87) (bB false)),[]),(sS 89 (.mov (tT 88)),[]),(gG 90 (.load 5 true (tT 2)) 89 true,[]),(gG 91 (.call (.val (.func 417 [])) [(tT 90)]) 89 true,[]),(gG 92 (.load 5 true (tT 2)) 89 true,[30]),(gG 93 (.call (.val (.func 418 [])) [(tT 92)]) 89 true,[]),(gG 94 (.call (.val (.func 14 [])) [(tT 91),(tT 93)]) 89 true,[]),(sS 95 (.pick (tT 89) (tT 94) (bB false)),[]),(sS 4 (.mov (tT 95)),[])] [4] [])
.ret))))))))),[.tmp 4],false,false,false⟩
def F404 : AFunc := ⟨0,(.seq
(.region [sS 0 (.mov (bB false))] [] [])
(.seq
(.region [sS 12 (.call (.val (.func 433 [])) []),sS 13 (.call (.val (.func 433 [])) []),sS 14 (.call (.val (.func 433 [])) []),⟨some 1,.alloc 1 [.pv (.str ⟨#[]⟩),.tl [],.tl [],.tl [],.tl []],none⟩,⟨some 2,.alloc 2 [.pv (.str ⟨#[]⟩),.tl [],.tl [],.tl [],.tl []],none⟩,⟨some 3,.alloc 3 [.pv (.str ⟨#[]⟩),.tl [],.tl [],.tl [],.tl []],none⟩,nN (.store 5 (tT 1) (tT 12)),nN (.store 5 (tT 2) (tT 13)),nN (.store 5 (tT 3) (tT 14))] [1,2,3] [1,2,3])
(.seq
(.region [sS 15 (.fld 4 (tT 2)),nN (.store 1 (tT 15) (.val (.tl [])))] [1,2,3] [1,2,3])
(.seq
(.region [sS 16 (.fld 2 (tT 3)),sS 17 (.load 1 false (tT 16)),sS 18 (.idx 3 (tT 17) (zZ 0)),sS 19 (.fld 1 (tT 18)),nN (.store 1 (tT 19) (zZ 0))] [1,2,3] [1,2,3])
(.seq
(.region [sS 21 (.load 5 true (tT 1)),sS 22 (.call (.val (.func 408 [])) [(tT 21)]),sS 20 (.mov (tT 22)),sS 23 (.ext (tT 20) 0),sS 24 (.ext (tT 20) 1),⟨some 4,.alloc 4 [.pv (.str ⟨#[]⟩),.tl [],.tl [],.tl [],.tl []],none⟩,nN (.store 5 (tT 4) (tT 23)),sS 5 (.mov (tT 24))] [1,2,3,4,5] [1,2,3,4])
(.seq
(.region [sS 26 (.load 5 true (tT 1)),sS 27 (.load 5 true (tT 4)),sS 28 (.call (.val (.func 421 [])) [(tT 26),(tT 27)]),sS 25 (.mov (tT 28)),sS 29 (.ext (tT 25) 0),sS 30 (.ext (tT 25) 1),sS 6 (.mov (tT 29)),sS 7 (.mov (tT 30))] [1,2,3,4,5,6,7] [1,2,3,4])
(.seq
(.region [sS 32 (.load 5 true (tT 1)),sS 33 (.load 5 true (tT 2)),sS 34 (.call (.val (.func 421 [])) [(tT 32),(tT 33)]),sS 31 (.mov (tT 34)),sS 35 (.ext (tT 31) 0),sS 36 (.ext (tT 31) 1),sS 8 (.mov (tT 35)),sS 9 (.mov (tT 36))] [1,3,4,5,6,7,8,9] [1,3,4])
(.seq
(.region [sS 38 (.load 5 true (tT 1)),sS 39 (.load 5 true (tT 3)),sS 40 (.call (.val (.func 421 [])) [(tT 38),(tT 39)]),sS 37 (.mov (tT 40)),sS 41 (.ext (tT 37) 0),sS 42 (.ext (tT 37) 1),sS 10 (.mov (tT 41)),sS 11 (.mov (tT 42))] [1,4,5,6,7,8,9,10,11] [1,4])
(.seq
(.region [sS 43 (.load 5 true (tT 1)),sS 44 (.call (.val (.func 407 [])) [(tT 43)]),sS 45 (.bin .eql (tT 44) (zZ 0)),sS 46 (.mov (tT 45)),gG 47 (.load 5 true (tT 1)) 46 true,gG 48 (.call (.val (.func 417 [])) [(tT 47)]) 46 true,gG 49 (.lit 1 [pZ] 2 [(0,1,(zZ 0)),(1,1,(zZ 1))]) 46 true,gG 50 (.call (.val (.func 14 [])) [(tT 48),(tT 49)]) 46 true,sS 51 (.pick (tT 46) (tT 50) (bB false)),sS 52 (.mov (tT 51)),gG 53 (.mov (tT 5)) 52 true,gG 54 (.bin .eql (tT 53) (zZ 0)) 52 true,sS 55 (.pick (tT 52) (tT 54) (bB false)),sS 56 (.mov (tT 55)),gG 57 (.fld 1 (tT 4)) 56 true,gG 58 (.fld 0 (tT 57)) 56 true,gG 59 (.load 1 false (tT 58)) 56 true,gG 60 (.len 0 (tT 59)) 56 true,gG 61 (.bin .eql (tT 60) (zZ 2)) 56 true,sS 62 (.pick (tT 56) (tT 61) (bB false)),sS 63 (.mov (tT 62)),gG 64 (.mov (tT 6)) 63 true,sS 65 (.pick (tT 63) (tT 64) (bB false)),sS 66 (.mov (tT 65)),gG 67 (.mov (tT 7)) 66 true,gG 68 (.bin .eql (tT 67) (zZ 0)) 66 true,sS 69 (.pick (tT 66) (tT 68) (bB false)),sS 70 (.mov (tT 69)),gG 71 (.mov (tT 8)) 70 true,gG 72 (.un .not (tT 71)) 70 true,sS 73 (.pick (tT 70) (tT 72) (bB false)),sS 74 (.mov (tT 73)),gG 75 (.mov (tT 9)) 74 true,gG 76 (.bin .eql (tT 75) (zZ 0)) 74 true,sS 77 (.pick (tT 74) (tT 76) (bB false)),sS 78 (.mov (tT 77)),gG 79 (.mov (tT 10)) 78 true,gG 80 (.un .not (tT 79)) 78 true,sS 81 (.pick (tT 78) (tT 80) (bB false)),sS 82 (.mov (tT 81)),gG 83 (.mov (tT 11)) 82 true,gG 84 (.bin .eql (tT 83) (zZ 0)) 82 true,sS 85 (.pick (tT 82) (tT 84) (bB false)),sS 0 (.mov (tT 85))] [0] [])
.ret))))))))),[.tmp 0],false,false,false⟩
def F405 : AFunc := ⟨1,(.seq
(.region [sS 1 (.box 1 5 (tT 0)),sS 2 (.mov (bB false))] [1] [1])
(.seq
(.seq
(.region [sS 4 (.fld 2 (tT 1)),sS 5 (.load 1 false (tT 4)),sS 6 (.len 0 (tT 5)),sS 7 (.bin .gtr (tT 6) (zZ 10)),sS 8 (.mov (tT 7)),gG 9 (.fld 3 (tT 1)) 8 false,gG 10 (.load 1 false (tT 9)) 8 false,gG 11 (.len 0 (tT 10)) 8 false,gG 12 (.bin .gtr (tT 11) (zZ 10)) 8 false,sS 13 (.pick (tT 8) (bB true) (tT 12)),sS 14 (.mov (tT 13)),gG 15 (.fld 4 (tT 1)) 14 false,gG 16 (.load 1 false (tT 15)) 14 false,gG 17 (.len 0 (tT 16)) 14 false,gG 18 (.bin .gtr (tT 17) (zZ 10)) 14 false,sS 19 (.pick (tT 14) (bB true) (tT 18)),sS 20 (.mov (tT 19)),gG 21 (.fld 0 (tT 1)) 20 false,gG 22 (.load 1 false (tT 21)) 20 false,gG 23 (.len 1 (tT 22)) 20 false,gG 24 (.bin .gtr (tT 23) (zZ 100)) 20 false,sS 25 (.pick (tT 20) (bB true) (tT 24)),sS 26 (.mov (tT 25)),gG 27 (.fld 1 (tT 1)) 26 false,gG 28 (.load 1 true (tT 27)) 26 false,gG 29 (.call (.val (.func 266 [])) [(tT 28)]) 26 false,gG 30 (.un .not (tT 29)) 26 false,sS 31 (.pick (tT 26) (bB true) (tT 30))] [1,31] [1])
(.cond (tT 31)
(.seq
(.region [sS 2 (.mov (bB false))] [2] [])
.ret)
.skip))
(.seq
(.seq
(.region [sS 3 (.mov (zZ 0))] [1,3] [1])
(.block 0
(.loop
(.mask [1,3] [1]
(.seq
(.seq
(.region [sS 32 (.mov (tT 3)),sS 33 (.fld 3 (tT 1)),sS 34 (.load 1 false (tT 33)),sS 35 (.len 0 (tT 34)),sS 36 (.bin .lss (tT 32) (tT 35))] [1,3,36] [1])
(.cond (tT 36)
.skip
(.exit 0)))
(.seq
(.block 1
(.seq
(.region [sS 39 (.fld 3 (tT 1)),sS 40 (.load 1 false (tT 39)),sS 41 (.mov (tT 3)),sS 42 (.idx 5 (tT 40) (tT 41)),sS 43 (.load 5 true (tT 42)),sS 44 (.call (.val (.func 434 [])) [(tT 43)]),sS 45 (.un .not (tT 44))] [1,3,45] [1])
(.cond (tT 45)
(.seq
(.region [sS 2 (.mov (bB false))] [2] [])
.ret)
.skip)))
(.region [sS 37 (.mov (tT 3)),sS 38 (.bin .add (tT 37) (zZ 1)),sS 3 (.mov (tT 38))] [1,3] [1])))))))
(.seq
(.region [sS 2 (.mov (bB true))] [2] [])
.ret)))),[.tmp 2],false,false,false⟩
def F407 : AFunc := ⟨1,(.seq
(.region [sS 1 (.box 1 5 (tT 0)),sS 2 (.mov (zZ 0))] [1] [1])
(.seq
(.seq
(.region [sS 16 (.fld 2 (tT 1)),sS 17 (.load 1 false (tT 16)),sS 18 (.len 0 (tT 17)),sS 19 (.bin .gtr (tT 18) (zZ 8)),sS 20 (.mov (tT 19)),gG 21 (.fld 3 (tT 1)) 20 false,gG 22 (.load 1 false (tT 21)) 20 false,gG 23 (.len 0 (tT 22)) 20 false,gG 24 (.bin .gtr (tT 23) (zZ 8)) 20 false,sS 25 (.pick (tT 20) (bB true) (tT 24)),sS 26 (.mov (tT 25)),gG 27 (.fld 4 (tT 1)) 26 false,gG 28 (.load 1 false (tT 27)) 26 false,gG 29 (.len 0 (tT 28)) 26 false,gG 30 (.bin .gtr (tT 29) (zZ 8)) 26 false,sS 31 (.pick (tT 26) (bB true) (tT 30))] [1,31] [1])
(.cond (tT 31)
(.seq
(.region [sS 2 (.mov (zZ 3))] [2] [])
.ret)
.skip))
(.seq
(.seq
(.region [sS 32 (.fld 0 (tT 1)),sS 33 (.load 1 false (tT 32)),sS 34 (.call (.val (.func 306 [])) [(tT 33)]),sS 35 (.un .not (tT 34))] [1,35] [1])
(.cond (tT 35)
(.seq
(.region [sS 2 (.mov (zZ 1))] [2] [])
.ret)
.skip))
(.seq
(.seq
(.region [sS 36 (.fld 1 (tT 1)),sS 37 (.load 1 true (tT 36)),sS 38 (.call (.val (.func 439 [])) [(tT 37)]),sS 3 (.mov (tT 38))] [1,3] [1])
(.seq
(.region [sS 39 (.mov (tT 3)),sS 40 (.bin .neq (tT 39) (zZ 0))] [1,3,40] [1])
(.cond (tT 40)
(.seq
(.region [sS 41 (.mov (tT 3)),sS 2 (.mov (tT 41))] [2] [])
.ret)
.skip)))
(.seq
(.region [sS 42 (.clos 440 [(tT 1)]),sS 4 (.mov (tT 42))] [1,4] [1])
(.seq
(.region [sS 43 (.build [.tl []] []),sS 44 (.build [.tl []] []),sS 5 (.alloc 5 [.tl []]),sS 6 (.alloc 6 [.tl []]),nN (.store 1 (tT 5) (tT 43)),nN (.store 1 (tT 6) (tT 44))] [1,4,5,6] [1,5,6])
(.seq
(.seq
(.region [sS 45 (.fld 2 (tT 1)),sS 46 (.load 1 false (tT 45)),sS 47 (.len 0 (tT 46)),sS 48 (.mov (zZ 0))] [1,4,5,6,46,47,48] [1,5,6])
(.block 0
(.loop
(.mask [1,4,5,6,46,47,48] [1,5,6]
(.seq
(.region [sS 49 (.bin .lss (tT 48) (tT 47))] [1,4,5,6,46,47,48,49] [1,5,6])
(.seq
(.cond (tT 49)
.skip
(.exit 0))
(.seq
(.block 1
(.seq
(.region [sS 50 (.idx 3 (tT 46) (tT 48)),sS 51 (.load 3 true (tT 50)),⟨some 8,.alloc 8 [.pv (.str ⟨#[]⟩),pZ,pZ],none⟩,nN (.store 3 (tT 8) (tT 51))] [1,4,5,6,8,46,47,48] [1,5,6,8])
(.seq
(.seq
(.region [sS 52 (.fld 0 (tT 8)),sS 53 (.load 1 false (tT 52)),sS 54 (.call (.val (.func 441 [])) [(tT 5),(tT 53)]),sS 9 (.mov (tT 54))] [1,4,5,6,8,9,46,47,48] [1,5,6,8])
(.seq
(.region [sS 55 (.mov (tT 9)),sS 56 (.bin .neq (tT 55) (zZ 0))] [1,4,5,6,8,9,46,47,48,56] [1,5,6,8])
(.cond (tT 56)
(.seq
(.region [sS 57 (.mov (tT 9)),sS 2 (.mov (tT 57))] [2] [])
.ret)
.skip)))
(.seq
(.region [sS 58 (.mov (tT 4)),sS 59 (.fld 1 (tT 8)),sS 60 (.load 1 false (tT 59)),sS 61 (.call (tT 58) [(tT 60)]),sS 62 (.mov (tT 61)),gG 63 (.mov (tT 4)) 62 false,gG 64 (.fld 2 (tT 8)) 62 false,gG 65 (.load 1 false (tT 64)) 62 false,gG 66 (.call (tT 63) [(tT 65)]) 62 false,sS 67 (.pick (tT 62) (bB true) (tT 66))] [1,4,5,6,46,47,48,67] [1,5,6])
(.cond (tT 67)
(.seq
(.region [sS 2 (.mov (zZ 4))] [2] [])
.ret)
.skip)))))
(.region [sS 68 (.bin .add (tT 48) (zZ 1)),sS 48 (.mov (tT 68))] [1,4,5,6,46,47,48] [1,5,6]))))))))
(.seq
(.seq
(.region [sS 69 (.fld 3 (tT 1)),sS 70 (.load 1 false (tT 69)),sS 71 (.len 0 (tT 70)),sS 72 (.mov (zZ 0))] [1,4,6,70,71,72] [1,6])
(.block 2
(.loop
(.mask [1,4,6,70,71,72] [1,6]
(.seq
(.region [sS 73 (.bin .lss (tT 72) (tT 71))] [1,4,6,70,71,72,73] [1,6])
(.seq
(.cond (tT 73)
.skip
(.exit 2))
(.seq
(.block 3
(.seq
(.region [sS 74 (.mov (tT 72)),sS 75 (.idx 5 (tT 70) (tT 72)),sS 76 (.load 5 true (tT 75)),⟨some 11,.alloc 11 [.pv (.str ⟨#[]⟩),.tl [],pZ,pZ,.tl []],none⟩,sS 10 (.mov (tT 74)),nN (.store 5 (tT 11) (tT 76))] [1,4,6,10,11,70,71,72] [1,6,11])
(.seq
(.seq
(.region [sS 77 (.fld 3 (tT 1)),sS 78 (.load 1 false (tT 77)),sS 79 (.mov (tT 10)),sS 80 (.sl 5 (tT 78) none (some (tT 79)) none),sS 81 (.clos 443 [(tT 11)]),sS 82 (.call (.val (.func 442 [])) [(tT 80),(tT 81)])] [1,4,6,11,70,71,72,82] [1,6,11])
(.cond (tT 82)
(.seq
(.region [sS 2 (.mov (zZ 5))] [2] [])
.ret)
.skip))
(.seq
(.region [sS 83 (.fld 1 (tT 1)),sS 84 (.load 1 true (tT 83)),sS 85 (.load 5 true (tT 11)),sS 86 (.call (.val (.func 444 [])) [(tT 84),(tT 85)]),sS 12 (.mov (tT 86))] [1,4,6,12,70,71,72] [1,6])
(.seq
(.region [sS 87 (.mov (tT 12)),sS 88 (.bin .neq (tT 87) (zZ 0))] [1,4,6,12,70,71,72,88] [1,6])
(.cond (tT 88)
(.seq
(.region [sS 89 (.mov (tT 12)),sS 2 (.mov (tT 89))] [2] [])
.ret)
.skip))))))
(.region [sS 90 (.bin .add (tT 72) (zZ 1)),sS 72 (.mov (tT 90))] [1,4,6,70,71,72] [1,6]))))))))
(.seq
(.seq
(.region [sS 91 (.fld 4 (tT 1)),sS 92 (.load 1 false (tT 91)),sS 93 (.len 0 (tT 92)),sS 94 (.mov (zZ 0))] [4,6,92,93,94] [1,6])
(.block 4
(.loop
(.mask [4,6,92,93,94] [1,6]
(.seq
(.region [sS 95 (.bin .lss (tT 94) (tT 93))] [4,6,92,93,94,95] [1,6])
(.seq
(.cond (tT 95)
.skip
(.exit 4))
(.seq
(.block 5
(.seq
(.region [sS 96 (.idx 2 (tT 92) (tT 94)),sS 97 (.load 2 true (tT 96)),⟨some 14,.alloc 14 [.pv (.str ⟨#[]⟩),pZ],none⟩,nN (.store 2 (tT 14) (tT 97))] [4,6,14,92,93,94] [1,6,14])
(.seq
(.seq
(.region [sS 98 (.fld 0 (tT 14)),sS 99 (.load 1 false (tT 98)),sS 100 (.call (.val (.func 441 [])) [(tT 6),(tT 99)]),sS 15 (.mov (tT 100))] [4,6,14,15,92,93,94] [1,6,14])
(.seq
(.region [sS 101 (.mov (tT 15)),sS 102 (.bin .neq (tT 101) (zZ 0))] [4,6,14,15,92,93,94,102] [1,6,14])
(.cond (tT 102)
(.seq
(.region [sS 103 (.mov (tT 15)),sS 2 (.mov (tT 103))] [2] [])
.ret)
.skip)))
(.seq
(.region [sS 104 (.mov (tT 4)),sS 105 (.fld 1 (tT 14)),sS 106 (.load 1 false (tT 105)),sS 107 (.call (tT 104) [(tT 106)])] [4,6,92,93,94,107] [1,6])
(.cond (tT 107)
(.seq
(.region [sS 2 (.mov (zZ 4))] [2] [])
.ret)
.skip)))))
(.region [sS 108 (.bin .add (tT 94) (zZ 1)),sS 94 (.mov (tT 108))] [4,6,92,93,94] [1,6]))))))))
(.seq
(.region [sS 2 (.mov (zZ 0))] [2] [])
.ret)))))))))),[.tmp 2],false,false,false⟩
def F408 : AFunc := ⟨1,(.seq
(.region [sS 1 (.box 1 5 (tT 0)),⟨some 2,.alloc 2 [.pv (.str ⟨#[]⟩),.tl [],.tl [],.tl [],.tl []],none⟩,sS 3 (.mov (zZ 0))] [1,2] [1,2])
(.seq
(.seq
(.region [sS 26 (.load 5 true (tT 1)),sS 27 (.call (.val (.func 407 [])) [(tT 26)]),sS 4 (.mov (tT 27))] [1,2,4] [1,2])
(.seq
(.region [sS 28 (.mov (tT 4)),sS 29 (.bin .neq (tT 28) (zZ 0))] [1,2,4,29] [1,2])
(.cond (tT 29)
(.seq
(.region [⟨some 30,.build [.pv (.str ⟨#[]⟩),.tl [],.tl [],.tl [],.tl []] [],none⟩,sS 31 (.mov (tT 4)),nN (.store 5 (tT 2) (tT 30)),sS 3 (.mov (tT 31))] [2,3] [2])
.ret)
.skip)))
(.seq
(.region [sS 32 (.fld 1 (tT 1)),sS 33 (.fld 0 (tT 32)),sS 34 (.load 1 false (tT 33)),sS 35 (.len 0 (tT 34)),sS 36 (.make 1 [.pv (.bool false)] (tT 35) (tT 35)),sS 5 (.mov (tT 36))] [1,2,5] [1,2])
(.seq
(.seq
(.region [sS 37 (.load 5 true (tT 1)),sS 38 (.call (.val (.func 417 [])) [(tT 37)]),sS 39 (.len 0 (tT 38)),sS 40 (.mov (zZ 0))] [1,2,5,38,39,40] [1,2])
(.block 0
(.loop
(.mask [1,2,5,38,39,40] [1,2]
(.seq
(.region [sS 41 (.bin .lss (tT 40) (tT 39))] [1,2,5,38,39,40,41] [1,2])
(.seq
(.cond (tT 41)
.skip
(.exit 0))
(.seq
(.block 1
(.seq
(.region [sS 42 (.idx 1 (tT 38) (tT 40)),sS 43 (.load 1 false (tT 42)),sS 7 (.mov (tT 43))] [1,2,5,7,38,39,40] [1,2])
(.seq
(.region [sS 45 (.fld 1 (tT 1)),sS 46 (.load 1 true (tT 45)),sS 47 (.mov (tT 7)),sS 48 (.call (.val (.func 273 [])) [(tT 46),(tT 47)]),sS 44 (.mov (tT 48)),sS 49 (.ext (tT 44) 0),sS 50 (.ext (tT 44) 1),sS 8 (.mov (tT 49)),sS 9 (.mov (tT 50))] [1,2,5,8,38,39,40] [1,2])
(.seq
(.region [sS 51 (.mov (tT 8)),sS 52 (.len 0 (tT 51)),sS 53 (.mov (zZ 0))] [1,2,5,38,39,40,51,52,53] [1,2])
(.block 2
(.loop
(.mask [1,2,5,38,39,40,51,52,53] [1,2]
(.seq
(.region [sS 54 (.bin .lss (tT 53) (tT 52))] [1,2,5,38,39,40,51,52,53,54] [1,2])
(.seq
(.cond (tT 54)
.skip
(.exit 2))
(.seq
(.block 3
(.seq
(.region [sS 55 (.idx 1 (tT 51) (tT 53)),sS 56 (.load 1 false (tT 55)),sS 11 (.mov (tT 56))] [1,2,5,11,38,39,40,51,52,53] [1,2])
(.region [sS 57 (.mov (tT 5)),sS 58 (.mov (tT 11)),sS 59 (.idx 1 (tT 57) (tT 58)),nN (.store 1 (tT 59) (bB true))] [1,2,5,38,39,40,51,52,53] [1,2])))
(.region [sS 60 (.bin .add (tT 53) (zZ 1)),sS 53 (.mov (tT 60))] [1,2,5,38,39,40,51,52,53] [1,2])))))))))))
(.region [sS 61 (.bin .add (tT 40) (zZ 1)),sS 40 (.mov (tT 61))] [1,2,5,38,39,40] [1,2]))))))))
(.seq
(.region [sS 62 (.mov (tT 5)),sS 63 (.len 0 (tT 62)),sS 64 (.make 1 [pZ] (tT 63) (tT 63)),sS 12 (.mov (tT 64))] [1,2,5,12] [1,2])
(.seq
(.region [sS 65 (.fld 0 (tT 1)),sS 66 (.load 1 false (tT 65)),⟨some 67,.build [.pv (.str ⟨#[]⟩),.tl [],.tl [],.tl [],.tl []] [(0,1,(tT 66))],none⟩,⟨some 13,.alloc 13 [.pv (.str ⟨#[]⟩),.tl [],.tl [],.tl [],.tl []],none⟩,nN (.store 5 (tT 13) (tT 67))] [1,2,5,12,13] [1,2,13])
(.seq
(.seq
(.region [sS 68 (.fld 1 (tT 1)),sS 69 (.fld 0 (tT 68)),sS 70 (.load 1 false (tT 69)),sS 71 (.len 0 (tT 70)),sS 72 (.mov (zZ 0))] [1,2,5,12,13,70,71,72] [1,2,13])
(.block 4
(.loop
(.mask [1,2,5,12,13,70,71,72] [1,2,13]
(.seq
(.region [sS 73 (.bin .lss (tT 72) (tT 71))] [1,2,5,12,13,70,71,72,73] [1,2,13])
(.seq
(.cond (tT 73)
.skip
(.exit 4))
(.seq
(.block 5
(.seq
(.region [sS 74 (.mov (tT 72)),sS 75 (.idx 10 (tT 70) (tT 72)),sS 76 (.load 10 true (tT 75)),⟨some 15,.alloc 15 [pZ,.pv (.str ⟨#[]⟩),pZ,pZ,pZ,.tl [],.tl [],pZ,pZ,.pv (.bool false)],none⟩,sS 14 (.mov (tT 74)),nN (.store 10 (tT 15) (tT 76))] [1,2,5,12,13,14,15,70,71,72] [1,2,13,15])
(.seq
(.region [sS 77 (.mov (tT 12)),sS 78 (.mov (tT 14)),sS 79 (.fld 1 (tT 13)),sS 80 (.fld 0 (tT 79)),sS 81 (.load 1 false (tT 80)),sS 82 (.len 0 (tT 81)),sS 83 (.idx 1 (tT 77) (tT 78)),nN (.store 1 (tT 83) (tT 82))] [1,2,5,12,13,14,15,70,71,72] [1,2,13,15])
(.seq
(.region [sS 84 (.mov (tT 5)),sS 85 (.mov (tT 14)),sS 86 (.idx 1 (tT 84) (tT 85)),sS 87 (.load 1 false (tT 86))] [1,2,5,12,13,15,70,71,72,87] [1,2,13,15])
(.cond (tT 87)
(.region [sS 88 (.fld 1 (tT 13)),sS 89 (.fld 0 (tT 88)),sS 90 (.load 1 false (tT 89)),sS 91 (.load 10 true (tT 15)),⟨some 92,.lit 10 [pZ,.pv (.str ⟨#[]⟩),pZ,pZ,pZ,.tl [],.tl [],pZ,pZ,.pv (.bool false)] 1 [(0,10,(tT 91))],none⟩,sS 93 (.app 10 (tT 90) (tT 92)),sS 94 (.fld 1 (tT 13)),sS 95 (.fld 0 (tT 94)),nN (.store 1 (tT 95) (tT 93))] [1,2,5,12,13,70,71,72] [1,2,13])
.skip)))))
(.region [sS 96 (.bin .add (tT 72) (zZ 1)),sS 72 (.mov (tT 96))] [1,2,5,12,13,70,71,72] [1,2,13]))))))))
(.seq
(.seq
(.region [sS 97 (.fld 1 (tT 13)),sS 98 (.fld 0 (tT 97)),sS 99 (.load 1 false (tT 98)),sS 100 (.len 0 (tT 99)),sS 101 (.mov (zZ 0))] [1,2,12,13,100,101] [1,2,13])
(.block 6
(.loop
(.mask [1,2,12,13,100,101] [1,2,13]
(.seq
(.region [sS 102 (.bin .lss (tT 101) (tT 100))] [1,2,12,13,100,101,102] [1,2,13])
(.seq
(.cond (tT 102)
.skip
(.exit 6))
(.seq
(.block 7
(.seq
(.region [sS 103 (.mov (tT 101)),sS 16 (.mov (tT 103))] [1,2,12,13,16,100,101] [1,2,13])
(.seq
(.region [sS 104 (.fld 1 (tT 13)),sS 105 (.fld 0 (tT 104)),sS 106 (.load 1 false (tT 105)),sS 107 (.mov (tT 16)),sS 108 (.idx 10 (tT 106) (tT 107)),sS 17 (.mov (tT 108))] [1,2,12,13,17,100,101] [1,2,13])
(.seq
(.draw [(sS 109 (.mov (tT 17)),[]),(sS 110 (.mov (tT 17)),[]),(sS 111 (.mov (tT 17)),[]),(sS 112 (.nilck (tT 111)),[]),(sS 113 (.fld 5 (tT 112)),[]),(sS 114 (.load 1 false (tT 113)),[]),(sS 115 (.call (.val (.func 313 [])) [(tT 114)]),[]),(sS 116 (.mov (tT 17)),[]),(sS 117 (.nilck (tT 116)),[]),(sS 118 (.fld 6 (tT 117)),[]),(sS 119 (.load 1 false (tT 118)),[6]),(sS 120 (.call (.val (.func 314 [])) [(tT 119)]),[]),(sS 121 (.nilck (tT 109)),[]),(sS 122 (.fld 5 (tT 121)),[]),(nN (.store 1 (tT 122) (tT 115)),[]),(sS 123 (.nilck (tT 110)),[]),(sS 124 (.fld 6 (tT 123)),[]),(nN (.store 1 (tT 124) (tT 120)),[])] [1,2,12,13,17,100,101] [1,2,13])
(.seq
(.seq
(.region [sS 125 (.mov (tT 17)),sS 126 (.nilck (tT 125)),sS 127 (.fld 6 (tT 126)),sS 128 (.load 1 false (tT 127)),sS 129 (.len 0 (tT 128)),sS 130 (.mov (zZ 0))] [1,2,12,13,17,100,101,129,130] [1,2,13])
(.block 8
(.loop
(.mask [1,2,12,13,17,100,101,129,130] [1,2,13]
(.seq
(.region [sS 131 (.bin .lss (tT 130) (tT 129))] [1,2,12,13,17,100,101,129,130,131] [1,2,13])
(.seq
(.cond (tT 131)
.skip
(.exit 8))
(.seq
(.block 9
(.seq
(.region [sS 132 (.mov (tT 130)),sS 18 (.mov (tT 132))] [1,2,12,13,17,18,100,101,129,130] [1,2,13])
(.draw [(sS 133 (.mov (tT 17)),[]),(sS 134 (.nilck (tT 133)),[]),(sS 135 (.fld 6 (tT 134)),[]),(sS 136 (.load 1 false (tT 135)),[]),(sS 137 (.mov (tT 18)),[]),(sS 138 (.mov (tT 12)),[]),(sS 139 (.mov (tT 17)),[]),(sS 140 (.nilck (tT 139)),[]),(sS 141 (.fld 6 (tT 140)),[]),(sS 142 (.load 1 false (tT 141)),[]),(sS 143 (.mov (tT 18)),[]),(sS 144 (.idx 13 (tT 142) (tT 143)),[]),(sS 145 (.fld 2 (tT 144)),[]),(sS 146 (.load 1 false (tT 145)),[]),(sS 147 (.idx 1 (tT 138) (tT 146)),[]),(sS 148 (.load 1 false (tT 147)),[]),(sS 149 (.idx 13 (tT 136) (tT 137)),[]),(sS 150 (.fld 2 (tT 149)),[]),(nN (.store 1 (tT 150) (tT 148)),[])] [1,2,12,13,17,100,101,129,130] [1,2,13])))
(.region [sS 151 (.bin .add (tT 130) (zZ 1)),sS 130 (.mov (tT 151))] [1,2,12,13,17,100,101,129,130] [1,2,13]))))))))
(.seq
(.seq
(.region [sS 152 (.mov (tT 17)),sS 153 (.nilck (tT 152)),sS 154 (.fld 0 (tT 153)),sS 155 (.load 1 false (tT 154)),sS 156 (.bin .eql (tT 155) (zZ 8))] [1,2,12,13,17,100,101,156] [1,2,13])
(.cond (tT 156)
(.region [sS 157 (.mov (tT 17)),sS 158 (.mov (tT 12)),sS 159 (.mov (tT 17)),sS 160 (.nilck (tT 159)),sS 161 (.fld 7 (tT 160)),sS 162 (.load 1 false (tT 161)),sS 163 (.idx 1 (tT 158) (tT 162)),sS 164 (.load 1 false (tT 163)),sS 165 (.nilck (tT 157)),sS 166 (.fld 7 (tT 165)),nN (.store 1 (tT 166) (tT 164))] [1,2,12,13,17,100,101] [1,2,13])
.skip))
(.seq
(.region [sS 167 (.mov (tT 17)),sS 168 (.nilck (tT 167)),sS 169 (.fld 0 (tT 168)),sS 170 (.load 1 false (tT 169)),sS 171 (.bin .eql (tT 170) (zZ 7)),sS 172 (.mov (tT 171)),gG 173 (.mov (tT 17)) 172 false,gG 174 (.nilck (tT 173)) 172 false,gG 175 (.fld 0 (tT 174)) 172 false,gG 176 (.load 1 false (tT 175)) 172 false,gG 177 (.bin .eql (tT 176) (zZ 8)) 172 false,sS 178 (.pick (tT 172) (bB true) (tT 177)),sS 179 (.mov (tT 178)),gG 180 (.mov (tT 17)) 179 false,gG 181 (.nilck (tT 180)) 179 false,gG 182 (.fld 0 (tT 181)) 179 false,gG 183 (.load 1 false (tT 182)) 179 false,gG 184 (.bin .eql (tT 183) (zZ 9)) 179 false,sS 185 (.pick (tT 179) (bB true) (tT 184))] [1,2,12,13,17,100,101,185] [1,2,13])
(.cond (tT 185)
(.region [sS 186 (.mov (tT 17)),sS 187 (.mov (tT 12)),sS 188 (.mov (tT 17)),sS 189 (.nilck (tT 188)),sS 190 (.fld 8 (tT 189)),sS 191 (.load 1 false (tT 190)),sS 192 (.idx 1 (tT 187) (tT 191)),sS 193 (.load 1 false (tT 192)),sS 194 (.nilck (tT 186)),sS 195 (.fld 8 (tT 194)),nN (.store 1 (tT 195) (tT 193))] [1,2,12,13,100,101] [1,2,13])
.skip))))))))
(.region [sS 196 (.bin .add (tT 101) (zZ 1)),sS 101 (.mov (tT 196))] [1,2,12,13,100,101] [1,2,13]))))))))
(.seq
(.seq
(.region [sS 197 (.fld 2 (tT 1)),sS 198 (.load 1 false (tT 197)),sS 199 (.len 0 (tT 198)),sS 200 (.mov (zZ 0))] [1,2,12,13,198,199,200] [1,2,13])
(.block 10
(.loop
(.mask [1,2,12,13,198,199,200] [1,2,13]
(.seq
(.region [sS 201 (.bin .lss (tT 200) (tT 199))] [1,2,12,13,198,199,200,201] [1,2,13])
(.seq
(.cond (tT 201)
.skip
(.exit 10))
(.seq
(.block 11
(.seq
(.region [sS 202 (.idx 3 (tT 198) (tT 200)),sS 203 (.load 3 true (tT 202)),⟨some 20,.alloc 20 [.pv (.str ⟨#[]⟩),pZ,pZ],none⟩,nN (.store 3 (tT 20) (tT 203))] [1,2,12,13,20,198,199,200] [1,2,13,20])
(.draw [(sS 204 (.fld 2 (tT 13)),[]),(sS 205 (.load 1 false (tT 204)),[]),(sS 206 (.fld 0 (tT 20)),[]),(sS 207 (.load 1 false (tT 206)),[]),(sS 208 (.mov (tT 12)),[]),(sS 209 (.fld 1 (tT 20)),[]),(sS 210 (.load 1 false (tT 209)),[]),(sS 211 (.idx 1 (tT 208) (tT 210)),[]),(sS 212 (.load 1 false (tT 211)),[]),(sS 213 (.mov (tT 12)),[]),(sS 214 (.fld 2 (tT 20)),[]),(sS 215 (.load 1 false (tT 214)),[]),(sS 216 (.idx 1 (tT 213) (tT 215)),[]),(sS 217 (.load 1 false (tT 216)),[]),(⟨some 218,.build [.pv (.str ⟨#[]⟩),pZ,pZ] [(0,1,(tT 207)),(1,1,(tT 212)),(2,1,(tT 217))],none⟩,[]),(⟨some 219,.lit 3 [.pv (.str ⟨#[]⟩),pZ,pZ] 1 [(0,3,(tT 218))],none⟩,[1]),(sS 220 (.app 3 (tT 205) (tT 219)),[]),(sS 221 (.fld 2 (tT 13)),[]),(nN (.store 1 (tT 221) (tT 220)),[])] [1,2,12,13,198,199,200] [1,2,13])))
(.region [sS 222 (.bin .add (tT 200) (zZ 1)),sS 200 (.mov (tT 222))] [1,2,12,13,198,199,200] [1,2,13]))))))))
(.seq
(.seq
(.region [sS 223 (.fld 3 (tT 1)),sS 224 (.load 1 false (tT 223)),sS 225 (.len 0 (tT 224)),sS 226 (.mov (zZ 0))] [1,2,12,13,224,225,226] [1,2,13])
(.block 12
(.loop
(.mask [1,2,12,13,224,225,226] [1,2,13]
(.seq
(.region [sS 227 (.bin .lss (tT 226) (tT 225))] [1,2,12,13,224,225,226,227] [1,2,13])
(.seq
(.cond (tT 227)
.skip
(.exit 12))
(.seq
(.block 13
(.seq
(.region [sS 228 (.idx 5 (tT 224) (tT 226)),sS 229 (.load 5 true (tT 228)),⟨some 22,.alloc 22 [.pv (.str ⟨#[]⟩),.tl [],pZ,pZ,.tl []],none⟩,nN (.store 5 (tT 22) (tT 229))] [1,2,12,13,22,224,225,226] [1,2,13,22])
(.seq
(.region [sS 230 (.load 5 true (tT 22)),sS 231 (.call (.val (.func 445 [])) [(tT 230)]),nN (.store 5 (tT 22) (tT 231))] [1,2,12,13,22,224,225,226] [1,2,13,22])
(.seq
(.seq
(.region [sS 232 (.fld 1 (tT 22)),sS 233 (.load 1 false (tT 232)),sS 234 (.len 0 (tT 233)),sS 235 (.mov (zZ 0))] [1,2,12,13,22,224,225,226,234,235] [1,2,13,22])
(.block 14
(.loop
(.mask [1,2,12,13,22,224,225,226,234,235] [1,2,13,22]
(.seq
(.region [sS 236 (.bin .lss (tT 235) (tT 234))] [1,2,12,13,22,224,225,226,234,235,236] [1,2,13,22])
(.seq
(.cond (tT 236)
.skip
(.exit 14))
(.seq
(.block 15
(.seq
(.region [sS 237 (.mov (tT 235)),sS 23 (.mov (tT 237))] [1,2,12,13,22,23,224,225,226,234,235] [1,2,13,22])
(.draw [(sS 238 (.fld 1 (tT 22)),[]),(sS 239 (.load 1 false (tT 238)),[]),(sS 240 (.mov (tT 23)),[]),(sS 241 (.mov (tT 12)),[]),(sS 242 (.fld 1 (tT 22)),[]),(sS 243 (.load 1 false (tT 242)),[]),(sS 244 (.mov (tT 23)),[]),(sS 245 (.idx 3 (tT 243) (tT 244)),[]),(sS 246 (.fld 2 (tT 245)),[]),(sS 247 (.load 1 false (tT 246)),[]),(sS 248 (.idx 1 (tT 241) (tT 247)),[]),(sS 249 (.load 1 false (tT 248)),[]),(sS 250 (.idx 3 (tT 239) (tT 240)),[]),(sS 251 (.fld 2 (tT 250)),[]),(nN (.store 1 (tT 251) (tT 249)),[])] [1,2,12,13,22,224,225,226,234,235] [1,2,13,22])))
(.region [sS 252 (.bin .add (tT 235) (zZ 1)),sS 235 (.mov (tT 252))] [1,2,12,13,22,224,225,226,234,235] [1,2,13,22]))))))))
(.region [sS 253 (.fld 3 (tT 13)),sS 254 (.load 1 false (tT 253)),sS 255 (.load 5 true (tT 22)),⟨some 256,.lit 5 [.pv (.str ⟨#[]⟩),.tl [],pZ,pZ,.tl []] 1 [(0,5,(tT 255))],none⟩,sS 257 (.app 5 (tT 254) (tT 256)),sS 258 (.fld 3 (tT 13)),nN (.store 1 (tT 258) (tT 257))] [1,2,12,13,224,225,226] [1,2,13])))))
(.region [sS 259 (.bin .add (tT 226) (zZ 1)),sS 226 (.mov (tT 259))] [1,2,12,13,224,225,226] [1,2,13]))))))))
(.seq
(.seq
(.region [sS 260 (.fld 4 (tT 1)),sS 261 (.load 1 false (tT 260)),sS 262 (.len 0 (tT 261)),sS 263 (.mov (zZ 0))] [2,12,13,261,262,263] [2,13])
(.block 16
(.loop
(.mask [2,12,13,261,262,263] [2,13]
(.seq
(.region [sS 264 (.bin .lss (tT 263) (tT 262))] [2,12,13,261,262,263,264] [2,13])
(.seq
(.cond (tT 264)
.skip
(.exit 16))
(.seq
(.block 17
(.seq
(.region [sS 265 (.idx 2 (tT 261) (tT 263)),sS 266 (.load 2 true (tT 265)),⟨some 25,.alloc 25 [.pv (.str ⟨#[]⟩),pZ],none⟩,nN (.store 2 (tT 25) (tT 266))] [2,12,13,25,261,262,263] [2,13,25])
(.draw [(sS 267 (.fld 4 (tT 13)),[]),(sS 268 (.load 1 false (tT 267)),[]),(sS 269 (.fld 0 (tT 25)),[]),(sS 270 (.load 1 false (tT 269)),[]),(sS 271 (.mov (tT 12)),[]),(sS 272 (.fld 1 (tT 25)),[]),(sS 273 (.load 1 false (tT 272)),[]),(sS 274 (.idx 1 (tT 271) (tT 273)),[]),(sS 275 (.load 1 false (tT 274)),[]),(⟨some 276,.build [.pv (.str ⟨#[]⟩),pZ] [(0,1,(tT 270)),(1,1,(tT 275))],none⟩,[]),(⟨some 277,.lit 2 [.pv (.str ⟨#[]⟩),pZ] 1 [(0,2,(tT 276))],none⟩,[1]),(sS 278 (.app 2 (tT 268) (tT 277)),[]),(sS 279 (.fld 4 (tT 13)),[]),(nN (.store 1 (tT 279) (tT 278)),[])] [2,12,13,261,262,263] [2,13])))
(.region [sS 280 (.bin .add (tT 263) (zZ 1)),sS 263 (.mov (tT 280))] [2,12,13,261,262,263] [2,13]))))))))
(.seq
(.region [sS 281 (.load 5 true (tT 13)),nN (.store 5 (tT 2) (tT 281)),sS 3 (.mov (zZ 0))] [2,3] [2])
.ret)))))))))))),[.cell 2 5 true,.tmp 3],false,false,false⟩
def F410 : AFunc := ⟨2,(.seq
(.region [sS 2 (.box 2 5 (tT 0)),sS 3 (.box 3 1 (tT 1)),⟨some 4,.alloc 4 [.pv (.str ⟨#[]⟩),pZ,pZ],none⟩,sS 5 (.mov (bB false))] [2,3,4] [2,3,4])
(.seq
(.seq
(.region [sS 7 (.fld 2 (tT 2)),sS 8 (.load 1 false (tT 7)),sS 9 (.clos 447 [(tT 3)]),sS 10 (.call (.val (.func 446 [])) [(tT 8),(tT 9)]),sS 6 (.mov (tT 10))] [2,4,6] [2,4])
(.seq
(.region [sS 11 (.mov (tT 6)),sS 12 (.bin .geq (tT 11) (zZ 0))] [2,4,6,12] [2,4])
(.cond (tT 12)
(.seq
(.region [sS 13 (.fld 2 (tT 2)),sS 14 (.load 1 false (tT 13)),sS 15 (.mov (tT 6)),sS 16 (.idx 3 (tT 14) (tT 15)),sS 17 (.load 3 true (tT 16)),nN (.store 3 (tT 4) (tT 17)),sS 5 (.mov (bB true))] [4,5] [4])
.ret)
.skip)))
(.seq
(.region [⟨some 18,.build [.pv (.str ⟨#[]⟩),pZ,pZ] [],none⟩,nN (.store 3 (tT 4) (tT 18)),sS 5 (.mov (bB false))] [4,5] [4])
.ret))),[.cell 4 3 true,.tmp 5],false,false,false⟩
def F411 : AFunc := ⟨2,(.seq
(.region [sS 2 (.box 2 5 (tT 0)),⟨some 4,.alloc 4 [.pv (.str ⟨#[]⟩),pZ,pZ],none⟩,sS 5 (.mov (bB false))] [1,2,4] [2,4])
(.seq
(.seq
(.region [sS 6 (.mov (zZ 0))] [1,2,4,6] [2,4])
(.block 0
(.loop
(.mask [1,2,4,6] [2,4]
(.seq
(.seq
(.region [sS 7 (.mov (tT 6)),sS 8 (.fld 2 (tT 2)),sS 9 (.load 1 false (tT 8)),sS 10 (.len 0 (tT 9)),sS 11 (.bin .lss (tT 7) (tT 10))] [1,2,4,6,11] [2,4])
(.cond (tT 11)
.skip
(.exit 0)))
(.seq
(.block 1
(.seq
(.region [sS 14 (.fld 2 (tT 2)),sS 15 (.load 1 false (tT 14)),sS 16 (.mov (tT 6)),sS 17 (.idx 3 (tT 15) (tT 16)),sS 18 (.fld 0 (tT 17)),sS 19 (.load 1 false (tT 18)),sS 20 (.mov (tT 1)),sS 21 (.bin .eql (tT 19) (tT 20))] [1,2,4,6,21] [2,4])
(.cond (tT 21)
(.seq
(.region [sS 22 (.fld 2 (tT 2)),sS 23 (.load 1 false (tT 22)),sS 24 (.mov (tT 6)),sS 25 (.idx 3 (tT 23) (tT 24)),sS 26 (.load 3 true (tT 25)),nN (.store 3 (tT 4) (tT 26)),sS 5 (.mov (bB true))] [4,5] [4])
.ret)
.skip)))
(.region [sS 12 (.mov (tT 6)),sS 13 (.bin .add (tT 12) (zZ 1)),sS 6 (.mov (tT 13))] [1,2,4,6] [2,4])))))))
(.seq
(.region [⟨some 27,.build [.pv (.str ⟨#[]⟩),pZ,pZ] [],none⟩,nN (.store 3 (tT 4) (tT 27)),sS 5 (.mov (bB false))] [4,5] [4])
.ret))),[.cell 4 3 true,.tmp 5],false,false,false⟩
def F412 : AFunc := ⟨2,(.seq
(.region [sS 2 (.box 2 5 (tT 0)),sS 3 (.box 3 1 (tT 1)),⟨some 4,.alloc 4 [.pv (.str ⟨#[]⟩),.tl [],pZ,pZ,.tl []],none⟩,sS 5 (.mov (bB false))] [2,3,4] [2,3,4])
(.seq
(.seq
(.region [sS 7 (.fld 3 (tT 2)),sS 8 (.load 1 false (tT 7)),sS 9 (.clos 449 [(tT 3)]),sS 10 (.call (.val (.func 448 [])) [(tT 8),(tT 9)]),sS 6 (.mov (tT 10))] [2,4,6] [2,4])
(.seq
(.region [sS 11 (.mov (tT 6)),sS 12 (.bin .geq (tT 11) (zZ 0))] [2,4,6,12] [2,4])
(.cond (tT 12)
(.seq
(.region [sS 13 (.fld 3 (tT 2)),sS 14 (.load 1 false (tT 13)),sS 15 (.mov (tT 6)),sS 16 (.idx 5 (tT 14) (tT 15)),sS 17 (.load 5 true (tT 16)),sS 18 (.call (.val (.func 445 [])) [(tT 17)]),nN (.store 5 (tT 4) (tT 18)),sS 5 (.mov (bB true))] [4,5] [4])
.ret)
.skip)))
(.seq
(.region [⟨some 19,.build [.pv (.str ⟨#[]⟩),.tl [],pZ,pZ,.tl []] [],none⟩,nN (.store 5 (tT 4) (tT 19)),sS 5 (.mov (bB false))] [4,5] [4])
.ret))),[.cell 4 5 true,.tmp 5],false,false,false⟩
def F413 : AFunc := ⟨2,(.seq
(.region [sS 2 (.box 2 5 (tT 0)),⟨some 4,.alloc 4 [.pv (.str ⟨#[]⟩),.tl [],pZ,pZ,.tl []],none⟩,sS 5 (.mov (bB false))] [1,2,4] [2,4])
(.seq
(.seq
(.region [sS 6 (.mov (zZ 0))] [1,2,4,6] [2,4])
(.block 0
(.loop
(.mask [1,2,4,6] [2,4]
(.seq
(.seq
(.region [sS 7 (.mov (tT 6)),sS 8 (.fld 3 (tT 2)),sS 9 (.load 1 false (tT 8)),sS 10 (.len 0 (tT 9)),sS 11 (.bin .lss (tT 7) (tT 10))] [1,2,4,6,11] [2,4])
(.cond (tT 11)
.skip
(.exit 0)))
(.seq
(.block 1
(.seq
(.region [sS 14 (.fld 3 (tT 2)),sS 15 (.load 1 false (tT 14)),sS 16 (.mov (tT 6)),sS 17 (.idx 5 (tT 15) (tT 16)),sS 18 (.fld 0 (tT 17)),sS 19 (.load 1 false (tT 18)),sS 20 (.mov (tT 1)),sS 21 (.bin .eql (tT 19) (tT 20))] [1,2,4,6,21] [2,4])
(.cond (tT 21)
(.seq
(.region [sS 22 (.fld 3 (tT 2)),sS 23 (.load 1 false (tT 22)),sS 24 (.mov (tT 6)),sS 25 (.idx 5 (tT 23) (tT 24)),sS 26 (.load 5 true (tT 25)),nN (.store 5 (tT 4) (tT 26)),sS 5 (.mov (bB true))] [4,5] [4])
.ret)
.skip)))
(.region [sS 12 (.mov (tT 6)),sS 13 (.bin .add (tT 12) (zZ 1)),sS 6 (.mov (tT 13))] [1,2,4,6] [2,4])))))))
(.seq
(.region [⟨some 27,.build [.pv (.str ⟨#[]⟩),.tl [],pZ,pZ,.tl []] [],none⟩,nN (.store 5 (tT 4) (tT 27)),sS 5 (.mov (bB false))] [4,5] [4])
.ret))),[.cell 4 5 true,.tmp 5],false,false,false⟩
def F414 : AFunc := ⟨2,(.seq
(.region [sS 2 (.box 2 5 (tT 0)),sS 3 (.box 3 1 (tT 1)),⟨some 4,.alloc 4 [.pv (.str ⟨#[]⟩),pZ],none⟩,sS 5 (.mov (bB false))] [2,3,4] [2,3,4])
(.seq
(.seq
(.region [sS 7 (.fld 4 (tT 2)),sS 8 (.load 1 false (tT 7)),sS 9 (.clos 451 [(tT 3)]),sS 10 (.call (.val (.func 450 [])) [(tT 8),(tT 9)]),sS 6 (.mov (tT 10))] [2,4,6] [2,4])
(.seq
(.region [sS 11 (.mov (tT 6)),sS 12 (.bin .geq (tT 11) (zZ 0))] [2,4,6,12] [2,4])
(.cond (tT 12)
(.seq
(.region [sS 13 (.fld 4 (tT 2)),sS 14 (.load 1 false (tT 13)),sS 15 (.mov (tT 6)),sS 16 (.idx 2 (tT 14) (tT 15)),sS 17 (.load 2 true (tT 16)),nN (.store 2 (tT 4) (tT 17)),sS 5 (.mov (bB true))] [4,5] [4])
.ret)
.skip)))
(.seq
(.region [⟨some 18,.build [.pv (.str ⟨#[]⟩),pZ] [],none⟩,nN (.store 2 (tT 4) (tT 18)),sS 5 (.mov (bB false))] [4,5] [4])
.ret))),[.cell 4 2 true,.tmp 5],false,false,false⟩
def F415 : AFunc := ⟨2,(.seq
(.region [sS 2 (.box 2 5 (tT 0)),⟨some 4,.alloc 4 [.pv (.str ⟨#[]⟩),pZ],none⟩,sS 5 (.mov (bB false))] [1,2,4] [2,4])
(.seq
(.seq
(.region [sS 6 (.mov (zZ 0))] [1,2,4,6] [2,4])
(.block 0
(.loop
(.mask [1,2,4,6] [2,4]
(.seq
(.seq
(.region [sS 7 (.mov (tT 6)),sS 8 (.fld 4 (tT 2)),sS 9 (.load 1 false (tT 8)),sS 10 (.len 0 (tT 9)),sS 11 (.bin .lss (tT 7) (tT 10))] [1,2,4,6,11] [2,4])
(.cond (tT 11)
.skip
(.exit 0)))
(.seq
(.block 1
(.seq
(.region [sS 14 (.fld 4 (tT 2)),sS 15 (.load 1 false (tT 14)),sS 16 (.mov (tT 6)),sS 17 (.idx 2 (tT 15) (tT 16)),sS 18 (.fld 0 (tT 17)),sS 19 (.load 1 false (tT 18)),sS 20 (.mov (tT 1)),sS 21 (.bin .eql (tT 19) (tT 20))] [1,2,4,6,21] [2,4])
(.cond (tT 21)
(.seq
(.region [sS 22 (.fld 4 (tT 2)),sS 23 (.load 1 false (tT 22)),sS 24 (.mov (tT 6)),sS 25 (.idx 2 (tT 23) (tT 24)),sS 26 (.load 2 true (tT 25)),nN (.store 2 (tT 4) (tT 26)),sS 5 (.mov (bB true))] [4,5] [4])
.ret)
.skip)))
(.region [sS 12 (.mov (tT 6)),sS 13 (.bin .add (tT 12) (zZ 1)),sS 6 (.mov (tT 13))] [1,2,4,6] [2,4])))))))
(.seq
(.region [⟨some 27,.build [.pv (.str ⟨#[]⟩),pZ] [],none⟩,nN (.store 2 (tT 4) (tT 27)),sS 5 (.mov (bB false))] [4,5] [4])
.ret))),[.cell 4 2 true,.tmp 5],false,false,false⟩
def F416 : AFunc := ⟨2,(.seq
(.region [sS 2 (.box 2 5 (tT 0)),sS 3 (.box 3 5 (tT 1)),sS 4 (.mov (bB false))] [2,3] [2,3])
(.seq
(.seq
(.region [sS 6 (.fld 0 (tT 2)),sS 7 (.load 1 false (tT 6)),sS 8 (.fld 0 (tT 3)),sS 9 (.load 1 false (tT 8)),sS 10 (.bin .neq (tT 7) (tT 9)),sS 11 (.mov (tT 10)),gG 12 (.fld 1 (tT 2)) 11 false,gG 13 (.load 1 false (tT 12)) 11 false,gG 14 (.len 0 (tT 13)) 11 false,gG 15 (.fld 1 (tT 3)) 11 false,gG 16 (.load 1 false (tT 15)) 11 false,gG 17 (.len 0 (tT 16)) 11 false,gG 18 (.bin .neq (tT 14) (tT 17)) 11 false,sS 19 (.pick (tT 11) (bB true) (tT 18)),sS 20 (.mov (tT 19)),gG 21 (.fld 2 (tT 2)) 20 false,gG 22 (.load 3 true (tT 21)) 20 false,gG 23 (.fld 2 (tT 3)) 20 false,gG 24 (.load 3 true (tT 23)) 20 false,gG 25 (.call (.val (.func 15 [])) [(tT 22),(tT 24)]) 20 false,gG 26 (.un .not (tT 25)) 20 false,sS 27 (.pick (tT 20) (bB true) (tT 26))] [2,3,27] [2,3])
(.cond (tT 27)
(.seq
(.region [sS 4 (.mov (bB false))] [4] [])
.ret)
.skip))
(.seq
(.seq
(.region [sS 5 (.mov (zZ 0))] [2,3,5] [2,3])
(.block 0
(.loop
(.mask [2,3,5] [2,3]
(.seq
(.seq
(.region [sS 28 (.mov (tT 5)),sS 29 (.fld 1 (tT 2)),sS 30 (.load 1 false (tT 29)),sS 31 (.len 0 (tT 30)),sS 32 (.bin .lss (tT 28) (tT 31))] [2,3,5,32] [2,3])
(.cond (tT 32)
.skip
(.exit 0)))
(.seq
(.block 1
(.seq
(.draw [(sS 35 (.fld 1 (tT 2)),[]),(sS 36 (.load 1 false (tT 35)),[]),(sS 37 (.mov (tT 5)),[]),(sS 38 (.idx 3 (tT 36) (tT 37)),[]),(sS 39 (.load 3 true (tT 38)),[]),(sS 40 (.fld 1 (tT 3)),[]),(sS 41 (.load 1 false (tT 40)),[]),(sS 42 (.mov (tT 5)),[]),(sS 43 (.idx 3 (tT 41) (tT 42)),[]),(sS 44 (.load 3 true (tT 43)),[]),(sS 45 (.eqa true [1,2,1] true (tT 39) (tT 44)),[])] [2,3,5,45] [2,3])
(.cond (tT 45)
(.seq
(.region [sS 4 (.mov (bB false))] [4] [])
.ret)
.skip)))
(.region [sS 33 (.mov (tT 5)),sS 34 (.bin .add (tT 33) (zZ 1)),sS 5 (.mov (tT 34))] [2,3,5] [2,3])))))))
(.seq
(.region [sS 4 (.mov (bB true))] [4] [])
.ret)))),[.tmp 4],false,false,false⟩
def F417 : AFunc := ⟨1,(.seq
(.region [sS 1 (.box 1 5 (tT 0)),sS 2 (.mov (.val (.tl [])))] [1] [1])
(.seq
(.region [sS 3 (.mov (.val (.tl [])))] [1,3] [1])
(.seq
(.seq
(.region [sS 12 (.fld 2 (tT 1)),sS 13 (.load 1 false (tT 12)),sS 14 (.len 0 (tT 13)),sS 15 (.mov (zZ 0))] [1,3,13,14,15] [1])
(.block 0
(.loop
(.mask [1,3,13,14,15] [1]
(.seq
(.region [sS 16 (.bin .lss (tT 15) (tT 14))] [1,3,13,14,15,16] [1])
(.seq
(.cond (tT 16)
.skip
(.exit 0))
(.seq
(.block 1
(.seq
(.region [sS 17 (.idx 3 (tT 13) (tT 15)),sS 18 (.load 3 true (tT 17)),⟨some 5,.alloc 5 [.pv (.str ⟨#[]⟩),pZ,pZ],none⟩,nN (.store 3 (tT 5) (tT 18))] [1,3,5,13,14,15] [1,5])
(.region [sS 19 (.mov (tT 3)),sS 20 (.fld 1 (tT 5)),sS 21 (.load 1 false (tT 20)),sS 22 (.fld 2 (tT 5)),sS 23 (.load 1 false (tT 22)),sS 24 (.lit 1 [pZ] 2 [(0,1,(tT 21)),(1,1,(tT 23))]),sS 25 (.app 1 (tT 19) (tT 24)),sS 3 (.mov (tT 25))] [1,3,13,14,15] [1])))
(.region [sS 26 (.bin .add (tT 15) (zZ 1)),sS 15 (.mov (tT 26))] [1,3,13,14,15] [1]))))))))
(.seq
(.seq
(.region [sS 27 (.fld 3 (tT 1)),sS 28 (.load 1 false (tT 27)),sS 29 (.len 0 (tT 28)),sS 30 (.mov (zZ 0))] [1,3,28,29,30] [1])
(.block 2
(.loop
(.mask [1,3,28,29,30] [1]
(.seq
(.region [sS 31 (.bin .lss (tT 30) (tT 29))] [1,3,28,29,30,31] [1])
(.seq
(.cond (tT 31)
.skip
(.exit 2))
(.seq
(.block 3
(.seq
(.region [sS 32 (.idx 5 (tT 28) (tT 30)),sS 33 (.load 5 true (tT 32)),⟨some 7,.alloc 7 [.pv (.str ⟨#[]⟩),.tl [],pZ,pZ,.tl []],none⟩,nN (.store 5 (tT 7) (tT 33))] [1,3,7,28,29,30] [1,7])
(.seq
(.region [sS 34 (.fld 1 (tT 7)),sS 35 (.load 1 false (tT 34)),sS 36 (.len 0 (tT 35)),sS 37 (.mov (zZ 0))] [1,3,28,29,30,35,36,37] [1])
(.block 4
(.loop
(.mask [1,3,28,29,30,35,36,37] [1]
(.seq
(.region [sS 38 (.bin .lss (tT 37) (tT 36))] [1,3,28,29,30,35,36,37,38] [1])
(.seq
(.cond (tT 38)
.skip
(.exit 4))
(.seq
(.block 5
(.seq
(.region [sS 39 (.idx 3 (tT 35) (tT 37)),sS 40 (.load 3 true (tT 39)),⟨some 9,.alloc 9 [pZ,.pv (.str ⟨#[]⟩),pZ],none⟩,nN (.store 3 (tT 9) (tT 40))] [1,3,9,28,29,30,35,36,37] [1,9])
(.region [sS 41 (.mov (tT 3)),sS 42 (.fld 2 (tT 9)),sS 43 (.load 1 false (tT 42)),sS 44 (.lit 1 [pZ] 1 [(0,1,(tT 43))]),sS 45 (.app 1 (tT 41) (tT 44)),sS 3 (.mov (tT 45))] [1,3,28,29,30,35,36,37] [1])))
(.region [sS 46 (.bin .add (tT 37) (zZ 1)),sS 37 (.mov (tT 46))] [1,3,28,29,30,35,36,37] [1]))))))))))
(.region [sS 47 (.bin .add (tT 30) (zZ 1)),sS 30 (.mov (tT 47))] [1,3,28,29,30] [1]))))))))
(.seq
(.seq
(.region [sS 48 (.fld 4 (tT 1)),sS 49 (.load 1 false (tT 48)),sS 50 (.len 0 (tT 49)),sS 51 (.mov (zZ 0))] [3,49,50,51] [])
(.block 6
(.loop
(.mask [3,49,50,51] []
(.seq
(.region [sS 52 (.bin .lss (tT 51) (tT 50))] [3,49,50,51,52] [])
(.seq
(.cond (tT 52)
.skip
(.exit 6))
(.seq
(.block 7
(.seq
(.region [sS 53 (.idx 2 (tT 49) (tT 51)),sS 54 (.load 2 true (tT 53)),⟨some 11,.alloc 11 [.pv (.str ⟨#[]⟩),pZ],none⟩,nN (.store 2 (tT 11) (tT 54))] [3,11,49,50,51] [11])
(.region [sS 55 (.mov (tT 3)),sS 56 (.fld 1 (tT 11)),sS 57 (.load 1 false (tT 56)),sS 58 (.lit 1 [pZ] 1 [(0,1,(tT 57))]),sS 59 (.app 1 (tT 55) (tT 58)),sS 3 (.mov (tT 59))] [3,49,50,51] [])))
(.region [sS 60 (.bin .add (tT 51) (zZ 1)),sS 51 (.mov (tT 60))] [3,49,50,51] []))))))))
(.seq
(.region [sS 61 (.mov (tT 3)),sS 62 (.call (.val (.func 103 [])) [(tT 61)])] [3] [])
(.seq
(.region [sS 63 (.mov (tT 3)),sS 64 (.call (.val (.func 104 [])) [(tT 63)]),sS 2 (.mov (tT 64))] [2] [])
.ret))))))),[.tmp 2],false,false,false⟩
def F418 : AFunc := ⟨1,(.seq
(.region [sS 1 (.box 1 5 (tT 0)),sS 2 (.mov (.val (.tl [])))] [1] [1])
(.seq
(.region [sS 3 (.mov (.val (.tl [])))] [1,3] [1])
(.seq
(.seq
(.region [sS 4 (.mov (zZ 0))] [1,3,4] [1])
(.block 0
(.loop
(.mask [1,3,4] [1]
(.seq
(.seq
(.region [sS 8 (.mov (tT 4)),sS 9 (.fld 2 (tT 1)),sS 10 (.load 1 false (tT 9)),sS 11 (.len 0 (tT 10)),sS 12 (.bin .lss (tT 8) (tT 11))] [1,3,4,12] [1])
(.cond (tT 12)
.skip
(.exit 0)))
(.seq
(.block 1
(.draw [(sS 15 (.mov (tT 3)),[]),(sS 16 (.fld 2 (tT 1)),[]),(sS 17 (.load 1 false (tT 16)),[]),(sS 18 (.mov (tT 4)),[]),(sS 19 (.idx 3 (tT 17) (tT 18)),[]),(sS 20 (.fld 1 (tT 19)),[]),(sS 21 (.load 1 false (tT 20)),[]),(sS 22 (.call (.val (.func 452 [])) [(tT 15),(tT 21)]),[]),(sS 23 (.fld 2 (tT 1)),[]),(sS 24 (.load 1 false (tT 23)),[7]),(sS 25 (.mov (tT 4)),[]),(sS 26 (.idx 3 (tT 24) (tT 25)),[7]),(sS 27 (.fld 2 (tT 26)),[]),(sS 28 (.load 1 false (tT 27)),[7]),(sS 29 (.call (.val (.func 452 [])) [(tT 22),(tT 28)]),[]),(sS 3 (.mov (tT 29)),[])] [1,3,4] [1]))
(.region [sS 13 (.mov (tT 4)),sS 14 (.bin .add (tT 13) (zZ 1)),sS 4 (.mov (tT 14))] [1,3,4] [1])))))))
(.seq
(.seq
(.region [sS 5 (.mov (zZ 0))] [1,3,5] [1])
(.block 2
(.loop
(.mask [1,3,5] [1]
(.seq
(.seq
(.region [sS 30 (.mov (tT 5)),sS 31 (.fld 3 (tT 1)),sS 32 (.load 1 false (tT 31)),sS 33 (.len 0 (tT 32)),sS 34 (.bin .lss (tT 30) (tT 33))] [1,3,5,34] [1])
(.cond (tT 34)
.skip
(.exit 2)))
(.seq
(.block 3
(.seq
(.region [sS 6 (.mov (zZ 0))] [1,3,5,6] [1])
(.block 4
(.loop
(.mask [1,3,5,6] [1]
(.seq
(.seq
(.region [sS 37 (.mov (tT 6)),sS 38 (.fld 3 (tT 1)),sS 39 (.load 1 false (tT 38)),sS 40 (.mov (tT 5)),sS 41 (.idx 5 (tT 39) (tT 40)),sS 42 (.fld 1 (tT 41)),sS 43 (.load 1 false (tT 42)),sS 44 (.len 0 (tT 43)),sS 45 (.bin .lss (tT 37) (tT 44))] [1,3,5,6,45] [1])
(.cond (tT 45)
.skip
(.exit 4)))
(.seq
(.block 5
(.region [sS 48 (.mov (tT 3)),sS 49 (.fld 3 (tT 1)),sS 50 (.load 1 false (tT 49)),sS 51 (.mov (tT 5)),sS 52 (.idx 5 (tT 50) (tT 51)),sS 53 (.fld 1 (tT 52)),sS 54 (.load 1 false (tT 53)),sS 55 (.mov (tT 6)),sS 56 (.idx 3 (tT 54) (tT 55)),sS 57 (.fld 2 (tT 56)),sS 58 (.load 1 false (tT 57)),sS 59 (.call (.val (.func 452 [])) [(tT 48),(tT 58)]),sS 3 (.mov (tT 59))] [1,3,5,6] [1]))
(.region [sS 46 (.mov (tT 6)),sS 47 (.bin .add (tT 46) (zZ 1)),sS 6 (.mov (tT 47))] [1,3,5,6] [1]))))))))
(.region [sS 35 (.mov (tT 5)),sS 36 (.bin .add (tT 35) (zZ 1)),sS 5 (.mov (tT 36))] [1,3,5] [1])))))))
(.seq
(.seq
(.region [sS 7 (.mov (zZ 0))] [1,3,7] [1])
(.block 6
(.loop
(.mask [1,3,7] [1]
(.seq
(.seq
(.region [sS 60 (.mov (tT 7)),sS 61 (.fld 4 (tT 1)),sS 62 (.load 1 false (tT 61)),sS 63 (.len 0 (tT 62)),sS 64 (.bin .lss (tT 60) (tT 63))] [1,3,7,64] [1])
(.cond (tT 64)
.skip
(.exit 6)))
(.seq
(.block 7
(.region [sS 67 (.mov (tT 3)),sS 68 (.fld 4 (tT 1)),sS 69 (.load 1 false (tT 68)),sS 70 (.mov (tT 7)),sS 71 (.idx 2 (tT 69) (tT 70)),sS 72 (.fld 1 (tT 71)),sS 73 (.load 1 false (tT 72)),sS 74 (.call (.val (.func 452 [])) [(tT 67),(tT 73)]),sS 3 (.mov (tT 74))] [1,3,7] [1]))
(.region [sS 65 (.mov (tT 7)),sS 66 (.bin .add (tT 65) (zZ 1)),sS 7 (.mov (tT 66))] [1,3,7] [1])))))))
(.seq
(.region [sS 75 (.mov (tT 3)),sS 2 (.mov (tT 75))] [2] [])
.ret)))))),[.tmp 2],false,false,false⟩
def F421 : AFunc := ⟨2,(.seq
(.region [sS 2 (.box 2 5 (tT 0)),sS 3 (.box 3 5 (tT 1)),sS 4 (.mov (bB false)),sS 5 (.mov (zZ 0))] [2,3] [2,3])
(.seq
(.seq
(.region [sS 25 (.load 5 true (tT 2)),sS 26 (.call (.val (.func 407 [])) [(tT 25)]),sS 6 (.mov (tT 26))] [2,3,6] [2,3])
(.seq
(.region [sS 27 (.mov (tT 6)),sS 28 (.bin .neq (tT 27) (zZ 0))] [2,3,6,28] [2,3])
(.cond (tT 28)
(.seq
(.region [sS 29 (.mov (tT 6)),sS 4 (.mov (bB false)),sS 5 (.mov (tT 29))] [4,5] [])
.ret)
.skip)))
(.seq
(.seq
(.region [sS 30 (.load 5 true (tT 3)),sS 31 (.call (.val (.func 407 [])) [(tT 30)]),sS 7 (.mov (tT 31))] [2,3,7] [2,3])
(.seq
(.region [sS 32 (.mov (tT 7)),sS 33 (.bin .neq (tT 32) (zZ 0))] [2,3,7,33] [2,3])
(.cond (tT 33)
(.seq
(.region [sS 34 (.mov (tT 7)),sS 4 (.mov (bB false)),sS 5 (.mov (tT 34))] [4,5] [])
.ret)
.skip)))
(.seq
(.seq
(.region [sS 35 (.fld 2 (tT 2)),sS 36 (.load 1 false (tT 35)),sS 37 (.len 0 (tT 36)),sS 38 (.fld 2 (tT 3)),sS 39 (.load 1 false (tT 38)),sS 40 (.len 0 (tT 39)),sS 41 (.bin .neq (tT 37) (tT 40)),sS 42 (.mov (tT 41)),gG 43 (.fld 3 (tT 2)) 42 false,gG 44 (.load 1 false (tT 43)) 42 false,gG 45 (.len 0 (tT 44)) 42 false,gG 46 (.fld 3 (tT 3)) 42 false,gG 47 (.load 1 false (tT 46)) 42 false,gG 48 (.len 0 (tT 47)) 42 false,gG 49 (.bin .neq (tT 45) (tT 48)) 42 false,sS 50 (.pick (tT 42) (bB true) (tT 49)),sS 51 (.mov (tT 50)),gG 52 (.fld 4 (tT 2)) 51 false,gG 53 (.load 1 false (tT 52)) 51 false,gG 54 (.len 0 (tT 53)) 51 false,gG 55 (.fld 4 (tT 3)) 51 false,gG 56 (.load 1 false (tT 55)) 51 false,gG 57 (.len 0 (tT 56)) 51 false,gG 58 (.bin .neq (tT 54) (tT 57)) 51 false,sS 59 (.pick (tT 51) (bB true) (tT 58))] [2,3,59] [2,3])
(.cond (tT 59)
(.seq
(.region [sS 4 (.mov (bB false)),sS 5 (.mov (zZ 0))] [4,5] [])
.ret)
.skip))
(.seq
(.region [sS 60 (.clos 455 [(tT 2),(tT 3)]),sS 8 (.mov (tT 60))] [2,3,8] [2,3])
(.seq
(.seq
(.region [sS 61 (.fld 2 (tT 2)),sS 62 (.load 1 false (tT 61)),sS 63 (.len 0 (tT 62)),sS 64 (.mov (zZ 0))] [2,3,8,62,63,64] [2,3])
(.block 0
(.loop
(.mask [2,3,8,62,63,64] [2,3]
(.seq
(.region [sS 65 (.bin .lss (tT 64) (tT 63))] [2,3,8,62,63,64,65] [2,3])
(.seq
(.cond (tT 65)
.skip
(.exit 0))
(.seq
(.block 1
(.seq
(.region [sS 66 (.idx 3 (tT 62) (tT 64)),sS 67 (.load 3 true (tT 66)),⟨some 10,.alloc 10 [.pv (.str ⟨#[]⟩),pZ,pZ],none⟩,nN (.store 3 (tT 10) (tT 67))] [2,3,8,10,62,63,64] [2,3,10])
(.seq
(.region [sS 69 (.load 5 true (tT 3)),sS 70 (.fld 0 (tT 10)),sS 71 (.load 1 false (tT 70)),sS 72 (.call (.val (.func 410 [])) [(tT 69),(tT 71)]),sS 68 (.mov (tT 72)),sS 73 (.ext (tT 68) 0),sS 74 (.ext (tT 68) 1),⟨some 11,.alloc 11 [.pv (.str ⟨#[]⟩),pZ,pZ],none⟩,nN (.store 3 (tT 11) (tT 73)),sS 12 (.mov (tT 74))] [2,3,8,10,11,12,62,63,64] [2,3,10,11])
(.seq
(.region [sS 75 (.mov (tT 12)),sS 76 (.un .not (tT 75)),sS 77 (.mov (tT 76)),gG 78 (.mov (tT 8)) 77 false,gG 79 (.fld 1 (tT 10)) 77 false,gG 80 (.load 1 false (tT 79)) 77 false,gG 81 (.fld 1 (tT 11)) 77 false,gG 82 (.load 1 false (tT 81)) 77 false,gG 83 (.call (tT 78) [(tT 80),(tT 82)]) 77 false,gG 84 (.un .not (tT 83)) 77 false,sS 85 (.pick (tT 77) (bB true) (tT 84)),sS 86 (.mov (tT 85)),gG 87 (.mov (tT 8)) 86 false,gG 88 (.fld 2 (tT 10)) 86 false,gG 89 (.load 1 false (tT 88)) 86 false,gG 90 (.fld 2 (tT 11)) 86 false,gG 91 (.load 1 false (tT 90)) 86 false,gG 92 (.call (tT 87) [(tT 89),(tT 91)]) 86 false,gG 93 (.un .not (tT 92)) 86 false,sS 94 (.pick (tT 86) (bB true) (tT 93))] [2,3,8,62,63,64,94] [2,3])
(.cond (tT 94)
(.seq
(.region [sS 4 (.mov (bB false)),sS 5 (.mov (zZ 0))] [4,5] [])
.ret)
.skip)))))
(.region [sS 95 (.bin .add (tT 64) (zZ 1)),sS 64 (.mov (tT 95))] [2,3,8,62,63,64] [2,3]))))))))
(.seq
(.seq
(.region [sS 96 (.fld 4 (tT 2)),sS 97 (.load 1 false (tT 96)),sS 98 (.len 0 (tT 97)),sS 99 (.mov (zZ 0))] [2,3,8,97,98,99] [2,3])
(.block 2
(.loop
(.mask [2,3,8,97,98,99] [2,3]
(.seq
(.region [sS 100 (.bin .lss (tT 99) (tT 98))] [2,3,8,97,98,99,100] [2,3])
(.seq
(.cond (tT 100)
.skip
(.exit 2))
(.seq
(.block 3
(.seq
(.region [sS 101 (.idx 2 (tT 97) (tT 99)),sS 102 (.load 2 true (tT 101)),⟨some 14,.alloc 14 [.pv (.str ⟨#[]⟩),pZ],none⟩,nN (.store 2 (tT 14) (tT 102))] [2,3,8,14,97,98,99] [2,3,14])
(.seq
(.region [sS 104 (.load 5 true (tT 3)),sS 105 (.fld 0 (tT 14)),sS 106 (.load 1 false (tT 105)),sS 107 (.call (.val (.func 414 [])) [(tT 104),(tT 106)]),sS 103 (.mov (tT 107)),sS 108 (.ext (tT 103) 0),sS 109 (.ext (tT 103) 1),⟨some 15,.alloc 15 [.pv (.str ⟨#[]⟩),pZ],none⟩,nN (.store 2 (tT 15) (tT 108)),sS 16 (.mov (tT 109))] [2,3,8,14,15,16,97,98,99] [2,3,14,15])
(.seq
(.region [sS 110 (.mov (tT 16)),sS 111 (.un .not (tT 110)),sS 112 (.mov (tT 111)),gG 113 (.mov (tT 8)) 112 false,gG 114 (.fld 1 (tT 14)) 112 false,gG 115 (.load 1 false (tT 114)) 112 false,gG 116 (.fld 1 (tT 15)) 112 false,gG 117 (.load 1 false (tT 116)) 112 false,gG 118 (.call (tT 113) [(tT 115),(tT 117)]) 112 false,gG 119 (.un .not (tT 118)) 112 false,sS 120 (.pick (tT 112) (bB true) (tT 119))] [2,3,8,97,98,99,120] [2,3])
(.cond (tT 120)
(.seq
(.region [sS 4 (.mov (bB false)),sS 5 (.mov (zZ 0))] [4,5] [])
.ret)
.skip)))))
(.region [sS 121 (.bin .add (tT 99) (zZ 1)),sS 99 (.mov (tT 121))] [2,3,8,97,98,99] [2,3]))))))))
(.seq
(.seq
(.region [sS 122 (.fld 3 (tT 2)),sS 123 (.load 1 false (tT 122)),sS 124 (.len 0 (tT 123)),sS 125 (.mov (zZ 0))] [3,8,123,124,125] [2,3])
(.block 4
(.loop
(.mask [3,8,123,124,125] [2,3]
(.seq
(.region [sS 126 (.bin .lss (tT 125) (tT 124))] [3,8,123,124,125,126] [2,3])
(.seq
(.cond (tT 126)
.skip
(.exit 4))
(.seq
(.block 5
(.seq
(.region [sS 127 (.idx 5 (tT 123) (tT 125)),sS 128 (.load 5 true (tT 127)),⟨some 18,.alloc 18 [.pv (.str ⟨#[]⟩),.tl [],pZ,pZ,.tl []],none⟩,nN (.store 5 (tT 18) (tT 128))] [3,8,18,123,124,125] [2,3,18])
(.seq
(.region [sS 130 (.load 5 true (tT 3)),sS 131 (.fld 0 (tT 18)),sS 132 (.load 1 false (tT 131)),sS 133 (.call (.val (.func 412 [])) [(tT 130),(tT 132)]),sS 129 (.mov (tT 133)),sS 134 (.ext (tT 129) 0),sS 135 (.ext (tT 129) 1),⟨some 19,.alloc 19 [.pv (.str ⟨#[]⟩),.tl [],pZ,pZ,.tl []],none⟩,nN (.store 5 (tT 19) (tT 134)),sS 20 (.mov (tT 135))] [3,8,18,19,20,123,124,125] [2,3,18,19])
(.seq
(.seq
(.region [sS 136 (.mov (tT 20)),sS 137 (.un .not (tT 136)),sS 138 (.mov (tT 137)),gG 139 (.fld 1 (tT 18)) 138 false,gG 140 (.load 1 false (tT 139)) 138 false,gG 141 (.len 0 (tT 140)) 138 false,gG 142 (.fld 1 (tT 19)) 138 false,gG 143 (.load 1 false (tT 142)) 138 false,gG 144 (.len 0 (tT 143)) 138 false,gG 145 (.bin .neq (tT 141) (tT 144)) 138 false,sS 146 (.pick (tT 138) (bB true) (tT 145))] [3,8,18,19,123,124,125,146] [2,3,18,19])
(.cond (tT 146)
(.seq
(.region [sS 4 (.mov (bB false)),sS 5 (.mov (zZ 0))] [4,5] [])
.ret)
.skip))
(.seq
(.seq
(.region [sS 147 (.fld 1 (tT 18)),sS 148 (.load 1 false (tT 147)),sS 149 (.len 0 (tT 148)),sS 150 (.mov (zZ 0))] [3,8,18,19,123,124,125,148,149,150] [2,3,18,19])
(.block 6
(.loop
(.mask [3,8,18,19,123,124,125,148,149,150] [2,3,18,19]
(.seq
(.region [sS 151 (.bin .lss (tT 150) (tT 149))] [3,8,18,19,123,124,125,148,149,150,151] [2,3,18,19])
(.seq
(.cond (tT 151)
.skip
(.exit 6))
(.seq
(.block 7
(.seq
(.region [sS 152 (.mov (tT 150)),sS 153 (.idx 3 (tT 148) (tT 150)),sS 154 (.load 3 true (tT 153)),⟨some 22,.alloc 22 [pZ,.pv (.str ⟨#[]⟩),pZ],none⟩,sS 21 (.mov (tT 152)),nN (.store 3 (tT 22) (tT 154))] [3,8,18,19,21,22,123,124,125,148,149,150] [2,3,18,19,22])
(.seq
(.draw [(sS 155 (.fld 0 (tT 22)),[]),(sS 156 (.load 1 false (tT 155)),[]),(sS 157 (.fld 1 (tT 19)),[]),(sS 158 (.load 1 false (tT 157)),[]),(sS 159 (.mov (tT 21)),[]),(sS 160 (.idx 3 (tT 158) (tT 159)),[]),(sS 161 (.fld 0 (tT 160)),[]),(sS 162 (.load 1 false (tT 161)),[]),(sS 163 (.bin .neq (tT 156) (tT 162)),[]),(sS 164 (.mov (tT 163)),[]),(gG 165 (.mov (tT 8)) 164 false,[]),(gG 166 (.fld 2 (tT 22)) 164 false,[]),(gG 167 (.load 1 false (tT 166)) 164 false,[]),(gG 168 (.fld 1 (tT 19)) 164 false,[]),(gG 169 (.load 1 false (tT 168)) 164 false,[]),(gG 170 (.mov (tT 21)) 164 false,[]),(gG 171 (.idx 3 (tT 169) (tT 170)) 164 false,[]),(gG 172 (.fld 2 (tT 171)) 164 false,[]),(gG 173 (.load 1 false (tT 172)) 164 false,[]),(gG 174 (.call (tT 165) [(tT 167),(tT 173)]) 164 false,[]),(gG 175 (.un .not (tT 174)) 164 false,[]),(sS 176 (.pick (tT 164) (bB true) (tT 175)),[])] [3,8,18,19,123,124,125,148,149,150,176] [2,3,18,19])
(.cond (tT 176)
(.seq
(.region [sS 4 (.mov (bB false)),sS 5 (.mov (zZ 0))] [4,5] [])
.ret)
.skip))))
(.region [sS 177 (.bin .add (tT 150) (zZ 1)),sS 150 (.mov (tT 177))] [3,8,18,19,123,124,125,148,149,150] [2,3,18,19]))))))))
(.seq
(.region [sS 179 (.fld 2 (tT 18)),sS 180 (.load 3 true (tT 179)),sS 181 (.fld 2 (tT 19)),sS 182 (.load 3 true (tT 181)),sS 183 (.call (.val (.func 16 [])) [(tT 180),(tT 182)]),sS 178 (.mov (tT 183)),sS 184 (.ext (tT 178) 0),sS 185 (.ext (tT 178) 1),sS 23 (.mov (tT 184)),sS 24 (.mov (tT 185))] [3,8,23,123,124,125] [2,3])
(.seq
(.region [sS 186 (.mov (tT 23)),sS 187 (.un .not (tT 186))] [3,8,123,124,125,187] [2,3])
(.cond (tT 187)
(.seq
(.region [sS 4 (.mov (bB false)),sS 5 (.mov (zZ 0))] [4,5] [])
.ret)
.skip))))))))
(.region [sS 188 (.bin .add (tT 125) (zZ 1)),sS 125 (.mov (tT 188))] [3,8,123,124,125] [2,3]))))))))
(.seq
(.region [sS 4 (.mov (bB true)),sS 5 (.mov (zZ 0))] [4,5] [])
.ret))))))))),[.tmp 4,.tmp 5],false,false,false⟩
def F433 : AFunc := ⟨0,(.seq
(.region [⟨some 0,.alloc 0 [.pv (.str ⟨#[]⟩),.tl [],.tl [],.tl [],.tl []],none⟩] [0] [0])
(.seq
(.region [sS 1 (.mov (.val (.func 460 [])))] [0,1] [0])
(.seq
(.drawR 5 [(sS 2 (.mov (tT 1)),[]),(sS 3 (.litAt 0 1 [pZ] 1 [(0,1,(zZ 1))]),[]),(⟨some 4,.call (tT 2) [(.val (.pv (.str ⟨#[79,114,100,101,114]⟩))),(tT 3)],none⟩,[]),(sS 5 (.mov (tT 1)),[]),(⟨some 6,.call (tT 5) [(.val (.pv (.str ⟨#[73,116,101,109]⟩))),(.val (.tl []))],none⟩,[]),(sS 7 (.mov (tT 1)),[]),(sS 8 (.litAt 1 1 [pZ] 1 [(0,1,(zZ 1))]),[]),(⟨some 9,.call (tT 7) [(.val (.pv (.str ⟨#[79,108,100]⟩))),(tT 8)],none⟩,[]),(⟨some 10,.litAt 2 10 [pZ,.pv (.str ⟨#[]⟩),pZ,pZ,pZ,.tl [],.tl [],pZ,pZ,.pv (.bool false)] 3 [(0,10,(tT 4)),(10,10,(tT 6)),(20,10,(tT 9))],none⟩,[]),(sS 11 (.build [.tl []] [(0,1,(tT 10))]),[]),(⟨some 12,.build [.pv (.str ⟨#[]⟩),pZ,pZ] [(0,1,(.val (.pv (.str ⟨#[71,101,116]⟩)))),(1,1,(zZ 1)),(2,1,(zZ 0))],none⟩,[]),(⟨some 13,.litAt 3 3 [.pv (.str ⟨#[]⟩),pZ,pZ] 1 [(0,3,(tT 12))],none⟩,[]),(⟨some 14,.build [.pv (.str ⟨#[]⟩),pZ] [(0,1,(.val (.pv (.str ⟨#[79,114,100,101,114,115]⟩)))),(1,1,(zZ 0))],none⟩,[]),(⟨some 15,.litAt 4 2 [.pv (.str ⟨#[]⟩),pZ] 1 [(0,2,(tT 14))],none⟩,[]),(⟨some 16,.build [.pv (.str ⟨#[]⟩),.tl [],.tl [],.tl [],.tl []] [(0,1,(.val (.pv (.str ⟨#[118,49]⟩)))),(1,1,(tT 11)),(2,1,(tT 13)),(4,1,(tT 15))],none⟩,[]),(nN (.store 5 (tT 0) (tT 16)),[])] [0] [0])
.ret))),[.cell 0 5 true],true,false,false⟩
def F434 : AFunc := ⟨1,(.seq
(.region [sS 1 (.box 1 5 (tT 0)),sS 2 (.mov (bB false))] [1] [1])
(.seq
(.region [sS 3 (.fld 1 (tT 1)),sS 4 (.load 1 false (tT 3)),sS 5 (.len 0 (tT 4)),sS 6 (.bin .leq (tT 5) (zZ 20)),sS 7 (.mov (tT 6)),gG 8 (.fld 2 (tT 1)) 7 true,gG 9 (.fld 2 (tT 8)) 7 true,gG 10 (.load 1 false (tT 9)) 7 true,gG 11 (.len 0 (tT 10)) 7 true,gG 12 (.bin .leq (tT 11) (zZ 110)) 7 true,sS 13 (.pick (tT 7) (tT 12) (bB false)),sS 14 (.mov (tT 13)),gG 15 (.fld 0 (tT 1)) 14 true,gG 16 (.load 1 false (tT 15)) 14 true,gG 17 (.len 1 (tT 16)) 14 true,gG 18 (.bin .leq (tT 17) (zZ 100)) 14 true,sS 19 (.pick (tT 14) (tT 18) (bB false)),sS 2 (.mov (tT 19))] [2] [])
.ret)),[.tmp 2],false,false,false⟩
def F439 : AFunc := ⟨1,(.seq
(.region [sS 1 (.box 1 1 (tT 0)),sS 2 (.mov (zZ 0))] [1] [1])
(.seq
(.region [sS 8 (.load 1 true (tT 1)),sS 9 (.call (.val (.func 464 [])) [(tT 8)]),sS 7 (.mov (tT 9)),sS 10 (.ext (tT 7) 0),sS 11 (.ext (tT 7) 1),sS 3 (.mov (tT 10)),sS 4 (.mov (tT 11))] [3,4] [])
(.seq
(.seq
(.region [sS 12 (.mov (tT 4)),sS 13 (.bin .neq (tT 12) (zZ 0))] [3,4,13] [])
(.cond (tT 13)
(.seq
(.region [sS 14 (.mov (tT 4)),sS 2 (.mov (tT 14))] [2] [])
.ret)
.skip))
(.seq
(.seq
(.region [sS 15 (.mov (tT 3)),sS 16 (.len 0 (tT 15)),sS 17 (.mov (zZ 0))] [15,16,17] [])
(.block 0
(.loop
(.mask [15,16,17] []
(.seq
(.region [sS 18 (.bin .lss (tT 17) (tT 16))] [15,16,17,18] [])
(.seq
(.cond (tT 18)
.skip
(.exit 0))
(.seq
(.block 1
(.seq
(.region [sS 19 (.idx 1 (tT 15) (tT 17)),sS 20 (.load 1 false (tT 19)),sS 6 (.mov (tT 20))] [6,15,16,17] [])
(.seq
(.region [sS 21 (.mov (tT 6)),sS 22 (.un .not (tT 21))] [15,16,17,22] [])
(.cond (tT 22)
(.seq
(.region [sS 2 (.mov (zZ 10))] [2] [])
.ret)
.skip))))
(.region [sS 23 (.bin .add (tT 17) (zZ 1)),sS 17 (.mov (tT 23))] [15,16,17] []))))))))
(.seq
(.region [sS 2 (.mov (zZ 0))] [2] [])
.ret))))),[.tmp 2],false,false,false⟩
def F440 : AFunc := ⟨2,(.seq
(.region [sS 3 (.mov (bB false))] [0,1] [])
(.seq
(.region [sS 4 (.mov (tT 0)),sS 5 (.bin .lss (tT 4) (zZ 0)),sS 6 (.mov (tT 5)),gG 7 (.mov (tT 0)) 6 false,gG 8 (.fld 1 (tT 1)) 6 false,gG 9 (.fld 0 (tT 8)) 6 false,gG 10 (.load 1 false (tT 9)) 6 false,gG 11 (.len 0 (tT 10)) 6 false,gG 12 (.bin .geq (tT 7) (tT 11)) 6 false,sS 13 (.pick (tT 6) (bB true) (tT 12)),sS 3 (.mov (tT 13))] [3] [])
.ret)),[.tmp 3],false,false,false⟩
def F441 : AFunc := ⟨2,(.seq
(.region [sS 4 (.mov (zZ 0))] [0,1] [])
(.seq
(.seq
(.region [sS 5 (.mov (tT 1)),sS 6 (.call (.val (.func 306 [])) [(tT 5)]),sS 7 (.un .not (tT 6))] [0,1,7] [])
(.cond (tT 7)
(.seq
(.region [sS 4 (.mov (zZ 1))] [4] [])
.ret)
.skip))
(.seq
(.seq
(.region [sS 8 (.mov (tT 0)),sS 9 (.nilck (tT 8)),sS 10 (.fld 0 (tT 9)),sS 11 (.load 1 false (tT 10)),sS 12 (.mov (tT 1)),sS 13 (.call (.val (.func 465 [])) [(tT 11),(tT 12)])] [0,1,13] [])
(.cond (tT 13)
(.seq
(.region [sS 4 (.mov (zZ 5))] [4] [])
.ret)
.skip))
(.seq
(.region [sS 14 (.mov (tT 0)),sS 15 (.mov (tT 0)),sS 16 (.nilck (tT 15)),sS 17 (.fld 0 (tT 16)),sS 18 (.load 1 false (tT 17)),sS 19 (.mov (tT 1)),⟨some 20,.lit 1 [.pv (.str ⟨#[]⟩)] 1 [(0,1,(tT 19))],none⟩,sS 21 (.app 1 (tT 18) (tT 20)),sS 22 (.nilck (tT 14)),sS 23 (.fld 0 (tT 22)),nN (.store 1 (tT 23) (tT 21))] [] [])
(.seq
(.region [sS 4 (.mov (zZ 0))] [4] [])
.ret))))),[.tmp 4],false,false,true⟩
def F442 : AFunc := ⟨2,(.seq
(.region [sS 4 (.mov (bB false))] [0,1] [])
(.seq
(.region [sS 5 (.mov (tT 0)),sS 6 (.mov (tT 1)),sS 7 (.call (.val (.func 448 [])) [(tT 5),(tT 6)]),sS 8 (.bin .geq (tT 7) (zZ 0)),sS 4 (.mov (tT 8))] [4] [])
.ret)),[.tmp 4],false,false,false⟩
def F443 : AFunc := ⟨2,(.seq
(.region [sS 2 (.box 2 5 (tT 0)),sS 3 (.mov (bB false))] [1,2] [2])
(.seq
(.region [sS 4 (.fld 0 (tT 2)),sS 5 (.load 1 false (tT 4)),sS 6 (.fld 0 (tT 1)),sS 7 (.load 1 false (tT 6)),sS 8 (.bin .eql (tT 5) (tT 7)),sS 3 (.mov (tT 8))] [3] [])
.ret)),[.tmp 3],false,false,false⟩
def F444 : AFunc := ⟨2,(.seq
(.region [sS 2 (.box 2 1 (tT 0)),sS 3 (.box 3 5 (tT 1)),sS 4 (.mov (zZ 0))] [2,3] [2,3])
(.seq
(.seq
(.region [sS 6 (.load 1 true (tT 2)),sS 7 (.call (.val (.func 267 [])) [(tT 6)]),sS 5 (.mov (tT 7))] [2,3,5] [2,3])
(.seq
(.region [sS 8 (.mov (tT 5)),sS 9 (.bin .neq (tT 8) (zZ 0))] [2,3,5,9] [2,3])
(.cond (tT 9)
(.seq
(.region [sS 10 (.mov (tT 5)),sS 4 (.mov (tT 10))] [4] [])
.ret)
.skip)))
(.seq
(.region [sS 11 (.load 1 true (tT 2)),sS 12 (.load 5 true (tT 3)),sS 13 (.call (.val (.func 466 [])) [(tT 11),(tT 12)]),sS 4 (.mov (tT 13))] [4] [])
.ret))),[.tmp 4],false,false,false⟩
def F445 : AFunc := ⟨1,(.seq
(.region [sS 1 (.box 1 5 (tT 0)),⟨some 2,.alloc 2 [.pv (.str ⟨#[]⟩),.tl [],pZ,pZ,.tl []],none⟩] [1,2] [1,2])
(.seq
(.region [sS 3 (.fld 1 (tT 1)),sS 4 (.load 1 false (tT 3)),sS 5 (.call (.val (.func 467 [])) [(tT 4)]),sS 6 (.fld 1 (tT 1)),nN (.store 1 (tT 6) (tT 5))] [1,2] [1,2])
(.seq
(.region [sS 7 (.fld 2 (tT 1)),sS 8 (.fld 2 (tT 7)),sS 9 (.load 1 false (tT 8)),sS 10 (.call (.val (.func 64 [])) [(tT 9)]),sS 11 (.fld 2 (tT 1)),sS 12 (.fld 2 (tT 11)),nN (.store 1 (tT 12) (tT 10))] [1,2] [1,2])
(.seq
(.region [sS 13 (.load 5 true (tT 1)),nN (.store 5 (tT 2) (tT 13))] [2] [2])
.ret)))),[.cell 2 5 true],true,false,false⟩
def F446 : AFunc := ⟨2,(.seq
(.region [sS 4 (.mov (zZ 0))] [0,1] [])
(.seq
(.seq
(.region [sS 6 (.mov (tT 0)),sS 7 (.len 0 (tT 6)),sS 8 (.mov (zZ 0))] [0,1,7,8] [])
(.block 0
(.loop
(.mask [0,1,7,8] []
(.seq
(.region [sS 9 (.bin .lss (tT 8) (tT 7))] [0,1,7,8,9] [])
(.seq
(.cond (tT 9)
.skip
(.exit 0))
(.seq
(.block 1
(.seq
(.region [sS 10 (.mov (tT 8)),sS 5 (.mov (tT 10))] [0,1,5,7,8] [])
(.seq
(.region [sS 11 (.mov (tT 1)),sS 12 (.mov (tT 0)),sS 13 (.mov (tT 5)),sS 14 (.idx 3 (tT 12) (tT 13)),sS 15 (.load 3 true (tT 14)),sS 16 (.call (tT 11) [(tT 15)])] [0,1,5,7,8,16] [])
(.cond (tT 16)
(.seq
(.region [sS 17 (.mov (tT 5)),sS 4 (.mov (tT 17))] [4] [])
.ret)
.skip))))
(.region [sS 18 (.bin .add (tT 8) (zZ 1)),sS 8 (.mov (tT 18))] [0,1,7,8] []))))))))
(.seq
(.region [sS 4 (.mov (.val (.pv (.int .i64 (-1)))))] [4] [])
.ret))),[.tmp 4],false,false,false⟩
def F447 : AFunc := ⟨2,(.seq
(.region [sS 2 (.box 2 3 (tT 0)),sS 3 (.mov (bB false))] [1,2] [2])
(.seq
(.region [sS 4 (.fld 0 (tT 2)),sS 5 (.load 1 false (tT 4)),sS 6 (.load 1 false (tT 1)),sS 7 (.bin .eql (tT 5) (tT 6)),sS 3 (.mov (tT 7))] [3] [])
.ret)),[.tmp 3],false,false,false⟩
def F448 : AFunc := ⟨2,(.seq
(.region [sS 4 (.mov (zZ 0))] [0,1] [])
(.seq
(.seq
(.region [sS 6 (.mov (tT 0)),sS 7 (.len 0 (tT 6)),sS 8 (.mov (zZ 0))] [0,1,7,8] [])
(.block 0
(.loop
(.mask [0,1,7,8] []
(.seq
(.region [sS 9 (.bin .lss (tT 8) (tT 7))] [0,1,7,8,9] [])
(.seq
(.cond (tT 9)
.skip
(.exit 0))
(.seq
(.block 1
(.seq
(.region [sS 10 (.mov (tT 8)),sS 5 (.mov (tT 10))] [0,1,5,7,8] [])
(.seq
(.region [sS 11 (.mov (tT 1)),sS 12 (.mov (tT 0)),sS 13 (.mov (tT 5)),sS 14 (.idx 5 (tT 12) (tT 13)),sS 15 (.load 5 true (tT 14)),sS 16 (.call (tT 11) [(tT 15)])] [0,1,5,7,8,16] [])
(.cond (tT 16)
(.seq
(.region [sS 17 (.mov (tT 5)),sS 4 (.mov (tT 17))] [4] [])
.ret)
.skip))))
(.region [sS 18 (.bin .add (tT 8) (zZ 1)),sS 8 (.mov (tT 18))] [0,1,7,8] []))))))))
(.seq
(.region [sS 4 (.mov (.val (.pv (.int .i64 (-1)))))] [4] [])
.ret))),[.tmp 4],false,false,false⟩
def F449 : AFunc := ⟨2,(.seq
(.region [sS 2 (.box 2 5 (tT 0)),sS 3 (.mov (bB false))] [1,2] [2])
(.seq
(.region [sS 4 (.fld 0 (tT 2)),sS 5 (.load 1 false (tT 4)),sS 6 (.load 1 false (tT 1)),sS 7 (.bin .eql (tT 5) (tT 6)),sS 3 (.mov (tT 7))] [3] [])
.ret)),[.tmp 3],false,false,false⟩
def F450 : AFunc := ⟨2,(.seq
(.region [sS 4 (.mov (zZ 0))] [0,1] [])
(.seq
(.seq
(.region [sS 6 (.mov (tT 0)),sS 7 (.len 0 (tT 6)),sS 8 (.mov (zZ 0))] [0,1,7,8] [])
(.block 0
(.loop
(.mask [0,1,7,8] []
(.seq
(.region [sS 9 (.bin .lss (tT 8) (tT 7))] [0,1,7,8,9] [])
(.seq
(.cond (tT 9)
.skip
(.exit 0))
(.seq
(.block 1
(.seq
(.region [sS 10 (.mov (tT 8)),sS 5 (.mov (tT 10))] [0,1,5,7,8] [])
(.seq
(.region [sS 11 (.mov (tT 1)),sS 12 (.mov (tT 0)),sS 13 (.mov (tT 5)),sS 14 (.idx 2 (tT 12) (tT 13)),sS 15 (.load 2 true (tT 14)),sS 16 (.call (tT 11) [(tT 15)])] [0,1,5,7,8,16] [])
(.cond (tT 16)
(.seq
(.region [sS 17 (.mov (tT 5)),sS 4 (.mov (tT 17))] [4] [])
.ret)
.skip))))
(.region [sS 18 (.bin .add (tT 8) (zZ 1)),sS 8 (.mov (tT 18))] [0,1,7,8] []))))))))
(.seq
(.region [sS 4 (.mov (.val (.pv (.int .i64 (-1)))))] [4] [])
.ret))),[.tmp 4],false,false,false⟩
def F451 : AFunc := ⟨2,(.seq
(.region [sS 2 (.box 2 2 (tT 0)),sS 3 (.mov (bB false))] [1,2] [2])
(.seq
(.region [sS 4 (.fld 0 (tT 2)),sS 5 (.load 1 false (tT 4)),sS 6 (.load 1 false (tT 1)),sS 7 (.bin .eql (tT 5) (tT 6)),sS 3 (.mov (tT 7))] [3] [])
.ret)),[.tmp 3],false,false,false⟩
def F452 : AFunc := ⟨2,(.seq
(.region [sS 4 (.mov (.val (.tl [])))] [0,1] [])
(.seq
(.region [sS 5 (.mov (zZ 0))] [0,1,5] [])
(.seq
(.block 0
(.loop
(.mask [0,1,5] []
(.seq
(.seq
(.region [sS 6 (.mov (tT 5)),sS 7 (.mov (tT 0)),sS 8 (.len 0 (tT 7)),sS 9 (.bin .lss (tT 6) (tT 8)),sS 10 (.mov (tT 9)),gG 11 (.mov (tT 0)) 10 true,gG 12 (.mov (tT 5)) 10 true,gG 13 (.idx 1 (tT 11) (tT 12)) 10 true,gG 14 (.load 1 false (tT 13)) 10 true,gG 15 (.mov (tT 1)) 10 true,gG 16 (.bin .lss (tT 14) (tT 15)) 10 true,sS 17 (.pick (tT 10) (tT 16) (bB false))] [0,1,5,17] [])
(.cond (tT 17)
.skip
(.exit 0)))
(.block 1
(.region [sS 18 (.mov (tT 5)),sS 19 (.bin .add (tT 18) (zZ 1)),sS 5 (.mov (tT 19))] [0,1,5] []))))))
(.seq
(.seq
(.region [sS 20 (.mov (tT 5)),sS 21 (.mov (tT 0)),sS 22 (.len 0 (tT 21)),sS 23 (.bin .lss (tT 20) (tT 22)),sS 24 (.mov (tT 23)),gG 25 (.mov (tT 0)) 24 true,gG 26 (.mov (tT 5)) 24 true,gG 27 (.idx 1 (tT 25) (tT 26)) 24 true,gG 28 (.load 1 false (tT 27)) 24 true,gG 29 (.mov (tT 1)) 24 true,gG 30 (.bin .eql (tT 28) (tT 29)) 24 true,sS 31 (.pick (tT 24) (tT 30) (bB false))] [0,1,5,31] [])
(.cond (tT 31)
(.seq
(.region [sS 32 (.mov (tT 0)),sS 4 (.mov (tT 32))] [4] [])
.ret)
.skip))
(.seq
(.draw [(sS 33 (.lit 1 [pZ] 0 []),[]),(sS 34 (.mov (tT 0)),[]),(sS 35 (.mov (tT 5)),[]),(sS 36 (.sl 1 (tT 34) none (some (tT 35)) none),[0]),(sS 37 (.app 1 (tT 33) (tT 36)),[]),(sS 38 (.mov (tT 1)),[]),(sS 39 (.lit 1 [pZ] 1 [(0,1,(tT 38))]),[0,3,4]),(sS 40 (.app 1 (tT 37) (tT 39)),[]),(sS 41 (.mov (tT 0)),[]),(sS 42 (.mov (tT 5)),[]),(sS 43 (.sl 1 (tT 41) (some (tT 42)) none none),[0,4,6,7]),(sS 44 (.app 1 (tT 40) (tT 43)),[]),(sS 4 (.mov (tT 44)),[])] [4] [])
.ret))))),[.tmp 4],false,false,false⟩
def F455 : AFunc := ⟨4,(.seq
(.region [sS 6 (.mov (bB false))] [0,1,2,3] [])
(.seq
(.region [sS 7 (.fld 1 (tT 2)),sS 8 (.load 1 true (tT 7)),sS 9 (.mov (tT 0)),sS 10 (.build [.tl [],pZ] [(0,1,(tT 8)),(1,1,(tT 9))]),sS 11 (.fld 1 (tT 3)),sS 12 (.load 1 true (tT 11)),sS 13 (.mov (tT 1)),sS 14 (.build [.tl [],pZ] [(0,1,(tT 12)),(1,1,(tT 13))]),sS 15 (.call (.val (.func 456 [])) [(tT 10),(tT 14)]),sS 6 (.mov (tT 15))] [6] [])
.ret)),[.tmp 6],false,false,false⟩
def F456 : AFunc := ⟨2,(.seq
(.region [sS 2 (.box 2 2 (tT 0)),sS 3 (.box 3 2 (tT 1)),sS 4 (.mov (bB false))] [2,3] [2,3])
(.seq
(.region [sS 5 (.load 2 true (tT 2)),sS 6 (.load 2 true (tT 3)),sS 7 (.call (.val (.func 468 [])) [(tT 5),(tT 6),(bB false)]),sS 4 (.mov (tT 7))] [4] [])
.ret)),[.tmp 4],false,false,false⟩
def F460 : AFunc := ⟨2,(.seq
(.region [⟨some 4,.alloc 4 [pZ,.pv (.str ⟨#[]⟩),pZ,pZ,pZ,.tl [],.tl [],pZ,pZ,.pv (.bool false)],none⟩] [0,1,4] [4])
(.seq
(.region [sS 8 (.mov (tT 0)),⟨some 9,.build [pZ,.pv (.str ⟨#[]⟩),pZ,pZ,pZ,.tl [],.tl [],pZ,pZ,.pv (.bool false)] [(0,1,(zZ 5)),(1,1,(tT 8))],none⟩,⟨some 5,.alloc 5 [pZ,.pv (.str ⟨#[]⟩),pZ,pZ,pZ,.tl [],.tl [],pZ,pZ,.pv (.bool false)],none⟩,nN (.store 10 (tT 5) (tT 9))] [1,4,5] [4,5])
(.seq
(.seq
(.region [sS 10 (.mov (tT 1)),sS 11 (.len 0 (tT 10)),sS 12 (.mov (zZ 0))] [4,5,10,11,12] [4,5])
(.block 0
(.loop
(.mask [4,5,10,11,12] [4,5]
(.seq
(.region [sS 13 (.bin .lss (tT 12) (tT 11))] [4,5,10,11,12,13] [4,5])
(.seq
(.cond (tT 13)
.skip
(.exit 0))
(.seq
(.block 1
(.seq
(.region [sS 14 (.mov (tT 12)),sS 15 (.idx 1 (tT 10) (tT 12)),sS 16 (.load 1 false (tT 15)),sS 6 (.mov (tT 14)),sS 7 (.mov (tT 16))] [4,5,6,7,10,11,12] [4,5])
(.region [sS 17 (.fld 6 (tT 5)),sS 18 (.load 1 false (tT 17)),sS 19 (.mov (tT 6)),sS 20 (.bin .add (tT 19) (zZ 1)),sS 21 (.mov (tT 6)),sS 22 (.bin .add (zZ 97) (tT 21)),sS 23 (.conv .i32 (tT 22)),sS 24 (.convs (tT 23)),sS 25 (.mov (tT 7)),⟨some 26,.build [pZ,.pv (.str ⟨#[]⟩),pZ,.pv (.bool false),.pv (.bool false),pZ,.pv (.bool false),pZ,.pv (.str ⟨#[]⟩),pZ,.tl [],.tl [],.tl []] [(0,1,(tT 20)),(1,1,(tT 24)),(2,1,(tT 25))],none⟩,⟨some 27,.lit 13 [pZ,.pv (.str ⟨#[]⟩),pZ,.pv (.bool false),.pv (.bool false),pZ,.pv (.bool false),pZ,.pv (.str ⟨#[]⟩),pZ,.tl [],.tl [],.tl []] 1 [(0,13,(tT 26))],none⟩,sS 28 (.app 13 (tT 18) (tT 27)),sS 29 (.fld 6 (tT 5)),nN (.store 1 (tT 29) (tT 28))] [4,5,10,11,12] [4,5])))
(.region [sS 30 (.bin .add (tT 12) (zZ 1)),sS 12 (.mov (tT 30))] [4,5,10,11,12] [4,5]))))))))
(.seq
(.region [sS 31 (.load 10 true (tT 5)),nN (.store 10 (tT 4) (tT 31))] [4] [4])
.ret)))),[.cell 4 10 true],false,false,false⟩
def F464 : AFunc := ⟨1,(.seq
(.region [sS 1 (.box 1 1 (tT 0)),sS 2 (.mov (.val (.tl []))),sS 3 (.mov (zZ 0))] [1] [1])
(.seq
(.seq
(.region [sS 8 (.load 1 true (tT 1)),sS 9 (.call (.val (.func 473 [])) [(tT 8)]),sS 4 (.mov (tT 9))] [1,4] [1])
(.seq
(.region [sS 10 (.mov (tT 4)),sS 11 (.bin .neq (tT 10) (zZ 0))] [1,4,11] [1])
(.cond (tT 11)
(.seq
(.region [sS 12 (.mov (tT 4)),sS 2 (.mov (.val (.tl []))),sS 3 (.mov (tT 12))] [2,3] [])
.ret)
.skip)))
(.seq
(.region [sS 5 (.mov (.val (.tl [])))] [1,5] [1])
(.seq
(.seq
(.region [sS 13 (.load 1 true (tT 1)),sS 14 (.call (.val (.func 474 [])) [(tT 13)]),sS 15 (.len 0 (tT 14)),sS 16 (.mov (zZ 0))] [5,14,15,16] [])
(.block 0
(.loop
(.mask [5,14,15,16] []
(.seq
(.region [sS 17 (.bin .lss (tT 16) (tT 15))] [5,14,15,16,17] [])
(.seq
(.cond (tT 17)
.skip
(.exit 0))
(.seq
(.block 1
(.seq
(.region [sS 18 (.idx 1 (tT 14) (tT 16)),sS 19 (.load 1 false (tT 18)),sS 7 (.mov (tT 19))] [5,7,14,15,16] [])
(.region [sS 20 (.mov (tT 5)),sS 21 (.mov (tT 7)),sS 22 (.bin .gtr (tT 21) (zZ 0)),sS 23 (.lit 1 [.pv (.bool false)] 1 [(0,1,(tT 22))]),sS 24 (.app 1 (tT 20) (tT 23)),sS 5 (.mov (tT 24))] [5,14,15,16] [])))
(.region [sS 25 (.bin .add (tT 16) (zZ 1)),sS 16 (.mov (tT 25))] [5,14,15,16] []))))))))
(.seq
(.region [sS 26 (.mov (tT 5)),sS 2 (.mov (tT 26)),sS 3 (.mov (zZ 0))] [2,3] [])
.ret))))),[.tmp 2,.tmp 3],false,false,false⟩
def F465 : AFunc := ⟨2,(.seq
(.region [sS 4 (.mov (bB false))] [0,1] [])
(.seq
(.region [sS 5 (.mov (tT 0)),sS 6 (.mov (tT 1)),sS 7 (.call (.val (.func 475 [])) [(tT 5),(tT 6)]),sS 8 (.bin .geq (tT 7) (zZ 0)),sS 4 (.mov (tT 8))] [4] [])
.ret)),[.tmp 4],false,false,false⟩
def F466 : AFunc := ⟨2,(.seq
(.region [sS 2 (.box 2 1 (tT 0)),sS 3 (.box 3 5 (tT 1)),sS 4 (.mov (zZ 0))] [2,3] [2,3])
(.seq
(.seq
(.region [sS 17 (.fld 1 (tT 3)),sS 18 (.load 1 false (tT 17)),sS 19 (.len 0 (tT 18)),sS 20 (.bin .gtr (tT 19) (zZ 16))] [2,3,20] [2,3])
(.cond (tT 20)
(.seq
(.region [sS 4 (.mov (zZ 3))] [4] [])
.ret)
.skip))
(.seq
(.region [sS 21 (.mkmap),sS 5 (.mov (tT 21))] [2,3,5] [2,3])
(.seq
(.region [sS 6 (.mov (zZ 0))] [2,3,5,6] [2,3])
(.seq
(.seq
(.region [sS 22 (.fld 1 (tT 3)),sS 23 (.load 1 false (tT 22)),sS 24 (.len 0 (tT 23)),sS 25 (.mov (zZ 0))] [2,3,5,6,23,24,25] [2,3])
(.block 0
(.loop
(.mask [2,3,5,6,23,24,25] [2,3]
(.seq
(.region [sS 26 (.bin .lss (tT 25) (tT 24))] [2,3,5,6,23,24,25,26] [2,3])
(.seq
(.cond (tT 26)
.skip
(.exit 0))
(.seq
(.block 1
(.seq
(.region [sS 27 (.idx 3 (tT 23) (tT 25)),sS 28 (.load 3 true (tT 27)),⟨some 8,.alloc 8 [pZ,.pv (.str ⟨#[]⟩),pZ],none⟩,nN (.store 3 (tT 8) (tT 28))] [2,3,5,6,8,23,24,25] [2,3,8])
(.seq
(.seq
(.region [sS 29 (.fld 0 (tT 8)),sS 30 (.load 1 false (tT 29)),sS 31 (.mov (tT 6)),sS 32 (.bin .leq (tT 30) (tT 31)),sS 33 (.mov (tT 32)),gG 34 (.fld 0 (tT 8)) 33 false,gG 35 (.load 1 false (tT 34)) 33 false,gG 36 (.bin .gtr (tT 35) (zZ 1000)) 33 false,sS 37 (.pick (tT 33) (bB true) (tT 36)),sS 38 (.mov (tT 37)),gG 39 (.fld 1 (tT 8)) 38 false,gG 40 (.load 1 false (tT 39)) 38 false,gG 41 (.call (.val (.func 306 [])) [(tT 40)]) 38 false,gG 42 (.un .not (tT 41)) 38 false,sS 43 (.pick (tT 38) (bB true) (tT 42)),sS 44 (.mov (tT 43)),gG 45 (.mov (tT 5)) 44 false,gG 46 (.fld 1 (tT 8)) 44 false,gG 47 (.load 1 false (tT 46)) 44 false,gG 48 (.look false [2] (.pv (.bool false)) (tT 45) (tT 47) false) 44 false,sS 49 (.pick (tT 44) (bB true) (tT 48))] [2,3,5,8,23,24,25,49] [2,3,8])
(.cond (tT 49)
(.seq
(.region [sS 4 (.mov (zZ 1))] [4] [])
.ret)
.skip))
(.seq
(.region [sS 50 (.mov (tT 5)),sS 51 (.fld 1 (tT 8)),sS 52 (.load 1 false (tT 51)),nN (.upd false [2] (tT 50) (tT 52) (bB true))] [2,3,5,8,23,24,25] [2,3,8])
(.region [sS 53 (.fld 0 (tT 8)),sS 54 (.load 1 false (tT 53)),sS 6 (.mov (tT 54))] [2,3,5,6,23,24,25] [2,3])))))
(.region [sS 55 (.bin .add (tT 25) (zZ 1)),sS 25 (.mov (tT 55))] [2,3,5,6,23,24,25] [2,3]))))))))
(.seq
(.seq
(.region [sS 56 (.fld 0 (tT 3)),sS 57 (.load 1 false (tT 56)),sS 58 (.call (.val (.func 306 [])) [(tT 57)]),sS 59 (.un .not (tT 58))] [2,3,59] [2,3])
(.cond (tT 59)
(.seq
(.region [sS 4 (.mov (zZ 1))] [4] [])
.ret)
.skip))
(.seq
(.seq
(.region [sS 60 (.fld 1 (tT 3)),sS 61 (.load 1 false (tT 60)),sS 62 (.len 0 (tT 61)),sS 63 (.mov (zZ 0))] [2,3,61,62,63] [2,3])
(.block 2
(.loop
(.mask [2,3,61,62,63] [2,3]
(.seq
(.region [sS 64 (.bin .lss (tT 63) (tT 62))] [2,3,61,62,63,64] [2,3])
(.seq
(.cond (tT 64)
.skip
(.exit 2))
(.seq
(.block 3
(.seq
(.region [sS 65 (.idx 3 (tT 61) (tT 63)),sS 66 (.load 3 true (tT 65)),⟨some 10,.alloc 10 [pZ,.pv (.str ⟨#[]⟩),pZ],none⟩,nN (.store 3 (tT 10) (tT 66))] [2,3,10,61,62,63] [2,3,10])
(.seq
(.region [sS 67 (.fld 2 (tT 10)),sS 68 (.load 1 false (tT 67)),sS 69 (.bin .lss (tT 68) (zZ 0)),sS 70 (.mov (tT 69)),gG 71 (.fld 2 (tT 10)) 70 false,gG 72 (.load 1 false (tT 71)) 70 false,gG 73 (.fld 0 (tT 2)) 70 false,gG 74 (.load 1 false (tT 73)) 70 false,gG 75 (.len 0 (tT 74)) 70 false,gG 76 (.bin .geq (tT 72) (tT 75)) 70 false,sS 77 (.pick (tT 70) (bB true) (tT 76))] [2,3,61,62,63,77] [2,3])
(.cond (tT 77)
(.seq
(.region [sS 4 (.mov (zZ 4))] [4] [])
.ret)
.skip))))
(.region [sS 78 (.bin .add (tT 63) (zZ 1)),sS 63 (.mov (tT 78))] [2,3,61,62,63] [2,3]))))))))
(.seq
(.region [sS 80 (.fld 2 (tT 3)),sS 81 (.load 3 true (tT 80)),sS 82 (.call (.val (.func 32 [])) [(tT 81)]),sS 79 (.mov (tT 82)),sS 83 (.ext (tT 79) 0),sS 84 (.ext (tT 79) 1),sS 11 (.alloc 11 [pZ,pZ,.tl []]),nN (.store 3 (tT 11) (tT 83)),sS 12 (.mov (tT 84))] [3,11,12] [3,11])
(.seq
(.seq
(.region [sS 85 (.mov (tT 12)),sS 86 (.bin .neq (tT 85) (zZ 0))] [3,11,12,86] [3,11])
(.cond (tT 86)
(.seq
(.region [sS 87 (.mov (tT 12)),sS 4 (.mov (tT 87))] [4] [])
.ret)
.skip))
(.seq
(.seq
(.region [sS 88 (.fld 2 (tT 3)),sS 89 (.fld 2 (tT 88)),sS 90 (.load 1 false (tT 89)),sS 91 (.len 0 (tT 90)),sS 92 (.mov (zZ 0))] [3,11,90,91,92] [3,11])
(.block 4
(.loop
(.mask [3,11,90,91,92] [3,11]
(.seq
(.region [sS 93 (.bin .lss (tT 92) (tT 91))] [3,11,90,91,92,93] [3,11])
(.seq
(.cond (tT 93)
.skip
(.exit 4))
(.seq
(.block 5
(.seq
(.region [sS 94 (.idx 4 (tT 90) (tT 92)),sS 95 (.load 4 true (tT 94)),sS 14 (.alloc 14 [pZ,.pv (.bool false),pZ,pZ]),nN (.store 4 (tT 14) (tT 95))] [3,11,14,90,91,92] [3,11,14])
(.seq
(.region [sS 97 (.load 5 true (tT 3)),sS 98 (.fld 2 (tT 14)),sS 99 (.load 1 false (tT 98)),sS 100 (.call (.val (.func 476 [])) [(tT 97),(tT 99)]),sS 96 (.mov (tT 100)),sS 101 (.ext (tT 96) 0),sS 102 (.ext (tT 96) 1),⟨some 15,.alloc 15 [pZ,.pv (.str ⟨#[]⟩),pZ],none⟩,nN (.store 3 (tT 15) (tT 101)),sS 16 (.mov (tT 102))] [3,11,16,90,91,92] [3,11])
(.seq
(.region [sS 103 (.mov (tT 16)),sS 104 (.un .not (tT 103))] [3,11,90,91,92,104] [3,11])
(.cond (tT 104)
(.seq
(.region [sS 4 (.mov (zZ 4))] [4] [])
.ret)
.skip)))))
(.region [sS 105 (.bin .add (tT 92) (zZ 1)),sS 92 (.mov (tT 105))] [3,11,90,91,92] [3,11]))))))))
(.seq
(.seq
(.region [sS 106 (.fld 0 (tT 11)),sS 107 (.load 1 false (tT 106)),sS 108 (.fld 2 (tT 3)),sS 109 (.fld 0 (tT 108)),sS 110 (.load 1 false (tT 109)),sS 111 (.bin .lss (tT 107) (tT 110))] [111] [])
(.cond (tT 111)
(.seq
(.region [sS 4 (.mov (zZ 1))] [4] [])
.ret)
.skip))
(.seq
(.region [sS 4 (.mov (zZ 0))] [4] [])
.ret)))))))))))),[.tmp 4],false,false,false⟩
def F468 : AFunc := ⟨3,(.seq
(.region [sS 3 (.box 3 2 (tT 0)),sS 4 (.box 4 2 (tT 1)),sS 6 (.mov (bB false))] [2,3,4] [3,4])
(.seq
(.draw [(sS 7 (.load 2 true (tT 3)),[]),(sS 8 (.call (.val (.func 477 [])) [(tT 7)]),[]),(sS 9 (.bin .eql (tT 8) (zZ 0)),[]),(sS 10 (.mov (tT 9)),[]),(gG 11 (.load 2 true (tT 4)) 10 true,[]),(gG 12 (.call (.val (.func 477 [])) [(tT 11)]) 10 true,[]),(gG 13 (.bin .eql (tT 12) (zZ 0)) 10 true,[]),(sS 14 (.pick (tT 10) (tT 13) (bB false)),[]),(sS 15 (.mov (tT 14)),[]),(gG 16 (.fld 0 (tT 3)) 15 true,[]),(gG 17 (.load 1 true (tT 16)) 15 true,[]),(gG 18 (.fld 0 (tT 4)) 15 true,[]),(gG 19 (.load 1 true (tT 18)) 15 true,[]),(gG 20 (.mov (tT 2)) 15 true,[]),(gG 21 (.call (.val (.func 478 [])) [(tT 17),(tT 19),(tT 20)]) 15 true,[]),(gG 22 (.fld 1 (tT 3)) 15 true,[]),(gG 23 (.load 1 false (tT 22)) 15 true,[14]),(gG 24 (.idx 1 (tT 21) (tT 23)) 15 true,[]),(gG 25 (.load 1 false (tT 24)) 15 true,[]),(gG 26 (.fld 1 (tT 4)) 15 true,[]),(gG 27 (.load 1 false (tT 26)) 15 true,[14]),(gG 28 (.idx 1 (tT 25) (tT 27)) 15 true,[]),(gG 29 (.load 1 false (tT 28)) 15 true,[]),(sS 30 (.pick (tT 15) (tT 29) (bB false)),[]),(sS 6 (.mov (tT 30)),[])] [6] [])
.ret)),[.tmp 6],false,false,false⟩
def F473 : AFunc := ⟨1,(.seq
(.region [sS 1 (.box 1 1 (tT 0)),sS 2 (.mov (zZ 0))] [1] [1])
(.seq
(.seq
(.region [sS 7 (.load 1 true (tT 1)),sS 8 (.call (.val (.func 267 [])) [(tT 7)]),sS 3 (.mov (tT 8))] [1,3] [1])
(.seq
(.region [sS 9 (.mov (tT 3)),sS 10 (.bin .neq (tT 9) (zZ 0))] [1,3,10] [1])
(.cond (tT 10)
(.seq
(.region [sS 11 (.mov (tT 3)),sS 2 (.mov (tT 11))] [2] [])
.ret)
.skip)))
(.seq
(.region [sS 13 (.load 1 true (tT 1)),sS 14 (.call (.val (.func 484 [])) [(tT 13)]),sS 12 (.mov (tT 14)),sS 15 (.ext (tT 12) 0),sS 16 (.ext (tT 12) 1),sS 17 (.ext (tT 12) 2),sS 4 (.mov (tT 15)),sS 5 (.mov (tT 16)),sS 6 (.mov (tT 17))] [6] [])
(.seq
(.region [sS 18 (.mov (tT 6)),sS 2 (.mov (tT 18))] [2] [])
.ret)))),[.tmp 2],false,false,false⟩
def F474 : AFunc := ⟨1,(.seq
(.region [sS 1 (.box 1 1 (tT 0)),sS 2 (.mov (.val (.tl [])))] [1] [1])
(.seq
(.region [sS 8 (.fld 0 (tT 1)),sS 9 (.load 1 false (tT 8)),sS 10 (.len 0 (tT 9)),sS 11 (.make 1 [pZ] (tT 10) (tT 10)),sS 3 (.mov (tT 11))] [1,3] [1])
(.seq
(.seq
(.region [sS 4 (.mov (bB true))] [1,3,4] [1])
(.block 0
(.loop
(.mask [1,3,4] [1]
(.seq
(.seq
(.region [sS 12 (.mov (tT 4))] [1,3,12] [1])
(.cond (tT 12)
.skip
(.exit 0)))
(.block 1
(.seq
(.region [sS 4 (.mov (bB false))] [1,3,4] [1])
(.seq
(.region [sS 13 (.fld 0 (tT 1)),sS 14 (.load 1 false (tT 13)),sS 15 (.len 0 (tT 14)),sS 16 (.mov (zZ 0))] [1,3,4,14,15,16] [1])
(.block 2
(.loop
(.mask [1,3,4,14,15,16] [1]
(.seq
(.region [sS 17 (.bin .lss (tT 16) (tT 15))] [1,3,4,14,15,16,17] [1])
(.seq
(.cond (tT 17)
.skip
(.exit 2))
(.seq
(.block 3
(.seq
(.region [sS 18 (.mov (tT 16)),sS 19 (.idx 10 (tT 14) (tT 16)),sS 20 (.load 10 true (tT 19)),⟨some 6,.alloc 6 [pZ,.pv (.str ⟨#[]⟩),pZ,pZ,pZ,.tl [],.tl [],pZ,pZ,.pv (.bool false)],none⟩,sS 5 (.mov (tT 18)),nN (.store 10 (tT 6) (tT 20))] [1,3,4,5,6,14,15,16] [1,6])
(.seq
(.region [sS 21 (.load 10 true (tT 6)),sS 22 (.mov (tT 3)),sS 23 (.call (.val (.func 485 [])) [(tT 21),(tT 22)]),sS 24 (.minmax false [(zZ 2),(tT 23)]),sS 7 (.mov (tT 24))] [1,3,4,5,7,14,15,16] [1])
(.seq
(.region [sS 25 (.mov (tT 7)),sS 26 (.mov (tT 3)),sS 27 (.mov (tT 5)),sS 28 (.idx 1 (tT 26) (tT 27)),sS 29 (.load 1 false (tT 28)),sS 30 (.bin .neq (tT 25) (tT 29))] [1,3,4,5,7,14,15,16,30] [1])
(.cond (tT 30)
(.region [sS 31 (.mov (tT 3)),sS 32 (.mov (tT 5)),sS 33 (.mov (tT 7)),sS 34 (.idx 1 (tT 31) (tT 32)),nN (.store 1 (tT 34) (tT 33)),sS 4 (.mov (bB true))] [1,3,4,14,15,16] [1])
.skip)))))
(.region [sS 35 (.bin .add (tT 16) (zZ 1)),sS 16 (.mov (tT 35))] [1,3,4,14,15,16] [1])))))))))))))))
(.seq
(.region [sS 36 (.mov (tT 3)),sS 2 (.mov (tT 36))] [2] [])
.ret)))),[.tmp 2],false,false,false⟩
def F475 : AFunc := ⟨2,(.seq
(.region [sS 4 (.mov (zZ 0))] [0,1] [])
(.seq
(.seq
(.region [sS 6 (.mov (tT 0)),sS 7 (.len 0 (tT 6)),sS 8 (.mov (zZ 0))] [0,1,7,8] [])
(.block 0
(.loop
(.mask [0,1,7,8] []
(.seq
(.region [sS 9 (.bin .lss (tT 8) (tT 7))] [0,1,7,8,9] [])
(.seq
(.cond (tT 9)
.skip
(.exit 0))
(.seq
(.block 1
(.seq
(.region [sS 10 (.mov (tT 8)),sS 5 (.mov (tT 10))] [0,1,5,7,8] [])
(.seq
(.region [sS 11 (.mov (tT 1)),sS 12 (.mov (tT 0)),sS 13 (.mov (tT 5)),sS 14 (.idx 1 (tT 12) (tT 13)),sS 15 (.load 1 false (tT 14)),sS 16 (.bin .eql (tT 11) (tT 15))] [0,1,5,7,8,16] [])
(.cond (tT 16)
(.seq
(.region [sS 17 (.mov (tT 5)),sS 4 (.mov (tT 17))] [4] [])
.ret)
.skip))))
(.region [sS 18 (.bin .add (tT 8) (zZ 1)),sS 8 (.mov (tT 18))] [0,1,7,8] []))))))))
(.seq
(.region [sS 4 (.mov (.val (.pv (.int .i64 (-1)))))] [4] [])
.ret))),[.tmp 4],false,false,false⟩
def F476 : AFunc := ⟨2,(.seq
(.region [sS 2 (.box 2 5 (tT 0)),sS 3 (.box 3 1 (tT 1)),⟨some 4,.alloc 4 [pZ,.pv (.str ⟨#[]⟩),pZ],none⟩,sS 5 (.mov (bB false))] [2,3,4] [2,3,4])
(.seq
(.region [sS 7 (.fld 1 (tT 2)),sS 8 (.load 1 false (tT 7)),sS 9 (.clos 487 [(tT 3)]),sS 10 (.call (.val (.func 486 [])) [(tT 8),(tT 9)]),sS 6 (.mov (tT 10))] [2,4,6] [2,4])
(.seq
(.seq
(.region [sS 11 (.mov (tT 6)),sS 12 (.bin .lss (tT 11) (zZ 0))] [2,4,6,12] [2,4])
(.cond (tT 12)
(.seq
(.region [⟨some 13,.build [pZ,.pv (.str ⟨#[]⟩),pZ] [],none⟩,nN (.store 3 (tT 4) (tT 13)),sS 5 (.mov (bB false))] [4,5] [4])
.ret)
.skip))
(.seq
(.region [sS 14 (.fld 1 (tT 2)),sS 15 (.load 1 false (tT 14)),sS 16 (.mov (tT 6)),sS 17 (.idx 3 (tT 15) (tT 16)),sS 18 (.load 3 true (tT 17)),nN (.store 3 (tT 4) (tT 18)),sS 5 (.mov (bB true))] [4,5] [4])
.ret)))),[.cell 4 3 true,.tmp 5],false,false,false⟩
def F477 : AFunc := ⟨1,(.seq
(.region [sS 1 (.box 1 2 (tT 0)),sS 2 (.mov (zZ 0))] [1] [1])
(.seq
(.seq
(.region [sS 4 (.fld 0 (tT 1)),sS 5 (.load 1 true (tT 4)),sS 6 (.call (.val (.func 267 [])) [(tT 5)]),sS 3 (.mov (tT 6))] [1,3] [1])
(.seq
(.region [sS 7 (.mov (tT 3)),sS 8 (.bin .neq (tT 7) (zZ 0))] [1,3,8] [1])
(.cond (tT 8)
(.seq
(.region [sS 9 (.mov (tT 3)),sS 2 (.mov (tT 9))] [2] [])
.ret)
.skip)))
(.seq
(.seq
(.region [sS 10 (.fld 1 (tT 1)),sS 11 (.load 1 false (tT 10)),sS 12 (.bin .lss (tT 11) (zZ 0)),sS 13 (.mov (tT 12)),gG 14 (.fld 1 (tT 1)) 13 false,gG 15 (.load 1 false (tT 14)) 13 false,gG 16 (.fld 0 (tT 1)) 13 false,gG 17 (.fld 0 (tT 16)) 13 false,gG 18 (.load 1 false (tT 17)) 13 false,gG 19 (.len 0 (tT 18)) 13 false,gG 20 (.bin .geq (tT 15) (tT 19)) 13 false,sS 21 (.pick (tT 13) (bB true) (tT 20))] [21] [])
(.cond (tT 21)
(.seq
(.region [sS 2 (.mov (zZ 4))] [2] [])
.ret)
.skip))
(.seq
(.region [sS 2 (.mov (zZ 0))] [2] [])
.ret)))),[.tmp 2],false,false,false⟩
def F478 : AFunc := ⟨3,(.seq
(.region [sS 3 (.box 3 1 (tT 0)),sS 4 (.box 4 1 (tT 1)),sS 6 (.mov (.val (.tl [])))] [2,3,4] [3,4])
(.seq
(.region [sS 17 (.fld 0 (tT 3)),sS 18 (.load 1 false (tT 17)),sS 19 (.len 0 (tT 18)),sS 20 (.make 1 [.tl []] (tT 19) (tT 19)),sS 7 (.alloc 7 [.tl []]),nN (.store 1 (tT 7) (tT 20))] [2,3,4,7] [3,4,7])
(.seq
(.seq
(.region [sS 21 (.fld 0 (tT 3)),sS 22 (.load 1 false (tT 21)),sS 23 (.len 0 (tT 22)),sS 24 (.mov (zZ 0))] [2,3,4,7,22,23,24] [3,4,7])
(.block 0
(.loop
(.mask [2,3,4,7,22,23,24] [3,4,7]
(.seq
(.region [sS 25 (.bin .lss (tT 24) (tT 23))] [2,3,4,7,22,23,24,25] [3,4,7])
(.seq
(.cond (tT 25)
.skip
(.exit 0))
(.seq
(.block 1
(.seq
(.region [sS 26 (.mov (tT 24)),sS 27 (.idx 10 (tT 22) (tT 24)),sS 28 (.load 10 true (tT 27)),⟨some 9,.alloc 9 [pZ,.pv (.str ⟨#[]⟩),pZ,pZ,pZ,.tl [],.tl [],pZ,pZ,.pv (.bool false)],none⟩,sS 8 (.mov (tT 26)),nN (.store 10 (tT 9) (tT 28))] [2,3,4,7,8,9,22,23,24] [3,4,7,9])
(.seq
(.region [sS 29 (.fld 0 (tT 4)),sS 30 (.load 1 false (tT 29)),sS 31 (.len 0 (tT 30)),sS 32 (.mov (zZ 0))] [2,3,4,7,8,9,22,23,24,30,31,32] [3,4,7,9])
(.block 2
(.loop
(.mask [2,3,4,7,8,9,22,23,24,30,31,32] [3,4,7,9]
(.seq
(.region [sS 33 (.bin .lss (tT 32) (tT 31))] [2,3,4,7,8,9,22,23,24,30,31,32,33] [3,4,7,9])
(.seq
(.cond (tT 33)
.skip
(.exit 2))
(.seq
(.block 3
(.seq
(.region [sS 34 (.idx 10 (tT 30) (tT 32)),sS 35 (.load 10 true (tT 34)),⟨some 11,.alloc 11 [pZ,.pv (.str ⟨#[]⟩),pZ,pZ,pZ,.tl [],.tl [],pZ,pZ,.pv (.bool false)],none⟩,nN (.store 10 (tT 11) (tT 35))] [2,3,4,7,8,9,11,22,23,24,30,31,32] [3,4,7,9,11])
(.draw [(sS 36 (.load 1 false (tT 7)),[]),(sS 37 (.mov (tT 8)),[]),(sS 38 (.load 1 false (tT 7)),[]),(sS 39 (.mov (tT 8)),[]),(sS 40 (.idx 1 (tT 38) (tT 39)),[]),(sS 41 (.load 1 false (tT 40)),[]),(sS 42 (.load 10 true (tT 9)),[]),(sS 43 (.load 10 true (tT 11)),[]),(sS 44 (.mov (tT 2)),[]),(sS 45 (.call (.val (.func 488 [])) [(tT 42),(tT 43),(tT 44)]),[0,2,4,5]),(sS 46 (.lit 1 [.pv (.bool false)] 1 [(0,1,(tT 45))]),[0,2,4,5]),(sS 47 (.app 1 (tT 41) (tT 46)),[0]),(sS 48 (.idx 1 (tT 36) (tT 37)),[]),(nN (.store 1 (tT 48) (tT 47)),[])] [2,3,4,7,8,9,22,23,24,30,31,32] [3,4,7,9])))
(.region [sS 49 (.bin .add (tT 32) (zZ 1)),sS 32 (.mov (tT 49))] [2,3,4,7,8,9,22,23,24,30,31,32] [3,4,7,9]))))))))))
(.region [sS 50 (.bin .add (tT 24) (zZ 1)),sS 24 (.mov (tT 50))] [2,3,4,7,22,23,24] [3,4,7]))))))))
(.seq
(.seq
(.region [sS 12 (.mov (bB true))] [3,4,7,12] [3,4,7])
(.block 4
(.loop
(.mask [3,4,7,12] [3,4,7]
(.seq
(.seq
(.region [sS 51 (.mov (tT 12))] [3,4,7,51] [3,4,7])
(.cond (tT 51)
.skip
(.exit 4)))
(.block 5
(.seq
(.region [sS 12 (.mov (bB false))] [3,4,7,12] [3,4,7])
(.seq
(.region [sS 52 (.fld 0 (tT 3)),sS 53 (.load 1 false (tT 52)),sS 54 (.len 0 (tT 53)),sS 55 (.mov (zZ 0))] [3,4,7,12,53,54,55] [3,4,7])
(.block 6
(.loop
(.mask [3,4,7,12,53,54,55] [3,4,7]
(.seq
(.region [sS 56 (.bin .lss (tT 55) (tT 54))] [3,4,7,12,53,54,55,56] [3,4,7])
(.seq
(.cond (tT 56)
.skip
(.exit 6))
(.seq
(.block 7
(.seq
(.region [sS 57 (.mov (tT 55)),sS 58 (.idx 10 (tT 53) (tT 55)),sS 59 (.load 10 true (tT 58)),⟨some 14,.alloc 14 [pZ,.pv (.str ⟨#[]⟩),pZ,pZ,pZ,.tl [],.tl [],pZ,pZ,.pv (.bool false)],none⟩,sS 13 (.mov (tT 57)),nN (.store 10 (tT 14) (tT 59))] [3,4,7,12,13,14,53,54,55] [3,4,7,14])
(.seq
(.region [sS 60 (.fld 0 (tT 4)),sS 61 (.load 1 false (tT 60)),sS 62 (.len 0 (tT 61)),sS 63 (.mov (zZ 0))] [3,4,7,12,13,14,53,54,55,61,62,63] [3,4,7,14])
(.block 8
(.loop
(.mask [3,4,7,12,13,14,53,54,55,61,62,63] [3,4,7,14]
(.seq
(.region [sS 64 (.bin .lss (tT 63) (tT 62))] [3,4,7,12,13,14,53,54,55,61,62,63,64] [3,4,7,14])
(.seq
(.cond (tT 64)
.skip
(.exit 8))
(.seq
(.block 9
(.seq
(.region [sS 65 (.mov (tT 63)),sS 66 (.idx 10 (tT 61) (tT 63)),sS 67 (.load 10 true (tT 66)),⟨some 16,.alloc 16 [pZ,.pv (.str ⟨#[]⟩),pZ,pZ,pZ,.tl [],.tl [],pZ,pZ,.pv (.bool false)],none⟩,sS 15 (.mov (tT 65)),nN (.store 10 (tT 16) (tT 67))] [3,4,7,12,13,14,15,16,53,54,55,61,62,63] [3,4,7,14,16])
(.seq
(.draw [(sS 68 (.load 1 false (tT 7)),[]),(sS 69 (.mov (tT 13)),[]),(sS 70 (.idx 1 (tT 68) (tT 69)),[]),(sS 71 (.load 1 false (tT 70)),[]),(sS 72 (.mov (tT 15)),[]),(sS 73 (.idx 1 (tT 71) (tT 72)),[]),(sS 74 (.load 1 false (tT 73)),[]),(sS 75 (.mov (tT 74)),[]),(gG 76 (.load 10 true (tT 14)) 75 true,[]),(gG 77 (.call (.val (.func 490 [])) [(tT 76)]) 75 true,[]),(gG 78 (.load 10 true (tT 16)) 75 true,[9]),(gG 79 (.call (.val (.func 490 [])) [(tT 78)]) 75 true,[]),(gG 80 (.clos 491 [(tT 7)]) 75 true,[]),(gG 81 (.call (.val (.func 489 [])) [(tT 77),(tT 79),(tT 80)]) 75 true,[]),(gG 82 (.un .not (tT 81)) 75 true,[]),(sS 83 (.pick (tT 75) (tT 82) (bB false)),[])] [3,4,7,12,13,14,15,53,54,55,61,62,63,83] [3,4,7,14])
(.cond (tT 83)
(.region [sS 84 (.load 1 false (tT 7)),sS 85 (.mov (tT 13)),sS 86 (.idx 1 (tT 84) (tT 85)),sS 87 (.load 1 false (tT 86)),sS 88 (.mov (tT 15)),sS 89 (.idx 1 (tT 87) (tT 88)),nN (.store 1 (tT 89) (bB false)),sS 12 (.mov (bB true))] [3,4,7,12,13,14,53,54,55,61,62,63] [3,4,7,14])
.skip))))
(.region [sS 90 (.bin .add (tT 63) (zZ 1)),sS 63 (.mov (tT 90))] [3,4,7,12,13,14,53,54,55,61,62,63] [3,4,7,14]))))))))))
(.region [sS 91 (.bin .add (tT 55) (zZ 1)),sS 55 (.mov (tT 91))] [3,4,7,12,53,54,55] [3,4,7])))))))))))))))
(.seq
(.region [sS 92 (.load 1 false (tT 7)),sS 6 (.mov (tT 92))] [6] [])
.ret))))),[.tmp 6],false,false,false⟩
def F484 : AFunc := ⟨1,(.seq
(.region [sS 1 (.box 1 1 (tT 0)),sS 2 (.mov (zZ 0)),sS 3 (.mov (zZ 0)),sS 4 (.mov (zZ 0))] [1] [1])
(.seq
(.seq
(.region [sS 10 (.load 1 true (tT 1)),sS 11 (.call (.val (.func 267 [])) [(tT 10)]),sS 5 (.mov (tT 11))] [1,5] [1])
(.seq
(.region [sS 12 (.mov (tT 5)),sS 13 (.bin .neq (tT 12) (zZ 0))] [1,5,13] [1])
(.cond (tT 13)
(.seq
(.region [sS 14 (.mov (tT 5)),sS 2 (.mov (zZ 0)),sS 3 (.mov (zZ 0)),sS 4 (.mov (tT 14))] [2,3,4] [])
.ret)
.skip)))
(.seq
(.seq
(.region [sS 15 (.fld 0 (tT 1)),sS 16 (.load 1 false (tT 15)),sS 17 (.len 0 (tT 16)),sS 18 (.mov (zZ 0))] [1,16,17,18] [1])
(.block 0
(.loop
(.mask [1,16,17,18] [1]
(.seq
(.region [sS 19 (.bin .lss (tT 18) (tT 17))] [1,16,17,18,19] [1])
(.seq
(.cond (tT 19)
.skip
(.exit 0))
(.seq
(.block 1
(.seq
(.region [sS 20 (.mov (tT 18)),sS 21 (.idx 10 (tT 16) (tT 18)),sS 22 (.load 10 true (tT 21)),⟨some 7,.alloc 7 [pZ,.pv (.str ⟨#[]⟩),pZ,pZ,pZ,.tl [],.tl [],pZ,pZ,.pv (.bool false)],none⟩,sS 6 (.mov (tT 20)),nN (.store 10 (tT 7) (tT 22))] [1,6,7,16,17,18] [1,7])
(.seq
(.region [sS 23 (.fld 6 (tT 7)),sS 24 (.load 1 false (tT 23)),sS 25 (.len 0 (tT 24)),sS 26 (.mov (zZ 0))] [1,6,16,17,18,24,25,26] [1])
(.block 2
(.loop
(.mask [1,6,16,17,18,24,25,26] [1]
(.seq
(.region [sS 27 (.bin .lss (tT 26) (tT 25))] [1,6,16,17,18,24,25,26,27] [1])
(.seq
(.cond (tT 27)
.skip
(.exit 2))
(.seq
(.block 3
(.seq
(.region [sS 28 (.idx 13 (tT 24) (tT 26)),sS 29 (.load 13 true (tT 28)),⟨some 9,.alloc 9 [pZ,.pv (.str ⟨#[]⟩),pZ,.pv (.bool false),.pv (.bool false),pZ,.pv (.bool false),pZ,.pv (.str ⟨#[]⟩),pZ,.tl [],.tl [],.tl []],none⟩,nN (.store 13 (tT 9) (tT 29))] [1,6,9,16,17,18,24,25,26] [1,9])
(.seq
(.region [sS 30 (.fld 4 (tT 9)),sS 31 (.load 1 false (tT 30)),sS 32 (.mov (tT 31)),gG 33 (.load 1 true (tT 1)) 32 true,gG 34 (.fld 2 (tT 9)) 32 true,gG 35 (.load 1 false (tT 34)) 32 true,gG 36 (.fld 5 (tT 9)) 32 true,gG 37 (.load 8 true (tT 36)) 32 true,gG 38 (.call (.val (.func 495 [])) [(tT 33),(tT 35),(tT 37)]) 32 true,gG 39 (.un .not (tT 38)) 32 true,sS 40 (.pick (tT 32) (tT 39) (bB false))] [1,6,9,16,17,18,24,25,26,40] [1,9])
(.cond (tT 40)
(.seq
(.draw [(sS 41 (.mov (tT 6)),[]),(sS 42 (.fld 0 (tT 9)),[]),(sS 43 (.load 1 false (tT 42)),[]),(sS 2 (.mov (tT 41)),[]),(sS 3 (.mov (tT 43)),[]),(sS 4 (.mov (zZ 1)),[])] [2,3,4] [])
.ret)
.skip))))
(.region [sS 44 (.bin .add (tT 26) (zZ 1)),sS 26 (.mov (tT 44))] [1,6,16,17,18,24,25,26] [1]))))))))))
(.region [sS 45 (.bin .add (tT 18) (zZ 1)),sS 18 (.mov (tT 45))] [1,16,17,18] [1]))))))))
(.seq
(.region [sS 2 (.mov (zZ 0)),sS 3 (.mov (zZ 0)),sS 4 (.mov (zZ 0))] [2,3,4] [])
.ret)))),[.tmp 2,.tmp 3,.tmp 4],false,false,false⟩
def F485 : AFunc := ⟨2,(.seq
(.region [sS 2 (.box 2 10 (tT 0)),sS 4 (.mov (zZ 0))] [1,2] [2])
(.seq
(.seq
(.region [sS 11 (.fld 0 (tT 2)),sS 12 (.load 1 false (tT 11))] [1,2,12] [2])
(.block 0
(.seq
(.region [sS 14 (.bin .eql (tT 12) (zZ 2)),sS 13 (.mov (tT 14))] [1,2,12,13] [2])
(.cond (tT 13)
(.seq
(.region [sS 15 (.fld 2 (tT 2)),sS 16 (.load 1 false (tT 15)),sS 17 (.fld 3 (tT 2)),sS 18 (.load 1 false (tT 17)),sS 19 (.bin .eql (tT 16) (tT 18))] [19] [])
(.cond (tT 19)
(.seq
(.region [sS 4 (.mov (zZ 1))] [4] [])
.ret)
.skip))
(.seq
(.region [sS 21 (.bin .eql (tT 12) (zZ 3)),sS 20 (.mov (tT 21))] [1,2,12,20] [2])
(.cond (tT 20)
(.seq
(.region [sS 22 (.fld 4 (tT 2)),sS 23 (.load 1 false (tT 22)),sS 24 (.bin .eql (tT 23) (zZ 0))] [24] [])
(.cond (tT 24)
(.seq
(.region [sS 4 (.mov (zZ 1))] [4] [])
.ret)
.skip))
(.seq
(.region [sS 26 (.bin .eql (tT 12) (zZ 4)),sS 25 (.mov (tT 26))] [1,2,12,25] [2])
(.cond (tT 25)
(.seq
(.region [sS 27 (.fld 5 (tT 2)),sS 28 (.load 1 false (tT 27)),sS 29 (.len 0 (tT 28)),sS 4 (.mov (tT 29))] [4] [])
.ret)
(.seq
(.region [sS 31 (.bin .eql (tT 12) (zZ 5)),sS 30 (.mov (tT 31))] [1,2,12,30] [2])
(.cond (tT 30)
(.seq
(.region [sS 5 (.mov (zZ 1))] [1,2,5] [2])
(.seq
(.seq
(.region [sS 32 (.fld 6 (tT 2)),sS 33 (.load 1 false (tT 32)),sS 34 (.len 0 (tT 33)),sS 35 (.mov (zZ 0))] [1,5,33,34,35] [])
(.block 1
(.loop
(.mask [1,5,33,34,35] []
(.seq
(.region [sS 36 (.bin .lss (tT 35) (tT 34))] [1,5,33,34,35,36] [])
(.seq
(.cond (tT 36)
.skip
(.exit 1))
(.seq
(.block 2
(.seq
(.region [sS 37 (.idx 13 (tT 33) (tT 35)),sS 38 (.load 13 true (tT 37)),⟨some 7,.alloc 7 [pZ,.pv (.str ⟨#[]⟩),pZ,.pv (.bool false),.pv (.bool false),pZ,.pv (.bool false),pZ,.pv (.str ⟨#[]⟩),pZ,.tl [],.tl [],.tl []],none⟩,nN (.store 13 (tT 7) (tT 38))] [1,5,7,33,34,35] [7])
(.region [sS 39 (.mov (tT 5)),sS 40 (.mov (tT 1)),sS 41 (.fld 2 (tT 7)),sS 42 (.load 1 false (tT 41)),sS 43 (.idx 1 (tT 40) (tT 42)),sS 44 (.load 1 false (tT 43)),sS 45 (.bin .mul (tT 39) (tT 44)),sS 46 (.minmax false [(zZ 2),(tT 45)]),sS 5 (.mov (tT 46))] [1,5,33,34,35] [])))
(.region [sS 47 (.bin .add (tT 35) (zZ 1)),sS 35 (.mov (tT 47))] [1,5,33,34,35] []))))))))
(.seq
(.region [sS 48 (.mov (tT 5)),sS 4 (.mov (tT 48))] [4] [])
.ret)))
(.seq
(.region [sS 50 (.bin .eql (tT 12) (zZ 6)),sS 49 (.mov (tT 50))] [1,2,12,49] [2])
(.cond (tT 49)
(.seq
(.region [sS 8 (.mov (zZ 0))] [1,2,8] [2])
(.seq
(.seq
(.region [sS 51 (.fld 6 (tT 2)),sS 52 (.load 1 false (tT 51)),sS 53 (.len 0 (tT 52)),sS 54 (.mov (zZ 0))] [1,8,52,53,54] [])
(.block 3
(.loop
(.mask [1,8,52,53,54] []
(.seq
(.region [sS 55 (.bin .lss (tT 54) (tT 53))] [1,8,52,53,54,55] [])
(.seq
(.cond (tT 55)
.skip
(.exit 3))
(.seq
(.block 4
(.seq
(.region [sS 56 (.idx 13 (tT 52) (tT 54)),sS 57 (.load 13 true (tT 56)),⟨some 10,.alloc 10 [pZ,.pv (.str ⟨#[]⟩),pZ,.pv (.bool false),.pv (.bool false),pZ,.pv (.bool false),pZ,.pv (.str ⟨#[]⟩),pZ,.tl [],.tl [],.tl []],none⟩,nN (.store 13 (tT 10) (tT 57))] [1,8,10,52,53,54] [10])
(.region [sS 58 (.mov (tT 8)),sS 59 (.mov (tT 1)),sS 60 (.fld 2 (tT 10)),sS 61 (.load 1 false (tT 60)),sS 62 (.idx 1 (tT 59) (tT 61)),sS 63 (.load 1 false (tT 62)),sS 64 (.bin .add (tT 58) (tT 63)),sS 8 (.mov (tT 64))] [1,8,52,53,54] [])))
(.region [sS 65 (.bin .add (tT 54) (zZ 1)),sS 54 (.mov (tT 65))] [1,8,52,53,54] []))))))))
(.seq
(.region [sS 66 (.mov (tT 8)),sS 4 (.mov (tT 66))] [4] [])
.ret)))
(.seq
(.region [sS 68 (.bin .eql (tT 12) (zZ 7)),sS 67 (.mov (tT 68))] [1,2,12,67] [2])
(.cond (tT 67)
(.seq
(.region [sS 69 (.fld 4 (tT 2)),sS 70 (.load 1 false (tT 69)),sS 71 (.bin .eql (tT 70) (zZ 0)),sS 72 (.mov (tT 71)),gG 73 (.mov (tT 1)) 72 false,gG 74 (.fld 8 (tT 2)) 72 false,gG 75 (.load 1 false (tT 74)) 72 false,gG 76 (.idx 1 (tT 73) (tT 75)) 72 false,gG 77 (.load 1 false (tT 76)) 72 false,gG 78 (.bin .eql (tT 77) (zZ 0)) 72 false,sS 79 (.pick (tT 72) (bB true) (tT 78))] [79] [])
(.cond (tT 79)
(.seq
(.region [sS 4 (.mov (zZ 1))] [4] [])
.ret)
.skip))
(.seq
(.region [sS 81 (.bin .eql (tT 12) (zZ 8)),sS 80 (.mov (tT 81))] [1,2,12,80] [2])
(.cond (tT 80)
(.seq
(.region [sS 82 (.fld 4 (tT 2)),sS 83 (.load 1 false (tT 82)),sS 84 (.bin .eql (tT 83) (zZ 0)),sS 85 (.mov (tT 84)),gG 86 (.mov (tT 1)) 85 false,gG 87 (.fld 8 (tT 2)) 85 false,gG 88 (.load 1 false (tT 87)) 85 false,gG 89 (.idx 1 (tT 86) (tT 88)) 85 false,gG 90 (.load 1 false (tT 89)) 85 false,gG 91 (.bin .eql (tT 90) (zZ 0)) 85 false,sS 92 (.pick (tT 85) (bB true) (tT 91)),sS 93 (.mov (tT 92)),gG 94 (.mov (tT 1)) 93 false,gG 95 (.fld 7 (tT 2)) 93 false,gG 96 (.load 1 false (tT 95)) 93 false,gG 97 (.idx 1 (tT 94) (tT 96)) 93 false,gG 98 (.load 1 false (tT 97)) 93 false,gG 99 (.bin .eql (tT 98) (zZ 0)) 93 false,sS 100 (.pick (tT 93) (bB true) (tT 99))] [100] [])
(.cond (tT 100)
(.seq
(.region [sS 4 (.mov (zZ 1))] [4] [])
.ret)
.skip))
(.seq
(.region [sS 102 (.bin .eql (tT 12) (zZ 9)),sS 101 (.mov (tT 102))] [1,2,101] [2])
(.cond (tT 101)
(.seq
(.region [sS 103 (.mov (tT 1)),sS 104 (.fld 8 (tT 2)),sS 105 (.load 1 false (tT 104)),sS 106 (.idx 1 (tT 103) (tT 105)),sS 107 (.load 1 false (tT 106)),sS 108 (.bin .add (zZ 1) (tT 107)),sS 4 (.mov (tT 108))] [4] [])
.ret)
.skip))))))))))))))))))
(.seq
(.region [sS 4 (.mov (zZ 2))] [4] [])
.ret))),[.tmp 4],false,false,false⟩
def F486 : AFunc := ⟨2,(.seq
(.region [sS 4 (.mov (zZ 0))] [0,1] [])
(.seq
(.seq
(.region [sS 6 (.mov (tT 0)),sS 7 (.len 0 (tT 6)),sS 8 (.mov (zZ 0))] [0,1,7,8] [])
(.block 0
(.loop
(.mask [0,1,7,8] []
(.seq
(.region [sS 9 (.bin .lss (tT 8) (tT 7))] [0,1,7,8,9] [])
(.seq
(.cond (tT 9)
.skip
(.exit 0))
(.seq
(.block 1
(.seq
(.region [sS 10 (.mov (tT 8)),sS 5 (.mov (tT 10))] [0,1,5,7,8] [])
(.seq
(.region [sS 11 (.mov (tT 1)),sS 12 (.mov (tT 0)),sS 13 (.mov (tT 5)),sS 14 (.idx 3 (tT 12) (tT 13)),sS 15 (.load 3 true (tT 14)),sS 16 (.call (tT 11) [(tT 15)])] [0,1,5,7,8,16] [])
(.cond (tT 16)
(.seq
(.region [sS 17 (.mov (tT 5)),sS 4 (.mov (tT 17))] [4] [])
.ret)
.skip))))
(.region [sS 18 (.bin .add (tT 8) (zZ 1)),sS 8 (.mov (tT 18))] [0,1,7,8] []))))))))
(.seq
(.region [sS 4 (.mov (.val (.pv (.int .i64 (-1)))))] [4] [])
.ret))),[.tmp 4],false,false,false⟩
def F487 : AFunc := ⟨2,(.seq
(.region [sS 2 (.box 2 3 (tT 0)),sS 3 (.mov (bB false))] [1,2] [2])
(.seq
(.region [sS 4 (.fld 0 (tT 2)),sS 5 (.load 1 false (tT 4)),sS 6 (.load 1 false (tT 1)),sS 7 (.bin .eql (tT 5) (tT 6)),sS 3 (.mov (tT 7))] [3] [])
.ret)),[.tmp 3],false,false,false⟩
def F488 : AFunc := ⟨3,(.seq
(.region [sS 3 (.box 3 10 (tT 0)),sS 4 (.box 4 10 (tT 1)),sS 5 (.box 5 1 (tT 2)),sS 6 (.mov (bB false))] [3,4,5] [3,4,5])
(.seq
(.seq
(.region [sS 7 (.fld 0 (tT 3)),sS 8 (.load 1 false (tT 7)),sS 9 (.fld 0 (tT 4)),sS 10 (.load 1 false (tT 9)),sS 11 (.bin .neq (tT 8) (tT 10)),sS 12 (.mov (tT 11)),gG 13 (.fld 2 (tT 3)) 12 false,gG 14 (.load 1 false (tT 13)) 12 false,gG 15 (.fld 2 (tT 4)) 12 false,gG 16 (.load 1 false (tT 15)) 12 false,gG 17 (.bin .neq (tT 14) (tT 16)) 12 false,sS 18 (.pick (tT 12) (bB true) (tT 17)),sS 19 (.mov (tT 18)),gG 20 (.fld 3 (tT 3)) 19 false,gG 21 (.load 1 false (tT 20)) 19 false,gG 22 (.fld 3 (tT 4)) 19 false,gG 23 (.load 1 false (tT 22)) 19 false,gG 24 (.bin .neq (tT 21) (tT 23)) 19 false,sS 25 (.pick (tT 19) (bB true) (tT 24)),sS 26 (.mov (tT 25)),gG 27 (.fld 4 (tT 3)) 26 false,gG 28 (.load 1 false (tT 27)) 26 false,gG 29 (.fld 4 (tT 4)) 26 false,gG 30 (.load 1 false (tT 29)) 26 false,gG 31 (.bin .neq (tT 28) (tT 30)) 26 false,sS 32 (.pick (tT 26) (bB true) (tT 31)),sS 33 (.mov (tT 32)),gG 34 (.fld 9 (tT 3)) 33 false,gG 35 (.load 1 false (tT 34)) 33 false,gG 36 (.fld 9 (tT 4)) 33 false,gG 37 (.load 1 false (tT 36)) 33 false,gG 38 (.eqa false [0] true (tT 35) (tT 37)) 33 false,sS 39 (.pick (tT 33) (bB true) (tT 38)),sS 40 (.mov (tT 39)),gG 41 (.load 1 false (tT 5)) 40 false,gG 42 (.mov (tT 41)) 40 false,gG 43 (.fld 1 (tT 3)) 42 true,gG 44 (.load 1 false (tT 43)) 42 true,gG 45 (.fld 1 (tT 4)) 42 true,gG 46 (.load 1 false (tT 45)) 42 true,gG 47 (.bin .neq (tT 44) (tT 46)) 42 true,gG 48 (.pick (tT 42) (tT 47) (bB false)) 40 false,sS 49 (.pick (tT 40) (bB true) (tT 48))] [3,4,5,49] [3,4,5])
(.cond (tT 49)
(.seq
(.region [sS 6 (.mov (bB false))] [6] [])
.ret)
.skip))
(.seq
(.region [sS 50 (.fld 5 (tT 3)),sS 51 (.load 1 false (tT 50)),sS 52 (.fld 5 (tT 4)),sS 53 (.load 1 false (tT 52)),sS 54 (.clos 497 [(tT 5)]),sS 55 (.call (.val (.func 496 [])) [(tT 51),(tT 53),(tT 54)]),sS 56 (.mov (tT 55)),gG 57 (.fld 6 (tT 3)) 56 true,gG 58 (.load 1 false (tT 57)) 56 true,gG 59 (.fld 6 (tT 4)) 56 true,gG 60 (.load 1 false (tT 59)) 56 true,gG 61 (.clos 498 [(tT 5)]) 56 true,gG 62 (.call (.val (.func 318 [])) [(tT 58),(tT 60),(tT 61)]) 56 true,sS 63 (.pick (tT 56) (tT 62) (bB false)),sS 6 (.mov (tT 63))] [6] [])
.ret))),[.tmp 6],false,false,false⟩
def F489 : AFunc := ⟨3,(.seq
(.region [sS 6 (.mov (bB false))] [0,1,2] [])
(.seq
(.seq
(.region [sS 10 (.mov (tT 0)),sS 11 (.len 0 (tT 10)),sS 12 (.mov (tT 1)),sS 13 (.len 0 (tT 12)),sS 14 (.bin .neq (tT 11) (tT 13))] [0,1,2,14] [])
(.cond (tT 14)
(.seq
(.region [sS 6 (.mov (bB false))] [6] [])
.ret)
.skip))
(.seq
(.seq
(.region [sS 15 (.mov (tT 0)),sS 16 (.len 0 (tT 15)),sS 17 (.mov (zZ 0))] [1,2,15,16,17] [])
(.block 0
(.loop
(.mask [1,2,15,16,17] []
(.seq
(.region [sS 18 (.bin .lss (tT 17) (tT 16))] [1,2,15,16,17,18] [])
(.seq
(.cond (tT 18)
.skip
(.exit 0))
(.seq
(.block 1
(.seq
(.region [sS 19 (.mov (tT 17)),sS 20 (.idx 2 (tT 15) (tT 17)),sS 21 (.load 2 true (tT 20)),sS 8 (.alloc 8 [pZ,pZ]),sS 7 (.mov (tT 19)),nN (.store 2 (tT 8) (tT 21))] [1,2,7,8,15,16,17] [8])
(.seq
(.region [sS 22 (.mov (tT 1)),sS 23 (.mov (tT 7)),sS 24 (.idx 2 (tT 22) (tT 23)),sS 25 (.load 2 true (tT 24)),sS 9 (.alloc 9 [pZ,pZ]),nN (.store 2 (tT 9) (tT 25))] [1,2,8,9,15,16,17] [8,9])
(.seq
(.region [sS 26 (.mov (tT 2)),sS 27 (.load 2 true (tT 8)),sS 28 (.load 2 true (tT 9)),sS 29 (.call (tT 26) [(tT 27),(tT 28)]),sS 30 (.un .not (tT 29))] [1,2,15,16,17,30] [])
(.cond (tT 30)
(.seq
(.region [sS 6 (.mov (bB false))] [6] [])
.ret)
.skip)))))
(.region [sS 31 (.bin .add (tT 17) (zZ 1)),sS 17 (.mov (tT 31))] [1,2,15,16,17] []))))))))
(.seq
(.region [sS 6 (.mov (bB true))] [6] [])
.ret)))),[.tmp 6],false,false,false⟩
def F490 : AFunc := ⟨1,(.seq
(.region [sS 1 (.box 1 10 (tT 0)),sS 2 (.mov (.val (.tl [])))] [1] [1])
(.seq
(.region [sS 3 (.mov (.val (.tl [])))] [1,3] [1])
(.seq
(.seq
(.region [sS 6 (.fld 6 (tT 1)),sS 7 (.load 1 false (tT 6)),sS 8 (.len 0 (tT 7)),sS 9 (.mov (zZ 0))] [1,3,7,8,9] [1])
(.block 0
(.loop
(.mask [1,3,7,8,9] [1]
(.seq
(.region [sS 10 (.bin .lss (tT 9) (tT 8))] [1,3,7,8,9,10] [1])
(.seq
(.cond (tT 10)
.skip
(.exit 0))
(.seq
(.block 1
(.seq
(.region [sS 11 (.idx 13 (tT 7) (tT 9)),sS 12 (.load 13 true (tT 11)),⟨some 5,.alloc 5 [pZ,.pv (.str ⟨#[]⟩),pZ,.pv (.bool false),.pv (.bool false),pZ,.pv (.bool false),pZ,.pv (.str ⟨#[]⟩),pZ,.tl [],.tl [],.tl []],none⟩,nN (.store 13 (tT 5) (tT 12))] [1,3,5,7,8,9] [1,5])
(.region [sS 13 (.mov (tT 3)),sS 14 (.fld 0 (tT 5)),sS 15 (.load 1 false (tT 14)),sS 16 (.fld 2 (tT 5)),sS 17 (.load 1 false (tT 16)),sS 18 (.build [pZ,pZ] [(0,1,(tT 15)),(1,1,(tT 17))]),sS 19 (.lit 2 [pZ,pZ] 1 [(0,2,(tT 18))]),sS 20 (.app 2 (tT 13) (tT 19)),sS 3 (.mov (tT 20))] [1,3,7,8,9] [1])))
(.region [sS 21 (.bin .add (tT 9) (zZ 1)),sS 9 (.mov (tT 21))] [1,3,7,8,9] [1]))))))))
(.seq
(.seq
(.region [sS 22 (.fld 0 (tT 1)),sS 23 (.load 1 false (tT 22))] [1,3,23] [1])
(.block 2
(.seq
(.region [sS 25 (.bin .eql (tT 23) (zZ 8)),sS 24 (.mov (tT 25))] [1,3,23,24] [1])
(.cond (tT 24)
(.region [sS 26 (.mov (tT 3)),sS 27 (.fld 7 (tT 1)),sS 28 (.load 1 false (tT 27)),sS 29 (.build [pZ,pZ] [(0,1,(zZ 0)),(1,1,(tT 28))]),sS 30 (.fld 8 (tT 1)),sS 31 (.load 1 false (tT 30)),sS 32 (.build [pZ,pZ] [(0,1,(.val (.pv (.int .i64 (-1))))),(1,1,(tT 31))]),sS 33 (.lit 2 [pZ,pZ] 2 [(0,2,(tT 29)),(2,2,(tT 32))]),sS 34 (.app 2 (tT 26) (tT 33)),sS 3 (.mov (tT 34))] [3] [])
(.seq
(.seq
(.region [sS 36 (.bin .eql (tT 23) (zZ 7)),sS 35 (.mov (tT 36))] [1,3,23,35] [1])
(.cond (tT 35)
.skip
(.region [sS 37 (.bin .eql (tT 23) (zZ 9)),sS 35 (.mov (tT 37))] [1,3,35] [1])))
(.cond (tT 35)
(.region [sS 38 (.mov (tT 3)),sS 39 (.fld 8 (tT 1)),sS 40 (.load 1 false (tT 39)),sS 41 (.build [pZ,pZ] [(0,1,(.val (.pv (.int .i64 (-1))))),(1,1,(tT 40))]),sS 42 (.lit 2 [pZ,pZ] 1 [(0,2,(tT 41))]),sS 43 (.app 2 (tT 38) (tT 42)),sS 3 (.mov (tT 43))] [3] [])
.skip))))))
(.seq
(.region [sS 44 (.mov (tT 3)),sS 2 (.mov (tT 44))] [2] [])
.ret))))),[.tmp 2],false,false,false⟩
def F491 : AFunc := ⟨3,(.seq
(.region [sS 3 (.box 3 2 (tT 0)),sS 4 (.box 4 2 (tT 1)),sS 5 (.mov (bB false))] [2,3,4] [3,4])
(.seq
(.draw [(sS 6 (.load 1 false (tT 2)),[]),(sS 7 (.fld 1 (tT 3)),[]),(sS 8 (.load 1 false (tT 7)),[]),(sS 9 (.idx 1 (tT 6) (tT 8)),[]),(sS 10 (.load 1 false (tT 9)),[]),(sS 11 (.fld 1 (tT 4)),[]),(sS 12 (.load 1 false (tT 11)),[]),(sS 13 (.idx 1 (tT 10) (tT 12)),[]),(sS 14 (.load 1 false (tT 13)),[]),(sS 5 (.mov (tT 14)),[])] [5] [])
.ret)),[.tmp 5],false,false,false⟩
def F495 : AFunc := ⟨3,(.seq
(.region [sS 3 (.box 3 1 (tT 0)),sS 5 (.box 5 8 (tT 2)),sS 6 (.mov (bB false))] [1,3,5] [3,5])
(.seq
(.region [sS 7 (.load 1 true (tT 3)),sS 8 (.mov (tT 1)),sS 9 (.load 8 true (tT 5)),sS 10 (.call (.val (.func 503 [])) [(tT 7),(tT 8),(tT 9),(bB true)]),sS 6 (.mov (tT 10))] [6] [])
.ret)),[.tmp 6],false,false,false⟩
def F496 : AFunc := ⟨3,(.seq
(.region [sS 6 (.mov (bB false))] [0,1,2] [])
(.seq
(.seq
(.region [sS 10 (.mov (tT 0)),sS 11 (.len 0 (tT 10)),sS 12 (.mov (tT 1)),sS 13 (.len 0 (tT 12)),sS 14 (.bin .neq (tT 11) (tT 13))] [0,1,2,14] [])
(.cond (tT 14)
(.seq
(.region [sS 6 (.mov (bB false))] [6] [])
.ret)
.skip))
(.seq
(.seq
(.region [sS 15 (.mov (tT 0)),sS 16 (.len 0 (tT 15)),sS 17 (.mov (zZ 0))] [1,2,15,16,17] [])
(.block 0
(.loop
(.mask [1,2,15,16,17] []
(.seq
(.region [sS 18 (.bin .lss (tT 17) (tT 16))] [1,2,15,16,17,18] [])
(.seq
(.cond (tT 18)
.skip
(.exit 0))
(.seq
(.block 1
(.seq
(.region [sS 19 (.mov (tT 17)),sS 20 (.idx 2 (tT 15) (tT 17)),sS 21 (.load 2 true (tT 20)),⟨some 8,.alloc 8 [pZ,.pv (.str ⟨#[]⟩)],none⟩,sS 7 (.mov (tT 19)),nN (.store 2 (tT 8) (tT 21))] [1,2,7,8,15,16,17] [8])
(.seq
(.region [sS 22 (.mov (tT 1)),sS 23 (.mov (tT 7)),sS 24 (.idx 2 (tT 22) (tT 23)),sS 25 (.load 2 true (tT 24)),⟨some 9,.alloc 9 [pZ,.pv (.str ⟨#[]⟩)],none⟩,nN (.store 2 (tT 9) (tT 25))] [1,2,8,9,15,16,17] [8,9])
(.seq
(.region [sS 26 (.mov (tT 2)),sS 27 (.load 2 true (tT 8)),sS 28 (.load 2 true (tT 9)),sS 29 (.call (tT 26) [(tT 27),(tT 28)]),sS 30 (.un .not (tT 29))] [1,2,15,16,17,30] [])
(.cond (tT 30)
(.seq
(.region [sS 6 (.mov (bB false))] [6] [])
.ret)
.skip)))))
(.region [sS 31 (.bin .add (tT 17) (zZ 1)),sS 17 (.mov (tT 31))] [1,2,15,16,17] []))))))))
(.seq
(.region [sS 6 (.mov (bB true))] [6] [])
.ret)))),[.tmp 6],false,false,false⟩
def F497 : AFunc := ⟨3,(.seq
(.region [sS 3 (.box 3 2 (tT 0)),sS 4 (.box 4 2 (tT 1)),sS 5 (.mov (bB false))] [2,3,4] [3,4])
(.seq
(.region [sS 6 (.fld 0 (tT 3)),sS 7 (.load 1 false (tT 6)),sS 8 (.fld 0 (tT 4)),sS 9 (.load 1 false (tT 8)),sS 10 (.bin .eql (tT 7) (tT 9)),sS 11 (.mov (tT 10)),gG 12 (.load 1 false (tT 2)) 11 true,gG 13 (.un .not (tT 12)) 11 true,gG 14 (.mov (tT 13)) 11 true,gG 15 (.fld 1 (tT 3)) 14 false,gG 16 (.load 1 false (tT 15)) 14 false,gG 17 (.fld 1 (tT 4)) 14 false,gG 18 (.load 1 false (tT 17)) 14 false,gG 19 (.bin .eql (tT 16) (tT 18)) 14 false,gG 20 (.pick (tT 14) (bB true) (tT 19)) 11 true,sS 21 (.pick (tT 11) (tT 20) (bB false)),sS 5 (.mov (tT 21))] [5] [])
.ret)),[.tmp 5],false,false,false⟩
def F498 : AFunc := ⟨3,(.seq
(.region [sS 3 (.box 3 13 (tT 0)),sS 4 (.box 4 13 (tT 1)),sS 5 (.mov (bB false))] [2,3,4] [3,4])
(.seq
(.region [sS 6 (.fld 0 (tT 3)),sS 7 (.load 1 false (tT 6)),sS 8 (.fld 0 (tT 4)),sS 9 (.load 1 false (tT 8)),sS 10 (.bin .eql (tT 7) (tT 9)),sS 11 (.mov (tT 10)),gG 12 (.fld 3 (tT 3)) 11 true,gG 13 (.load 1 false (tT 12)) 11 true,gG 14 (.fld 3 (tT 4)) 11 true,gG 15 (.load 1 false (tT 14)) 11 true,gG 16 (.eqa false [0] false (tT 13) (tT 15)) 11 true,sS 17 (.pick (tT 11) (tT 16) (bB false)),sS 18 (.mov (tT 17)),gG 19 (.fld 4 (tT 3)) 18 true,gG 20 (.load 1 false (tT 19)) 18 true,gG 21 (.fld 4 (tT 4)) 18 true,gG 22 (.load 1 false (tT 21)) 18 true,gG 23 (.eqa false [0] false (tT 20) (tT 22)) 18 true,sS 24 (.pick (tT 18) (tT 23) (bB false)),sS 25 (.mov (tT 24)),gG 26 (.fld 5 (tT 3)) 25 true,gG 27 (.load 8 true (tT 26)) 25 true,gG 28 (.fld 5 (tT 4)) 25 true,gG 29 (.load 8 true (tT 28)) 25 true,gG 30 (.call (.val (.func 499 [])) [(tT 27),(tT 29)]) 25 true,sS 31 (.pick (tT 25) (tT 30) (bB false)),sS 32 (.mov (tT 31)),gG 33 (.load 1 false (tT 2)) 32 true,gG 34 (.un .not (tT 33)) 32 true,gG 35 (.mov (tT 34)) 32 true,gG 36 (.fld 1 (tT 3)) 35 false,gG 37 (.load 1 false (tT 36)) 35 false,gG 38 (.fld 1 (tT 4)) 35 false,gG 39 (.load 1 false (tT 38)) 35 false,gG 40 (.bin .eql (tT 37) (tT 39)) 35 false,gG 41 (.pick (tT 35) (bB true) (tT 40)) 32 true,sS 42 (.pick (tT 32) (tT 41) (bB false)),sS 5 (.mov (tT 42))] [5] [])
.ret)),[.tmp 5],false,false,false⟩
def F499 : AFunc := ⟨2,(.seq
(.region [sS 2 (.box 2 8 (tT 0)),sS 3 (.box 3 8 (tT 1)),sS 4 (.mov (bB false))] [2,3] [2,3])
(.seq
(.region [sS 5 (.fld 0 (tT 2)),sS 6 (.load 1 false (tT 5)),sS 7 (.fld 0 (tT 3)),sS 8 (.load 1 false (tT 7)),sS 9 (.bin .eql (tT 6) (tT 8)),sS 10 (.mov (tT 9)),gG 11 (.fld 1 (tT 2)) 10 true,gG 12 (.load 1 false (tT 11)) 10 true,gG 13 (.fld 1 (tT 3)) 10 true,gG 14 (.load 1 false (tT 13)) 10 true,gG 15 (.eqa false [0] false (tT 12) (tT 14)) 10 true,sS 16 (.pick (tT 10) (tT 15) (bB false)),sS 17 (.mov (tT 16)),gG 18 (.fld 2 (tT 2)) 17 true,gG 19 (.load 1 false (tT 18)) 17 true,gG 20 (.fld 2 (tT 3)) 17 true,gG 21 (.load 1 false (tT 20)) 17 true,gG 22 (.bin .eql (tT 19) (tT 21)) 17 true,sS 23 (.pick (tT 17) (tT 22) (bB false)),sS 24 (.mov (tT 23)),gG 25 (.fld 3 (tT 2)) 24 true,gG 26 (.load 1 false (tT 25)) 24 true,gG 27 (.fld 3 (tT 3)) 24 true,gG 28 (.load 1 false (tT 27)) 24 true,gG 29 (.bin .eql (tT 26) (tT 28)) 24 true,sS 30 (.pick (tT 24) (tT 29) (bB false)),sS 31 (.mov (tT 30)),gG 32 (.fld 4 (tT 2)) 31 true,gG 33 (.load 1 false (tT 32)) 31 true,gG 34 (.fld 4 (tT 3)) 31 true,gG 35 (.load 1 false (tT 34)) 31 true,gG 36 (.bin .eql (tT 33) (tT 35)) 31 true,sS 37 (.pick (tT 31) (tT 36) (bB false)),sS 38 (.mov (tT 37)),gG 39 (.fld 7 (tT 2)) 38 true,gG 40 (.load 1 false (tT 39)) 38 true,gG 41 (.fld 7 (tT 3)) 38 true,gG 42 (.load 1 false (tT 41)) 38 true,gG 43 (.call (.val (.func 333 [])) [(tT 40),(tT 42)]) 38 true,sS 44 (.pick (tT 38) (tT 43) (bB false)),sS 45 (.mov (tT 44)),gG 46 (.fld 5 (tT 2)) 45 true,gG 47 (.load 1 false (tT 46)) 45 true,gG 48 (.fld 5 (tT 3)) 45 true,gG 49 (.load 1 false (tT 48)) 45 true,gG 50 (.call (.val (.func 334 [])) [(tT 47),(tT 49),(.val (.func 499 []))]) 45 true,sS 51 (.pick (tT 45) (tT 50) (bB false)),sS 52 (.mov (tT 51)),gG 53 (.fld 6 (tT 2)) 52 true,gG 54 (.load 1 false (tT 53)) 52 true,gG 55 (.fld 6 (tT 3)) 52 true,gG 56 (.load 1 false (tT 55)) 52 true,gG 57 (.call (.val (.func 334 [])) [(tT 54),(tT 56),(.val (.func 499 []))]) 52 true,sS 58 (.pick (tT 52) (tT 57) (bB false)),sS 4 (.mov (tT 58))] [4] [])
.ret)),[.tmp 4],false,false,false⟩
def F503 : AFunc := ⟨4,(.seq
(.region [sS 4 (.box 4 1 (tT 0)),sS 6 (.box 6 8 (tT 2)),sS 8 (.mov (bB false))] [1,3,4,6] [4,6])
(.seq
(.seq
(.region [sS 21 (.mov (tT 1)),sS 22 (.bin .lss (tT 21) (zZ 0)),sS 23 (.mov (tT 22)),gG 24 (.mov (tT 1)) 23 false,gG 25 (.fld 0 (tT 4)) 23 false,gG 26 (.load 1 false (tT 25)) 23 false,gG 27 (.len 0 (tT 26)) 23 false,gG 28 (.bin .geq (tT 24) (tT 27)) 23 false,sS 29 (.pick (tT 23) (bB true) (tT 28))] [1,3,4,6,29] [4,6])
(.cond (tT 29)
(.seq
(.region [sS 8 (.mov (bB false))] [8] [])
.ret)
.skip))
(.seq
(.region [sS 30 (.fld 0 (tT 4)),sS 31 (.load 1 false (tT 30)),sS 32 (.mov (tT 1)),sS 33 (.idx 10 (tT 31) (tT 32)),sS 34 (.load 10 true (tT 33)),⟨some 9,.alloc 9 [pZ,.pv (.str ⟨#[]⟩),pZ,pZ,pZ,.tl [],.tl [],pZ,pZ,.pv (.bool false)],none⟩,nN (.store 10 (tT 9) (tT 34))] [3,4,6,9] [4,6,9])
(.seq
(.seq
(.region [sS 35 (.fld 0 (tT 6)),sS 36 (.load 1 false (tT 35)),sS 37 (.fld 0 (tT 9)),sS 38 (.load 1 false (tT 37)),sS 39 (.bin .neq (tT 36) (tT 38)),sS 40 (.mov (tT 39)),gG 41 (.load 8 true (tT 6)) 40 false,gG 42 (.call (.val (.func 510 [])) [(tT 41)]) 40 false,gG 43 (.un .not (tT 42)) 40 false,sS 44 (.pick (tT 40) (bB true) (tT 43))] [3,4,6,9,44] [4,6,9])
(.cond (tT 44)
(.seq
(.region [sS 8 (.mov (bB false))] [8] [])
.ret)
.skip))
(.seq
(.seq
(.region [sS 45 (.fld 0 (tT 9)),sS 46 (.load 1 false (tT 45))] [3,4,6,9,46] [4,6,9])
(.block 0
(.seq
(.region [sS 48 (.bin .eql (tT 46) (zZ 2)),sS 47 (.mov (tT 48))] [3,4,6,9,46,47] [4,6,9])
(.cond (tT 47)
(.seq
(.region [sS 49 (.fld 2 (tT 6)),sS 50 (.load 1 false (tT 49)),sS 51 (.fld 2 (tT 9)),sS 52 (.load 1 false (tT 51)),sS 53 (.bin .geq (tT 50) (tT 52)),sS 54 (.mov (tT 53)),gG 55 (.fld 2 (tT 6)) 54 true,gG 56 (.load 1 false (tT 55)) 54 true,gG 57 (.fld 3 (tT 9)) 54 true,gG 58 (.load 1 false (tT 57)) 54 true,gG 59 (.bin .leq (tT 56) (tT 58)) 54 true,sS 60 (.pick (tT 54) (tT 59) (bB false)),sS 8 (.mov (tT 60))] [8] [])
.ret)
(.seq
(.region [sS 62 (.bin .eql (tT 46) (zZ 3)),sS 61 (.mov (tT 62))] [3,4,6,9,46,61] [4,6,9])
(.cond (tT 61)
(.seq
(.region [sS 63 (.fld 3 (tT 6)),sS 64 (.load 1 false (tT 63)),sS 65 (.len 1 (tT 64)),sS 66 (.fld 4 (tT 9)),sS 67 (.load 1 false (tT 66)),sS 68 (.bin .leq (tT 65) (tT 67)),sS 8 (.mov (tT 68))] [8] [])
.ret)
(.seq
(.region [sS 70 (.bin .eql (tT 46) (zZ 4)),sS 69 (.mov (tT 70))] [3,4,6,9,46,69] [4,6,9])
(.cond (tT 69)
(.seq
(.region [sS 72 (.load 10 true (tT 9)),sS 73 (.fld 4 (tT 6)),sS 74 (.load 1 false (tT 73)),sS 75 (.call (.val (.func 392 [])) [(tT 72),(tT 74)]),sS 71 (.mov (tT 75)),sS 76 (.ext (tT 71) 0),sS 77 (.ext (tT 71) 1),sS 10 (.mov (tT 76)),sS 11 (.mov (tT 77))] [3,6,9,11] [6,9])
(.seq
(.region [sS 78 (.mov (tT 11)),sS 79 (.mov (tT 78)),gG 80 (.fld 9 (tT 9)) 79 false,gG 81 (.load 1 false (tT 80)) 79 false,gG 82 (.mov (tT 81)) 79 false,gG 83 (.mov (tT 3)) 82 true,gG 84 (.un .not (tT 83)) 82 true,gG 85 (.pick (tT 82) (tT 84) (bB false)) 79 false,gG 86 (.mov (tT 85)) 79 false,gG 87 (.fld 4 (tT 6)) 86 true,gG 88 (.load 1 false (tT 87)) 86 true,gG 89 (.call (.val (.func 511 [])) [(tT 88)]) 86 true,gG 90 (.pick (tT 86) (tT 89) (bB false)) 79 false,sS 91 (.pick (tT 79) (bB true) (tT 90)),sS 8 (.mov (tT 91))] [8] [])
.ret))
(.seq
(.region [sS 93 (.bin .eql (tT 46) (zZ 5)),sS 92 (.mov (tT 93))] [3,4,6,9,46,92] [4,6,9])
(.cond (tT 92)
(.seq
(.seq
(.region [sS 94 (.fld 6 (tT 6)),sS 95 (.load 1 false (tT 94)),sS 96 (.len 0 (tT 95)),sS 97 (.fld 6 (tT 9)),sS 98 (.load 1 false (tT 97)),sS 99 (.len 0 (tT 98)),sS 100 (.bin .neq (tT 96) (tT 99)),sS 101 (.mov (tT 100)),gG 102 (.mov (tT 3)) 101 false,gG 103 (.mov (tT 102)) 101 false,gG 104 (.fld 7 (tT 6)) 103 true,gG 105 (.load 1 false (tT 104)) 103 true,gG 106 (.len 0 (tT 105)) 103 true,gG 107 (.bin .gtr (tT 106) (zZ 0)) 103 true,gG 108 (.pick (tT 103) (tT 107) (bB false)) 101 false,sS 109 (.pick (tT 101) (bB true) (tT 108))] [3,4,6,9,109] [4,6,9])
(.cond (tT 109)
(.seq
(.region [sS 8 (.mov (bB false))] [8] [])
.ret)
.skip))
(.seq
(.seq
(.region [sS 110 (.fld 7 (tT 6)),sS 111 (.load 1 false (tT 110)),sS 112 (.len 0 (tT 111)),sS 113 (.mov (zZ 0))] [3,4,6,9,111,112,113] [4,6,9])
(.block 1
(.loop
(.mask [3,4,6,9,111,112,113] [4,6,9]
(.seq
(.region [sS 114 (.bin .lss (tT 113) (tT 112))] [3,4,6,9,111,112,113,114] [4,6,9])
(.seq
(.cond (tT 114)
.skip
(.exit 1))
(.seq
(.block 2
(.seq
(.region [sS 115 (.mov (tT 113)),sS 116 (.idx 2 (tT 111) (tT 113)),sS 117 (.load 2 true (tT 116)),⟨some 13,.alloc 13 [pZ,.pv (.str ⟨#[]⟩)],none⟩,sS 12 (.mov (tT 115)),nN (.store 2 (tT 13) (tT 117))] [3,4,6,9,12,13,111,112,113] [4,6,9,13])
(.seq
(.region [sS 119 (.load 10 true (tT 9)),sS 120 (.fld 0 (tT 13)),sS 121 (.load 1 false (tT 120)),sS 122 (.call (.val (.func 281 [])) [(tT 119),(tT 121)]),sS 118 (.mov (tT 122)),sS 123 (.ext (tT 118) 0),sS 124 (.ext (tT 118) 1),sS 14 (.mov (tT 123)),sS 15 (.mov (tT 124))] [3,4,6,9,12,13,15,111,112,113] [4,6,9,13])
(.seq
(.draw [(sS 125 (.mov (tT 15)),[]),(sS 126 (.mov (tT 125)),[]),(gG 127 (.fld 0 (tT 13)) 126 false,[]),(gG 128 (.load 1 false (tT 127)) 126 false,[]),(gG 129 (.call (.val (.func 511 [])) [(tT 128)]) 126 false,[]),(gG 130 (.un .not (tT 129)) 126 false,[]),(sS 131 (.pick (tT 126) (bB true) (tT 130)),[]),(sS 132 (.mov (tT 131)),[]),(gG 133 (.mov (tT 12)) 132 false,[]),(gG 134 (.bin .gtr (tT 133) (zZ 0)) 132 false,[]),(gG 135 (.mov (tT 134)) 132 false,[]),(gG 136 (.fld 0 (tT 13)) 135 true,[]),(gG 137 (.load 1 false (tT 136)) 135 true,[]),(gG 138 (.fld 7 (tT 6)) 135 true,[]),(gG 139 (.load 1 false (tT 138)) 135 true,[]),(gG 140 (.mov (tT 12)) 135 true,[]),(gG 141 (.bin .sub (tT 140) (zZ 1)) 135 true,[]),(gG 142 (.idx 2 (tT 139) (tT 141)) 135 true,[]),(gG 143 (.fld 0 (tT 142)) 135 true,[]),(gG 144 (.load 1 false (tT 143)) 135 true,[]),(gG 145 (.bin .leq (tT 137) (tT 144)) 135 true,[]),(gG 146 (.pick (tT 135) (tT 145) (bB false)) 132 false,[]),(sS 147 (.pick (tT 132) (bB true) (tT 146)),[])] [3,4,6,9,111,112,113,147] [4,6,9])
(.cond (tT 147)
(.seq
(.region [sS 8 (.mov (bB false))] [8] [])
.ret)
.skip)))))
(.region [sS 148 (.bin .add (tT 113) (zZ 1)),sS 113 (.mov (tT 148))] [3,4,6,9,111,112,113] [4,6,9]))))))))
(.seq
(.region [sS 149 (.fld 6 (tT 9)),sS 150 (.load 1 false (tT 149)),sS 151 (.len 0 (tT 150)),sS 152 (.mov (zZ 0))] [3,4,6,150,151,152] [4,6])
(.block 3
(.loop
(.mask [3,4,6,150,151,152] [4,6]
(.seq
(.region [sS 153 (.bin .lss (tT 152) (tT 151))] [3,4,6,150,151,152,153] [4,6])
(.seq
(.cond (tT 153)
.skip
(.exit 3))
(.seq
(.block 4
(.seq
(.region [sS 154 (.mov (tT 152)),sS 155 (.idx 13 (tT 150) (tT 152)),sS 156 (.load 13 true (tT 155)),⟨some 17,.alloc 17 [pZ,.pv (.str ⟨#[]⟩),pZ,.pv (.bool false),.pv (.bool false),pZ,.pv (.bool false),pZ,.pv (.str ⟨#[]⟩),pZ,.tl [],.tl [],.tl []],none⟩,sS 16 (.mov (tT 154)),nN (.store 13 (tT 17) (tT 156))] [3,4,6,16,17,150,151,152] [4,6,17])
(.seq
(.draw [(sS 157 (.load 1 true (tT 4)),[]),(sS 158 (.fld 2 (tT 17)),[]),(sS 159 (.load 1 false (tT 158)),[]),(sS 160 (.fld 6 (tT 6)),[]),(sS 161 (.load 1 false (tT 160)),[]),(sS 162 (.mov (tT 16)),[]),(sS 163 (.idx 8 (tT 161) (tT 162)),[]),(sS 164 (.load 8 true (tT 163)),[]),(sS 165 (.mov (tT 3)),[]),(sS 166 (.call (.val (.func 503 [])) [(tT 157),(tT 159),(tT 164),(tT 165)]),[]),(sS 167 (.un .not (tT 166)),[])] [3,4,6,150,151,152,167] [4,6])
(.cond (tT 167)
(.seq
(.region [sS 8 (.mov (bB false))] [8] [])
.ret)
.skip))))
(.region [sS 168 (.bin .add (tT 152) (zZ 1)),sS 152 (.mov (tT 168))] [3,4,6,150,151,152] [4,6]))))))))))
(.seq
(.region [sS 170 (.bin .eql (tT 46) (zZ 6)),sS 169 (.mov (tT 170))] [3,4,6,9,46,169] [4,6,9])
(.cond (tT 169)
(.seq
(.seq
(.region [sS 172 (.load 10 true (tT 9)),sS 173 (.fld 4 (tT 6)),sS 174 (.load 1 false (tT 173)),sS 175 (.call (.val (.func 281 [])) [(tT 172),(tT 174)]),sS 171 (.mov (tT 175)),sS 176 (.ext (tT 171) 0),sS 177 (.ext (tT 171) 1),sS 18 (.mov (tT 176)),sS 19 (.mov (tT 177))] [3,4,6,9,18,19] [4,6,9])
(.seq
(.region [sS 178 (.mov (tT 19))] [3,4,6,9,18,178] [4,6,9])
(.cond (tT 178)
(.seq
(.draw [(sS 179 (.fld 6 (tT 6)),[]),(sS 180 (.load 1 false (tT 179)),[]),(sS 181 (.len 0 (tT 180)),[]),(sS 182 (.bin .eql (tT 181) (zZ 1)),[]),(sS 183 (.mov (tT 182)),[]),(gG 184 (.fld 7 (tT 6)) 183 true,[]),(gG 185 (.load 1 false (tT 184)) 183 true,[]),(gG 186 (.len 0 (tT 185)) 183 true,[]),(gG 187 (.bin .eql (tT 186) (zZ 0)) 183 true,[]),(sS 188 (.pick (tT 183) (tT 187) (bB false)),[]),(sS 189 (.mov (tT 188)),[]),(gG 190 (.load 1 true (tT 4)) 189 true,[]),(gG 191 (.fld 6 (tT 9)) 189 true,[]),(gG 192 (.load 1 false (tT 191)) 189 true,[]),(gG 193 (.mov (tT 18)) 189 true,[]),(gG 194 (.idx 13 (tT 192) (tT 193)) 189 true,[]),(gG 195 (.fld 2 (tT 194)) 189 true,[]),(gG 196 (.load 1 false (tT 195)) 189 true,[]),(gG 197 (.fld 6 (tT 6)) 189 true,[]),(gG 198 (.load 1 false (tT 197)) 189 true,[]),(gG 199 (.idx 8 (tT 198) (zZ 0)) 189 true,[]),(gG 200 (.load 8 true (tT 199)) 189 true,[]),(gG 201 (.mov (tT 3)) 189 true,[]),(gG 202 (.call (.val (.func 503 [])) [(tT 190),(tT 196),(tT 200),(tT 201)]) 189 true,[]),(sS 203 (.pick (tT 189) (tT 202) (bB false)),[]),(sS 8 (.mov (tT 203)),[])] [8] [])
.ret)
.skip)))
(.seq
(.draw [(sS 204 (.fld 9 (tT 9)),[]),(sS 205 (.load 1 false (tT 204)),[]),(sS 206 (.mov (tT 205)),[]),(gG 207 (.mov (tT 3)) 206 true,[]),(gG 208 (.un .not (tT 207)) 206 true,[]),(sS 209 (.pick (tT 206) (tT 208) (bB false)),[]),(sS 210 (.mov (tT 209)),[]),(gG 211 (.fld 4 (tT 6)) 210 true,[]),(gG 212 (.load 1 false (tT 211)) 210 true,[]),(gG 213 (.call (.val (.func 511 [])) [(tT 212)]) 210 true,[]),(sS 214 (.pick (tT 210) (tT 213) (bB false)),[]),(sS 215 (.mov (tT 214)),[]),(gG 216 (.fld 6 (tT 6)) 215 true,[]),(gG 217 (.load 1 false (tT 216)) 215 true,[]),(gG 218 (.len 0 (tT 217)) 215 true,[]),(gG 219 (.bin .eql (tT 218) (zZ 0)) 215 true,[]),(sS 220 (.pick (tT 215) (tT 219) (bB false)),[]),(sS 221 (.mov (tT 220)),[]),(gG 222 (.fld 7 (tT 6)) 221 true,[]),(gG 223 (.load 1 false (tT 222)) 221 true,[]),(gG 224 (.len 0 (tT 223)) 221 true,[]),(gG 225 (.bin .eql (tT 224) (zZ 1)) 221 true,[]),(sS 226 (.pick (tT 221) (tT 225) (bB false)),[]),(sS 227 (.mov (tT 226)),[]),(gG 228 (.fld 7 (tT 6)) 227 true,[]),(gG 229 (.load 1 false (tT 228)) 227 true,[]),(gG 230 (.idx 2 (tT 229) (zZ 0)) 227 true,[]),(gG 231 (.fld 0 (tT 230)) 227 true,[]),(gG 232 (.load 1 false (tT 231)) 227 true,[]),(gG 233 (.fld 4 (tT 6)) 227 true,[]),(gG 234 (.load 1 false (tT 233)) 227 true,[]),(gG 235 (.bin .eql (tT 232) (tT 234)) 227 true,[]),(sS 236 (.pick (tT 227) (tT 235) (bB false)),[]),(sS 8 (.mov (tT 236)),[])] [8] [])
.ret))
(.seq
(.region [sS 238 (.bin .eql (tT 46) (zZ 7)),sS 237 (.mov (tT 238))] [3,4,6,9,46,237] [4,6,9])
(.cond (tT 237)
(.seq
(.region [sS 239 (.fld 6 (tT 6)),sS 240 (.load 1 false (tT 239)),sS 241 (.len 0 (tT 240)),sS 242 (.fld 4 (tT 9)),sS 243 (.load 1 false (tT 242)),sS 244 (.bin .leq (tT 241) (tT 243)),sS 245 (.mov (tT 244)),gG 246 (.load 1 true (tT 4)) 245 true,gG 247 (.fld 8 (tT 9)) 245 true,gG 248 (.load 1 false (tT 247)) 245 true,gG 249 (.fld 6 (tT 6)) 245 true,gG 250 (.load 1 false (tT 249)) 245 true,gG 251 (.mov (tT 3)) 245 true,gG 252 (.call (.val (.func 512 [])) [(tT 246),(tT 248),(tT 250),(tT 251)]) 245 true,sS 253 (.pick (tT 245) (tT 252) (bB false)),sS 8 (.mov (tT 253))] [8] [])
.ret)
(.seq
(.region [sS 255 (.bin .eql (tT 46) (zZ 8)),sS 254 (.mov (tT 255))] [3,4,6,9,46,254] [4,6,9])
(.cond (tT 254)
(.seq
(.seq
(.region [sS 256 (.fld 5 (tT 6)),sS 257 (.load 1 false (tT 256)),sS 258 (.len 0 (tT 257)),sS 259 (.fld 4 (tT 9)),sS 260 (.load 1 false (tT 259)),sS 261 (.bin .gtr (tT 258) (tT 260)),sS 262 (.mov (tT 261)),gG 263 (.fld 6 (tT 6)) 262 false,gG 264 (.load 1 false (tT 263)) 262 false,gG 265 (.len 0 (tT 264)) 262 false,gG 266 (.fld 5 (tT 6)) 262 false,gG 267 (.load 1 false (tT 266)) 262 false,gG 268 (.len 0 (tT 267)) 262 false,gG 269 (.bin .neq (tT 265) (tT 268)) 262 false,sS 270 (.pick (tT 262) (bB true) (tT 269)),sS 271 (.mov (tT 270)),gG 272 (.load 1 true (tT 4)) 271 false,gG 273 (.fld 7 (tT 9)) 271 false,gG 274 (.load 1 false (tT 273)) 271 false,gG 275 (.fld 5 (tT 6)) 271 false,gG 276 (.load 1 false (tT 275)) 271 false,gG 277 (.mov (tT 3)) 271 false,gG 278 (.call (.val (.func 512 [])) [(tT 272),(tT 274),(tT 276),(tT 277)]) 271 false,gG 279 (.un .not (tT 278)) 271 false,sS 280 (.pick (tT 271) (bB true) (tT 279))] [3,4,6,9,280] [4,6,9])
(.cond (tT 280)
(.seq
(.region [sS 8 (.mov (bB false))] [8] [])
.ret)
.skip))
(.seq
(.seq
(.region [sS 20 (.mov (zZ 1))] [3,4,6,9,20] [4,6,9])
(.block 5
(.loop
(.mask [3,4,6,9,20] [4,6,9]
(.seq
(.seq
(.region [sS 281 (.mov (tT 20)),sS 282 (.fld 5 (tT 6)),sS 283 (.load 1 false (tT 282)),sS 284 (.len 0 (tT 283)),sS 285 (.bin .lss (tT 281) (tT 284))] [3,4,6,9,20,285] [4,6,9])
(.cond (tT 285)
.skip
(.exit 5)))
(.seq
(.block 6
(.seq
(.draw [(sS 288 (.fld 5 (tT 6)),[]),(sS 289 (.load 1 false (tT 288)),[]),(sS 290 (.mov (tT 20)),[]),(sS 291 (.bin .sub (tT 290) (zZ 1)),[]),(sS 292 (.idx 8 (tT 289) (tT 291)),[]),(sS 293 (.load 8 true (tT 292)),[]),(sS 294 (.fld 5 (tT 6)),[]),(sS 295 (.load 1 false (tT 294)),[]),(sS 296 (.mov (tT 20)),[]),(sS 297 (.idx 8 (tT 295) (tT 296)),[]),(sS 298 (.load 8 true (tT 297)),[]),(sS 299 (.call (.val (.func 513 [])) [(tT 293),(tT 298)]),[]),(sS 300 (.bin .geq (tT 299) (zZ 0)),[])] [3,4,6,9,20,300] [4,6,9])
(.cond (tT 300)
(.seq
(.region [sS 8 (.mov (bB false))] [8] [])
.ret)
.skip)))
(.region [sS 286 (.mov (tT 20)),sS 287 (.bin .add (tT 286) (zZ 1)),sS 20 (.mov (tT 287))] [3,4,6,9,20] [4,6,9])))))))
(.seq
(.region [sS 301 (.load 1 true (tT 4)),sS 302 (.fld 8 (tT 9)),sS 303 (.load 1 false (tT 302)),sS 304 (.fld 6 (tT 6)),sS 305 (.load 1 false (tT 304)),sS 306 (.mov (tT 3)),sS 307 (.call (.val (.func 512 [])) [(tT 301),(tT 303),(tT 305),(tT 306)]),sS 8 (.mov (tT 307))] [8] [])
.ret)))
(.seq
(.region [sS 309 (.bin .eql (tT 46) (zZ 9)),sS 308 (.mov (tT 309))] [3,4,6,9,308] [4,6,9])
(.cond (tT 308)
(.seq
(.region [sS 310 (.fld 6 (tT 6)),sS 311 (.load 1 false (tT 310)),sS 312 (.len 0 (tT 311)),sS 313 (.bin .leq (tT 312) (zZ 1)),sS 314 (.mov (tT 313)),gG 315 (.load 1 true (tT 4)) 314 true,gG 316 (.fld 8 (tT 9)) 314 true,gG 317 (.load 1 false (tT 316)) 314 true,gG 318 (.fld 6 (tT 6)) 314 true,gG 319 (.load 1 false (tT 318)) 314 true,gG 320 (.mov (tT 3)) 314 true,gG 321 (.call (.val (.func 512 [])) [(tT 315),(tT 317),(tT 319),(tT 320)]) 314 true,sS 322 (.pick (tT 314) (tT 321) (bB false)),sS 8 (.mov (tT 322))] [8] [])
.ret)
.skip))))))))))))))))))
(.seq
(.region [sS 8 (.mov (bB true))] [8] [])
.ret)))))),[.tmp 8],false,false,false⟩
def F510 : AFunc := ⟨1,(.seq
(.region [sS 1 (.box 1 8 (tT 0)),sS 2 (.mov (bB false))] [1] [1])
(.seq
(.region [sS 4 (.load 8 true (tT 1)),sS 5 (.call (.val (.func 516 [])) [(tT 4)]),⟨some 3,.alloc 3 [pZ,.pv (.bool false),pZ,.pv (.str ⟨#[]⟩),pZ,.tl [],.tl [],.tl []],none⟩,nN (.store 8 (tT 3) (tT 5))] [1,3] [1,3])
(.seq
(.region [sS 6 (.fld 1 (tT 1)),sS 7 (.load 1 false (tT 6)),sS 8 (.fld 1 (tT 3)),sS 9 (.load 1 false (tT 8)),sS 10 (.eqa false [0] false (tT 7) (tT 9)),sS 11 (.mov (tT 10)),gG 12 (.fld 2 (tT 1)) 11 true,gG 13 (.load 1 false (tT 12)) 11 true,gG 14 (.fld 2 (tT 3)) 11 true,gG 15 (.load 1 false (tT 14)) 11 true,gG 16 (.bin .eql (tT 13) (tT 15)) 11 true,sS 17 (.pick (tT 11) (tT 16) (bB false)),sS 18 (.mov (tT 17)),gG 19 (.fld 3 (tT 1)) 18 true,gG 20 (.load 1 false (tT 19)) 18 true,gG 21 (.fld 3 (tT 3)) 18 true,gG 22 (.load 1 false (tT 21)) 18 true,gG 23 (.bin .eql (tT 20) (tT 22)) 18 true,sS 24 (.pick (tT 18) (tT 23) (bB false)),sS 25 (.mov (tT 24)),gG 26 (.fld 4 (tT 1)) 25 true,gG 27 (.load 1 false (tT 26)) 25 true,gG 28 (.fld 4 (tT 3)) 25 true,gG 29 (.load 1 false (tT 28)) 25 true,gG 30 (.bin .eql (tT 27) (tT 29)) 25 true,sS 31 (.pick (tT 25) (tT 30) (bB false)),sS 32 (.mov (tT 31)),gG 33 (.fld 5 (tT 1)) 32 true,gG 34 (.load 1 false (tT 33)) 32 true,gG 35 (.len 0 (tT 34)) 32 true,gG 36 (.fld 5 (tT 3)) 32 true,gG 37 (.load 1 false (tT 36)) 32 true,gG 38 (.len 0 (tT 37)) 32 true,gG 39 (.bin .eql (tT 35) (tT 38)) 32 true,sS 40 (.pick (tT 32) (tT 39) (bB false)),sS 41 (.mov (tT 40)),gG 42 (.fld 6 (tT 1)) 41 true,gG 43 (.load 1 false (tT 42)) 41 true,gG 44 (.len 0 (tT 43)) 41 true,gG 45 (.fld 6 (tT 3)) 41 true,gG 46 (.load 1 false (tT 45)) 41 true,gG 47 (.len 0 (tT 46)) 41 true,gG 48 (.bin .eql (tT 44) (tT 47)) 41 true,sS 49 (.pick (tT 41) (tT 48) (bB false)),sS 50 (.mov (tT 49)),gG 51 (.fld 7 (tT 1)) 50 true,gG 52 (.load 1 false (tT 51)) 50 true,gG 53 (.len 0 (tT 52)) 50 true,gG 54 (.fld 7 (tT 3)) 50 true,gG 55 (.load 1 false (tT 54)) 50 true,gG 56 (.len 0 (tT 55)) 50 true,gG 57 (.bin .eql (tT 53) (tT 56)) 50 true,sS 58 (.pick (tT 50) (tT 57) (bB false)),sS 2 (.mov (tT 58))] [2] [])
.ret))),[.tmp 2],false,false,false⟩
def F511 : AFunc := ⟨1,(.seq
(.region [sS 2 (.mov (bB false))] [0] [])
(.seq
(.region [sS 3 (.mov (tT 0)),sS 4 (.bin .geq (tT 3) (zZ 1)),sS 5 (.mov (tT 4)),gG 6 (.mov (tT 0)) 5 true,gG 7 (.bin .leq (tT 6) (zZ 1000)) 5 true,sS 8 (.pick (tT 5) (tT 7) (bB false)),sS 2 (.mov (tT 8))] [2] [])
.ret)),[.tmp 2],false,false,false⟩
def F512 : AFunc := ⟨4,(.seq
(.region [sS 4 (.box 4 1 (tT 0)),sS 5 (.box 5 1 (tT 1)),sS 7 (.box 7 1 (tT 3)),sS 8 (.mov (bB false))] [2,4,5,7] [4,5,7])
(.seq
(.region [sS 9 (.mov (tT 2)),sS 10 (.clos 518 [(tT 4),(tT 5),(tT 7)]),sS 11 (.call (.val (.func 517 [])) [(tT 9),(tT 10)]),sS 12 (.un .not (tT 11)),sS 8 (.mov (tT 12))] [8] [])
.ret)),[.tmp 8],false,false,false⟩
def F513 : AFunc := ⟨2,(.seq
(.region [sS 2 (.box 2 8 (tT 0)),sS 3 (.box 3 8 (tT 1)),sS 4 (.mov (zZ 0))] [2,3] [2,3])
(.seq
(.seq
(.region [sS 5 (.fld 0 (tT 2)),sS 6 (.load 1 false (tT 5)),sS 7 (.fld 0 (tT 3)),sS 8 (.load 1 false (tT 7)),sS 9 (.bin .neq (tT 6) (tT 8))] [2,3,9] [2,3])
(.cond (tT 9)
(.seq
(.region [sS 4 (.mov (zZ 0))] [4] [])
.ret)
.skip))
(.seq
(.seq
(.region [sS 10 (.fld 0 (tT 2)),sS 11 (.load 1 false (tT 10))] [2,3,11] [2,3])
(.block 0
(.seq
(.region [sS 13 (.bin .eql (tT 11) (zZ 1)),sS 12 (.mov (tT 13))] [2,3,11,12] [2,3])
(.cond (tT 12)
(.seq
(.block 1
(.seq
(.region [sS 15 (.fld 1 (tT 2)),sS 16 (.load 1 false (tT 15)),sS 17 (.fld 1 (tT 3)),sS 18 (.load 1 false (tT 17)),sS 19 (.eqa false [0] false (tT 16) (tT 18)),sS 14 (.mov (tT 19))] [3,14] [3])
(.cond (tT 14)
(.seq
(.region [sS 4 (.mov (zZ 0))] [4] [])
.ret)
(.seq
(.region [sS 21 (.fld 1 (tT 3)),sS 22 (.load 1 false (tT 21)),sS 20 (.mov (tT 22))] [20] [])
(.cond (tT 20)
(.seq
(.region [sS 4 (.mov (.val (.pv (.int .i64 (-1)))))] [4] [])
.ret)
.skip)))))
(.seq
(.region [sS 4 (.mov (zZ 1))] [4] [])
.ret))
(.seq
(.region [sS 24 (.bin .eql (tT 11) (zZ 2)),sS 23 (.mov (tT 24))] [2,3,11,23] [2,3])
(.cond (tT 23)
(.seq
(.draw [(sS 25 (.fld 2 (tT 2)),[]),(sS 26 (.load 1 false (tT 25)),[]),(sS 27 (.call (.val (.func 520 [])) [(tT 26)]),[]),(sS 28 (.fld 2 (tT 3)),[]),(sS 29 (.load 1 false (tT 28)),[2]),(sS 30 (.call (.val (.func 520 [])) [(tT 29)]),[]),(sS 31 (.call (.val (.func 519 [])) [(tT 27),(tT 30)]),[]),(sS 4 (.mov (tT 31)),[])] [4] [])
.ret)
(.seq
(.region [sS 33 (.bin .eql (tT 11) (zZ 3)),sS 32 (.mov (tT 33))] [2,3,11,32] [2,3])
(.cond (tT 32)
(.seq
(.draw [(sS 34 (.fld 3 (tT 2)),[]),(sS 35 (.load 1 false (tT 34)),[]),(sS 36 (.len 1 (tT 35)),[]),(sS 37 (.fld 3 (tT 3)),[]),(sS 38 (.load 1 false (tT 37)),[]),(sS 39 (.len 1 (tT 38)),[]),(sS 40 (.call (.val (.func 60 [])) [(tT 36),(tT 39)]),[]),(sS 41 (.fld 3 (tT 2)),[]),(sS 42 (.load 1 false (tT 41)),[6]),(sS 43 (.fld 3 (tT 3)),[]),(sS 44 (.load 1 false (tT 43)),[6]),(sS 45 (.call (.val (.func 521 [])) [(tT 42),(tT 44)]),[]),(sS 46 (.lit 1 [pZ] 2 [(0,1,(tT 40)),(1,1,(tT 45))]),[]),(sS 47 (.call (.val (.func 59 [])) [(tT 46)]),[]),(sS 4 (.mov (tT 47)),[])] [4] [])
.ret)
(.seq
(.region [sS 49 (.bin .eql (tT 11) (zZ 4)),sS 48 (.mov (tT 49))] [2,3,48] [2,3])
(.cond (tT 48)
(.seq
(.region [sS 50 (.fld 4 (tT 2)),sS 51 (.load 1 false (tT 50)),sS 52 (.fld 4 (tT 3)),sS 53 (.load 1 false (tT 52)),sS 54 (.call (.val (.func 60 [])) [(tT 51),(tT 53)]),sS 4 (.mov (tT 54))] [4] [])
.ret)
.skip))))))))))
(.seq
(.region [sS 4 (.mov (zZ 0))] [4] [])
.ret)))),[.tmp 4],false,false,false⟩
def F516 : AFunc := ⟨1,(.seq
(.region [sS 1 (.box 1 8 (tT 0)),⟨some 2,.alloc 2 [pZ,.pv (.bool false),pZ,.pv (.str ⟨#[]⟩),pZ,.tl [],.tl [],.tl []],none⟩] [1,2] [1,2])
(.seq
(.region [sS 4 (.fld 0 (tT 1)),sS 5 (.load 1 false (tT 4)),⟨some 6,.build [pZ,.pv (.bool false),pZ,.pv (.str ⟨#[]⟩),pZ,.tl [],.tl [],.tl []] [(0,1,(tT 5))],none⟩,⟨some 3,.alloc 3 [pZ,.pv (.bool false),pZ,.pv (.str ⟨#[]⟩),pZ,.tl [],.tl [],.tl []],none⟩,nN (.store 8 (tT 3) (tT 6))] [1,2,3] [1,2,3])
(.seq
(.seq
(.region [sS 7 (.fld 0 (tT 1)),sS 8 (.load 1 false (tT 7))] [1,2,3,8] [1,2,3])
(.block 0
(.seq
(.region [sS 10 (.bin .eql (tT 8) (zZ 1)),sS 9 (.mov (tT 10))] [1,2,3,8,9] [1,2,3])
(.cond (tT 9)
(.region [sS 11 (.fld 1 (tT 1)),sS 12 (.load 1 false (tT 11)),sS 13 (.fld 1 (tT 3)),nN (.store 1 (tT 13) (tT 12))] [2,3] [2,3])
(.seq
(.region [sS 15 (.bin .eql (tT 8) (zZ 2)),sS 14 (.mov (tT 15))] [1,2,3,8,14] [1,2,3])
(.cond (tT 14)
(.region [sS 16 (.fld 2 (tT 1)),sS 17 (.load 1 false (tT 16)),sS 18 (.fld 2 (tT 3)),nN (.store 1 (tT 18) (tT 17))] [2,3] [2,3])
(.seq
(.region [sS 20 (.bin .eql (tT 8) (zZ 3)),sS 19 (.mov (tT 20))] [1,2,3,8,19] [1,2,3])
(.cond (tT 19)
(.region [sS 21 (.fld 3 (tT 1)),sS 22 (.load 1 false (tT 21)),sS 23 (.fld 3 (tT 3)),nN (.store 1 (tT 23) (tT 22))] [2,3] [2,3])
(.seq
(.region [sS 25 (.bin .eql (tT 8) (zZ 4)),sS 24 (.mov (tT 25))] [1,2,3,8,24] [1,2,3])
(.cond (tT 24)
(.region [sS 26 (.fld 4 (tT 1)),sS 27 (.load 1 false (tT 26)),sS 28 (.fld 4 (tT 3)),nN (.store 1 (tT 28) (tT 27))] [2,3] [2,3])
(.seq
(.region [sS 30 (.bin .eql (tT 8) (zZ 5)),sS 29 (.mov (tT 30))] [1,2,3,8,29] [1,2,3])
(.cond (tT 29)
(.draw [(sS 31 (.fld 6 (tT 1)),[]),(sS 32 (.load 1 false (tT 31)),[]),(sS 33 (.fld 7 (tT 1)),[]),(sS 34 (.load 1 false (tT 33)),[]),(sS 35 (.fld 6 (tT 3)),[]),(nN (.store 1 (tT 35) (tT 32)),[3]),(sS 36 (.fld 7 (tT 3)),[]),(nN (.store 1 (tT 36) (tT 34)),[])] [2,3] [2,3])
(.seq
(.region [sS 38 (.bin .eql (tT 8) (zZ 6)),sS 37 (.mov (tT 38))] [1,2,3,8,37] [1,2,3])
(.cond (tT 37)
(.draw [(sS 39 (.fld 4 (tT 1)),[]),(sS 40 (.load 1 false (tT 39)),[]),(sS 41 (.fld 6 (tT 1)),[]),(sS 42 (.load 1 false (tT 41)),[]),(sS 43 (.fld 7 (tT 1)),[]),(sS 44 (.load 1 false (tT 43)),[]),(sS 45 (.fld 4 (tT 3)),[]),(nN (.store 1 (tT 45) (tT 40)),[3,5]),(sS 46 (.fld 6 (tT 3)),[]),(nN (.store 1 (tT 46) (tT 42)),[5]),(sS 47 (.fld 7 (tT 3)),[]),(nN (.store 1 (tT 47) (tT 44)),[])] [2,3] [2,3])
(.seq
(.region [sS 49 (.bin .eql (tT 8) (zZ 8)),sS 48 (.mov (tT 49))] [1,2,3,8,48] [1,2,3])
(.cond (tT 48)
(.draw [(sS 50 (.fld 5 (tT 1)),[]),(sS 51 (.load 1 false (tT 50)),[]),(sS 52 (.fld 6 (tT 1)),[]),(sS 53 (.load 1 false (tT 52)),[]),(sS 54 (.fld 5 (tT 3)),[]),(nN (.store 1 (tT 54) (tT 51)),[3]),(sS 55 (.fld 6 (tT 3)),[]),(nN (.store 1 (tT 55) (tT 53)),[])] [2,3] [2,3])
(.seq
(.seq
(.region [sS 57 (.bin .eql (tT 8) (zZ 7)),sS 56 (.mov (tT 57))] [1,2,3,8,56] [1,2,3])
(.cond (tT 56)
.skip
(.region [sS 58 (.bin .eql (tT 8) (zZ 9)),sS 56 (.mov (tT 58))] [1,2,3,56] [1,2,3])))
(.cond (tT 56)
(.region [sS 59 (.fld 6 (tT 1)),sS 60 (.load 1 false (tT 59)),sS 61 (.fld 6 (tT 3)),nN (.store 1 (tT 61) (tT 60))] [2,3] [2,3])
.skip))))))))))))))))))
(.seq
(.region [sS 62 (.load 8 true (tT 3)),nN (.store 8 (tT 2) (tT 62))] [2] [2])
.ret)))),[.cell 2 8 true],false,false,false⟩
def F517 : AFunc := ⟨2,(.seq
(.region [sS 4 (.mov (bB false))] [0,1] [])
(.seq
(.region [sS 5 (.mov (tT 0)),sS 6 (.mov (tT 1)),sS 7 (.call (.val (.func 522 [])) [(tT 5),(tT 6)]),sS 8 (.bin .geq (tT 7) (zZ 0)),sS 4 (.mov (tT 8))] [4] [])
.ret)),[.tmp 4],false,false,false⟩
def F518 : AFunc := ⟨4,(.seq
(.region [sS 4 (.box 4 8 (tT 0)),sS 5 (.mov (bB false))] [1,2,3,4] [4])
(.seq
(.region [sS 6 (.load 1 true (tT 1)),sS 7 (.load 1 false (tT 2)),sS 8 (.load 8 true (tT 4)),sS 9 (.load 1 false (tT 3)),sS 10 (.call (.val (.func 503 [])) [(tT 6),(tT 7),(tT 8),(tT 9)]),sS 11 (.un .not (tT 10)),sS 5 (.mov (tT 11))] [5] [])
.ret)),[.tmp 5],false,false,false⟩
def F519 : AFunc := ⟨2,(.seq
(.region [sS 4 (.mov (zZ 0))] [0,1] [])
(.seq
(.region [sS 7 (.mov (tT 0)),sS 8 (.call (.val (.func 523 [])) [(tT 7)]),sS 5 (.mov (tT 8))] [0,1,5] [])
(.seq
(.region [sS 9 (.mov (tT 1)),sS 10 (.call (.val (.func 523 [])) [(tT 9)]),sS 6 (.mov (tT 10))] [0,1,5,6] [])
(.seq
(.seq
(.region [sS 11 (.mov (tT 5))] [0,1,6,11] [])
(.cond (tT 11)
(.seq
(.seq
(.region [sS 12 (.mov (tT 6))] [12] [])
(.cond (tT 12)
(.seq
(.region [sS 4 (.mov (zZ 0))] [4] [])
.ret)
.skip))
(.seq
(.region [sS 4 (.mov (.val (.pv (.int .i64 (-1)))))] [4] [])
.ret))
.skip))
(.seq
(.seq
(.region [sS 13 (.mov (tT 6))] [0,1,13] [])
(.cond (tT 13)
(.seq
(.region [sS 4 (.mov (zZ 1))] [4] [])
.ret)
.skip))
(.seq
(.seq
(.region [sS 14 (.mov (tT 0)),sS 15 (.mov (tT 1)),sS 16 (.bin .lss (tT 14) (tT 15))] [0,1,16] [])
(.cond (tT 16)
(.seq
(.region [sS 4 (.mov (.val (.pv (.int .i64 (-1)))))] [4] [])
.ret)
.skip))
(.seq
(.seq
(.region [sS 17 (.mov (tT 0)),sS 18 (.mov (tT 1)),sS 19 (.bin .gtr (tT 17) (tT 18))] [19] [])
(.cond (tT 19)
(.seq
(.region [sS 4 (.mov (zZ 1))] [4] [])
.ret)
.skip))
(.seq
(.region [sS 4 (.mov (zZ 0))] [4] [])
.ret)))))))),[.tmp 4],false,false,false⟩
def F520 : AFunc := ⟨1,(.seq
(.region [sS 2 (.mov (.val (.pv (.int .u64 0))))] [0] [])
(.seq
(.region [sS 3 (.mov (tT 0)),sS 4 (.conv .u64 (tT 3)),sS 5 (.bin .shl (tT 4) (.val (.pv (.int .u64 1)))),sS 6 (.mov (tT 0)),sS 7 (.bin .shr (tT 6) (.val (.pv (.int .u64 63)))),sS 8 (.conv .u64 (tT 7)),sS 9 (.bin .xor (tT 5) (tT 8)),sS 2 (.mov (tT 9))] [2] [])
.ret)),[.tmp 2],false,false,false⟩
def F521 : AFunc := ⟨2,(.seq
(.region [sS 4 (.mov (zZ 0))] [0,1] [])
(.seq
(.region [sS 7 (.mov (tT 0)),sS 8 (.call (.val (.func 524 [])) [(tT 7)]),sS 5 (.mov (tT 8))] [0,1,5] [])
(.seq
(.region [sS 9 (.mov (tT 1)),sS 10 (.call (.val (.func 524 [])) [(tT 9)]),sS 6 (.mov (tT 10))] [0,1,5,6] [])
(.seq
(.seq
(.region [sS 11 (.mov (tT 5))] [0,1,6,11] [])
(.cond (tT 11)
(.seq
(.seq
(.region [sS 12 (.mov (tT 6))] [12] [])
(.cond (tT 12)
(.seq
(.region [sS 4 (.mov (zZ 0))] [4] [])
.ret)
.skip))
(.seq
(.region [sS 4 (.mov (.val (.pv (.int .i64 (-1)))))] [4] [])
.ret))
.skip))
(.seq
(.seq
(.region [sS 13 (.mov (tT 6))] [0,1,13] [])
(.cond (tT 13)
(.seq
(.region [sS 4 (.mov (zZ 1))] [4] [])
.ret)
.skip))
(.seq
(.seq
(.region [sS 14 (.mov (tT 0)),sS 15 (.mov (tT 1)),sS 16 (.bin .lss (tT 14) (tT 15))] [0,1,16] [])
(.cond (tT 16)
(.seq
(.region [sS 4 (.mov (.val (.pv (.int .i64 (-1)))))] [4] [])
.ret)
.skip))
(.seq
(.seq
(.region [sS 17 (.mov (tT 0)),sS 18 (.mov (tT 1)),sS 19 (.bin .gtr (tT 17) (tT 18))] [19] [])
(.cond (tT 19)
(.seq
(.region [sS 4 (.mov (zZ 1))] [4] [])
.ret)
.skip))
(.seq
(.region [sS 4 (.mov (zZ 0))] [4] [])
.ret)))))))),[.tmp 4],false,false,false⟩
def F522 : AFunc := ⟨2,(.seq
(.region [sS 4 (.mov (zZ 0))] [0,1] [])
(.seq
(.seq
(.region [sS 6 (.mov (tT 0)),sS 7 (.len 0 (tT 6)),sS 8 (.mov (zZ 0))] [0,1,7,8] [])
(.block 0
(.loop
(.mask [0,1,7,8] []
(.seq
(.region [sS 9 (.bin .lss (tT 8) (tT 7))] [0,1,7,8,9] [])
(.seq
(.cond (tT 9)
.skip
(.exit 0))
(.seq
(.block 1
(.seq
(.region [sS 10 (.mov (tT 8)),sS 5 (.mov (tT 10))] [0,1,5,7,8] [])
(.seq
(.region [sS 11 (.mov (tT 1)),sS 12 (.mov (tT 0)),sS 13 (.mov (tT 5)),sS 14 (.idx 8 (tT 12) (tT 13)),sS 15 (.load 8 true (tT 14)),sS 16 (.call (tT 11) [(tT 15)])] [0,1,5,7,8,16] [])
(.cond (tT 16)
(.seq
(.region [sS 17 (.mov (tT 5)),sS 4 (.mov (tT 17))] [4] [])
.ret)
.skip))))
(.region [sS 18 (.bin .add (tT 8) (zZ 1)),sS 8 (.mov (tT 18))] [0,1,7,8] []))))))))
(.seq
(.region [sS 4 (.mov (.val (.pv (.int .i64 (-1)))))] [4] [])
.ret))),[.tmp 4],false,false,false⟩
def F523 : AFunc := ⟨1,(.seq
(.region [sS 2 (.mov (bB false))] [0] [])
(.seq
(.region [sS 3 (.mov (tT 0)),sS 4 (.mov (tT 0)),sS 5 (.bin .neq (tT 3) (tT 4)),sS 2 (.mov (tT 5))] [2] [])
.ret)),[.tmp 2],false,false,false⟩
def F524 : AFunc := ⟨1,(.seq
(.region [sS 2 (.mov (bB false))] [0] [])
(.seq
(.region [sS 3 (.mov (tT 0)),sS 4 (.mov (tT 0)),sS 5 (.bin .neq (tT 3) (tT 4)),sS 2 (.mov (tT 5))] [2] [])
.ret)),[.tmp 2],false,false,false⟩
end Go.Pv
