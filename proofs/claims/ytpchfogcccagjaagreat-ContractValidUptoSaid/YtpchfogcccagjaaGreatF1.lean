/-
  Functions of the program,read for the interpreter.
-/
import Derived.Test.YtpchfogcccagjaaGreatA4
namespace Go.Pv
@[reducible] def tT (n:Nat):bz:=.tmp n
@[reducible] def zZ (n:Int):bz:=.val (.pv (.int .i64 n))
@[reducible] def bB (b:Bool):bz:=.val (.pv (.bool b))
@[reducible] def pZ:V:=.pv (.int .i64 0)
@[reducible] def sS (n:Nat) (o:da):ay:=⟨some n,o,none⟩
@[reducible] def nN (o:da):ay:=⟨none,o,none⟩
@[reducible] def gT (n:Nat) (o:da) (t:Nat):ay:=⟨some n,o,some (t,true)⟩
@[reducible] def gF (n:Nat) (o:da) (t:Nat):ay:=⟨some n,o,some (t,false)⟩
@[reducible] def mT (a:Nat):da:=.eJ (.tmp a)
@[reducible] def mZ (n:Int):da:=.eJ (zZ n)
@[reducible] def mB (b:Bool):da:=.eJ (bB b)
@[reducible] def lF (k a:Nat):da:=.load k false (.tmp a)
@[reducible] def lT (k a:Nat):da:=.load k true (.tmp a)
@[reducible] def fL (k a:Nat):da:=.Hw k (.tmp a)
@[reducible] def iX (k a b:Nat):da:=.idx k (.tmp a) (.tmp b)
@[reducible] def lN (k a:Nat):da:=.len k (.tmp a)
@[reducible] def bT (o:BinOp) (a b:Nat):da:=.bin o (.tmp a) (.tmp b)
@[reducible] def bZ (o:BinOp) (a:Nat) (n:Int):da:=.bin o (.tmp a) (zZ n)
@[reducible] def pA (a b:Nat):da:=.pick (.tmp a) (.tmp b) (bB false)
@[reducible] def pO (a b:Nat):da:=.pick (.tmp a) (bB true) (.tmp b)
@[reducible] def cA (f a:Nat):da:=.call (.val (.func f [])) [.tmp a]
@[reducible] def cB (f a b:Nat):da:=.call (.val (.func f [])) [.tmp a,.tmp b]
@[reducible] def cL (f:Nat) (l:List bz):da:=.call (.val (.func f [])) l
@[reducible] def sT (k a b:Nat):da:=.store k (.tmp a) (.tmp b)
@[reducible] def bX (s n a:Nat):da:=.box s n (.tmp a)
@[reducible] def eX (a i:Nat):da:=.ext (.tmp a) i
@[reducible] def nT (a:Nat):da:=.un .not (.tmp a)
@[reducible] def aP (k a b:Nat):da:=.app k (.tmp a) (.tmp b)
@[reducible] def sM (n a:Nat):ay:=⟨some n,.eJ (.tmp a),none⟩
@[reducible] def sL (n a:Nat):ay:=⟨some n,.load 1 false (.tmp a),none⟩
@[reducible] def sF (n k a:Nat):ay:=⟨some n,.Hw k (.tmp a),none⟩
@[reducible] def rG (o:List ay) (a b:List Nat):AC:=.region o a b
@[reducible] def sQ (a b:AC):AC:=.seq a b
@[reducible] def cN (n:Nat) (a b:AC):AC:=.cond (.tmp n) a b
def F14:aa:=⟨2,(sQ
(rG [sS 4 (mB false)] [0,1] [])
(sQ
(sQ
(rG [sM 6 0,sS 7 (lN 0 6),sM 8 1,sS 9 (lN 0 8),sS 10 (bT .neq 7 9)] [0,1,10] [])
(cN 10
(sQ
(rG [sS 4 (mB false)] [4] [])
.ret)
.skip))
(sQ
(sQ
(rG [sM 11 0,sS 12 (lN 0 11),sS 13 (mZ 0)] [0,1,12,13] [])
(.block 0
(.loop
(.mask [0,1,12,13] []
(sQ
(rG [sS 14 (bT .lss 13 12)] [0,1,12,13,14] [])
(sQ
(cN 14
.skip
(.exit 0))
(sQ
(.block 1
(sQ
(rG [sM 15 13,sM 5 15] [0,1,5,12,13] [])
(sQ
(.draw [(sM 16 0,[]),(sM 17 5,[]),(sS 18 (iX 1 16 17),[]),(sL 19 18,[]),(sM 20 1,[]),(sM 21 5,[]),(sS 22 (iX 1 20 21),[]),(sL 23 22,[]),(sS 24 (bT .neq 19 23),[])] [0,1,12,13,24] [])
(cN 24
(sQ
(rG [sS 4 (mB false)] [4] [])
.ret)
.skip))))
(rG [sS 25 (bZ .add 13 1),sM 13 25] [0,1,12,13] []))))))))
(sQ
(rG [sS 4 (mB true)] [4] [])
.ret)))),[.tmp 4],false,false,false⟩
def F15:aa:=⟨2,(sQ
(rG [sS 2 (bX 2 3 0),sS 3 (bX 3 3 1),sS 4 (mB false)] [2,3] [2,3])
(sQ
(sQ
(rG [sF 6 0 2,sL 7 6,sF 8 0 3,sL 9 8,sS 10 (bT .neq 7 9),sM 11 10,gF 12 (fL 1 2) 11,gF 13 (lF 1 12) 11,gF 14 (fL 1 3) 11,gF 15 (lF 1 14) 11,gF 16 (bT .neq 13 15) 11,sS 17 (pO 11 16),sM 18 17,gF 19 (fL 2 2) 18,gF 20 (lF 1 19) 18,gF 21 (lN 0 20) 18,gF 22 (fL 2 3) 18,gF 23 (lF 1 22) 18,gF 24 (lN 0 23) 18,gF 25 (bT .neq 21 24) 18,sS 26 (pO 18 25)] [2,3,26] [2,3])
(cN 26
(sQ
(rG [sS 4 (mB false)] [4] [])
.ret)
.skip))
(sQ
(sQ
(rG [sS 5 (mZ 0)] [2,3,5] [2,3])
(.block 0
(.loop
(.mask [2,3,5] [2,3]
(sQ
(sQ
(rG [sM 27 5,sF 28 2 2,sL 29 28,sS 30 (lN 0 29),sS 31 (bT .lss 27 30)] [2,3,5,31] [2,3])
(cN 31
.skip
(.exit 0)))
(sQ
(.block 1
(sQ
(.draw [(sF 34 2 2,[]),(sL 35 34,[]),(sM 36 5,[]),(sS 37 (iX 4 35 36),[]),(sS 38 (lT 4 37),[]),(sF 39 2 3,[]),(sL 40 39,[]),(sM 41 5,[]),(sS 42 (iX 4 40 41),[]),(sS 43 (lT 4 42),[]),(sS 44 (.mF true [1,0,1,1] true (tT 38) (tT 43)),[])] [2,3,5,44] [2,3])
(cN 44
(sQ
(rG [sS 4 (mB false)] [4] [])
.ret)
.skip)))
(rG [sM 32 5,sS 33 (bZ .add 32 1),sM 5 33] [2,3,5] [2,3])))))))
(sQ
(rG [sS 4 (mB true)] [4] [])
.ret)))),[.tmp 4],false,false,false⟩
def F16:aa:=⟨2,(sQ
(rG [sS 2 (bX 2 3 0),sS 3 (bX 3 3 1),sS 4 (mB false),sS 5 (mZ 0)] [2,3] [2,3])
(sQ
(sQ
(rG [sS 10 (lT 3 2),sS 11 (lT 3 3),sS 12 (cB 34 10 11),sM 6 12] [2,3,6] [2,3])
(sQ
(rG [sM 13 6,sS 14 (bZ .neq 13 0)] [2,3,6,14] [2,3])
(cN 14
(sQ
(rG [sM 15 6,sS 4 (mB false),sM 5 15] [4,5] [])
.ret)
.skip)))
(sQ
(rG [sS 17 (lT 3 2),sS 18 (lT 3 3),sS 19 (cL 35 [(tT 17),(tT 18),(bB false)]),sM 16 19,sS 20 (eX 16 0),sS 21 (eX 16 1),sS 22 (eX 16 2),sM 7 20,sM 8 21,sM 9 22] [9] [])
(sQ
(rG [sM 23 9,sS 24 (nT 23),sM 4 24,sS 5 (mZ 0)] [4,5] [])
.ret)))),[.tmp 4,.tmp 5],false,false,false⟩
def F26:aa:=⟨1,(sQ
(rG [sS 1 (bX 1 3 0),sS 2 (mZ 0)] [1] [1])
(sQ
(sQ
(rG [sF 5 0 1,sL 6 5,sS 7 (bZ .gtr 6 12),sM 8 7,gF 9 (fL 2 1) 8,gF 10 (lF 1 9) 8,gF 11 (lN 0 10) 8,gF 12 (bZ .gtr 11 100) 8,sS 13 (pO 8 12)] [1,13] [1])
(cN 13
(sQ
(rG [sS 2 (mZ 3)] [2] [])
.ret)
.skip))
(sQ
(sQ
(rG [sF 14 0 1,sL 15 14,sS 16 (bZ .lss 15 1),sM 17 16,gF 18 (fL 1 1) 17,gF 19 (lF 1 18) 17,gF 20 (bZ .lss 19 0) 17,sS 21 (pO 17 20),sM 22 21,gF 23 (fL 1 1) 22,gF 24 (lF 1 23) 22,gF 25 (fL 0 1) 22,gF 26 (lF 1 25) 22,gF 27 (bT .geq 24 26) 22,sS 28 (pO 22 27)] [1,28] [1])
(cN 28
(sQ
(rG [sS 2 (mZ 1)] [2] [])
.ret)
.skip))
(sQ
(sQ
(rG [sS 3 (mZ 0)] [1,3] [1])
(.block 0
(.loop
(.mask [1,3] [1]
(sQ
(sQ
(rG [sM 29 3,sF 30 2 1,sL 31 30,sS 32 (lN 0 31),sS 33 (bT .lss 29 32)] [1,3,33] [1])
(cN 33
.skip
(.exit 0)))
(sQ
(.block 1
(sQ
(rG [sF 36 2 1,sL 37 36,sM 38 3,sS 39 (iX 4 37 38),sS 40 (lT 4 39),sS 4 (.alloc 4 [pZ,.pv (.bool false),pZ,pZ]),nN (sT 4 4 40)] [1,3,4] [1,4])
(sQ
(sQ
(rG [sF 41 0 4,sL 42 41,sS 43 (bZ .lss 42 0),sM 44 43,gF 45 (fL 0 4) 44,gF 46 (lF 1 45) 44,gF 47 (fL 0 1) 44,gF 48 (lF 1 47) 44,gF 49 (bT .geq 46 48) 44,sS 50 (pO 44 49),sM 51 50,gF 52 (fL 3 4) 51,gF 53 (lF 1 52) 51,gF 54 (bZ .lss 53 0) 51,sS 55 (pO 51 54),sM 56 55,gF 57 (fL 3 4) 56,gF 58 (lF 1 57) 56,gF 59 (fL 0 1) 56,gF 60 (lF 1 59) 56,gF 61 (bT .geq 58 60) 56,sS 62 (pO 56 61),sM 63 62,gF 64 (fL 2 4) 63,gF 65 (lF 1 64) 63,gF 66 (bZ .lss 65 1) 63,sS 67 (pO 63 66),sM 68 67,gF 69 (fL 2 4) 68,gF 70 (lF 1 69) 68,gF 71 (bZ .gtr 70 1000) 68,sS 72 (pO 68 71)] [1,3,4,72] [1,4])
(cN 72
(sQ
(rG [sS 2 (mZ 1)] [2] [])
.ret)
.skip))
(sQ
(.draw [(sM 73 3,[]),(sS 74 (bZ .gtr 73 0),[]),(sM 75 74,[]),(gT 76 (fL 2 1) 75,[]),(gT 77 (lF 1 76) 75,[]),(gT 78 (mT 3) 75,[]),(gT 79 (bZ .sub 78 1) 75,[]),(gT 80 (iX 4 77 79) 75,[]),(gT 81 (lT 4 80) 75,[]),(gT 82 (lT 4 4) 75,[]),(gT 83 (cB 44 81 82) 75,[]),(gT 84 (nT 83) 75,[]),(sS 85 (pA 75 84),[])] [1,3,85] [1])
(cN 85
(sQ
(rG [sS 2 (mZ 1)] [2] [])
.ret)
.skip)))))
(rG [sM 34 3,sS 35 (bZ .add 34 1),sM 3 35] [1,3] [1])))))))
(sQ
(rG [sS 2 (mZ 0)] [2] [])
.ret))))),[.tmp 2],false,false,false⟩
def F29:aa:=⟨1,(sQ
(rG [sS 1 (bX 1 3 0),sS 2 (mZ 0)] [1] [1])
(sQ
(sQ
(rG [sF 6 0 1,sL 7 6,sS 8 (bZ .gtr 7 12),sM 9 8,gF 10 (fL 2 1) 9,gF 11 (lF 1 10) 9,gF 12 (lN 0 11) 9,gF 13 (bZ .gtr 12 100) 9,sS 14 (pO 9 13)] [1,14] [1])
(cN 14
(sQ
(rG [sS 2 (mZ 3)] [2] [])
.ret)
.skip))
(sQ
(rG [sS 15 (.jA 46 [(tT 1)]),sM 3 15] [1,3] [1])
(sQ
(sQ
(rG [sM 16 3,sF 17 1 1,sL 18 17,sS 19 (.call (tT 16) [(tT 18)]),sS 20 (nT 19)] [1,3,20] [1])
(cN 20
(sQ
(rG [sS 2 (mZ 1)] [2] [])
.ret)
.skip))
(sQ
(sQ
(rG [sF 21 2 1,sL 22 21,sS 23 (lN 0 22),sS 24 (mZ 0)] [1,3,22,23,24] [1])
(.block 0
(.loop
(.mask [1,3,22,23,24] [1]
(sQ
(rG [sS 25 (bT .lss 24 23)] [1,3,22,23,24,25] [1])
(sQ
(cN 25
.skip
(.exit 0))
(sQ
(.block 1
(sQ
(rG [sM 26 24,sS 27 (iX 4 22 24),sS 28 (lT 4 27),sS 5 (.alloc 5 [pZ,.pv (.bool false),pZ,pZ]),sM 4 26,nN (sT 4 5 28)] [1,3,4,5,22,23,24] [1,5])
(sQ
(.draw [(sM 29 3,[]),(sF 30 0 5,[]),(sL 31 30,[]),(sS 32 (.call (tT 29) [(tT 31)]),[]),(sS 33 (nT 32),[]),(sM 34 33,[]),(gF 35 (mT 3) 34,[]),(gF 36 (fL 3 5) 34,[]),(gF 37 (lF 1 36) 34,[]),(gF 38 (.call (tT 35) [(tT 37)]) 34,[]),(gF 39 (nT 38) 34,[]),(sS 40 (pO 34 39),[]),(sM 41 40,[]),(gF 42 (fL 2 5) 41,[]),(gF 43 (lF 1 42) 41,[]),(gF 44 (bZ .lss 43 1) 41,[]),(sS 45 (pO 41 44),[]),(sM 46 45,[]),(gF 47 (fL 2 5) 46,[]),(gF 48 (lF 1 47) 46,[]),(gF 49 (bZ .gtr 48 1000) 46,[]),(sS 50 (pO 46 49),[]),(sM 51 50,[]),(gF 52 (mT 4) 51,[]),(gF 53 (bZ .gtr 52 0) 51,[]),(gF 54 (mT 53) 51,[]),(gT 55 (fL 2 1) 54,[]),(gT 56 (lF 1 55) 54,[]),(gT 57 (mT 4) 54,[]),(gT 58 (bZ .sub 57 1) 54,[]),(gT 59 (iX 4 56 58) 54,[]),(gT 60 (lT 4 59) 54,[]),(gT 61 (lT 4 5) 54,[]),(gT 62 (cB 47 60 61) 54,[]),(gT 63 (bZ .geq 62 0) 54,[]),(gF 64 (pA 54 63) 51,[]),(sS 65 (pO 51 64),[])] [1,3,22,23,24,65] [1])
(cN 65
(sQ
(rG [sS 2 (mZ 1)] [2] [])
.ret)
.skip))))
(rG [sS 66 (bZ .add 24 1),sM 24 66] [1,3,22,23,24] [1]))))))))
(sQ
(rG [sS 2 (mZ 0)] [2] [])
.ret)))))),[.tmp 2],false,false,false⟩
def F32:aa:=⟨1,(sQ
(rG [sS 1 (bX 1 3 0),sS 2 (.alloc 2 [pZ,pZ,.tl []]),sS 3 (mZ 0)] [1,2] [1,2])
(sQ
(sQ
(rG [sS 10 (lT 3 1),sS 11 (cA 29 10),sM 4 11] [1,2,4] [1,2])
(sQ
(rG [sM 12 4,sS 13 (bZ .neq 12 0)] [1,2,4,13] [1,2])
(cN 13
(sQ
(rG [sS 14 (.build [pZ,pZ,.tl []] []),sM 15 4,nN (sT 3 2 14),sM 3 15] [2,3] [2])
.ret)
.skip)))
(sQ
(rG [sS 17 (lT 3 1),sS 18 (cA 50 17),sM 16 18,sS 19 (eX 16 0),sS 20 (eX 16 1),sM 5 19,sM 6 20] [1,2,5,6] [1,2])
(sQ
(rG [sM 21 5,sS 22 (lN 0 21),sS 23 (.build [pZ,pZ,.tl []] [(0,1,(tT 22))]),sS 7 (.alloc 7 [pZ,pZ,.tl []]),nN (sT 3 7 23)] [1,2,6,7] [1,2,7])
(sQ
(sQ
(rG [sF 24 2 1,sL 25 24,sS 26 (lN 0 25),sS 27 (mZ 0)] [2,6,7,25,26,27] [2,7])
(.block 0
(.loop
(.mask [2,6,7,25,26,27] [2,7]
(sQ
(rG [sS 28 (bT .lss 27 26)] [2,6,7,25,26,27,28] [2,7])
(sQ
(cN 28
.skip
(.exit 0))
(sQ
(.block 1
(sQ
(rG [sS 29 (iX 4 25 27),sS 30 (lT 4 29),sS 9 (.alloc 9 [pZ,.pv (.bool false),pZ,pZ]),nN (sT 4 9 30)] [2,6,7,9,25,26,27] [2,7,9])
(sQ
(rG [sM 31 6,sF 32 0 9,sL 33 32,sS 34 (iX 1 31 33),sL 35 34,sS 36 (bZ .geq 35 0)] [2,6,7,9,25,26,27,36] [2,7,9])
(cN 36
(sQ
(.draw [(sM 37 6,[]),(sF 38 0 9,[]),(sL 39 38,[]),(sS 40 (iX 1 37 39),[]),(sL 41 40,[]),(sM 42 6,[]),(sF 43 3 9,[]),(sL 44 43,[]),(sS 45 (iX 1 42 44),[]),(sL 46 45,[]),(sF 47 0 9,[]),(nN (sT 1 47 41),[8,9]),(sF 48 3 9,[]),(nN (sT 1 48 46),[])] [2,6,7,9,25,26,27] [2,7,9])
(rG [sF 49 2 7,sL 50 49,sS 51 (lT 4 9),sS 52 (.lit 4 [pZ,.pv (.bool false),pZ,pZ] 1 [(0,4,(tT 51))]),sS 53 (aP 4 50 52),sF 54 2 7,nN (sT 1 54 53)] [2,6,7,25,26,27] [2,7]))
.skip))))
(rG [sS 55 (bZ .add 27 1),sM 27 55] [2,6,7,25,26,27] [2,7]))))))))
(sQ
(rG [sF 56 2 7,sL 57 56,sS 58 (cL 51 [(tT 57),(.val (.func 47 []))])] [2,7] [2,7])
(sQ
(rG [sS 59 (lT 3 7),nN (sT 3 2 59),sS 3 (mZ 0)] [2,3] [2])
.ret))))))),[.cell 2 3 true,.tmp 3],false,false,false⟩
def F33:aa:=⟨1,(sQ
(rG [sS 1 (bX 1 3 0),sS 2 (.alloc 2 [pZ,pZ,.tl []]),sS 3 (mZ 0)] [1,2] [1,2])
(sQ
(sQ
(rG [sS 9 (lT 3 1),sS 10 (cA 26 9),sM 4 10] [1,2,4] [1,2])
(sQ
(rG [sM 11 4,sS 12 (bZ .neq 11 0)] [1,2,4,12] [1,2])
(cN 12
(sQ
(rG [sS 13 (.build [pZ,pZ,.tl []] []),sM 14 4,nN (sT 3 2 13),sM 3 14] [2,3] [2])
.ret)
.skip)))
(sQ
(rG [sS 15 (lT 3 1),sS 16 (cA 52 15),sM 5 16] [1,2,5] [1,2])
(sQ
(rG [sM 17 5,sS 18 (lN 0 17),sS 19 (.build [pZ,pZ,.tl []] [(0,1,(tT 18))]),sS 6 (.alloc 6 [pZ,pZ,.tl []]),nN (sT 3 6 19)] [1,2,5,6] [1,2,6])
(sQ
(sQ
(rG [sS 7 (mZ 0)] [1,2,5,6,7] [1,2,6])
(.block 0
(.loop
(.mask [1,2,5,6,7] [1,2,6]
(sQ
(sQ
(rG [sM 20 7,sF 21 2 1,sL 22 21,sS 23 (lN 0 22),sS 24 (bT .lss 20 23)] [1,2,5,6,7,24] [1,2,6])
(cN 24
.skip
(.exit 0)))
(sQ
(.block 1
(sQ
(rG [sF 27 2 1,sL 28 27,sM 29 7,sS 30 (iX 4 28 29),sS 31 (lT 4 30),sS 8 (.alloc 8 [pZ,.pv (.bool false),pZ,pZ]),nN (sT 4 8 31)] [1,2,5,6,7,8] [1,2,6,8])
(sQ
(rG [sM 32 5,sF 33 0 8,sL 34 33,sS 35 (cB 53 32 34),sS 36 (bZ .geq 35 0)] [1,2,5,6,7,8,36] [1,2,6,8])
(cN 36
(.draw [(sF 37 2 6,[]),(sL 38 37,[]),(sM 39 5,[]),(sF 40 0 8,[]),(sL 41 40,[]),(sS 42 (cB 53 39 41),[1]),(sF 43 1 8,[]),(sL 44 43,[5]),(sF 45 2 8,[]),(sL 46 45,[5]),(sM 47 5,[]),(sF 48 3 8,[]),(sL 49 48,[5]),(sS 50 (cB 53 47 49),[1,7,9]),(sS 51 (.build [pZ,.pv (.bool false),pZ,pZ] [(0,1,(tT 42)),(1,1,(tT 44)),(2,1,(tT 46)),(3,1,(tT 50))]),[]),(sS 52 (.lit 4 [pZ,.pv (.bool false),pZ,pZ] 1 [(0,4,(tT 51))]),[1]),(sS 53 (aP 4 38 52),[]),(sF 54 2 6,[]),(nN (sT 1 54 53),[])] [1,2,5,6,7] [1,2,6])
.skip))))
(rG [sM 25 7,sS 26 (bZ .add 25 1),sM 7 26] [1,2,5,6,7] [1,2,6])))))))
(sQ
(rG [sS 55 (lT 3 6),sS 56 (cA 43 55),nN (sT 3 2 56),sS 3 (mZ 0)] [2,3] [2])
.ret)))))),[.cell 2 3 true,.tmp 3],false,false,false⟩
def F34:aa:=⟨2,(sQ
(rG [sS 2 (bX 2 3 0),sS 3 (bX 3 3 1),sS 4 (mZ 0)] [2,3] [2,3])
(sQ
(sQ
(rG [sS 6 (lT 3 2),sS 7 (cA 29 6),sM 5 7] [3,5] [3])
(sQ
(rG [sM 8 5,sS 9 (bZ .neq 8 0)] [3,5,9] [3])
(cN 9
(sQ
(rG [sM 10 5,sM 4 10] [4] [])
.ret)
.skip)))
(sQ
(rG [sS 11 (lT 3 3),sS 12 (cA 29 11),sM 4 12] [4] [])
.ret))),[.tmp 4],false,false,false⟩
def F35:aa:=⟨3,(sQ
(rG [sS 3 (bX 3 3 0),sS 4 (bX 4 3 1),sS 6 (.eJ (.val (.tl []))),sS 7 (mZ 0),sS 8 (mB false)] [2,3,4] [3,4])
(sQ
(rG [sF 21 1 3,sL 22 21,sF 23 1 4,sL 24 23,sS 25 (.build [pZ,pZ,.tl []] [(0,1,(tT 22)),(1,1,(tT 24)),(2,1,(.val (.tl [])))]),sS 26 (.lit 3 [pZ,pZ,.tl []] 1 [(0,3,(tT 25))]),sM 9 26] [2,3,4,9] [3,4])
(sQ
(rG [sS 27 (.ki),sF 28 1 3,sL 29 28,sF 30 1 4,sL 31 30,sS 32 (.build [pZ,pZ] [(0,1,(tT 29)),(1,1,(tT 31))]),nN (.zK true [1,1] (tT 27) (tT 32) (bB true)),sM 33 27,sM 10 33] [2,3,4,9,10] [3,4])
(sQ
(.block 0
(.loop
(.mask [2,3,4,9,10] [3,4]
(sQ
(sQ
(rG [sM 34 9,sS 35 (lN 0 34),sS 36 (bZ .gtr 35 0)] [2,3,4,9,10,36] [3,4])
(cN 36
.skip
(.exit 0)))
(.block 1
(sQ
(rG [sM 37 9,sS 38 (.idx 3 (tT 37) (zZ 0)),sS 39 (lT 3 38),sS 11 (.alloc 11 [pZ,pZ,.tl []]),nN (sT 3 11 39)] [2,3,4,9,10,11] [3,4,11])
(sQ
(rG [sM 40 9,sS 41 (.sl 3 (tT 40) (some (zZ 1)) none none),sM 9 41] [2,3,4,9,10,11] [3,4,11])
(sQ
(.draw [(sS 42 (lT 3 3),[]),(sF 43 0 11,[]),(sL 44 43,[]),(sS 45 (cB 54 42 44),[]),(sS 46 (lT 3 4),[3]),(sF 47 1 11,[]),(sL 48 47,[3]),(sS 49 (cB 54 46 48),[]),(sM 12 45,[]),(sM 13 49,[])] [2,3,4,9,10,11,12,13] [3,4,11])
(sQ
(sQ
(rG [sS 14 (mZ 0),sS 15 (mZ 0)] [2,3,4,9,10,11,12,13,14,15] [3,4,11])
(.block 2
(.loop
(.mask [2,3,4,9,10,11,12,13,14,15] [3,4,11]
(sQ
(sQ
(rG [sM 50 14,sM 51 12,sS 52 (lN 0 51),sS 53 (bT .lss 50 52),sM 54 53,gF 55 (mT 15) 54,gF 56 (mT 13) 54,gF 57 (lN 0 56) 54,gF 58 (bT .lss 55 57) 54,sS 59 (pO 54 58)] [2,3,4,9,10,11,12,13,14,15,59] [3,4,11])
(cN 59
.skip
(.exit 2)))
(.block 3
(.block 4
(sQ
(.draw [(sM 65 15,[]),(sM 66 13,[]),(sS 67 (lN 0 66),[]),(sS 68 (bT .eql 65 67),[]),(sM 69 68,[]),(gF 70 (mT 14) 69,[]),(gF 71 (mT 12) 69,[]),(gF 72 (lN 0 71) 69,[]),(gF 73 (bT .lss 70 72) 69,[]),(gF 74 (mT 73) 69,[]),(gT 75 (mT 12) 74,[]),(gT 76 (mT 14) 74,[]),(gT 77 (iX 4 75 76) 74,[]),(gT 78 (lT 4 77) 74,[]),(gT 79 (mT 13) 74,[]),(gT 80 (mT 15) 74,[]),(gT 81 (iX 4 79 80) 74,[]),(gT 82 (lT 4 81) 74,[]),(gT 83 (cB 55 78 82) 74,[]),(gF 84 (pA 74 83) 69,[]),(sS 85 (pO 69 84),[]),(sM 64 85,[])] [2,3,4,9,10,11,12,13,14,15,64] [3,4,11])
(cN 64
(sQ
(.draw [(sF 86 2 11,[]),(sL 87 86,[]),(sM 88 12,[]),(sM 89 14,[]),(sS 90 (iX 4 88 89),[]),(sS 91 (lT 4 90),[]),(sS 92 (cA 56 91),[1]),(sS 93 (.lit 2 [.pv (.bool false),pZ] 1 [(0,2,(tT 92))]),[1]),(sS 94 (aP 2 87 93),[]),(sM 6 94,[]),(sS 7 (mZ 0),[]),(sS 8 (mB true),[])] [6,7,8] [])
.ret)
(sQ
(.draw [(sM 96 14,[]),(sM 97 12,[]),(sS 98 (lN 0 97),[]),(sS 99 (bT .eql 96 98),[]),(sM 100 99,[]),(gF 101 (mT 13) 100,[]),(gF 102 (mT 15) 100,[]),(gF 103 (iX 4 101 102) 100,[]),(gF 104 (lT 4 103) 100,[]),(gF 105 (mT 12) 100,[]),(gF 106 (mT 14) 100,[]),(gF 107 (iX 4 105 106) 100,[]),(gF 108 (lT 4 107) 100,[]),(gF 109 (cB 55 104 108) 100,[]),(sS 110 (pO 100 109),[]),(sM 95 110,[])] [2,3,4,9,10,11,12,13,14,15,95] [3,4,11])
(cN 95
(sQ
(sQ
(rG [sM 111 2,sS 112 (nT 111)] [2,3,4,9,10,11,12,13,14,15,112] [3,4,11])
(cN 112
(sQ
(.draw [(sF 113 2 11,[]),(sL 114 113,[]),(sM 115 13,[]),(sM 116 15,[]),(sS 117 (iX 4 115 116),[]),(sS 118 (lT 4 117),[]),(sS 119 (cA 56 118),[1]),(sS 120 (.lit 2 [.pv (.bool false),pZ] 1 [(0,2,(tT 119))]),[1]),(sS 121 (aP 2 114 120),[]),(sM 6 121,[]),(sS 7 (mZ 1),[]),(sS 8 (mB true),[])] [6,7,8] [])
.ret)
.skip))
(rG [sM 122 15,sS 123 (bZ .add 122 1),sM 15 123] [2,3,4,9,10,11,12,13,14,15] [3,4,11]))
(rG [sM 60 14,sS 61 (bZ .add 60 1),sM 62 15,sS 63 (bZ .add 62 1),sM 14 61,sM 15 63] [2,3,4,9,10,11,12,13,14,15] [3,4,11]))))))))))))
(sQ
(rG [sM 124 12,sS 125 (lN 0 124),sS 126 (mZ 0)] [2,3,4,9,10,11,124,125,126] [3,4,11])
(.block 5
(.loop
(.mask [2,3,4,9,10,11,124,125,126] [3,4,11]
(sQ
(rG [sS 127 (bT .lss 126 125)] [2,3,4,9,10,11,124,125,126,127] [3,4,11])
(sQ
(cN 127
.skip
(.exit 5))
(sQ
(.block 6
(sQ
(rG [sS 128 (iX 4 124 126),sS 129 (lT 4 128),sS 17 (.alloc 17 [pZ,.pv (.bool false),pZ,pZ]),nN (sT 4 17 129)] [2,3,4,9,10,11,17,124,125,126] [3,4,11,17])
(sQ
(rG [sS 131 (lT 3 4),sF 132 1 11,sL 133 132,sF 134 1 17,sL 135 134,sF 136 2 17,sL 137 136,sS 138 (cL 45 [(tT 131),(tT 133),(tT 135),(tT 137)]),sM 130 138,sS 139 (eX 130 0),sS 140 (eX 130 1),sM 18 139,sM 19 140] [2,3,4,9,10,11,17,18,19,124,125,126] [3,4,11,17])
(sQ
(rG [sF 141 3 17,sL 142 141,sM 143 18,sS 144 (.build [pZ,pZ] [(0,1,(tT 142)),(1,1,(tT 143))]),sS 20 (.alloc 20 [pZ,pZ]),nN (sT 2 20 144)] [2,3,4,9,10,11,17,18,19,20,124,125,126] [3,4,11,17,20])
(sQ
(rG [sM 145 19,sM 146 145,gT 147 (mT 10) 146,gT 148 (lT 2 20) 146,gT 149 (.look true [1,1] (.pv (.bool false)) (tT 147) (tT 148) false) 146,gT 150 (nT 149) 146,sS 151 (pA 146 150)] [2,3,4,9,10,11,17,18,20,124,125,126,151] [3,4,11,17,20])
(cN 151
(sQ
(rG [sM 152 10,sS 153 (lT 2 20),nN (.zK true [1,1] (tT 152) (tT 153) (bB true))] [2,3,4,9,10,11,17,18,124,125,126] [3,4,11,17])
(.draw [(sM 154 9,[]),(sF 155 3 17,[]),(sL 156 155,[]),(sM 157 18,[]),(sF 158 2 11,[]),(sL 159 158,[]),(sS 160 (cA 57 159),[2]),(sS 161 (lT 4 17),[6]),(sS 162 (cA 56 161),[2]),(sS 163 (.lit 2 [.pv (.bool false),pZ] 1 [(0,2,(tT 162))]),[2]),(sS 164 (aP 2 160 163),[2]),(sS 165 (.build [pZ,pZ,.tl []] [(0,1,(tT 156)),(1,1,(tT 157)),(2,1,(tT 164))]),[]),(sS 166 (.lit 3 [pZ,pZ,.tl []] 1 [(0,3,(tT 165))]),[]),(sS 167 (aP 3 154 166),[]),(sM 9 167,[])] [2,3,4,9,10,11,124,125,126] [3,4,11]))
.skip))))))
(rG [sS 168 (bZ .add 126 1),sM 126 168] [2,3,4,9,10,11,124,125,126] [3,4,11])))))))))))))))))
(sQ
(rG [sS 6 (.eJ (.val (.tl []))),sS 7 (mZ 0),sS 8 (mB false)] [6,7,8] [])
.ret))))),[.tmp 6,.tmp 7,.tmp 8],false,false,false⟩
def F43:aa:=⟨1,(sQ
(rG [sS 1 (bX 1 3 0),sS 2 (.alloc 2 [pZ,pZ,.tl []])] [1,2] [1,2])
(sQ
(rG [sF 6 0 1,sL 7 6,sF 8 1 1,sL 9 8,sS 10 (.build [pZ,pZ,.tl []] [(0,1,(tT 7)),(1,1,(tT 9))]),sS 3 (.alloc 3 [pZ,pZ,.tl []]),nN (sT 3 3 10)] [1,2,3] [1,2,3])
(sQ
(sQ
(rG [sS 4 (mZ 0)] [1,2,3,4] [1,2,3])
(.block 0
(.loop
(.mask [1,2,3,4] [1,2,3]
(sQ
(sQ
(rG [sM 11 4,sF 12 2 1,sL 13 12,sS 14 (lN 0 13),sS 15 (bT .lss 11 14)] [1,2,3,4,15] [1,2,3])
(cN 15
.skip
(.exit 0)))
(sQ
(.block 1
(sQ
(.draw [(sF 18 2 3,[]),(sL 19 18,[]),(sF 20 2 1,[]),(sL 21 20,[]),(sM 22 4,[]),(sS 23 (iX 4 21 22),[]),(sS 24 (lT 4 23),[]),(sS 25 (.lit 4 [pZ,.pv (.bool false),pZ,pZ] 1 [(0,4,(tT 24))]),[1]),(sS 26 (aP 4 19 25),[]),(sF 27 2 3,[]),(nN (sT 1 27 26),[])] [1,2,3,4] [1,2,3])
(sQ
(rG [sF 28 2 3,sL 29 28,sS 30 (lN 0 29),sS 31 (bZ .sub 30 1),sM 5 31] [1,2,3,4,5] [1,2,3])
(.block 2
(.loop
(.mask [1,2,3,4,5] [1,2,3]
(sQ
(sQ
(.draw [(sM 32 5,[]),(sS 33 (bZ .gtr 32 0),[]),(sM 34 33,[]),(gT 35 (fL 2 3) 34,[]),(gT 36 (lF 1 35) 34,[]),(gT 37 (mT 5) 34,[]),(gT 38 (iX 4 36 37) 34,[]),(gT 39 (lT 4 38) 34,[]),(gT 40 (fL 2 3) 34,[]),(gT 41 (lF 1 40) 34,[]),(gT 42 (mT 5) 34,[]),(gT 43 (bZ .sub 42 1) 34,[]),(gT 44 (iX 4 41 43) 34,[]),(gT 45 (lT 4 44) 34,[]),(gT 46 (cB 44 39 45) 34,[]),(sS 47 (pA 34 46),[])] [1,2,3,4,5,47] [1,2,3])
(cN 47
.skip
(.exit 2)))
(sQ
(.block 3
(.draw [(sF 50 2 3,[]),(sL 51 50,[]),(sM 52 5,[]),(sF 53 2 3,[]),(sL 54 53,[]),(sM 55 5,[]),(sS 56 (bZ .sub 55 1),[]),(sF 57 2 3,[]),(sL 58 57,[]),(sM 59 5,[]),(sS 60 (bZ .sub 59 1),[]),(sS 61 (iX 4 58 60),[]),(sS 62 (lT 4 61),[]),(sF 63 2 3,[]),(sL 64 63,[]),(sM 65 5,[]),(sS 66 (iX 4 64 65),[]),(sS 67 (lT 4 66),[]),(sS 68 (iX 4 51 52),[]),(nN (sT 4 68 62),[4]),(sS 69 (iX 4 54 56),[]),(nN (sT 4 69 67),[])] [1,2,3,4,5] [1,2,3]))
(rG [sM 48 5,sS 49 (bZ .sub 48 1),sM 5 49] [1,2,3,4,5] [1,2,3])))))))))
(rG [sM 16 4,sS 17 (bZ .add 16 1),sM 4 17] [1,2,3,4] [1,2,3])))))))
(sQ
(rG [sS 70 (lT 3 3),nN (sT 3 2 70)] [2] [2])
.ret)))),[.cell 2 3 true],false,false,false⟩
def F44:aa:=⟨2,(sQ
(rG [sS 2 (bX 2 4 0),sS 3 (bX 3 4 1),sS 4 (mB false)] [2,3] [2,3])
(sQ
(sQ
(rG [sF 5 0 2,sL 6 5,sF 7 0 3,sL 8 7,sS 9 (bT .neq 6 8)] [2,3,9] [2,3])
(cN 9
(sQ
(rG [sF 10 0 2,sL 11 10,sF 12 0 3,sL 13 12,sS 14 (bT .lss 11 13),sM 4 14] [4] [])
.ret)
.skip))
(sQ
(sQ
(rG [sF 15 1 2,sL 16 15,sF 17 1 3,sL 18 17,sS 19 (.mF false [0] true (tT 16) (tT 18))] [2,3,19] [2,3])
(cN 19
(sQ
(rG [sF 20 1 3,sL 21 20,sM 4 21] [4] [])
.ret)
.skip))
(sQ
(rG [sF 22 2 2,sL 23 22,sF 24 2 3,sL 25 24,sS 26 (bT .lss 23 25),sM 4 26] [4] [])
.ret)))),[.tmp 4],false,false,false⟩
def F45:aa:=⟨4,(sQ
(rG [sS 4 (bX 4 3 0),sS 8 (mZ 0),sS 9 (mB false)] [1,2,3,4] [4])
(sQ
(sQ
(rG [sF 12 2 4,sL 13 12,sS 14 (lN 0 13),sS 15 (mZ 0)] [1,2,3,13,14,15] [])
(.block 0
(.loop
(.mask [1,2,3,13,14,15] []
(sQ
(rG [sS 16 (bT .lss 15 14)] [1,2,3,13,14,15,16] [])
(sQ
(cN 16
.skip
(.exit 0))
(sQ
(.block 1
(sQ
(rG [sS 17 (iX 4 13 15),sS 18 (lT 4 17),sS 11 (.alloc 11 [pZ,.pv (.bool false),pZ,pZ]),nN (sT 4 11 18)] [1,2,3,11,13,14,15] [11])
(sQ
(rG [sF 19 0 11,sL 20 19,sM 21 1,sS 22 (bT .eql 20 21),sM 23 22,gT 24 (fL 1 11) 23,gT 25 (lF 1 24) 23,gT 26 (mT 2) 23,gT 27 (.mF false [0] false (tT 25) (tT 26)) 23,sS 28 (pA 23 27),sM 29 28,gT 30 (fL 2 11) 29,gT 31 (lF 1 30) 29,gT 32 (mT 3) 29,gT 33 (bT .eql 31 32) 29,sS 34 (pA 29 33)] [1,2,3,11,13,14,15,34] [11])
(cN 34
(sQ
(rG [sF 35 3 11,sL 36 35,sM 8 36,sS 9 (mB true)] [8,9] [])
.ret)
.skip))))
(rG [sS 37 (bZ .add 15 1),sM 15 37] [1,2,3,13,14,15] []))))))))
(sQ
(rG [sS 8 (mZ 0),sS 9 (mB false)] [8,9] [])
.ret))),[.tmp 8,.tmp 9],false,false,false⟩
def F46:aa:=⟨2,(sQ
(rG [sS 3 (mB false)] [0,1] [])
(sQ
(rG [sM 4 0,sS 5 (bZ .geq 4 0),sM 6 5,gT 7 (mT 0) 6,gT 8 (fL 0 1) 6,gT 9 (lF 1 8) 6,gT 10 (bT .lss 7 9) 6,sS 11 (pA 6 10),sM 3 11] [3] [])
.ret)),[.tmp 3],false,false,false⟩
def F47:aa:=⟨2,(sQ
(rG [sS 2 (bX 2 4 0),sS 3 (bX 3 4 1),sS 4 (mZ 0)] [2,3] [2,3])
(sQ
(rG [sS 5 (.eJ (.val (.func 58 [])))] [2,3,5] [2,3])
(sQ
(.draw [(sF 6 0 2,[]),(sL 7 6,[]),(sF 8 0 3,[]),(sL 9 8,[]),(sS 10 (cB 60 7 9),[]),(sM 11 5,[]),(sS 12 (lT 4 2),[4]),(sS 13 (.call (tT 11) [(tT 12)]),[]),(sM 14 5,[]),(sS 15 (lT 4 3),[4,7]),(sS 16 (.call (tT 14) [(tT 15)]),[]),(sS 17 (cB 60 13 16),[]),(sF 18 2 2,[]),(sL 19 18,[4,7,10,11]),(sF 20 2 3,[]),(sL 21 20,[4,7,10,11]),(sS 22 (cB 60 19 21),[]),(sS 23 (.lit 1 [pZ] 3 [(0,1,(tT 10)),(1,1,(tT 17)),(2,1,(tT 22))]),[]),(sS 24 (cA 59 23),[]),(sM 4 24,[])] [4] [])
.ret))),[.tmp 4],false,false,false⟩
def F50:aa:=⟨1,(sQ
(rG [sS 1 (bX 1 3 0),sS 2 (.eJ (.val (.tl []))),sS 3 (.eJ (.val (.tl [])))] [1] [1])
(sQ
(rG [sF 10 0 1,sL 11 10,sS 12 (.make 1 [pZ] (tT 11) (tT 11)),sM 4 12] [1,4] [1])
(sQ
(sQ
(rG [sM 13 4,sS 14 (lN 0 13),sS 15 (mZ 0)] [1,4,14,15] [1])
(.block 0
(.loop
(.mask [1,4,14,15] [1]
(sQ
(rG [sS 16 (bT .lss 15 14)] [1,4,14,15,16] [1])
(sQ
(cN 16
.skip
(.exit 0))
(sQ
(.block 1
(sQ
(rG [sM 17 15,sM 5 17] [1,4,5,14,15] [1])
(rG [sM 18 4,sM 19 5,sS 20 (iX 1 18 19),nN (.store 1 (tT 20) (.val (.pv (.int .i64 (-1)))))] [1,4,14,15] [1])))
(rG [sS 21 (bZ .add 15 1),sM 15 21] [1,4,14,15] [1]))))))))
(sQ
(rG [sF 22 1 1,sL 23 22,sS 24 (.lit 1 [pZ] 1 [(0,1,(tT 23))]),sM 6 24] [1,4,6] [1])
(sQ
(rG [sM 25 4,sF 26 1 1,sL 27 26,sS 28 (iX 1 25 27),nN (.store 1 (tT 28) (zZ 0))] [1,4,6] [1])
(sQ
(sQ
(rG [sS 7 (mZ 0)] [1,4,6,7] [1])
(.block 2
(.loop
(.mask [1,4,6,7] [1]
(sQ
(sQ
(rG [sM 29 7,sM 30 6,sS 31 (lN 0 30),sS 32 (bT .lss 29 31)] [1,4,6,7,32] [1])
(cN 32
.skip
(.exit 2)))
(sQ
(.block 3
(sQ
(rG [sF 35 2 1,sL 36 35,sS 37 (lN 0 36),sS 38 (mZ 0)] [1,4,6,7,36,37,38] [1])
(.block 4
(.loop
(.mask [1,4,6,7,36,37,38] [1]
(sQ
(rG [sS 39 (bT .lss 38 37)] [1,4,6,7,36,37,38,39] [1])
(sQ
(cN 39
.skip
(.exit 4))
(sQ
(.block 5
(sQ
(rG [sS 40 (iX 4 36 38),sS 41 (lT 4 40),sS 9 (.alloc 9 [pZ,.pv (.bool false),pZ,pZ]),nN (sT 4 9 41)] [1,4,6,7,9,36,37,38] [1,9])
(sQ
(.draw [(sF 42 0 9,[]),(sL 43 42,[]),(sM 44 6,[]),(sM 45 7,[]),(sS 46 (iX 1 44 45),[]),(sL 47 46,[]),(sS 48 (bT .eql 43 47),[]),(sM 49 48,[]),(gT 50 (mT 4) 49,[]),(gT 51 (fL 3 9) 49,[]),(gT 52 (lF 1 51) 49,[]),(gT 53 (iX 1 50 52) 49,[]),(gT 54 (lF 1 53) 49,[]),(gT 55 (bZ .lss 54 0) 49,[]),(sS 56 (pA 49 55),[])] [1,4,6,7,9,36,37,38,56] [1,9])
(cN 56
(sQ
(rG [sM 57 4,sF 58 3 9,sL 59 58,sM 60 6,sS 61 (lN 0 60),sS 62 (iX 1 57 59),nN (sT 1 62 61)] [1,4,6,7,9,36,37,38] [1,9])
(rG [sM 63 6,sF 64 3 9,sL 65 64,sS 66 (.lit 1 [pZ] 1 [(0,1,(tT 65))]),sS 67 (aP 1 63 66),sM 6 67] [1,4,6,7,36,37,38] [1]))
.skip))))
(rG [sS 68 (bZ .add 38 1),sM 38 68] [1,4,6,7,36,37,38] [1])))))))))
(rG [sM 33 7,sS 34 (bZ .add 33 1),sM 7 34] [1,4,6,7] [1])))))))
(sQ
(rG [sM 69 6,sM 70 4,sM 2 69,sM 3 70] [2,3] [])
.ret))))))),[.tmp 2,.tmp 3],false,false,false⟩
def F52:aa:=⟨1,(sQ
(rG [sS 1 (bX 1 3 0),sS 2 (.eJ (.val (.tl [])))] [1] [1])
(sQ
(rG [sF 7 1 1,sL 8 7,sS 9 (.lit 1 [pZ] 1 [(0,1,(tT 8))]),sM 3 9] [1,3] [1])
(sQ
(sQ
(rG [sS 4 (mZ 0)] [1,3,4] [1])
(.block 0
(.loop
(.mask [1,3,4] [1]
(sQ
(sQ
(rG [sM 10 4,sM 11 3,sS 12 (lN 0 11),sS 13 (bT .lss 10 12)] [1,3,4,13] [1])
(cN 13
.skip
(.exit 0)))
(sQ
(.block 1
(sQ
(rG [sS 5 (mZ 0)] [1,3,4,5] [1])
(.block 2
(.loop
(.mask [1,3,4,5] [1]
(sQ
(sQ
(rG [sM 16 5,sF 17 2 1,sL 18 17,sS 19 (lN 0 18),sS 20 (bT .lss 16 19)] [1,3,4,5,20] [1])
(cN 20
.skip
(.exit 2)))
(sQ
(.block 3
(sQ
(rG [sF 23 2 1,sL 24 23,sM 25 5,sS 26 (iX 4 24 25),sS 27 (lT 4 26),sS 6 (.alloc 6 [pZ,.pv (.bool false),pZ,pZ]),nN (sT 4 6 27)] [1,3,4,5,6] [1,6])
(sQ
(.draw [(sF 28 0 6,[]),(sL 29 28,[]),(sM 30 3,[]),(sM 31 4,[]),(sS 32 (iX 1 30 31),[]),(sL 33 32,[]),(sS 34 (bT .eql 29 33),[]),(sM 35 34,[]),(gT 36 (mT 3) 35,[]),(gT 37 (fL 3 6) 35,[]),(gT 38 (lF 1 37) 35,[]),(gT 39 (cB 53 36 38) 35,[]),(gT 40 (bZ .lss 39 0) 35,[]),(sS 41 (pA 35 40),[])] [1,3,4,5,6,41] [1,6])
(cN 41
(rG [sM 42 3,sF 43 3 6,sL 44 43,sS 45 (.lit 1 [pZ] 1 [(0,1,(tT 44))]),sS 46 (aP 1 42 45),sM 3 46] [1,3,4,5] [1])
.skip))))
(rG [sM 21 5,sS 22 (bZ .add 21 1),sM 5 22] [1,3,4,5] [1]))))))))
(rG [sM 14 4,sS 15 (bZ .add 14 1),sM 4 15] [1,3,4] [1])))))))
(sQ
(rG [sM 47 3,sM 2 47] [2] [])
.ret)))),[.tmp 2],false,false,false⟩
def F53:aa:=⟨2,(sQ
(rG [sS 4 (mZ 0)] [0,1] [])
(sQ
(sQ
(rG [sS 5 (mZ 0)] [0,1,5] [])
(.block 0
(.loop
(.mask [0,1,5] []
(sQ
(sQ
(rG [sM 6 5,sM 7 0,sS 8 (lN 0 7),sS 9 (bT .lss 6 8)] [0,1,5,9] [])
(cN 9
.skip
(.exit 0)))
(sQ
(.block 1
(sQ
(rG [sM 12 0,sM 13 5,sS 14 (iX 1 12 13),sL 15 14,sM 16 1,sS 17 (bT .eql 15 16)] [0,1,5,17] [])
(cN 17
(sQ
(rG [sM 18 5,sM 4 18] [4] [])
.ret)
.skip)))
(rG [sM 10 5,sS 11 (bZ .add 10 1),sM 5 11] [0,1,5] [])))))))
(sQ
(rG [sS 4 (.eJ (.val (.pv (.int .i64 (-1)))))] [4] [])
.ret))),[.tmp 4],false,false,false⟩
def F54:aa:=⟨2,(sQ
(rG [sS 2 (bX 2 3 0),sS 3 (bX 3 1 1),sS 4 (.eJ (.val (.tl [])))] [2,3] [2,3])
(sQ
(rG [sF 5 2 2,sL 6 5,sS 7 (cA 64 6),sS 8 (.jA 65 [(tT 3)]),sS 9 (cB 63 7 8),sM 4 9] [4] [])
.ret)),[.tmp 4],false,false,false⟩
def F55:aa:=⟨2,(sQ
(rG [sS 2 (bX 2 4 0),sS 3 (bX 3 4 1),sS 4 (mB false)] [2,3] [2,3])
(sQ
(sQ
(rG [sF 5 1 2,sL 6 5,sF 7 1 3,sL 8 7,sS 9 (.mF false [0] true (tT 6) (tT 8))] [2,3,9] [2,3])
(cN 9
(sQ
(rG [sF 10 1 3,sL 11 10,sM 4 11] [4] [])
.ret)
.skip))
(sQ
(rG [sF 12 2 2,sL 13 12,sF 14 2 3,sL 15 14,sS 16 (bT .lss 13 15),sM 4 16] [4] [])
.ret))),[.tmp 4],false,false,false⟩
def F56:aa:=⟨1,(sQ
(rG [sS 1 (bX 1 4 0),sS 2 (.alloc 2 [.pv (.bool false),pZ])] [1,2] [1,2])
(sQ
(rG [sF 3 1 1,sL 4 3,sF 5 2 1,sL 6 5,sS 7 (.build [.pv (.bool false),pZ] [(0,1,(tT 4)),(1,1,(tT 6))]),nN (sT 2 2 7)] [2] [2])
.ret)),[.cell 2 2 true],false,false,false⟩
def F58:aa:=⟨1,(sQ
(rG [sS 1 (bX 1 4 0),sS 2 (mZ 0)] [1] [1])
(sQ
(sQ
(rG [sF 3 1 1,sL 4 3] [4] [])
(cN 4
(sQ
(rG [sS 2 (mZ 1)] [2] [])
.ret)
.skip))
(sQ
(rG [sS 2 (mZ 0)] [2] [])
.ret))),[.tmp 2],false,false,false⟩
def F59:aa:=⟨1,(sQ
(rG [sS 2 (mZ 0)] [0] [])
(sQ
(rG [sS 3 (mZ 0)] [0,3] [])
(sQ
(sQ
(rG [sM 6 0,sS 7 (lN 0 6),sS 8 (mZ 0)] [3,6,7,8] [])
(.block 0
(.loop
(.mask [3,6,7,8] []
(sQ
(rG [sS 9 (bT .lss 8 7)] [3,6,7,8,9] [])
(sQ
(cN 9
.skip
(.exit 0))
(sQ
(.block 1
(sQ
(rG [sS 10 (iX 1 6 8),sL 11 10,sM 5 11] [3,5,6,7,8] [])
(sQ
(rG [sM 12 5,sM 13 3,sS 14 (bT .neq 12 13)] [3,5,6,7,8,14] [])
(cN 14
(sQ
(rG [sM 15 5,sM 2 15] [2] [])
.ret)
.skip))))
(rG [sS 16 (bZ .add 8 1),sM 8 16] [3,6,7,8] []))))))))
(sQ
(rG [sM 17 3,sM 2 17] [2] [])
.ret)))),[.tmp 2],false,false,false⟩
def F60:aa:=⟨2,(sQ
(rG [sS 4 (mZ 0)] [0,1] [])
(sQ
(rG [sM 7 0,sS 8 (cA 66 7),sM 5 8] [0,1,5] [])
(sQ
(rG [sM 9 1,sS 10 (cA 66 9),sM 6 10] [0,1,5,6] [])
(sQ
(sQ
(rG [sM 11 5] [0,1,6,11] [])
(cN 11
(sQ
(sQ
(rG [sM 12 6] [12] [])
(cN 12
(sQ
(rG [sS 4 (mZ 0)] [4] [])
.ret)
.skip))
(sQ
(rG [sS 4 (.eJ (.val (.pv (.int .i64 (-1)))))] [4] [])
.ret))
.skip))
(sQ
(sQ
(rG [sM 13 6] [0,1,13] [])
(cN 13
(sQ
(rG [sS 4 (mZ 1)] [4] [])
.ret)
.skip))
(sQ
(sQ
(rG [sM 14 0,sM 15 1,sS 16 (bT .lss 14 15)] [0,1,16] [])
(cN 16
(sQ
(rG [sS 4 (.eJ (.val (.pv (.int .i64 (-1)))))] [4] [])
.ret)
.skip))
(sQ
(sQ
(rG [sM 17 0,sM 18 1,sS 19 (bT .gtr 17 18)] [19] [])
(cN 19
(sQ
(rG [sS 4 (mZ 1)] [4] [])
.ret)
.skip))
(sQ
(rG [sS 4 (mZ 0)] [4] [])
.ret)))))))),[.tmp 4],false,false,false⟩
def F63:aa:=⟨2,(sQ
(rG [sS 4 (.eJ (.val (.tl [])))] [0,1] [])
(sQ
(rG [sM 8 0,sM 9 1,sS 10 (cB 77 8 9),sM 5 10] [0,1,5] [])
(sQ
(sQ
(rG [sM 11 5,sS 12 (.bin .eql (tT 11) (.val (.pv (.int .i64 (-1)))))] [0,1,5,12] [])
(cN 12
(sQ
(rG [sM 13 0,sM 4 13] [4] [])
.ret)
.skip))
(sQ
(sQ
(rG [sM 14 5,sS 15 (bZ .add 14 1),sM 6 15] [0,1,5,6] [])
(.block 0
(.loop
(.mask [0,1,5,6] []
(sQ
(sQ
(rG [sM 16 6,sM 17 0,sS 18 (lN 0 17),sS 19 (bT .lss 16 18)] [0,1,5,6,19] [])
(cN 19
.skip
(.exit 0)))
(sQ
(.block 1
(sQ
(rG [sM 22 0,sM 23 6,sS 24 (iX 4 22 23),sS 25 (lT 4 24),sS 7 (.alloc 7 [pZ,.pv (.bool false),pZ,pZ]),nN (sT 4 7 25)] [0,1,5,6,7] [7])
(sQ
(rG [sM 26 1,sS 27 (lT 4 7),sS 28 (.call (tT 26) [(tT 27)]),sS 29 (nT 28)] [0,1,5,6,7,29] [7])
(cN 29
(sQ
(rG [sM 30 0,sM 31 5,sS 32 (lT 4 7),sS 33 (iX 4 30 31),nN (sT 4 33 32)] [0,1,5,6] [])
(rG [sM 34 5,sS 35 (bZ .add 34 1),sM 5 35] [0,1,5,6] []))
.skip))))
(rG [sM 20 6,sS 21 (bZ .add 20 1),sM 6 21] [0,1,5,6] [])))))))
(sQ
(rG [sM 36 0,sM 37 5,sS 38 (.sl 4 (tT 36) (some (tT 37)) none none),nN (.Dw 4 [pZ,.pv (.bool false),pZ,pZ] (tT 38))] [0,5] [])
(sQ
(rG [sM 39 0,sM 40 5,sS 41 (.sl 4 (tT 39) none (some (tT 40)) none),sM 4 41] [4] [])
.ret)))))),[.tmp 4],true,true,false⟩
def F65:aa:=⟨2,(sQ
(rG [sS 2 (bX 2 4 0),sS 3 (mB false)] [1,2] [2])
(sQ
(rG [sF 4 0 2,sL 5 4,sL 6 1,sS 7 (bT .neq 5 6),sM 3 7] [3] [])
.ret)),[.tmp 3],false,false,false⟩
def F66:aa:=⟨1,(sQ
(rG [sS 2 (mB false)] [0] [])
(sQ
(rG [sM 3 0,sM 4 0,sS 5 (bT .neq 3 4),sM 2 5] [2] [])
.ret)),[.tmp 2],false,false,false⟩
def F77:aa:=⟨2,(sQ
(rG [sS 4 (mZ 0)] [0,1] [])
(sQ
(sQ
(rG [sM 6 0,sS 7 (lN 0 6),sS 8 (mZ 0)] [0,1,7,8] [])
(.block 0
(.loop
(.mask [0,1,7,8] []
(sQ
(rG [sS 9 (bT .lss 8 7)] [0,1,7,8,9] [])
(sQ
(cN 9
.skip
(.exit 0))
(sQ
(.block 1
(sQ
(rG [sM 10 8,sM 5 10] [0,1,5,7,8] [])
(sQ
(rG [sM 11 1,sM 12 0,sM 13 5,sS 14 (iX 4 12 13),sS 15 (lT 4 14),sS 16 (.call (tT 11) [(tT 15)])] [0,1,5,7,8,16] [])
(cN 16
(sQ
(rG [sM 17 5,sM 4 17] [4] [])
.ret)
.skip))))
(rG [sS 18 (bZ .add 8 1),sM 8 18] [0,1,7,8] []))))))))
(sQ
(rG [sS 4 (.eJ (.val (.pv (.int .i64 (-1)))))] [4] [])
.ret))),[.tmp 4],false,false,false⟩
def F104:aa:=⟨1,(sQ
(rG [sS 2 (.eJ (.val (.tl [])))] [0] [])
(sQ
(sQ
(rG [sM 6 0,sS 7 (lN 0 6),sS 8 (bZ .lss 7 2)] [0,8] [])
(cN 8
(sQ
(rG [sM 9 0,sM 2 9] [2] [])
.ret)
.skip))
(sQ
(sQ
(rG [sS 3 (mZ 1)] [0,3] [])
(.block 0
(.loop
(.mask [0,3] []
(sQ
(sQ
(rG [sM 10 3,sM 11 0,sS 12 (lN 0 11),sS 13 (bT .lss 10 12)] [0,3,13] [])
(cN 13
.skip
(.exit 0)))
(sQ
(.block 1
(sQ
(.draw [(sM 16 0,[]),(sM 17 3,[]),(sS 18 (iX 1 16 17),[]),(sL 19 18,[]),(sM 20 0,[]),(sM 21 3,[]),(sS 22 (bZ .sub 21 1),[]),(sS 23 (iX 1 20 22),[]),(sL 24 23,[]),(sS 25 (bT .eql 19 24),[])] [0,3,25] [])
(cN 25
(sQ
(rG [sM 26 0,sM 27 3,sS 28 (.sl 1 (tT 26) (some (tT 27)) none none),sM 4 28] [0,3,4] [])
(sQ
(sQ
(rG [sS 5 (mZ 1)] [0,3,4,5] [])
(.block 2
(.loop
(.mask [0,3,4,5] []
(sQ
(sQ
(rG [sM 29 5,sM 30 4,sS 31 (lN 0 30),sS 32 (bT .lss 29 31)] [0,3,4,5,32] [])
(cN 32
.skip
(.exit 2)))
(sQ
(.block 3
(sQ
(.draw [(sM 35 4,[]),(sM 36 5,[]),(sS 37 (iX 1 35 36),[]),(sL 38 37,[]),(sM 39 4,[]),(sM 40 5,[]),(sS 41 (bZ .sub 40 1),[]),(sS 42 (iX 1 39 41),[]),(sL 43 42,[]),(sS 44 (bT .neq 38 43),[])] [0,3,4,5,44] [])
(cN 44
(sQ
(rG [sM 45 0,sM 46 3,sM 47 4,sM 48 5,sS 49 (iX 1 47 48),sL 50 49,sS 51 (iX 1 45 46),nN (sT 1 51 50)] [0,3,4,5] [])
(rG [sM 52 3,sS 53 (bZ .add 52 1),sM 3 53] [0,3,4,5] []))
.skip)))
(rG [sM 33 5,sS 34 (bZ .add 33 1),sM 5 34] [0,3,4,5] [])))))))
(sQ
(rG [sM 54 0,sM 55 3,sS 56 (.sl 1 (tT 54) (some (tT 55)) none none),nN (.Dw 1 [pZ] (tT 56))] [0,3] [])
(sQ
(rG [sM 57 0,sM 58 3,sS 59 (.sl 1 (tT 57) none (some (tT 58)) none),sM 2 59] [2] [])
.ret))))
.skip)))
(rG [sM 14 3,sS 15 (bZ .add 14 1),sM 3 15] [0,3] [])))))))
(sQ
(rG [sM 60 0,sM 2 60] [2] [])
.ret)))),[.tmp 2],true,true,false⟩
def F110:aa:=⟨2,(sQ
(rG [sS 4 (mB false)] [0,1] [])
(sQ
(rG [sM 5 0,sM 6 1,sS 7 (cB 118 5 6),sS 8 (bZ .geq 7 0),sM 4 8] [4] [])
.ret)),[.tmp 4],false,false,false⟩
def F118:aa:=⟨2,(sQ
(rG [sS 4 (mZ 0)] [0,1] [])
(sQ
(sQ
(rG [sM 6 0,sS 7 (lN 0 6),sS 8 (mZ 0)] [0,1,7,8] [])
(.block 0
(.loop
(.mask [0,1,7,8] []
(sQ
(rG [sS 9 (bT .lss 8 7)] [0,1,7,8,9] [])
(sQ
(cN 9
.skip
(.exit 0))
(sQ
(.block 1
(sQ
(rG [sM 10 8,sM 5 10] [0,1,5,7,8] [])
(sQ
(rG [sM 11 1,sM 12 0,sM 13 5,sS 14 (iX 1 12 13),sL 15 14,sS 16 (bT .eql 11 15)] [0,1,5,7,8,16] [])
(cN 16
(sQ
(rG [sM 17 5,sM 4 17] [4] [])
.ret)
.skip))))
(rG [sS 18 (bZ .add 8 1),sM 8 18] [0,1,7,8] []))))))))
(sQ
(rG [sS 4 (.eJ (.val (.pv (.int .i64 (-1)))))] [4] [])
.ret))),[.tmp 4],false,false,false⟩
def F266:aa:=⟨1,(sQ
(rG [sS 1 (bX 1 1 0),sS 2 (mB false)] [1] [1])
(sQ
(sQ
(rG [sF 7 0 1,sL 8 7,sS 9 (lN 0 8),sS 10 (bZ .gtr 9 40)] [1,10] [1])
(cN 10
(sQ
(rG [sS 2 (mB false)] [2] [])
.ret)
.skip))
(sQ
(rG [sS 3 (mZ 0)] [1,3] [1])
(sQ
(sQ
(rG [sS 4 (mZ 0)] [1,3,4] [1])
(.block 0
(.loop
(.mask [1,3,4] [1]
(sQ
(sQ
(rG [sM 11 4,sF 12 0 1,sL 13 12,sS 14 (lN 0 13),sS 15 (bT .lss 11 14)] [1,3,4,15] [1])
(cN 15
.skip
(.exit 0)))
(sQ
(.block 1
(sQ
(rG [sF 18 0 1,sL 19 18,sM 20 4,sS 21 (iX 10 19 20),sS 22 (lT 10 21),⟨some 5,.alloc 5 [pZ,.pv (.str ⟨#[]⟩),pZ,pZ,pZ,.tl [],.tl [],pZ,pZ,.pv (.bool false)],none⟩,nN (sT 10 5 22)] [1,3,4,5] [1,5])
(sQ
(rG [sM 23 3,sF 24 6 5,sL 25 24,sS 26 (lN 0 25),sS 27 (bT .add 23 26),sF 28 5 5,sL 29 28,sS 30 (lN 0 29),sS 31 (bT .add 27 30),sF 32 1 5,sL 33 32,sS 34 (lN 1 33),sS 35 (bT .add 31 34),sM 3 35] [1,3,4,5] [1,5])
(sQ
(rG [sS 6 (mZ 0)] [1,3,4,5,6] [1,5])
(.block 2
(.loop
(.mask [1,3,4,5,6] [1,5]
(sQ
(sQ
(rG [sM 36 6,sF 37 6 5,sL 38 37,sS 39 (lN 0 38),sS 40 (bT .lss 36 39),sM 41 40,gT 42 (mT 6) 41,gT 43 (bZ .lss 42 100) 41,sS 44 (pA 41 43)] [1,3,4,5,6,44] [1,5])
(cN 44
.skip
(.exit 2)))
(sQ
(.block 3
(.draw [(sM 47 3,[]),(sF 48 6 5,[]),(sL 49 48,[]),(sM 50 6,[]),(sS 51 (iX 13 49 50),[]),(sF 52 5 51,[]),(sS 53 (lT 8 52),[]),(sS 54 (cA 282 53),[]),(sS 55 (bT .add 47 54),[]),(sF 56 6 5,[]),(sL 57 56,[7]),(sM 58 6,[]),(sS 59 (iX 13 57 58),[7]),(sF 60 1 59,[]),(sL 61 60,[7]),(sS 62 (lN 1 61),[7]),(sS 63 (bT .add 55 62),[]),(sM 3 63,[])] [1,3,4,5,6] [1,5]))
(rG [sM 45 6,sS 46 (bZ .add 45 1),sM 6 46] [1,3,4,5,6] [1,5]))))))))))
(rG [sM 16 4,sS 17 (bZ .add 16 1),sM 4 17] [1,3,4] [1])))))))
(sQ
(rG [sM 64 3,sS 65 (bZ .leq 64 400),sM 2 65] [2] [])
.ret))))),[.tmp 2],false,false,false⟩
def F267:aa:=⟨1,(sQ
(rG [sS 1 (bX 1 1 0),sS 2 (mZ 0)] [1] [1])
(sQ
(sQ
(rG [sF 8 0 1,sL 9 8,sS 10 (lN 0 9),sS 11 (bZ .gtr 10 32)] [1,11] [1])
(cN 11
(sQ
(rG [sS 2 (mZ 3)] [2] [])
.ret)
.skip))
(sQ
(rG [sS 12 (.ki),sM 3 12] [1,3] [1])
(sQ
(sQ
(rG [sF 13 0 1,sL 14 13,sS 15 (lN 0 14),sS 16 (mZ 0)] [1,3,14,15,16] [1])
(.block 0
(.loop
(.mask [1,3,14,15,16] [1]
(sQ
(rG [sS 17 (bT .lss 16 15)] [1,3,14,15,16,17] [1])
(sQ
(cN 17
.skip
(.exit 0))
(sQ
(.block 1
(sQ
(rG [sS 18 (iX 10 14 16),sS 19 (lT 10 18),⟨some 5,.alloc 5 [pZ,.pv (.str ⟨#[]⟩),pZ,pZ,pZ,.tl [],.tl [],pZ,pZ,.pv (.bool false)],none⟩,nN (sT 10 5 19)] [1,3,5,14,15,16] [1,5])
(sQ
(sQ
(rG [sS 20 (lT 10 5),sS 21 (cA 283 20),sS 22 (nT 21),sM 23 22,gF 24 (fL 1 5) 23,gF 25 (lF 1 24) 23,⟨some 26,.bin .neq (tT 25) (.val (.pv (.str ⟨#[]⟩))),some (23,false)⟩,gF 27 (mT 26) 23,gT 28 (mT 3) 27,gT 29 (fL 1 5) 27,gT 30 (lF 1 29) 27,gT 31 (.look false [2] (.pv (.bool false)) (tT 28) (tT 30) false) 27,gF 32 (pA 27 31) 23,sS 33 (pO 23 32)] [1,3,5,14,15,16,33] [1,5])
(cN 33
(sQ
(rG [sS 2 (mZ 1)] [2] [])
.ret)
.skip))
(sQ
(rG [sM 34 3,sF 35 1 5,sL 36 35,nN (.zK false [2] (tT 34) (tT 36) (bB true))] [1,3,5,14,15,16] [1,5])
(sQ
(sQ
(rG [sS 37 (lT 10 5),sS 38 (cA 284 37),sS 39 (lN 0 38),sS 40 (mZ 0)] [1,3,5,14,15,16,38,39,40] [1,5])
(.block 2
(.loop
(.mask [1,3,5,14,15,16,38,39,40] [1,5]
(sQ
(rG [sS 41 (bT .lss 40 39)] [1,3,5,14,15,16,38,39,40,41] [1,5])
(sQ
(cN 41
.skip
(.exit 2))
(sQ
(.block 3
(sQ
(rG [sS 42 (iX 1 38 40),sL 43 42,sM 7 43] [1,3,5,7,14,15,16,38,39,40] [1,5])
(sQ
(rG [sM 44 7,sS 45 (bZ .lss 44 0),sM 46 45,gF 47 (mT 7) 46,gF 48 (fL 0 1) 46,gF 49 (lF 1 48) 46,gF 50 (lN 0 49) 46,gF 51 (bT .geq 47 50) 46,sS 52 (pO 46 51)] [1,3,5,14,15,16,38,39,40,52] [1,5])
(cN 52
(sQ
(rG [sS 2 (mZ 4)] [2] [])
.ret)
.skip))))
(rG [sS 53 (bZ .add 40 1),sM 40 53] [1,3,5,14,15,16,38,39,40] [1,5]))))))))
(sQ
(rG [sF 54 0 5,sL 55 54,sS 56 (bZ .eql 55 8),sM 57 56,gT 58 (fL 0 1) 57,gT 59 (lF 1 58) 57,gT 60 (fL 7 5) 57,gT 61 (lF 1 60) 57,gT 62 (iX 10 59 61) 57,gT 63 (fL 0 62) 57,gT 64 (lF 1 63) 57,gT 65 (bZ .lss 64 1) 57,gT 66 (mT 65) 57,gF 67 (fL 0 1) 66,gF 68 (lF 1 67) 66,gF 69 (fL 7 5) 66,gF 70 (lF 1 69) 66,gF 71 (iX 10 68 70) 66,gF 72 (fL 0 71) 66,gF 73 (lF 1 72) 66,gF 74 (bZ .gtr 73 4) 66,gT 75 (pO 66 74) 57,sS 76 (pA 57 75)] [1,3,14,15,16,76] [1])
(cN 76
(sQ
(rG [sS 2 (mZ 1)] [2] [])
.ret)
.skip)))))))
(rG [sS 77 (bZ .add 16 1),sM 16 77] [1,3,14,15,16] [1]))))))))
(sQ
(rG [sS 2 (mZ 0)] [2] [])
.ret))))),[.tmp 2],false,false,false⟩
def F268:aa:=⟨1,(sQ
(rG [sS 1 (bX 1 1 0),sS 2 (mZ 0)] [1] [1])
(sQ
(sQ
(rG [sF 8 0 1,sL 9 8,sS 10 (lN 0 9),sS 11 (bZ .gtr 10 32)] [1,11] [1])
(cN 11
(sQ
(rG [sS 2 (mZ 3)] [2] [])
.ret)
.skip))
(sQ
(sQ
(rG [sS 3 (mZ 0)] [1,3] [1])
(.block 0
(.loop
(.mask [1,3] [1]
(sQ
(sQ
(rG [sM 12 3,sF 13 0 1,sL 14 13,sS 15 (lN 0 14),sS 16 (bT .lss 12 15)] [1,3,16] [1])
(cN 16
.skip
(.exit 0)))
(sQ
(.block 1
(sQ
(rG [sF 19 0 1,sL 20 19,sM 21 3,sS 22 (iX 10 20 21),sS 23 (lT 10 22),⟨some 4,.alloc 4 [pZ,.pv (.str ⟨#[]⟩),pZ,pZ,pZ,.tl [],.tl [],pZ,pZ,.pv (.bool false)],none⟩,nN (sT 10 4 23)] [1,3,4] [1,4])
(sQ
(sQ
(rG [sS 24 (lT 10 4),sS 25 (cA 285 24),sS 26 (nT 25)] [1,3,4,26] [1,4])
(cN 26
(sQ
(rG [sS 2 (mZ 1)] [2] [])
.ret)
.skip))
(sQ
(sQ
(rG [sS 5 (mZ 0)] [1,3,4,5] [1,4])
(.block 2
(.loop
(.mask [1,3,4,5] [1,4]
(sQ
(sQ
(rG [sM 27 5,sM 28 3,sS 29 (bT .lss 27 28)] [1,3,4,5,29] [1,4])
(cN 29
.skip
(.exit 2)))
(sQ
(.block 3
(sQ
(.draw [(sF 32 0 4,[]),(sL 33 32,[]),(sS 34 (cA 286 33),[]),(sM 35 34,[]),(gT 36 (fL 0 1) 35,[]),(gT 37 (lF 1 36) 35,[]),(gT 38 (mT 5) 35,[]),(gT 39 (iX 10 37 38) 35,[]),(gT 40 (fL 1 39) 35,[]),(gT 41 (lF 1 40) 35,[]),(gT 42 (fL 1 4) 35,[]),(gT 43 (lF 1 42) 35,[]),(gT 44 (bT .eql 41 43) 35,[]),(sS 45 (pA 35 44),[])] [1,3,4,5,45] [1,4])
(cN 45
(sQ
(rG [sS 2 (mZ 1)] [2] [])
.ret)
.skip)))
(rG [sM 30 5,sS 31 (bZ .add 30 1),sM 5 31] [1,3,4,5] [1,4])))))))
(sQ
(rG [sS 46 (lT 10 4),sS 47 (cA 287 46),sM 6 47] [1,3,4,6] [1,4])
(sQ
(sQ
(rG [sS 7 (mZ 0)] [1,3,4,6,7] [1,4])
(.block 4
(.loop
(.mask [1,3,4,6,7] [1,4]
(sQ
(sQ
(rG [sM 48 7,sM 49 6,sS 50 (lN 0 49),sS 51 (bT .lss 48 50)] [1,3,4,6,7,51] [1,4])
(cN 51
.skip
(.exit 4)))
(sQ
(.block 5
(sQ
(.draw [(sM 54 6,[]),(sM 55 7,[]),(sS 56 (iX 1 54 55),[]),(sL 57 56,[]),(sS 58 (bZ .lss 57 0),[]),(sM 59 58,[]),(gF 60 (mT 6) 59,[]),(gF 61 (mT 7) 59,[]),(gF 62 (iX 1 60 61) 59,[]),(gF 63 (lF 1 62) 59,[]),(gF 64 (fL 0 1) 59,[]),(gF 65 (lF 1 64) 59,[]),(gF 66 (lN 0 65) 59,[]),(gF 67 (bT .geq 63 66) 59,[]),(sS 68 (pO 59 67),[])] [1,3,4,6,7,68] [1,4])
(cN 68
(sQ
(rG [sS 2 (mZ 4)] [2] [])
.ret)
.skip)))
(rG [sM 52 7,sS 53 (bZ .add 52 1),sM 7 53] [1,3,4,6,7] [1,4])))))))
(sQ
(rG [sF 69 0 4,sL 70 69,sS 71 (bZ .eql 70 8),sM 72 71,gT 73 (fL 0 1) 72,gT 74 (lF 1 73) 72,gT 75 (fL 7 4) 72,gT 76 (lF 1 75) 72,gT 77 (iX 10 74 76) 72,gT 78 (fL 0 77) 72,gT 79 (lF 1 78) 72,gT 80 (cA 288 79) 72,gT 81 (nT 80) 72,sS 82 (pA 72 81)] [1,3,82] [1])
(cN 82
(sQ
(rG [sS 2 (mZ 1)] [2] [])
.ret)
.skip))))))))
(rG [sM 17 3,sS 18 (bZ .add 17 1),sM 3 18] [1,3] [1])))))))
(sQ
(rG [sS 2 (mZ 0)] [2] [])
.ret)))),[.tmp 2],false,false,false⟩
def F273:aa:=⟨2,(sQ
(rG [sS 2 (bX 2 1 0),sS 4 (.eJ (.val (.tl []))),sS 5 (mZ 0)] [1,2] [2])
(sQ
(sQ
(rG [sS 11 (lT 1 2),sM 12 1,sS 13 (cB 291 11 12),sM 6 13] [1,2,6] [2])
(sQ
(rG [sM 14 6,sS 15 (bZ .neq 14 0)] [1,2,6,15] [2])
(cN 15
(sQ
(rG [sM 16 6,sS 4 (.eJ (.val (.tl []))),sM 5 16] [4,5] [])
.ret)
.skip)))
(sQ
(rG [sM 17 1,sS 18 (.lit 1 [pZ] 1 [(0,1,(tT 17))]),sM 7 18] [2,7] [2])
(sQ
(sQ
(rG [sS 8 (mZ 0)] [2,7,8] [2])
(.block 0
(.loop
(.mask [2,7,8] [2]
(sQ
(sQ
(rG [sM 19 8,sM 20 7,sS 21 (lN 0 20),sS 22 (bT .lss 19 21)] [2,7,8,22] [2])
(cN 22
.skip
(.exit 0)))
(sQ
(.block 1
(sQ
(.draw [(sF 25 0 2,[]),(sL 26 25,[]),(sM 27 7,[]),(sM 28 8,[]),(sS 29 (iX 1 27 28),[]),(sL 30 29,[]),(sS 31 (iX 10 26 30),[]),(sS 32 (lT 10 31),[]),(sS 33 (cA 284 32),[]),(sS 34 (lN 0 33),[]),(sS 35 (mZ 0),[])] [2,7,8,33,34,35] [2])
(.block 2
(.loop
(.mask [2,7,8,33,34,35] [2]
(sQ
(rG [sS 36 (bT .lss 35 34)] [2,7,8,33,34,35,36] [2])
(sQ
(cN 36
.skip
(.exit 2))
(sQ
(.block 3
(sQ
(rG [sS 37 (iX 1 33 35),sL 38 37,sM 10 38] [2,7,8,10,33,34,35] [2])
(sQ
(rG [sM 39 7,sM 40 10,sS 41 (cB 110 39 40),sS 42 (nT 41)] [2,7,8,10,33,34,35,42] [2])
(cN 42
(rG [sM 43 7,sM 44 10,sS 45 (.lit 1 [pZ] 1 [(0,1,(tT 44))]),sS 46 (aP 1 43 45),sM 7 46] [2,7,8,33,34,35] [2])
.skip))))
(rG [sS 47 (bZ .add 35 1),sM 35 47] [2,7,8,33,34,35] [2])))))))))
(rG [sM 23 8,sS 24 (bZ .add 23 1),sM 8 24] [2,7,8] [2])))))))
(sQ
(rG [sM 48 7,sS 49 (cA 103 48)] [7] [])
(sQ
(rG [sM 50 7,sM 4 50,sS 5 (mZ 0)] [4,5] [])
.ret)))))),[.tmp 4,.tmp 5],false,false,false⟩
def F277:aa:=⟨2,(sQ
(rG [sS 2 (bX 2 1 0),sS 3 (bX 3 1 1),sS 4 (mB false)] [2,3] [2,3])
(sQ
(sQ
(rG [sF 6 0 2,sL 7 6,sS 8 (lN 0 7),sF 9 0 3,sL 10 9,sS 11 (lN 0 10),sS 12 (bT .neq 8 11)] [2,3,12] [2,3])
(cN 12
(sQ
(rG [sS 4 (mB false)] [4] [])
.ret)
.skip))
(sQ
(sQ
(rG [sS 5 (mZ 0)] [2,3,5] [2,3])
(.block 0
(.loop
(.mask [2,3,5] [2,3]
(sQ
(sQ
(rG [sM 13 5,sF 14 0 2,sL 15 14,sS 16 (lN 0 15),sS 17 (bT .lss 13 16)] [2,3,5,17] [2,3])
(cN 17
.skip
(.exit 0)))
(sQ
(.block 1
(sQ
(.draw [(sF 20 0 2,[]),(sL 21 20,[]),(sM 22 5,[]),(sS 23 (iX 10 21 22),[]),(sS 24 (lT 10 23),[]),(sF 25 0 3,[]),(sL 26 25,[]),(sM 27 5,[]),(sS 28 (iX 10 26 27),[]),(sS 29 (lT 10 28),[]),(sS 30 (cB 295 24 29),[]),(sS 31 (nT 30),[])] [2,3,5,31] [2,3])
(cN 31
(sQ
(rG [sS 4 (mB false)] [4] [])
.ret)
.skip)))
(rG [sM 18 5,sS 19 (bZ .add 18 1),sM 5 19] [2,3,5] [2,3])))))))
(sQ
(rG [sS 4 (mB true)] [4] [])
.ret)))),[.tmp 4],false,false,false⟩
def F281:aa:=⟨2,(sQ
(rG [sS 2 (bX 2 10 0),sS 3 (bX 3 1 1),sS 4 (mZ 0),sS 5 (mB false)] [2,3] [2,3])
(sQ
(rG [sF 7 6 2,sL 8 7,sS 9 (.jA 305 [(tT 3)]),sS 10 (cB 304 8 9),sM 6 10] [6] [])
(sQ
(rG [sM 11 6,sS 12 (.er true [(tT 11),(zZ 0)]),sM 13 6,sS 14 (bZ .geq 13 0),sM 4 12,sM 5 14] [4,5] [])
.ret))),[.tmp 4,.tmp 5],false,false,false⟩
def F282:aa:=⟨1,(sQ
(rG [sS 1 (bX 1 8 0),sS 2 (mZ 0)] [1] [1])
(sQ
(rG [sF 7 3 1,sL 8 7,sS 9 (lN 1 8),sS 10 (.bin .add (zZ 1) (tT 9)),sM 3 10] [1,3] [1])
(sQ
(sQ
(rG [sS 4 (mZ 0)] [1,3,4] [1])
(.block 0
(.loop
(.mask [1,3,4] [1]
(sQ
(sQ
(rG [sM 11 4,sF 12 5 1,sL 13 12,sS 14 (lN 0 13),sS 15 (bT .lss 11 14)] [1,3,4,15] [1])
(cN 15
.skip
(.exit 0)))
(sQ
(.block 1
(rG [sM 18 3,sF 19 5 1,sL 20 19,sM 21 4,sS 22 (iX 8 20 21),sS 23 (lT 8 22),sS 24 (cA 282 23),sS 25 (bT .add 18 24),sM 3 25] [1,3,4] [1]))
(rG [sM 16 4,sS 17 (bZ .add 16 1),sM 4 17] [1,3,4] [1])))))))
(sQ
(sQ
(rG [sS 5 (mZ 0)] [1,3,5] [1])
(.block 2
(.loop
(.mask [1,3,5] [1]
(sQ
(sQ
(rG [sM 26 5,sF 27 6 1,sL 28 27,sS 29 (lN 0 28),sS 30 (bT .lss 26 29)] [1,3,5,30] [1])
(cN 30
.skip
(.exit 2)))
(sQ
(.block 3
(rG [sM 33 3,sF 34 6 1,sL 35 34,sM 36 5,sS 37 (iX 8 35 36),sS 38 (lT 8 37),sS 39 (cA 282 38),sS 40 (bT .add 33 39),sM 3 40] [1,3,5] [1]))
(rG [sM 31 5,sS 32 (bZ .add 31 1),sM 5 32] [1,3,5] [1])))))))
(sQ
(sQ
(rG [sS 6 (mZ 0)] [1,3,6] [1])
(.block 4
(.loop
(.mask [1,3,6] [1]
(sQ
(sQ
(rG [sM 41 6,sF 42 7 1,sL 43 42,sS 44 (lN 0 43),sS 45 (bT .lss 41 44)] [1,3,6,45] [1])
(cN 45
.skip
(.exit 4)))
(sQ
(.block 5
(rG [sM 48 3,sS 49 (bZ .add 48 1),sF 50 7 1,sL 51 50,sM 52 6,sS 53 (iX 2 51 52),sF 54 1 53,sL 55 54,sS 56 (lN 1 55),sS 57 (bT .add 49 56),sM 3 57] [1,3,6] [1]))
(rG [sM 46 6,sS 47 (bZ .add 46 1),sM 6 47] [1,3,6] [1])))))))
(sQ
(rG [sM 58 3,sM 2 58] [2] [])
.ret)))))),[.tmp 2],false,false,false⟩
def F283:aa:=⟨1,(sQ
(rG [sS 1 (bX 1 10 0),sS 2 (mB false)] [1] [1])
(sQ
(rG [sS 5 (lT 10 1),⟨some 3,.alloc 3 [pZ,.pv (.str ⟨#[]⟩),pZ,pZ,pZ,.tl [],.tl [],pZ,pZ,.pv (.bool false)],none⟩,nN (sT 10 3 5)] [1,3] [1,3])
(sQ
(rG [sF 6 0 3,nN (.store 1 (tT 6) (zZ 0))] [1,3] [1,3])
(sQ
(rG [sS 4 (mB true)] [1,3,4] [1,3])
(sQ
(sQ
(rG [sF 7 0 1,sL 8 7] [1,3,4,8] [1,3])
(.block 0
(sQ
(rG [sS 10 (bZ .eql 8 1),sM 9 10] [1,3,4,8,9] [1,3])
(cN 9
.skip
(sQ
(rG [sS 12 (bZ .eql 8 2),sM 11 12] [1,3,4,8,11] [1,3])
(cN 11
(sQ
(rG [sF 13 2 1,sL 14 13,sF 15 3 1,sL 16 15,sS 17 (bT .leq 14 16),sM 4 17] [3,4] [3])
(rG [sF 18 2 3,nN (.store 1 (tT 18) (zZ 0)),sF 19 3 3,nN (.store 1 (tT 19) (zZ 0))] [3,4] [3]))
(sQ
(rG [sS 21 (bZ .eql 8 3),sM 20 21] [1,3,4,8,20] [1,3])
(cN 20
(sQ
(rG [sF 22 4 1,sL 23 22,sS 24 (bZ .geq 23 0),sM 25 24,gT 26 (fL 4 1) 25,gT 27 (lF 1 26) 25,gT 28 (bZ .leq 27 200) 25,sS 29 (pA 25 28),sM 4 29] [3,4] [3])
(rG [sF 30 4 3,nN (.store 1 (tT 30) (zZ 0))] [3,4] [3]))
(sQ
(rG [sS 32 (bZ .eql 8 4),sM 31 32] [1,3,4,8,31] [1,3])
(cN 31
(sQ
(rG [sF 33 1 1,sL 34 33,sS 35 (cA 306 34),sM 36 35,gT 37 (fL 5 1) 36,gT 38 (lF 1 37) 36,gT 39 (cA 307 38) 36,sS 40 (pA 36 39),sM 4 40] [3,4] [3])
(rG [sF 41 1 3,⟨none,.store 1 (tT 41) (.val (.pv (.str ⟨#[]⟩))),none⟩,sF 42 5 3,nN (.store 1 (tT 42) (.val (.tl []))),sF 43 9 3,nN (.store 1 (tT 43) (bB false))] [3,4] [3]))
(sQ
(sQ
(rG [sS 45 (bZ .eql 8 5),sM 44 45] [1,3,4,8,44] [1,3])
(cN 44
.skip
(rG [sS 46 (bZ .eql 8 6),sM 44 46] [1,3,4,8,44] [1,3])))
(cN 44
(sQ
(rG [sF 47 1 1,sL 48 47,sS 49 (cA 306 48),sM 50 49,gT 51 (lT 10 1) 50,gT 52 (cA 308 51) 50,sS 53 (pA 50 52),sM 4 53] [1,3,4] [1,3])
(sQ
(rG [sF 54 1 3,⟨none,.store 1 (tT 54) (.val (.pv (.str ⟨#[]⟩))),none⟩,sF 55 6 3,nN (.store 1 (tT 55) (.val (.tl [])))] [1,3,4] [1,3])
(rG [sF 56 9 1,sL 57 56,sM 58 57,gT 59 (fL 0 1) 58,gT 60 (lF 1 59) 58,gT 61 (bZ .eql 60 5) 58,sS 62 (pA 58 61),sF 63 9 3,nN (sT 1 63 62)] [3,4] [3])))
(sQ
(sQ
(rG [sS 65 (bZ .eql 8 7),sM 64 65] [1,3,4,8,64] [1,3])
(cN 64
.skip
(rG [sS 66 (bZ .eql 8 8),sM 64 66] [1,3,4,8,64] [1,3])))
(cN 64
(sQ
(rG [sF 67 4 1,sL 68 67,sS 69 (bZ .geq 68 0),sM 70 69,gT 71 (fL 4 1) 70,gT 72 (lF 1 71) 70,gT 73 (bZ .leq 72 50) 70,sS 74 (pA 70 73),sM 4 74] [1,3,4] [1,3])
(sQ
(rG [sF 75 4 3,nN (.store 1 (tT 75) (zZ 0)),sF 76 8 3,nN (.store 1 (tT 76) (zZ 0))] [1,3,4] [1,3])
(sQ
(rG [sF 77 0 1,sL 78 77,sS 79 (bZ .eql 78 8)] [3,4,79] [3])
(cN 79
(rG [sF 80 7 3,nN (.store 1 (tT 80) (zZ 0))] [3,4] [3])
.skip))))
(sQ
(rG [sS 82 (bZ .eql 8 9),sM 81 82] [3,4,81] [3])
(cN 81
(rG [sF 83 8 3,nN (.store 1 (tT 83) (zZ 0))] [3,4] [3])
(sQ
(rG [sS 2 (mB false)] [2] [])
.ret)))))))))))))))))
(sQ
(rG [sM 84 4,sM 85 84,gT 86 (lT 10 3) 85,⟨some 87,.build [pZ,.pv (.str ⟨#[]⟩),pZ,pZ,pZ,.tl [],.tl [],pZ,pZ,.pv (.bool false)] [],some (85,true)⟩,gT 88 (cB 297 86 87) 85,sS 89 (pA 85 88),sM 2 89] [2] [])
.ret)))))),[.tmp 2],false,false,false⟩
def F284:aa:=⟨1,(sQ
(rG [sS 1 (bX 1 10 0),sS 2 (.eJ (.val (.tl [])))] [1] [1])
(sQ
(rG [sS 3 (.eJ (.val (.tl [])))] [1,3] [1])
(sQ
(sQ
(rG [sF 6 6 1,sL 7 6,sS 8 (lN 0 7),sS 9 (mZ 0)] [1,3,7,8,9] [1])
(.block 0
(.loop
(.mask [1,3,7,8,9] [1]
(sQ
(rG [sS 10 (bT .lss 9 8)] [1,3,7,8,9,10] [1])
(sQ
(cN 10
.skip
(.exit 0))
(sQ
(.block 1
(sQ
(rG [sS 11 (iX 13 7 9),sS 12 (lT 13 11),⟨some 5,.alloc 5 [pZ,.pv (.str ⟨#[]⟩),pZ,.pv (.bool false),.pv (.bool false),pZ,.pv (.bool false),pZ,.pv (.str ⟨#[]⟩),pZ,.tl [],.tl [],.tl []],none⟩,nN (sT 13 5 12)] [1,3,5,7,8,9] [1,5])
(rG [sM 13 3,sF 14 2 5,sL 15 14,sS 16 (.lit 1 [pZ] 1 [(0,1,(tT 15))]),sS 17 (aP 1 13 16),sM 3 17] [1,3,7,8,9] [1])))
(rG [sS 18 (bZ .add 9 1),sM 9 18] [1,3,7,8,9] [1]))))))))
(sQ
(sQ
(rG [sF 19 0 1,sL 20 19,sS 21 (bZ .eql 20 8)] [1,3,21] [1])
(cN 21
(rG [sM 22 3,sF 23 7 1,sL 24 23,sS 25 (.lit 1 [pZ] 1 [(0,1,(tT 24))]),sS 26 (aP 1 22 25),sM 3 26] [1,3] [1])
.skip))
(sQ
(sQ
(rG [sF 27 0 1,sL 28 27,sS 29 (bZ .geq 28 7)] [1,3,29] [1])
(cN 29
(rG [sM 30 3,sF 31 8 1,sL 32 31,sS 33 (.lit 1 [pZ] 1 [(0,1,(tT 32))]),sS 34 (aP 1 30 33),sM 3 34] [3] [])
.skip))
(sQ
(rG [sM 35 3,sM 2 35] [2] [])
.ret)))))),[.tmp 2],false,false,false⟩
def F285:aa:=⟨1,(sQ
(rG [sS 1 (bX 1 10 0),sS 2 (mB false)] [1] [1])
(sQ
(sQ
(.draw [(sF 3 0 1,[]),(sL 4 3,[]),(sS 5 (bZ .lss 4 1),[]),(sM 6 5,[]),(gF 7 (fL 0 1) 6,[]),(gF 8 (lF 1 7) 6,[]),(gF 9 (bZ .gtr 8 9) 6,[]),(sS 10 (pO 6 9),[]),(sM 11 10,[]),(gF 12 (lT 10 1) 11,[]),(gF 13 (lT 10 1) 11,[]),(gF 14 (cA 309 13) 11,[9]),(gF 15 (cB 295 12 14) 11,[]),(gF 16 (nT 15) 11,[]),(sS 17 (pO 11 16),[]),(sM 18 17,[]),(gF 19 (fL 0 1) 18,[]),(gF 20 (lF 1 19) 18,[]),(gF 21 (cA 286 20) 18,[]),(gF 22 (mT 21) 18,[]),(gT 23 (fL 1 1) 22,[]),(gT 24 (lF 1 23) 22,[]),(gT 25 (cA 310 24) 22,[]),(gT 26 (nT 25) 22,[]),(gF 27 (pA 22 26) 18,[]),(sS 28 (pO 18 27),[])] [1,28] [1])
(cN 28
(sQ
(rG [sS 2 (mB false)] [2] [])
.ret)
.skip))
(sQ
(sQ
(rG [sF 29 0 1,sL 30 29] [1,30] [1])
(.block 0
(sQ
(rG [sS 32 (bZ .eql 30 2),sM 31 32] [1,30,31] [1])
(cN 31
(sQ
(rG [sF 33 2 1,sL 34 33,sF 35 3 1,sL 36 35,sS 37 (bT .leq 34 36),sM 2 37] [2] [])
.ret)
(sQ
(rG [sS 39 (bZ .eql 30 3),sM 38 39] [1,30,38] [1])
(cN 38
(sQ
(rG [sF 40 4 1,sL 41 40,sS 42 (bZ .geq 41 0),sM 43 42,gT 44 (fL 4 1) 43,gT 45 (lF 1 44) 43,gT 46 (bZ .leq 45 200) 43,sS 47 (pA 43 46),sM 2 47] [2] [])
.ret)
(sQ
(rG [sS 49 (bZ .eql 30 4),sM 48 49] [1,30,48] [1])
(cN 48
(sQ
(rG [sF 50 5 1,sL 51 50,sS 52 (cA 311 51),sM 2 52] [2] [])
.ret)
(sQ
(sQ
(rG [sS 54 (bZ .eql 30 5),sM 53 54] [1,30,53] [1])
(cN 53
.skip
(rG [sS 55 (bZ .eql 30 6),sM 53 55] [1,30,53] [1])))
(cN 53
(sQ
(rG [sF 56 6 1,sL 57 56,sF 58 0 1,sL 59 58,sS 60 (bZ .eql 59 5),sS 61 (cB 312 57 60),sM 2 61] [2] [])
.ret)
(sQ
(sQ
(rG [sS 63 (bZ .eql 30 7),sM 62 63] [1,30,62] [1])
(cN 62
.skip
(rG [sS 64 (bZ .eql 30 8),sM 62 64] [1,62] [1])))
(cN 62
(sQ
(rG [sF 65 4 1,sL 66 65,sS 67 (bZ .geq 66 0),sM 68 67,gT 69 (fL 4 1) 68,gT 70 (lF 1 69) 68,gT 71 (bZ .leq 70 50) 68,sS 72 (pA 68 71),sM 2 72] [2] [])
.ret)
.skip))))))))))))
(sQ
(rG [sS 2 (mB true)] [2] [])
.ret)))),[.tmp 2],false,false,false⟩
def F286:aa:=⟨1,(sQ
(rG [sS 2 (mB false)] [0] [])
(sQ
(rG [sM 3 0,sS 4 (bZ .eql 3 4),sM 5 4,gF 6 (mT 0) 5,gF 7 (bZ .eql 6 5) 5,sS 8 (pO 5 7),sM 9 8,gF 10 (mT 0) 9,gF 11 (bZ .eql 10 6) 9,sS 12 (pO 9 11),sM 2 12] [2] [])
.ret)),[.tmp 2],false,false,false⟩
def F287:aa:=⟨1,(sQ
(rG [sS 1 (bX 1 10 0),sS 2 (.eJ (.val (.tl [])))] [1] [1])
(sQ
(rG [sS 3 (.eJ (.val (.tl [])))] [1,3] [1])
(sQ
(sQ
(rG [sS 4 (mZ 0)] [1,3,4] [1])
(.block 0
(.loop
(.mask [1,3,4] [1]
(sQ
(sQ
(rG [sM 5 4,sF 6 6 1,sL 7 6,sS 8 (lN 0 7),sS 9 (bT .lss 5 8)] [1,3,4,9] [1])
(cN 9
.skip
(.exit 0)))
(sQ
(.block 1
(rG [sM 12 3,sF 13 6 1,sL 14 13,sM 15 4,sS 16 (iX 13 14 15),sF 17 2 16,sL 18 17,sS 19 (.lit 1 [pZ] 1 [(0,1,(tT 18))]),sS 20 (aP 1 12 19),sM 3 20] [1,3,4] [1]))
(rG [sM 10 4,sS 11 (bZ .add 10 1),sM 4 11] [1,3,4] [1])))))))
(sQ
(sQ
(rG [sF 21 0 1,sL 22 21,sS 23 (bZ .eql 22 8)] [1,3,23] [1])
(cN 23
(rG [sM 24 3,sF 25 7 1,sL 26 25,sS 27 (.lit 1 [pZ] 1 [(0,1,(tT 26))]),sS 28 (aP 1 24 27),sM 3 28] [1,3] [1])
.skip))
(sQ
(sQ
(rG [sF 29 0 1,sL 30 29,sS 31 (bZ .eql 30 7),sM 32 31,gF 33 (fL 0 1) 32,gF 34 (lF 1 33) 32,gF 35 (bZ .eql 34 8) 32,sS 36 (pO 32 35),sM 37 36,gF 38 (fL 0 1) 37,gF 39 (lF 1 38) 37,gF 40 (bZ .eql 39 9) 37,sS 41 (pO 37 40)] [1,3,41] [1])
(cN 41
(rG [sM 42 3,sF 43 8 1,sL 44 43,sS 45 (.lit 1 [pZ] 1 [(0,1,(tT 44))]),sS 46 (aP 1 42 45),sM 3 46] [3] [])
.skip))
(sQ
(rG [sM 47 3,sM 2 47] [2] [])
.ret)))))),[.tmp 2],false,false,false⟩
def F288:aa:=⟨1,(sQ
(rG [sS 2 (mB false)] [0] [])
(sQ
(rG [sM 3 0,sS 4 (bZ .geq 3 1),sM 5 4,gT 6 (mT 0) 5,gT 7 (bZ .leq 6 4) 5,sS 8 (pA 5 7),sM 2 8] [2] [])
.ret)),[.tmp 2],false,false,false⟩
def F291:aa:=⟨2,(sQ
(rG [sS 2 (bX 2 1 0),sS 4 (mZ 0)] [1,2] [2])
(sQ
(sQ
(rG [sS 6 (lT 1 2),sS 7 (cA 267 6),sM 5 7] [1,2,5] [2])
(sQ
(rG [sM 8 5,sS 9 (bZ .neq 8 0)] [1,2,5,9] [2])
(cN 9
(sQ
(rG [sM 10 5,sM 4 10] [4] [])
.ret)
.skip)))
(sQ
(sQ
(rG [sM 11 1,sS 12 (bZ .lss 11 0),sM 13 12,gF 14 (mT 1) 13,gF 15 (fL 0 2) 13,gF 16 (lF 1 15) 13,gF 17 (lN 0 16) 13,gF 18 (bT .geq 14 17) 13,sS 19 (pO 13 18)] [19] [])
(cN 19
(sQ
(rG [sS 4 (mZ 4)] [4] [])
.ret)
.skip))
(sQ
(rG [sS 4 (mZ 0)] [4] [])
.ret)))),[.tmp 4],false,false,false⟩
def F295:aa:=⟨2,(sQ
(rG [sS 2 (bX 2 10 0),sS 3 (bX 3 10 1),sS 4 (mB false)] [2,3] [2,3])
(sQ
(sQ
(rG [sF 7 0 2,sL 8 7,sF 9 0 3,sL 10 9,sS 11 (bT .neq 8 10),sM 12 11,gF 13 (fL 1 2) 12,gF 14 (lF 1 13) 12,gF 15 (fL 1 3) 12,gF 16 (lF 1 15) 12,gF 17 (bT .neq 14 16) 12,sS 18 (pO 12 17),sM 19 18,gF 20 (fL 2 2) 19,gF 21 (lF 1 20) 19,gF 22 (fL 2 3) 19,gF 23 (lF 1 22) 19,gF 24 (bT .neq 21 23) 19,sS 25 (pO 19 24),sM 26 25,gF 27 (fL 3 2) 26,gF 28 (lF 1 27) 26,gF 29 (fL 3 3) 26,gF 30 (lF 1 29) 26,gF 31 (bT .neq 28 30) 26,sS 32 (pO 26 31),sM 33 32,gF 34 (fL 4 2) 33,gF 35 (lF 1 34) 33,gF 36 (fL 4 3) 33,gF 37 (lF 1 36) 33,gF 38 (bT .neq 35 37) 33,sS 39 (pO 33 38),sM 40 39,gF 41 (fL 7 2) 40,gF 42 (lF 1 41) 40,gF 43 (fL 7 3) 40,gF 44 (lF 1 43) 40,gF 45 (bT .neq 42 44) 40,sS 46 (pO 40 45),sM 47 46,gF 48 (fL 8 2) 47,gF 49 (lF 1 48) 47,gF 50 (fL 8 3) 47,gF 51 (lF 1 50) 47,gF 52 (bT .neq 49 51) 47,sS 53 (pO 47 52),sM 54 53,gF 55 (fL 9 2) 54,gF 56 (lF 1 55) 54,gF 57 (fL 9 3) 54,gF 58 (lF 1 57) 54,gF 59 (.mF false [0] true (tT 56) (tT 58)) 54,sS 60 (pO 54 59),sM 61 60,gF 62 (fL 5 2) 61,gF 63 (lF 1 62) 61,gF 64 (lN 0 63) 61,gF 65 (fL 5 3) 61,gF 66 (lF 1 65) 61,gF 67 (lN 0 66) 61,gF 68 (bT .neq 64 67) 61,sS 69 (pO 61 68),sM 70 69,gF 71 (fL 6 2) 70,gF 72 (lF 1 71) 70,gF 73 (lN 0 72) 70,gF 74 (fL 6 3) 70,gF 75 (lF 1 74) 70,gF 76 (lN 0 75) 70,gF 77 (bT .neq 73 76) 70,sS 78 (pO 70 77)] [2,3,78] [2,3])
(cN 78
(sQ
(rG [sS 4 (mB false)] [4] [])
.ret)
.skip))
(sQ
(sQ
(rG [sS 5 (mZ 0)] [2,3,5] [2,3])
(.block 0
(.loop
(.mask [2,3,5] [2,3]
(sQ
(sQ
(rG [sM 79 5,sF 80 5 2,sL 81 80,sS 82 (lN 0 81),sS 83 (bT .lss 79 82)] [2,3,5,83] [2,3])
(cN 83
.skip
(.exit 0)))
(sQ
(.block 1
(sQ
(.draw [(sF 86 5 2,[]),(sL 87 86,[]),(sM 88 5,[]),(sS 89 (iX 2 87 88),[]),(sS 90 (lT 2 89),[]),(sF 91 5 3,[]),(sL 92 91,[]),(sM 93 5,[]),(sS 94 (iX 2 92 93),[]),(sS 95 (lT 2 94),[]),(sS 96 (.mF true [1,2] true (tT 90) (tT 95)),[])] [2,3,5,96] [2,3])
(cN 96
(sQ
(rG [sS 4 (mB false)] [4] [])
.ret)
.skip)))
(rG [sM 84 5,sS 85 (bZ .add 84 1),sM 5 85] [2,3,5] [2,3])))))))
(sQ
(sQ
(rG [sS 6 (mZ 0)] [2,3,6] [2,3])
(.block 2
(.loop
(.mask [2,3,6] [2,3]
(sQ
(sQ
(rG [sM 97 6,sF 98 6 2,sL 99 98,sS 100 (lN 0 99),sS 101 (bT .lss 97 100)] [2,3,6,101] [2,3])
(cN 101
.skip
(.exit 2)))
(sQ
(.block 3
(sQ
(.draw [(sF 104 6 2,[]),(sL 105 104,[]),(sM 106 6,[]),(sS 107 (iX 13 105 106),[]),(sS 108 (lT 13 107),[]),(sF 109 6 3,[]),(sL 110 109,[]),(sM 111 6,[]),(sS 112 (iX 13 110 111),[]),(sS 113 (lT 13 112),[]),(sS 114 (cB 316 108 113),[]),(sS 115 (nT 114),[])] [2,3,6,115] [2,3])
(cN 115
(sQ
(rG [sS 4 (mB false)] [4] [])
.ret)
.skip)))
(rG [sM 102 6,sS 103 (bZ .add 102 1),sM 6 103] [2,3,6] [2,3])))))))
(sQ
(rG [sS 4 (mB true)] [4] [])
.ret))))),[.tmp 4],false,false,false⟩
def F297:aa:=⟨2,(sQ
(rG [sS 2 (bX 2 10 0),sS 3 (bX 3 10 1),sS 4 (mB false)] [2,3] [2,3])
(sQ
(rG [sF 5 0 2,sL 6 5,sF 7 0 3,sL 8 7,sS 9 (bT .eql 6 8),sM 10 9,gT 11 (fL 1 2) 10,gT 12 (lF 1 11) 10,gT 13 (fL 1 3) 10,gT 14 (lF 1 13) 10,gT 15 (bT .eql 12 14) 10,sS 16 (pA 10 15),sM 17 16,gT 18 (fL 2 2) 17,gT 19 (lF 1 18) 17,gT 20 (fL 2 3) 17,gT 21 (lF 1 20) 17,gT 22 (bT .eql 19 21) 17,sS 23 (pA 17 22),sM 24 23,gT 25 (fL 3 2) 24,gT 26 (lF 1 25) 24,gT 27 (fL 3 3) 24,gT 28 (lF 1 27) 24,gT 29 (bT .eql 26 28) 24,sS 30 (pA 24 29),sM 31 30,gT 32 (fL 4 2) 31,gT 33 (lF 1 32) 31,gT 34 (fL 4 3) 31,gT 35 (lF 1 34) 31,gT 36 (bT .eql 33 35) 31,sS 37 (pA 31 36),sM 38 37,gT 39 (fL 7 2) 38,gT 40 (lF 1 39) 38,gT 41 (fL 7 3) 38,gT 42 (lF 1 41) 38,gT 43 (bT .eql 40 42) 38,sS 44 (pA 38 43),sM 45 44,gT 46 (fL 8 2) 45,gT 47 (lF 1 46) 45,gT 48 (fL 8 3) 45,gT 49 (lF 1 48) 45,gT 50 (bT .eql 47 49) 45,sS 51 (pA 45 50),sM 52 51,gT 53 (fL 9 2) 52,gT 54 (lF 1 53) 52,gT 55 (fL 9 3) 52,gT 56 (lF 1 55) 52,gT 57 (.mF false [0] false (tT 54) (tT 56)) 52,sS 58 (pA 52 57),sM 59 58,gT 60 (fL 5 2) 59,gT 61 (lF 1 60) 59,gT 62 (fL 5 3) 59,gT 63 (lF 1 62) 59,gT 64 (cB 317 61 63) 59,sS 65 (pA 59 64),sM 66 65,gT 67 (fL 6 2) 66,gT 68 (lF 1 67) 66,gT 69 (fL 6 3) 66,gT 70 (lF 1 69) 66,gT 71 (cL 318 [(tT 68),(tT 70),(.val (.func 319 []))]) 66,sS 72 (pA 66 71),sM 4 72] [4] [])
.ret)),[.tmp 4],false,false,false⟩
def F304:aa:=⟨2,(sQ
(rG [sS 4 (mZ 0)] [0,1] [])
(sQ
(sQ
(rG [sM 6 0,sS 7 (lN 0 6),sS 8 (mZ 0)] [0,1,7,8] [])
(.block 0
(.loop
(.mask [0,1,7,8] []
(sQ
(rG [sS 9 (bT .lss 8 7)] [0,1,7,8,9] [])
(sQ
(cN 9
.skip
(.exit 0))
(sQ
(.block 1
(sQ
(rG [sM 10 8,sM 5 10] [0,1,5,7,8] [])
(sQ
(rG [sM 11 1,sM 12 0,sM 13 5,sS 14 (iX 13 12 13),sS 15 (lT 13 14),sS 16 (.call (tT 11) [(tT 15)])] [0,1,5,7,8,16] [])
(cN 16
(sQ
(rG [sM 17 5,sM 4 17] [4] [])
.ret)
.skip))))
(rG [sS 18 (bZ .add 8 1),sM 8 18] [0,1,7,8] []))))))))
(sQ
(rG [sS 4 (.eJ (.val (.pv (.int .i64 (-1)))))] [4] [])
.ret))),[.tmp 4],false,false,false⟩
def F305:aa:=⟨2,(sQ
(rG [sS 2 (bX 2 13 0),sS 3 (mB false)] [1,2] [2])
(sQ
(rG [sF 4 0 2,sL 5 4,sL 6 1,sS 7 (bT .eql 5 6),sM 3 7] [3] [])
.ret)),[.tmp 3],false,false,false⟩
def F306:aa:=⟨1,(sQ
(rG [sS 2 (mB false)] [0] [])
(sQ
(sQ
(rG [sM 4 0,⟨some 5,.bin .eql (tT 4) (.val (.pv (.str ⟨#[]⟩))),none⟩,sM 6 5,gF 7 (mT 0) 6,gF 8 (lN 1 7) 6,gF 9 (bZ .gtr 8 24) 6,sS 10 (pO 6 9),sM 11 10,gF 12 (mT 0) 11,gF 13 (.Dh (tT 12) (zZ 0)) 11,gF 14 (cA 323 13) 11,gF 15 (nT 14) 11,sS 16 (pO 11 15)] [0,16] [])
(cN 16
(sQ
(rG [sS 2 (mB false)] [2] [])
.ret)
.skip))
(sQ
(sQ
(rG [sM 17 0,sS 18 (lN 1 17),sS 19 (mZ 0)] [0,18,19] [])
(.block 0
(.loop
(.mask [0,18,19] []
(sQ
(rG [sS 20 (bT .lss 19 18)] [0,18,19,20] [])
(sQ
(cN 20
.skip
(.exit 0))
(sQ
(.block 1
(sQ
(rG [sM 21 19,sM 3 21] [0,3,18,19] [])
(sQ
(rG [sM 22 0,sM 23 3,sS 24 (.Dh (tT 22) (tT 23)),sS 25 (cA 323 24),sS 26 (nT 25),sM 27 26,gT 28 (mT 0) 27,gT 29 (mT 3) 27,gT 30 (.Dh (tT 28) (tT 29)) 27,gT 31 (cA 324 30) 27,gT 32 (nT 31) 27,sS 33 (pA 27 32)] [0,18,19,33] [])
(cN 33
(sQ
(rG [sS 2 (mB false)] [2] [])
.ret)
.skip))))
(rG [sS 34 (bZ .add 19 1),sM 19 34] [0,18,19] []))))))))
(sQ
(rG [sS 2 (mB true)] [2] [])
.ret)))),[.tmp 2],false,false,false⟩
def F307:aa:=⟨1,(sQ
(rG [sS 2 (mB false)] [0] [])
(sQ
(rG [sS 3 (.eJ (.val (.tl [])))] [0,3] [])
(sQ
(rG [sS 4 (.eJ (.val (.tl [])))] [0,3,4] [])
(sQ
(sQ
(rG [sM 7 0,sS 8 (lN 0 7),sS 9 (mZ 0)] [0,3,4,7,8,9] [])
(.block 0
(.loop
(.mask [0,3,4,7,8,9] []
(sQ
(rG [sS 10 (bT .lss 9 8)] [0,3,4,7,8,9,10] [])
(sQ
(cN 10
.skip
(.exit 0))
(sQ
(.block 1
(sQ
(rG [sS 11 (iX 2 7 9),sS 12 (lT 2 11),⟨some 6,.alloc 6 [pZ,.pv (.str ⟨#[]⟩)],none⟩,nN (sT 2 6 12)] [0,3,4,6,7,8,9] [6])
(.draw [(sM 13 3,[]),(sF 14 0 6,[]),(sL 15 14,[]),(sS 16 (.lit 1 [pZ] 1 [(0,1,(tT 15))]),[]),(sS 17 (aP 1 13 16),[]),(sM 18 4,[]),(sF 19 1 6,[]),(sL 20 19,[3,4]),(⟨some 21,.lit 1 [.pv (.str ⟨#[]⟩)] 1 [(0,1,(tT 20))],none⟩,[2,3,4]),(sS 22 (aP 1 18 21),[]),(sM 3 17,[]),(sM 4 22,[])] [0,3,4,7,8,9] [])))
(rG [sS 23 (bZ .add 9 1),sM 9 23] [0,3,4,7,8,9] []))))))))
(sQ
(rG [sM 24 0,sS 25 (lN 0 24),sS 26 (bZ .gtr 25 0),sM 27 26,gT 28 (mT 3) 27,gT 29 (mT 4) 27,gT 30 (cB 325 28 29) 27,sS 31 (pA 27 30),sM 2 31] [2] [])
.ret))))),[.tmp 2],false,false,false⟩
def F308:aa:=⟨1,(sQ
(rG [sS 1 (bX 1 10 0),sS 2 (mB false)] [1] [1])
(sQ
(rG [sS 3 (.eJ (.val (.tl [])))] [1,3] [1])
(sQ
(rG [sS 4 (.eJ (.val (.tl [])))] [1,3,4] [1])
(sQ
(sQ
(rG [sF 7 6 1,sL 8 7,sS 9 (lN 0 8),sS 10 (mZ 0)] [1,3,4,8,9,10] [1])
(.block 0
(.loop
(.mask [1,3,4,8,9,10] [1]
(sQ
(rG [sS 11 (bT .lss 10 9)] [1,3,4,8,9,10,11] [1])
(sQ
(cN 11
.skip
(.exit 0))
(sQ
(.block 1
(sQ
(rG [sS 12 (iX 13 8 10),sS 13 (lT 13 12),⟨some 6,.alloc 6 [pZ,.pv (.str ⟨#[]⟩),pZ,.pv (.bool false),.pv (.bool false),pZ,.pv (.bool false),pZ,.pv (.str ⟨#[]⟩),pZ,.tl [],.tl [],.tl []],none⟩,nN (sT 13 6 13)] [1,3,4,6,8,9,10] [1,6])
(sQ
(.draw [(sM 14 3,[]),(sF 15 0 6,[]),(sL 16 15,[]),(sS 17 (.lit 1 [pZ] 1 [(0,1,(tT 16))]),[]),(sS 18 (aP 1 14 17),[]),(sM 19 4,[]),(sF 20 1 6,[]),(sL 21 20,[3,4]),(⟨some 22,.lit 1 [.pv (.str ⟨#[]⟩)] 1 [(0,1,(tT 21))],none⟩,[2,3,4]),(sS 23 (aP 1 19 22),[]),(sM 3 18,[]),(sM 4 23,[])] [1,3,4,6,8,9,10] [1,6])
(sQ
(rG [sF 24 0 1,sL 25 24,sS 26 (bZ .eql 25 6),sM 27 26,gT 28 (fL 3 6) 27,gT 29 (lF 1 28) 27,gT 30 (mT 29) 27,gF 31 (fL 4 6) 30,gF 32 (lF 1 31) 30,gT 33 (pO 30 32) 27,sS 34 (pA 27 33),sM 35 34,gF 36 (fL 3 6) 35,gF 37 (lF 1 36) 35,gF 38 (mT 37) 35,gT 39 (fL 4 6) 38,gT 40 (lF 1 39) 38,gF 41 (pA 38 40) 35,sS 42 (pO 35 41),sM 43 42,gF 44 (fL 4 6) 43,gF 45 (lF 1 44) 43,gF 46 (nT 45) 43,gF 47 (mT 46) 43,gT 48 (fL 5 6) 47,gT 49 (lT 8 48) 47,gT 50 (cA 326 49) 47,gT 51 (nT 50) 47,gF 52 (pA 47 51) 43,sS 53 (pO 43 52)] [1,3,4,8,9,10,53] [1])
(cN 53
(sQ
(rG [sS 2 (mB false)] [2] [])
.ret)
.skip)))))
(rG [sS 54 (bZ .add 10 1),sM 10 54] [1,3,4,8,9,10] [1]))))))))
(sQ
(rG [sF 55 0 1,sL 56 55,sS 57 (bZ .eql 56 5),sM 58 57,gF 59 (mT 3) 58,gF 60 (lN 0 59) 58,gF 61 (bZ .gtr 60 0) 58,sS 62 (pO 58 61),sM 63 62,gT 64 (mT 3) 63,gT 65 (mT 4) 63,gT 66 (cB 325 64 65) 63,sS 67 (pA 63 66),sM 2 67] [2] [])
.ret))))),[.tmp 2],false,false,false⟩
def F309:aa:=⟨1,(sQ
(rG [sS 1 (bX 1 10 0),⟨some 2,.alloc 2 [pZ,.pv (.str ⟨#[]⟩),pZ,pZ,pZ,.tl [],.tl [],pZ,pZ,.pv (.bool false)],none⟩] [1,2] [1,2])
(sQ
(sQ
(rG [sF 3 0 1,sL 4 3] [1,2,4] [1,2])
(.block 0
(sQ
(rG [sS 6 (bZ .eql 4 1),sM 5 6] [1,2,4,5] [1,2])
(cN 5
(sQ
(rG [sF 7 0 1,sL 8 7,⟨some 9,.build [pZ,.pv (.str ⟨#[]⟩),pZ,pZ,pZ,.tl [],.tl [],pZ,pZ,.pv (.bool false)] [(0,1,(tT 8))],none⟩,nN (sT 10 2 9)] [2] [2])
.ret)
(sQ
(rG [sS 11 (bZ .eql 4 2),sM 10 11] [1,2,4,10] [1,2])
(cN 10
(sQ
(rG [sF 12 0 1,sL 13 12,sF 14 2 1,sL 15 14,sF 16 3 1,sL 17 16,⟨some 18,.build [pZ,.pv (.str ⟨#[]⟩),pZ,pZ,pZ,.tl [],.tl [],pZ,pZ,.pv (.bool false)] [(0,1,(tT 13)),(2,1,(tT 15)),(3,1,(tT 17))],none⟩,nN (sT 10 2 18)] [2] [2])
.ret)
(sQ
(rG [sS 20 (bZ .eql 4 3),sM 19 20] [1,2,4,19] [1,2])
(cN 19
(sQ
(rG [sF 21 0 1,sL 22 21,sF 23 4 1,sL 24 23,⟨some 25,.build [pZ,.pv (.str ⟨#[]⟩),pZ,pZ,pZ,.tl [],.tl [],pZ,pZ,.pv (.bool false)] [(0,1,(tT 22)),(4,1,(tT 24))],none⟩,nN (sT 10 2 25)] [2] [2])
.ret)
(sQ
(rG [sS 27 (bZ .eql 4 4),sM 26 27] [1,2,4,26] [1,2])
(cN 26
(sQ
(rG [sF 28 0 1,sL 29 28,sF 30 1 1,sL 31 30,sF 32 5 1,sL 33 32,sF 34 9 1,sL 35 34,⟨some 36,.build [pZ,.pv (.str ⟨#[]⟩),pZ,pZ,pZ,.tl [],.tl [],pZ,pZ,.pv (.bool false)] [(0,1,(tT 29)),(1,1,(tT 31)),(5,1,(tT 33)),(9,1,(tT 35))],none⟩,nN (sT 10 2 36)] [2] [2])
.ret)
(sQ
(rG [sS 38 (bZ .eql 4 5),sM 37 38] [1,2,4,37] [1,2])
(cN 37
(sQ
(rG [sF 39 0 1,sL 40 39,sF 41 1 1,sL 42 41,sF 43 6 1,sL 44 43,⟨some 45,.build [pZ,.pv (.str ⟨#[]⟩),pZ,pZ,pZ,.tl [],.tl [],pZ,pZ,.pv (.bool false)] [(0,1,(tT 40)),(1,1,(tT 42)),(6,1,(tT 44))],none⟩,nN (sT 10 2 45)] [2] [2])
.ret)
(sQ
(rG [sS 47 (bZ .eql 4 6),sM 46 47] [1,2,4,46] [1,2])
(cN 46
(sQ
(rG [sF 48 0 1,sL 49 48,sF 50 1 1,sL 51 50,sF 52 6 1,sL 53 52,sF 54 9 1,sL 55 54,⟨some 56,.build [pZ,.pv (.str ⟨#[]⟩),pZ,pZ,pZ,.tl [],.tl [],pZ,pZ,.pv (.bool false)] [(0,1,(tT 49)),(1,1,(tT 51)),(6,1,(tT 53)),(9,1,(tT 55))],none⟩,nN (sT 10 2 56)] [2] [2])
.ret)
(sQ
(rG [sS 58 (bZ .eql 4 7),sM 57 58] [1,2,4,57] [1,2])
(cN 57
(sQ
(rG [sF 59 0 1,sL 60 59,sF 61 4 1,sL 62 61,sF 63 8 1,sL 64 63,⟨some 65,.build [pZ,.pv (.str ⟨#[]⟩),pZ,pZ,pZ,.tl [],.tl [],pZ,pZ,.pv (.bool false)] [(0,1,(tT 60)),(4,1,(tT 62)),(8,1,(tT 64))],none⟩,nN (sT 10 2 65)] [2] [2])
.ret)
(sQ
(rG [sS 67 (bZ .eql 4 8),sM 66 67] [1,2,66] [1,2])
(cN 66
(sQ
(rG [sF 68 0 1,sL 69 68,sF 70 4 1,sL 71 70,sF 72 7 1,sL 73 72,sF 74 8 1,sL 75 74,⟨some 76,.build [pZ,.pv (.str ⟨#[]⟩),pZ,pZ,pZ,.tl [],.tl [],pZ,pZ,.pv (.bool false)] [(0,1,(tT 69)),(4,1,(tT 71)),(7,1,(tT 73)),(8,1,(tT 75))],none⟩,nN (sT 10 2 76)] [2] [2])
.ret)
.skip))))))))))))))))))
(sQ
(rG [sF 77 0 1,sL 78 77,sF 79 8 1,sL 80 79,⟨some 81,.build [pZ,.pv (.str ⟨#[]⟩),pZ,pZ,pZ,.tl [],.tl [],pZ,pZ,.pv (.bool false)] [(0,1,(tT 78)),(8,1,(tT 80))],none⟩,nN (sT 10 2 81)] [2] [2])
.ret))),[.cell 2 10 true],false,false,false⟩
def F310:aa:=⟨1,(sQ
(rG [sS 2 (mB false)] [0] [])
(sQ
(sQ
(rG [sM 4 0,⟨some 5,.bin .eql (tT 4) (.val (.pv (.str ⟨#[]⟩))),none⟩,sM 6 5,gF 7 (mT 0) 6,gF 8 (lN 1 7) 6,gF 9 (bZ .gtr 8 24) 6,sS 10 (pO 6 9),sM 11 10,gF 12 (mT 0) 11,gF 13 (.Dh (tT 12) (zZ 0)) 11,gF 14 (cA 327 13) 11,gF 15 (nT 14) 11,sS 16 (pO 11 15)] [0,16] [])
(cN 16
(sQ
(rG [sS 2 (mB false)] [2] [])
.ret)
.skip))
(sQ
(sQ
(rG [sS 3 (mZ 0)] [0,3] [])
(.block 0
(.loop
(.mask [0,3] []
(sQ
(sQ
(rG [sM 17 3,sM 18 0,sS 19 (lN 1 18),sS 20 (bT .lss 17 19)] [0,3,20] [])
(cN 20
.skip
(.exit 0)))
(sQ
(.block 1
(sQ
(rG [sM 23 0,sM 24 3,sS 25 (.Dh (tT 23) (tT 24)),sS 26 (cA 327 25),sS 27 (nT 26),sM 28 27,gT 29 (mT 0) 28,gT 30 (mT 3) 28,gT 31 (.Dh (tT 29) (tT 30)) 28,gT 32 (cA 328 31) 28,gT 33 (nT 32) 28,sS 34 (pA 28 33)] [0,3,34] [])
(cN 34
(sQ
(rG [sS 2 (mB false)] [2] [])
.ret)
.skip)))
(rG [sM 21 3,sS 22 (bZ .add 21 1),sM 3 22] [0,3] [])))))))
(sQ
(rG [sS 2 (mB true)] [2] [])
.ret)))),[.tmp 2],false,false,false⟩
def F311:aa:=⟨1,(sQ
(rG [sS 2 (mB false)] [0] [])
(sQ
(rG [sS 3 (mZ 0)] [0,3] [])
(sQ
(sQ
(rG [sS 4 (mZ 0)] [0,3,4] [])
(.block 0
(.loop
(.mask [0,3,4] []
(sQ
(sQ
(rG [sM 6 4,sM 7 0,sS 8 (lN 0 7),sS 9 (bT .lss 6 8)] [0,3,4,9] [])
(cN 9
.skip
(.exit 0)))
(sQ
(.block 1
(sQ
(sQ
(rG [sM 12 3,sM 13 0,sM 14 4,sS 15 (iX 2 13 14),sF 16 0 15,sL 17 16,sS 18 (cB 329 12 17),sS 19 (nT 18),sM 20 19,gF 21 (mT 0) 20,gF 22 (mT 4) 20,gF 23 (iX 2 21 22) 20,gF 24 (fL 1 23) 20,gF 25 (lF 1 24) 20,gF 26 (cA 310 25) 20,gF 27 (nT 26) 20,sS 28 (pO 20 27)] [0,4,28] [])
(cN 28
(sQ
(rG [sS 2 (mB false)] [2] [])
.ret)
.skip))
(sQ
(sQ
(rG [sS 5 (mZ 0)] [0,4,5] [])
(.block 2
(.loop
(.mask [0,4,5] []
(sQ
(sQ
(rG [sM 29 5,sM 30 4,sS 31 (bT .lss 29 30)] [0,4,5,31] [])
(cN 31
.skip
(.exit 2)))
(sQ
(.block 3
(sQ
(.draw [(sM 34 0,[]),(sM 35 5,[]),(sS 36 (iX 2 34 35),[]),(sF 37 1 36,[]),(sL 38 37,[]),(sM 39 0,[]),(sM 40 4,[]),(sS 41 (iX 2 39 40),[]),(sF 42 1 41,[]),(sL 43 42,[]),(sS 44 (bT .eql 38 43),[])] [0,4,5,44] [])
(cN 44
(sQ
(rG [sS 2 (mB false)] [2] [])
.ret)
.skip)))
(rG [sM 32 5,sS 33 (bZ .add 32 1),sM 5 33] [0,4,5] [])))))))
(rG [sM 45 0,sM 46 4,sS 47 (iX 2 45 46),sF 48 0 47,sL 49 48,sM 3 49] [0,3,4] []))))
(rG [sM 10 4,sS 11 (bZ .add 10 1),sM 4 11] [0,3,4] [])))))))
(sQ
(rG [sM 50 0,sS 51 (lN 0 50),sS 52 (bZ .geq 51 1),sM 53 52,gT 54 (mT 0) 53,gT 55 (lN 0 54) 53,gT 56 (bZ .leq 55 16) 53,sS 57 (pA 53 56),sM 2 57] [2] [])
.ret)))),[.tmp 2],false,false,false⟩
def F312:aa:=⟨2,(sQ
(rG [sS 4 (mB false)] [0,1] [])
(sQ
(rG [sS 5 (mZ 0)] [0,1,5] [])
(sQ
(sQ
(rG [sS 6 (mZ 0)] [0,1,5,6] [])
(.block 0
(.loop
(.mask [0,1,5,6] []
(sQ
(sQ
(rG [sM 9 6,sM 10 0,sS 11 (lN 0 10),sS 12 (bT .lss 9 11)] [0,1,5,6,12] [])
(cN 12
.skip
(.exit 0)))
(sQ
(.block 1
(sQ
(rG [sM 15 0,sM 16 6,sS 17 (iX 13 15 16),sS 18 (lT 13 17),⟨some 7,.alloc 7 [pZ,.pv (.str ⟨#[]⟩),pZ,.pv (.bool false),.pv (.bool false),pZ,.pv (.bool false),pZ,.pv (.str ⟨#[]⟩),pZ,.tl [],.tl [],.tl []],none⟩,nN (sT 13 7 18)] [0,1,5,6,7] [7])
(sQ
(sQ
(rG [sM 19 5,sF 20 0 7,sL 21 20,sS 22 (cB 329 19 21),sS 23 (nT 22),sM 24 23,gF 25 (fL 1 7) 24,gF 26 (lF 1 25) 24,gF 27 (cA 310 26) 24,gF 28 (nT 27) 24,sS 29 (pO 24 28),sM 30 29,gF 31 (fL 3 7) 30,gF 32 (lF 1 31) 30,gF 33 (mT 32) 30,gT 34 (fL 4 7) 33,gT 35 (lF 1 34) 33,gF 36 (pA 33 35) 30,sS 37 (pO 30 36),sM 38 37,gF 39 (mT 1) 38,gF 40 (nT 39) 38,gF 41 (mT 40) 38,gT 42 (fL 3 7) 41,gT 43 (lF 1 42) 41,gT 44 (mT 43) 41,gF 45 (fL 4 7) 44,gF 46 (lF 1 45) 44,gT 47 (pO 44 46) 41,gF 48 (pA 41 47) 38,sS 49 (pO 38 48)] [0,1,6,7,49] [7])
(cN 49
(sQ
(rG [sS 4 (mB false)] [4] [])
.ret)
.skip))
(sQ
(sQ
(rG [sF 50 4 7,sL 51 50,sS 52 (nT 51),sM 53 52,gT 54 (fL 5 7) 53,gT 55 (lT 8 54) 53,⟨some 56,.build [pZ,.pv (.bool false),pZ,.pv (.str ⟨#[]⟩),pZ,.tl [],.tl [],.tl []] [],some (53,true)⟩,gT 57 (cB 330 55 56) 53,gT 58 (nT 57) 53,sS 59 (pA 53 58)] [0,1,6,7,59] [7])
(cN 59
(sQ
(rG [sS 4 (mB false)] [4] [])
.ret)
.skip))
(sQ
(sQ
(rG [sS 8 (mZ 0)] [0,1,6,7,8] [7])
(.block 2
(.loop
(.mask [0,1,6,7,8] [7]
(sQ
(sQ
(rG [sM 60 8,sM 61 6,sS 62 (bT .lss 60 61)] [0,1,6,7,8,62] [7])
(cN 62
.skip
(.exit 2)))
(sQ
(.block 3
(sQ
(.draw [(sM 65 0,[]),(sM 66 8,[]),(sS 67 (iX 13 65 66),[]),(sF 68 1 67,[]),(sL 69 68,[]),(sF 70 1 7,[]),(sL 71 70,[]),(sS 72 (bT .eql 69 71),[])] [0,1,6,7,8,72] [7])
(cN 72
(sQ
(rG [sS 4 (mB false)] [4] [])
.ret)
.skip)))
(rG [sM 63 8,sS 64 (bZ .add 63 1),sM 8 64] [0,1,6,7,8] [7])))))))
(rG [sF 73 0 7,sL 74 73,sM 5 74] [0,1,5,6] []))))))
(rG [sM 13 6,sS 14 (bZ .add 13 1),sM 6 14] [0,1,5,6] [])))))))
(sQ
(rG [sM 75 0,sS 76 (lN 0 75),sS 77 (bZ .leq 76 16),sM 78 77,gT 79 (mT 1) 78,gT 80 (mT 79) 78,gF 81 (mT 0) 80,gF 82 (lN 0 81) 80,gF 83 (bZ .geq 82 1) 80,gT 84 (pO 80 83) 78,sS 85 (pA 78 84),sM 4 85] [4] [])
.ret)))),[.tmp 4],false,false,false⟩
def F316:aa:=⟨2,(sQ
(rG [sS 2 (bX 2 13 0),sS 3 (bX 3 13 1),sS 4 (mB false)] [2,3] [2,3])
(sQ
(rG [sF 5 0 2,sL 6 5,sF 7 0 3,sL 8 7,sS 9 (bT .eql 6 8),sM 10 9,gT 11 (fL 1 2) 10,gT 12 (lF 1 11) 10,gT 13 (fL 1 3) 10,gT 14 (lF 1 13) 10,gT 15 (bT .eql 12 14) 10,sS 16 (pA 10 15),sM 17 16,gT 18 (fL 2 2) 17,gT 19 (lF 1 18) 17,gT 20 (fL 2 3) 17,gT 21 (lF 1 20) 17,gT 22 (bT .eql 19 21) 17,sS 23 (pA 17 22),sM 24 23,gT 25 (fL 3 2) 24,gT 26 (lF 1 25) 24,gT 27 (fL 3 3) 24,gT 28 (lF 1 27) 24,gT 29 (.mF false [0] false (tT 26) (tT 28)) 24,sS 30 (pA 24 29),sM 31 30,gT 32 (fL 4 2) 31,gT 33 (lF 1 32) 31,gT 34 (fL 4 3) 31,gT 35 (lF 1 34) 31,gT 36 (.mF false [0] false (tT 33) (tT 35)) 31,sS 37 (pA 31 36),sM 38 37,gT 39 (fL 5 2) 38,gT 40 (lT 8 39) 38,gT 41 (fL 5 3) 38,gT 42 (lT 8 41) 38,gT 43 (cB 330 40 42) 38,sS 44 (pA 38 43),sM 4 44] [4] [])
.ret)),[.tmp 4],false,false,false⟩
def F317:aa:=⟨2,(sQ
(rG [sS 4 (mB false)] [0,1] [])
(sQ
(sQ
(rG [sM 6 0,sS 7 (lN 0 6),sM 8 1,sS 9 (lN 0 8),sS 10 (bT .neq 7 9)] [0,1,10] [])
(cN 10
(sQ
(rG [sS 4 (mB false)] [4] [])
.ret)
.skip))
(sQ
(sQ
(rG [sM 11 0,sS 12 (lN 0 11),sS 13 (mZ 0)] [0,1,12,13] [])
(.block 0
(.loop
(.mask [0,1,12,13] []
(sQ
(rG [sS 14 (bT .lss 13 12)] [0,1,12,13,14] [])
(sQ
(cN 14
.skip
(.exit 0))
(sQ
(.block 1
(sQ
(rG [sM 15 13,sM 5 15] [0,1,5,12,13] [])
(sQ
(.draw [(sM 16 0,[]),(sM 17 5,[]),(sS 18 (iX 2 16 17),[]),(sS 19 (lT 2 18),[]),(sM 20 1,[]),(sM 21 5,[]),(sS 22 (iX 2 20 21),[]),(sS 23 (lT 2 22),[]),(sS 24 (.mF true [1,2] true (tT 19) (tT 23)),[])] [0,1,12,13,24] [])
(cN 24
(sQ
(rG [sS 4 (mB false)] [4] [])
.ret)
.skip))))
(rG [sS 25 (bZ .add 13 1),sM 13 25] [0,1,12,13] []))))))))
(sQ
(rG [sS 4 (mB true)] [4] [])
.ret)))),[.tmp 4],false,false,false⟩
def F318:aa:=⟨3,(sQ
(rG [sS 6 (mB false)] [0,1,2] [])
(sQ
(sQ
(rG [sM 10 0,sS 11 (lN 0 10),sM 12 1,sS 13 (lN 0 12),sS 14 (bT .neq 11 13)] [0,1,2,14] [])
(cN 14
(sQ
(rG [sS 6 (mB false)] [6] [])
.ret)
.skip))
(sQ
(sQ
(rG [sM 15 0,sS 16 (lN 0 15),sS 17 (mZ 0)] [1,2,15,16,17] [])
(.block 0
(.loop
(.mask [1,2,15,16,17] []
(sQ
(rG [sS 18 (bT .lss 17 16)] [1,2,15,16,17,18] [])
(sQ
(cN 18
.skip
(.exit 0))
(sQ
(.block 1
(sQ
(rG [sM 19 17,sS 20 (iX 13 15 17),sS 21 (lT 13 20),⟨some 8,.alloc 8 [pZ,.pv (.str ⟨#[]⟩),pZ,.pv (.bool false),.pv (.bool false),pZ,.pv (.bool false),pZ,.pv (.str ⟨#[]⟩),pZ,.tl [],.tl [],.tl []],none⟩,sM 7 19,nN (sT 13 8 21)] [1,2,7,8,15,16,17] [8])
(sQ
(rG [sM 22 1,sM 23 7,sS 24 (iX 13 22 23),sS 25 (lT 13 24),⟨some 9,.alloc 9 [pZ,.pv (.str ⟨#[]⟩),pZ,.pv (.bool false),.pv (.bool false),pZ,.pv (.bool false),pZ,.pv (.str ⟨#[]⟩),pZ,.tl [],.tl [],.tl []],none⟩,nN (sT 13 9 25)] [1,2,8,9,15,16,17] [8,9])
(sQ
(rG [sM 26 2,sS 27 (lT 13 8),sS 28 (lT 13 9),sS 29 (.call (tT 26) [(tT 27),(tT 28)]),sS 30 (nT 29)] [1,2,15,16,17,30] [])
(cN 30
(sQ
(rG [sS 6 (mB false)] [6] [])
.ret)
.skip)))))
(rG [sS 31 (bZ .add 17 1),sM 17 31] [1,2,15,16,17] []))))))))
(sQ
(rG [sS 6 (mB true)] [6] [])
.ret)))),[.tmp 6],false,false,false⟩
def F319:aa:=⟨2,(sQ
(rG [sS 2 (bX 2 13 0),sS 3 (bX 3 13 1),sS 4 (mB false)] [2,3] [2,3])
(sQ
(rG [sF 5 0 2,sL 6 5,sF 7 0 3,sL 8 7,sS 9 (bT .eql 6 8),sM 10 9,gT 11 (fL 1 2) 10,gT 12 (lF 1 11) 10,gT 13 (fL 1 3) 10,gT 14 (lF 1 13) 10,gT 15 (bT .eql 12 14) 10,sS 16 (pA 10 15),sM 17 16,gT 18 (fL 2 2) 17,gT 19 (lF 1 18) 17,gT 20 (fL 2 3) 17,gT 21 (lF 1 20) 17,gT 22 (bT .eql 19 21) 17,sS 23 (pA 17 22),sM 24 23,gT 25 (fL 3 2) 24,gT 26 (lF 1 25) 24,gT 27 (fL 3 3) 24,gT 28 (lF 1 27) 24,gT 29 (.mF false [0] false (tT 26) (tT 28)) 24,sS 30 (pA 24 29),sM 31 30,gT 32 (fL 4 2) 31,gT 33 (lF 1 32) 31,gT 34 (fL 4 3) 31,gT 35 (lF 1 34) 31,gT 36 (.mF false [0] false (tT 33) (tT 35)) 31,sS 37 (pA 31 36),sM 38 37,gT 39 (fL 5 2) 38,gT 40 (lT 8 39) 38,gT 41 (fL 5 3) 38,gT 42 (lT 8 41) 38,gT 43 (cB 320 40 42) 38,sS 44 (pA 38 43),sM 4 44] [4] [])
.ret)),[.tmp 4],false,false,false⟩
def F320:aa:=⟨2,(sQ
(rG [sS 2 (bX 2 8 0),sS 3 (bX 3 8 1),sS 4 (mB false)] [2,3] [2,3])
(sQ
(rG [sF 5 0 2,sL 6 5,sF 7 0 3,sL 8 7,sS 9 (bT .eql 6 8),sM 10 9,gT 11 (fL 1 2) 10,gT 12 (lF 1 11) 10,gT 13 (fL 1 3) 10,gT 14 (lF 1 13) 10,gT 15 (.mF false [0] false (tT 12) (tT 14)) 10,sS 16 (pA 10 15),sM 17 16,gT 18 (fL 2 2) 17,gT 19 (lF 1 18) 17,gT 20 (fL 2 3) 17,gT 21 (lF 1 20) 17,gT 22 (bT .eql 19 21) 17,sS 23 (pA 17 22),sM 24 23,gT 25 (fL 3 2) 24,gT 26 (lF 1 25) 24,gT 27 (fL 3 3) 24,gT 28 (lF 1 27) 24,gT 29 (bT .eql 26 28) 24,sS 30 (pA 24 29),sM 31 30,gT 32 (fL 4 2) 31,gT 33 (lF 1 32) 31,gT 34 (fL 4 3) 31,gT 35 (lF 1 34) 31,gT 36 (bT .eql 33 35) 31,sS 37 (pA 31 36),sM 38 37,gT 39 (fL 7 2) 38,gT 40 (lF 1 39) 38,gT 41 (fL 7 3) 38,gT 42 (lF 1 41) 38,gT 43 (cB 333 40 42) 38,sS 44 (pA 38 43),sM 45 44,gT 46 (fL 5 2) 45,gT 47 (lF 1 46) 45,gT 48 (fL 5 3) 45,gT 49 (lF 1 48) 45,gT 50 (cL 334 [(tT 47),(tT 49),(.val (.func 320 []))]) 45,sS 51 (pA 45 50),sM 52 51,gT 53 (fL 6 2) 52,gT 54 (lF 1 53) 52,gT 55 (fL 6 3) 52,gT 56 (lF 1 55) 52,gT 57 (cL 334 [(tT 54),(tT 56),(.val (.func 320 []))]) 52,sS 58 (pA 52 57),sM 4 58] [4] [])
.ret)),[.tmp 4],false,false,false⟩
def F323:aa:=⟨1,(sQ
(rG [sS 2 (mB false)] [0] [])
(sQ
(rG [sM 3 0,sS 4 (.bin .eql (tT 3) (.val (.pv (.int .u8 95)))),sM 5 4,gF 6 (mT 0) 5,gF 7 (.bin .geq (tT 6) (.val (.pv (.int .u8 97)))) 5,gF 8 (mT 7) 5,gT 9 (mT 0) 8,gT 10 (.bin .leq (tT 9) (.val (.pv (.int .u8 122)))) 8,gF 11 (pA 8 10) 5,sS 12 (pO 5 11),sM 13 12,gF 14 (mT 0) 13,gF 15 (.bin .geq (tT 14) (.val (.pv (.int .u8 65)))) 13,gF 16 (mT 15) 13,gT 17 (mT 0) 16,gT 18 (.bin .leq (tT 17) (.val (.pv (.int .u8 90)))) 16,gF 19 (pA 16 18) 13,sS 20 (pO 13 19),sM 2 20] [2] [])
.ret)),[.tmp 2],false,false,false⟩
def F324:aa:=⟨1,(sQ
(rG [sS 2 (mB false)] [0] [])
(sQ
(rG [sM 3 0,sS 4 (.bin .geq (tT 3) (.val (.pv (.int .u8 48)))),sM 5 4,gT 6 (mT 0) 5,gT 7 (.bin .leq (tT 6) (.val (.pv (.int .u8 57)))) 5,sS 8 (pA 5 7),sM 2 8] [2] [])
.ret)),[.tmp 2],false,false,false⟩
def F325:aa:=⟨2,(sQ
(rG [sS 4 (mB false)] [0,1] [])
(sQ
(rG [sS 8 (.ki),sM 5 8] [0,1,5] [])
(sQ
(sQ
(rG [sM 9 0,sS 10 (lN 0 9),sS 11 (mZ 0)] [0,1,5,9,10,11] [])
(.block 0
(.loop
(.mask [0,1,5,9,10,11] []
(sQ
(rG [sS 12 (bT .lss 11 10)] [0,1,5,9,10,11,12] [])
(sQ
(cN 12
.skip
(.exit 0))
(sQ
(.block 1
(sQ
(rG [sM 13 11,sS 14 (iX 1 9 11),sL 15 14,sM 6 13,sM 7 15] [0,1,5,6,7,9,10,11] [])
(sQ
(sQ
(rG [sM 16 7,sS 17 (bZ .lss 16 1),sM 18 17,gF 19 (mT 7) 18,gF 20 (bZ .gtr 19 1000) 18,sS 21 (pO 18 20),sM 22 21,gF 23 (mT 6) 22,gF 24 (bZ .gtr 23 0) 22,gF 25 (mT 24) 22,gT 26 (mT 7) 25,gT 27 (mT 0) 25,gT 28 (mT 6) 25,gT 29 (bZ .sub 28 1) 25,gT 30 (iX 1 27 29) 25,gT 31 (lF 1 30) 25,gT 32 (bT .leq 26 31) 25,gF 33 (pA 25 32) 22,sS 34 (pO 22 33),sM 35 34,gF 36 (mT 5) 35,gF 37 (mT 1) 35,gF 38 (mT 6) 35,gF 39 (iX 1 37 38) 35,gF 40 (lF 1 39) 35,gF 41 (.look false [2] (.pv (.bool false)) (tT 36) (tT 40) false) 35,sS 42 (pO 35 41),sM 43 42,gF 44 (mT 1) 43,gF 45 (mT 6) 43,gF 46 (iX 1 44 45) 43,gF 47 (lF 1 46) 43,gF 48 (cA 306 47) 43,gF 49 (nT 48) 43,sS 50 (pO 43 49)] [0,1,5,6,9,10,11,50] [])
(cN 50
(sQ
(rG [sS 4 (mB false)] [4] [])
.ret)
.skip))
(rG [sM 51 5,sM 52 1,sM 53 6,sS 54 (iX 1 52 53),sL 55 54,nN (.zK false [2] (tT 51) (tT 55) (bB true))] [0,1,5,9,10,11] []))))
(rG [sS 56 (bZ .add 11 1),sM 11 56] [0,1,5,9,10,11] []))))))))
(sQ
(rG [sM 57 0,sS 58 (lN 0 57),sS 59 (bZ .leq 58 16),sM 4 59] [4] [])
.ret)))),[.tmp 4],false,false,false⟩
def F326:aa:=⟨1,(sQ
(rG [sS 1 (bX 1 8 0),sS 2 (mB false)] [1] [1])
(sQ
(rG [sS 3 (lT 8 1),⟨some 4,.build [pZ,.pv (.bool false),pZ,.pv (.str ⟨#[]⟩),pZ,.tl [],.tl [],.tl []] [],none⟩,sS 5 (cB 320 3 4),sM 2 5] [2] [])
.ret)),[.tmp 2],false,false,false⟩
def F327:aa:=⟨1,(sQ
(rG [sS 2 (mB false)] [0] [])
(sQ
(rG [sM 3 0,sS 4 (.bin .geq (tT 3) (.val (.pv (.int .u8 97)))),sM 5 4,gT 6 (mT 0) 5,gT 7 (.bin .leq (tT 6) (.val (.pv (.int .u8 122)))) 5,sS 8 (pA 5 7),sM 9 8,gF 10 (mT 0) 9,gF 11 (.bin .geq (tT 10) (.val (.pv (.int .u8 65)))) 9,gF 12 (mT 11) 9,gT 13 (mT 0) 12,gT 14 (.bin .leq (tT 13) (.val (.pv (.int .u8 90)))) 12,gF 15 (pA 12 14) 9,sS 16 (pO 9 15),sM 17 16,gF 18 (mT 0) 17,gF 19 (.bin .eql (tT 18) (.val (.pv (.int .u8 95)))) 17,sS 20 (pO 17 19),sM 2 20] [2] [])
.ret)),[.tmp 2],false,false,false⟩
def F328:aa:=⟨1,(sQ
(rG [sS 2 (mB false)] [0] [])
(sQ
(rG [sM 3 0,sS 4 (.bin .geq (tT 3) (.val (.pv (.int .u8 48)))),sM 5 4,gT 6 (mT 0) 5,gT 7 (.bin .leq (tT 6) (.val (.pv (.int .u8 57)))) 5,sS 8 (pA 5 7),sM 2 8] [2] [])
.ret)),[.tmp 2],false,false,false⟩
def F329:aa:=⟨2,(sQ
(rG [sS 4 (mB false)] [0,1] [])
(sQ
(rG [sM 5 1,sM 6 0,sS 7 (bT .gtr 5 6),sM 8 7,gT 9 (mT 1) 8,gT 10 (bZ .geq 9 1) 8,sS 11 (pA 8 10),sM 12 11,gT 13 (mT 1) 12,gT 14 (bZ .leq 13 1000) 12,sS 15 (pA 12 14),sM 4 15] [4] [])
.ret)),[.tmp 4],false,false,false⟩
def F330:aa:=⟨2,(sQ
(rG [sS 2 (bX 2 8 0),sS 3 (bX 3 8 1),sS 4 (mB false)] [2,3] [2,3])
(sQ
(sQ
(rG [sF 6 0 2,sL 7 6,sF 8 0 3,sL 9 8,sS 10 (bT .neq 7 9),sM 11 10,gF 12 (fL 1 2) 11,gF 13 (lF 1 12) 11,gF 14 (fL 1 3) 11,gF 15 (lF 1 14) 11,gF 16 (.mF false [0] true (tT 13) (tT 15)) 11,sS 17 (pO 11 16),sM 18 17,gF 19 (fL 2 2) 18,gF 20 (lF 1 19) 18,gF 21 (fL 2 3) 18,gF 22 (lF 1 21) 18,gF 23 (bT .neq 20 22) 18,sS 24 (pO 18 23),sM 25 24,gF 26 (fL 3 2) 25,gF 27 (lF 1 26) 25,gF 28 (fL 3 3) 25,gF 29 (lF 1 28) 25,gF 30 (bT .neq 27 29) 25,sS 31 (pO 25 30),sM 32 31,gF 33 (fL 4 2) 32,gF 34 (lF 1 33) 32,gF 35 (fL 4 3) 32,gF 36 (lF 1 35) 32,gF 37 (bT .neq 34 36) 32,sS 38 (pO 32 37),sM 39 38,gF 40 (fL 7 2) 39,gF 41 (lF 1 40) 39,gF 42 (lN 0 41) 39,gF 43 (fL 7 3) 39,gF 44 (lF 1 43) 39,gF 45 (lN 0 44) 39,gF 46 (bT .neq 42 45) 39,sS 47 (pO 39 46)] [2,3,47] [2,3])
(cN 47
(sQ
(rG [sS 4 (mB false)] [4] [])
.ret)
.skip))
(sQ
(sQ
(rG [sS 5 (mZ 0)] [2,3,5] [2,3])
(.block 0
(.loop
(.mask [2,3,5] [2,3]
(sQ
(sQ
(rG [sM 48 5,sF 49 7 2,sL 50 49,sS 51 (lN 0 50),sS 52 (bT .lss 48 51)] [2,3,5,52] [2,3])
(cN 52
.skip
(.exit 0)))
(sQ
(.block 1
(sQ
(.draw [(sF 55 7 2,[]),(sL 56 55,[]),(sM 57 5,[]),(sS 58 (iX 2 56 57),[]),(sS 59 (lT 2 58),[]),(sF 60 7 3,[]),(sL 61 60,[]),(sM 62 5,[]),(sS 63 (iX 2 61 62),[]),(sS 64 (lT 2 63),[]),(sS 65 (.mF true [1,2] true (tT 59) (tT 64)),[])] [2,3,5,65] [2,3])
(cN 65
(sQ
(rG [sS 4 (mB false)] [4] [])
.ret)
.skip)))
(rG [sM 53 5,sS 54 (bZ .add 53 1),sM 5 54] [2,3,5] [2,3])))))))
(sQ
(rG [sF 66 5 2,sL 67 66,sF 68 5 3,sL 69 68,sS 70 (cB 336 67 69),sM 71 70,gT 72 (fL 6 2) 71,gT 73 (lF 1 72) 71,gT 74 (fL 6 3) 71,gT 75 (lF 1 74) 71,gT 76 (cB 336 73 75) 71,sS 77 (pA 71 76),sM 4 77] [4] [])
.ret)))),[.tmp 4],false,false,false⟩
def F333:aa:=⟨2,(sQ
(rG [sS 4 (mB false)] [0,1] [])
(sQ
(sQ
(rG [sM 6 0,sS 7 (lN 0 6),sM 8 1,sS 9 (lN 0 8),sS 10 (bT .neq 7 9)] [0,1,10] [])
(cN 10
(sQ
(rG [sS 4 (mB false)] [4] [])
.ret)
.skip))
(sQ
(sQ
(rG [sM 11 0,sS 12 (lN 0 11),sS 13 (mZ 0)] [0,1,12,13] [])
(.block 0
(.loop
(.mask [0,1,12,13] []
(sQ
(rG [sS 14 (bT .lss 13 12)] [0,1,12,13,14] [])
(sQ
(cN 14
.skip
(.exit 0))
(sQ
(.block 1
(sQ
(rG [sM 15 13,sM 5 15] [0,1,5,12,13] [])
(sQ
(.draw [(sM 16 0,[]),(sM 17 5,[]),(sS 18 (iX 2 16 17),[]),(sS 19 (lT 2 18),[]),(sM 20 1,[]),(sM 21 5,[]),(sS 22 (iX 2 20 21),[]),(sS 23 (lT 2 22),[]),(sS 24 (.mF true [1,2] true (tT 19) (tT 23)),[])] [0,1,12,13,24] [])
(cN 24
(sQ
(rG [sS 4 (mB false)] [4] [])
.ret)
.skip))))
(rG [sS 25 (bZ .add 13 1),sM 13 25] [0,1,12,13] []))))))))
(sQ
(rG [sS 4 (mB true)] [4] [])
.ret)))),[.tmp 4],false,false,false⟩
def F334:aa:=⟨3,(sQ
(rG [sS 6 (mB false)] [0,1,2] [])
(sQ
(sQ
(rG [sM 10 0,sS 11 (lN 0 10),sM 12 1,sS 13 (lN 0 12),sS 14 (bT .neq 11 13)] [0,1,2,14] [])
(cN 14
(sQ
(rG [sS 6 (mB false)] [6] [])
.ret)
.skip))
(sQ
(sQ
(rG [sM 15 0,sS 16 (lN 0 15),sS 17 (mZ 0)] [1,2,15,16,17] [])
(.block 0
(.loop
(.mask [1,2,15,16,17] []
(sQ
(rG [sS 18 (bT .lss 17 16)] [1,2,15,16,17,18] [])
(sQ
(cN 18
.skip
(.exit 0))
(sQ
(.block 1
(sQ
(rG [sM 19 17,sS 20 (iX 8 15 17),sS 21 (lT 8 20),⟨some 8,.alloc 8 [pZ,.pv (.bool false),pZ,.pv (.str ⟨#[]⟩),pZ,.tl [],.tl [],.tl []],none⟩,sM 7 19,nN (sT 8 8 21)] [1,2,7,8,15,16,17] [8])
(sQ
(rG [sM 22 1,sM 23 7,sS 24 (iX 8 22 23),sS 25 (lT 8 24),⟨some 9,.alloc 9 [pZ,.pv (.bool false),pZ,.pv (.str ⟨#[]⟩),pZ,.tl [],.tl [],.tl []],none⟩,nN (sT 8 9 25)] [1,2,8,9,15,16,17] [8,9])
(sQ
(rG [sM 26 2,sS 27 (lT 8 8),sS 28 (lT 8 9),sS 29 (.call (tT 26) [(tT 27),(tT 28)]),sS 30 (nT 29)] [1,2,15,16,17,30] [])
(cN 30
(sQ
(rG [sS 6 (mB false)] [6] [])
.ret)
.skip)))))
(rG [sS 31 (bZ .add 17 1),sM 17 31] [1,2,15,16,17] []))))))))
(sQ
(rG [sS 6 (mB true)] [6] [])
.ret)))),[.tmp 6],false,false,false⟩
def F336:aa:=⟨2,(sQ
(rG [sS 4 (mB false)] [0,1] [])
(sQ
(sQ
(rG [sM 6 0,sS 7 (lN 0 6),sM 8 1,sS 9 (lN 0 8),sS 10 (bT .neq 7 9)] [0,1,10] [])
(cN 10
(sQ
(rG [sS 4 (mB false)] [4] [])
.ret)
.skip))
(sQ
(sQ
(rG [sS 5 (mZ 0)] [0,1,5] [])
(.block 0
(.loop
(.mask [0,1,5] []
(sQ
(sQ
(rG [sM 11 5,sM 12 0,sS 13 (lN 0 12),sS 14 (bT .lss 11 13)] [0,1,5,14] [])
(cN 14
.skip
(.exit 0)))
(sQ
(.block 1
(sQ
(.draw [(sM 17 0,[]),(sM 18 5,[]),(sS 19 (iX 8 17 18),[]),(sS 20 (lT 8 19),[]),(sM 21 1,[]),(sM 22 5,[]),(sS 23 (iX 8 21 22),[]),(sS 24 (lT 8 23),[]),(sS 25 (cB 330 20 24),[]),(sS 26 (nT 25),[])] [0,1,5,26] [])
(cN 26
(sQ
(rG [sS 4 (mB false)] [4] [])
.ret)
.skip)))
(rG [sM 15 5,sS 16 (bZ .add 15 1),sM 5 16] [0,1,5] [])))))))
(sQ
(rG [sS 4 (mB true)] [4] [])
.ret)))),[.tmp 4],false,false,false⟩
def F391:aa:=⟨2,(sQ
(rG [sS 2 (bX 2 10 0),sS 4 (mZ 0),sS 5 (mB false)] [1,2] [2])
(sQ
(sQ
(rG [sS 6 (mZ 0)] [1,2,6] [2])
(.block 0
(.loop
(.mask [1,2,6] [2]
(sQ
(sQ
(rG [sM 7 6,sF 8 6 2,sL 9 8,sS 10 (lN 0 9),sS 11 (bT .lss 7 10)] [1,2,6,11] [2])
(cN 11
.skip
(.exit 0)))
(sQ
(.block 1
(sQ
(rG [sF 14 6 2,sL 15 14,sM 16 6,sS 17 (iX 13 15 16),sF 18 0 17,sL 19 18,sM 20 1,sS 21 (bT .eql 19 20)] [1,2,6,21] [2])
(cN 21
(sQ
(rG [sM 22 6,sM 4 22,sS 5 (mB true)] [4,5] [])
.ret)
.skip)))
(rG [sM 12 6,sS 13 (bZ .add 12 1),sM 6 13] [1,2,6] [2])))))))
(sQ
(rG [sS 4 (mZ 0),sS 5 (mB false)] [4,5] [])
.ret))),[.tmp 4,.tmp 5],false,false,false⟩
def F392:aa:=⟨2,(sQ
(rG [sS 2 (bX 2 10 0),sS 3 (bX 3 1 1),sS 4 (mZ 0),sS 5 (mB false)] [2,3] [2,3])
(sQ
(rG [sF 7 5 2,sL 8 7,sS 9 (.jA 395 [(tT 3)]),sS 10 (cB 394 8 9),sM 6 10] [6] [])
(sQ
(rG [sM 11 6,sS 12 (.er true [(tT 11),(zZ 0)]),sM 13 6,sS 14 (bZ .geq 13 0),sM 4 12,sM 5 14] [4,5] [])
.ret))),[.tmp 4,.tmp 5],false,false,false⟩
def F393:aa:=⟨2,(sQ
(rG [sS 2 (bX 2 10 0),sS 4 (mZ 0),sS 5 (mB false)] [1,2] [2])
(sQ
(sQ
(rG [sS 6 (mZ 0)] [1,2,6] [2])
(.block 0
(.loop
(.mask [1,2,6] [2]
(sQ
(sQ
(rG [sM 7 6,sF 8 5 2,sL 9 8,sS 10 (lN 0 9),sS 11 (bT .lss 7 10)] [1,2,6,11] [2])
(cN 11
.skip
(.exit 0)))
(sQ
(.block 1
(sQ
(rG [sF 14 5 2,sL 15 14,sM 16 6,sS 17 (iX 2 15 16),sF 18 0 17,sL 19 18,sM 20 1,sS 21 (bT .eql 19 20)] [1,2,6,21] [2])
(cN 21
(sQ
(rG [sM 22 6,sM 4 22,sS 5 (mB true)] [4,5] [])
.ret)
.skip)))
(rG [sM 12 6,sS 13 (bZ .add 12 1),sM 6 13] [1,2,6] [2])))))))
(sQ
(rG [sS 4 (mZ 0),sS 5 (mB false)] [4,5] [])
.ret))),[.tmp 4,.tmp 5],false,false,false⟩
def F394:aa:=⟨2,(sQ
(rG [sS 4 (mZ 0)] [0,1] [])
(sQ
(sQ
(rG [sM 6 0,sS 7 (lN 0 6),sS 8 (mZ 0)] [0,1,7,8] [])
(.block 0
(.loop
(.mask [0,1,7,8] []
(sQ
(rG [sS 9 (bT .lss 8 7)] [0,1,7,8,9] [])
(sQ
(cN 9
.skip
(.exit 0))
(sQ
(.block 1
(sQ
(rG [sM 10 8,sM 5 10] [0,1,5,7,8] [])
(sQ
(rG [sM 11 1,sM 12 0,sM 13 5,sS 14 (iX 2 12 13),sS 15 (lT 2 14),sS 16 (.call (tT 11) [(tT 15)])] [0,1,5,7,8,16] [])
(cN 16
(sQ
(rG [sM 17 5,sM 4 17] [4] [])
.ret)
.skip))))
(rG [sS 18 (bZ .add 8 1),sM 8 18] [0,1,7,8] []))))))))
(sQ
(rG [sS 4 (.eJ (.val (.pv (.int .i64 (-1)))))] [4] [])
.ret))),[.tmp 4],false,false,false⟩
def F395:aa:=⟨2,(sQ
(rG [sS 2 (bX 2 2 0),sS 3 (mB false)] [1,2] [2])
(sQ
(rG [sF 4 0 2,sL 5 4,sL 6 1,sS 7 (bT .eql 5 6),sM 3 7] [3] [])
.ret)),[.tmp 3],false,false,false⟩
def F396:aa:=⟨1,(sQ
(rG [sS 1 (bX 1 5 0),sS 2 (mB false)] [1] [1])
(sQ
(sQ
(rG [sS 6 (cL 404 []),sS 7 (nT 6),sM 8 7,gF 9 (lT 5 1) 8,gF 10 (cA 405 9) 8,gF 11 (nT 10) 8,sS 12 (pO 8 11)] [1,12] [1])
(cN 12
(sQ
(rG [sS 13 (cL 404 []),sM 2 13] [2] [])
.ret)
.skip))
(sQ
(rG [sS 14 (lT 5 1),sS 15 (cA 406 14),sM 3 15] [1,3] [1])
(sQ
(sQ
(rG [sS 16 (lT 5 1),sS 17 (cA 407 16),sM 18 3,sS 19 (bT .neq 17 18)] [1,3,19] [1])
(cN 19
(sQ
(rG [sS 2 (mB false)] [2] [])
.ret)
.skip))
(sQ
(rG [sS 21 (lT 5 1),sS 22 (cA 408 21),sM 20 22,sS 23 (eX 20 0),sS 24 (eX 20 1),⟨some 4,.alloc 4 [.pv (.str ⟨#[]⟩),.tl [],.tl [],.tl [],.tl []],none⟩,nN (sT 5 4 23),sM 5 24] [3,4,5] [4])
(sQ
(rG [sM 25 5,sM 26 3,sS 27 (bT .eql 25 26),sM 28 27,gT 29 (mT 5) 28,gT 30 (bZ .eql 29 0) 28,gT 31 (mT 30) 28,gF 32 (lT 5 4) 31,⟨some 33,.build [.pv (.str ⟨#[]⟩),.tl [],.tl [],.tl [],.tl []] [],some (31,false)⟩,gF 34 (cB 409 32 33) 31,gT 35 (pO 31 34) 28,sS 36 (pA 28 35),sM 2 36] [2] [])
.ret)))))),[.tmp 2],false,false,false⟩
def F404:aa:=⟨0,(sQ
(rG [sS 0 (mB false)] [] [])
(sQ
(rG [sS 12 (cL 433 []),sS 13 (cL 433 []),sS 14 (cL 433 []),⟨some 1,.alloc 1 [.pv (.str ⟨#[]⟩),.tl [],.tl [],.tl [],.tl []],none⟩,⟨some 2,.alloc 2 [.pv (.str ⟨#[]⟩),.tl [],.tl [],.tl [],.tl []],none⟩,⟨some 3,.alloc 3 [.pv (.str ⟨#[]⟩),.tl [],.tl [],.tl [],.tl []],none⟩,nN (sT 5 1 12),nN (sT 5 2 13),nN (sT 5 3 14)] [1,2,3] [1,2,3])
(sQ
(rG [sF 15 4 2,nN (.store 1 (tT 15) (.val (.tl [])))] [1,2,3] [1,2,3])
(sQ
(rG [sF 16 2 3,sL 17 16,sS 18 (.idx 3 (tT 17) (zZ 0)),sF 19 1 18,nN (.store 1 (tT 19) (zZ 0))] [1,2,3] [1,2,3])
(sQ
(rG [sS 21 (lT 5 1),sS 22 (cA 408 21),sM 20 22,sS 23 (eX 20 0),sS 24 (eX 20 1),⟨some 4,.alloc 4 [.pv (.str ⟨#[]⟩),.tl [],.tl [],.tl [],.tl []],none⟩,nN (sT 5 4 23),sM 5 24] [1,2,3,4,5] [1,2,3,4])
(sQ
(rG [sS 26 (lT 5 1),sS 27 (lT 5 4),sS 28 (cB 421 26 27),sM 25 28,sS 29 (eX 25 0),sS 30 (eX 25 1),sM 6 29,sM 7 30] [1,2,3,4,5,6,7] [1,2,3,4])
(sQ
(rG [sS 32 (lT 5 1),sS 33 (lT 5 2),sS 34 (cB 421 32 33),sM 31 34,sS 35 (eX 31 0),sS 36 (eX 31 1),sM 8 35,sM 9 36] [1,3,4,5,6,7,8,9] [1,3,4])
(sQ
(rG [sS 38 (lT 5 1),sS 39 (lT 5 3),sS 40 (cB 421 38 39),sM 37 40,sS 41 (eX 37 0),sS 42 (eX 37 1),sM 10 41,sM 11 42] [1,4,5,6,7,8,9,10,11] [1,4])
(sQ
(rG [sS 43 (lT 5 1),sS 44 (cA 407 43),sS 45 (bZ .eql 44 0),sM 46 45,gT 47 (lT 5 1) 46,gT 48 (cA 417 47) 46,gT 49 (.lit 1 [pZ] 2 [(0,1,(zZ 0)),(1,1,(zZ 1))]) 46,gT 50 (cB 14 48 49) 46,sS 51 (pA 46 50),sM 52 51,gT 53 (mT 5) 52,gT 54 (bZ .eql 53 0) 52,sS 55 (pA 52 54),sM 56 55,gT 57 (fL 1 4) 56,gT 58 (fL 0 57) 56,gT 59 (lF 1 58) 56,gT 60 (lN 0 59) 56,gT 61 (bZ .eql 60 2) 56,sS 62 (pA 56 61),sM 63 62,gT 64 (mT 6) 63,sS 65 (pA 63 64),sM 66 65,gT 67 (mT 7) 66,gT 68 (bZ .eql 67 0) 66,sS 69 (pA 66 68),sM 70 69,gT 71 (mT 8) 70,gT 72 (nT 71) 70,sS 73 (pA 70 72),sM 74 73,gT 75 (mT 9) 74,gT 76 (bZ .eql 75 0) 74,sS 77 (pA 74 76),sM 78 77,gT 79 (mT 10) 78,gT 80 (nT 79) 78,sS 81 (pA 78 80),sM 82 81,gT 83 (mT 11) 82,gT 84 (bZ .eql 83 0) 82,sS 85 (pA 82 84),sM 0 85] [0] [])
.ret))))))))),[.tmp 0],false,false,false⟩
def F405:aa:=⟨1,(sQ
(rG [sS 1 (bX 1 5 0),sS 2 (mB false)] [1] [1])
(sQ
(sQ
(rG [sF 4 2 1,sL 5 4,sS 6 (lN 0 5),sS 7 (bZ .gtr 6 10),sM 8 7,gF 9 (fL 3 1) 8,gF 10 (lF 1 9) 8,gF 11 (lN 0 10) 8,gF 12 (bZ .gtr 11 10) 8,sS 13 (pO 8 12),sM 14 13,gF 15 (fL 4 1) 14,gF 16 (lF 1 15) 14,gF 17 (lN 0 16) 14,gF 18 (bZ .gtr 17 10) 14,sS 19 (pO 14 18),sM 20 19,gF 21 (fL 0 1) 20,gF 22 (lF 1 21) 20,gF 23 (lN 1 22) 20,gF 24 (bZ .gtr 23 100) 20,sS 25 (pO 20 24),sM 26 25,gF 27 (fL 1 1) 26,gF 28 (lT 1 27) 26,gF 29 (cA 266 28) 26,gF 30 (nT 29) 26,sS 31 (pO 26 30)] [1,31] [1])
(cN 31
(sQ
(rG [sS 2 (mB false)] [2] [])
.ret)
.skip))
(sQ
(sQ
(rG [sS 3 (mZ 0)] [1,3] [1])
(.block 0
(.loop
(.mask [1,3] [1]
(sQ
(sQ
(rG [sM 32 3,sF 33 3 1,sL 34 33,sS 35 (lN 0 34),sS 36 (bT .lss 32 35)] [1,3,36] [1])
(cN 36
.skip
(.exit 0)))
(sQ
(.block 1
(sQ
(rG [sF 39 3 1,sL 40 39,sM 41 3,sS 42 (iX 5 40 41),sS 43 (lT 5 42),sS 44 (cA 434 43),sS 45 (nT 44)] [1,3,45] [1])
(cN 45
(sQ
(rG [sS 2 (mB false)] [2] [])
.ret)
.skip)))
(rG [sM 37 3,sS 38 (bZ .add 37 1),sM 3 38] [1,3] [1])))))))
(sQ
(rG [sS 2 (mB true)] [2] [])
.ret)))),[.tmp 2],false,false,false⟩
def F406:aa:=⟨1,(sQ
(rG [sS 1 (bX 1 5 0),sS 2 (mZ 0)] [1] [1])
(sQ
(sQ
(rG [sF 6 2 1,sL 7 6,sS 8 (lN 0 7),sS 9 (bZ .gtr 8 8),sM 10 9,gF 11 (fL 3 1) 10,gF 12 (lF 1 11) 10,gF 13 (lN 0 12) 10,gF 14 (bZ .gtr 13 8) 10,sS 15 (pO 10 14),sM 16 15,gF 17 (fL 4 1) 16,gF 18 (lF 1 17) 16,gF 19 (lN 0 18) 16,gF 20 (bZ .gtr 19 8) 16,sS 21 (pO 16 20)] [1,21] [1])
(cN 21
(sQ
(rG [sS 2 (mZ 3)] [2] [])
.ret)
.skip))
(sQ
(sQ
(rG [sF 22 0 1,sL 23 22,sS 24 (cA 310 23),sS 25 (nT 24)] [1,25] [1])
(cN 25
(sQ
(rG [sS 2 (mZ 1)] [2] [])
.ret)
.skip))
(sQ
(sQ
(rG [sF 26 1 1,sS 27 (lT 1 26),sS 28 (cA 435 27),sM 3 28] [1,3] [1])
(sQ
(rG [sM 29 3,sS 30 (bZ .neq 29 0)] [1,3,30] [1])
(cN 30
(sQ
(rG [sM 31 3,sM 2 31] [2] [])
.ret)
.skip)))
(sQ
(sQ
(rG [sS 32 (lT 5 1),sS 33 (cA 436 32),sM 4 33] [1,4] [1])
(sQ
(rG [sM 34 4,sS 35 (bZ .neq 34 0)] [1,4,35] [1])
(cN 35
(sQ
(rG [sM 36 4,sM 2 36] [2] [])
.ret)
.skip)))
(sQ
(sQ
(rG [sS 37 (lT 5 1),sS 38 (cA 437 37),sM 5 38] [1,5] [1])
(sQ
(rG [sM 39 5,sS 40 (bZ .neq 39 0)] [1,5,40] [1])
(cN 40
(sQ
(rG [sM 41 5,sM 2 41] [2] [])
.ret)
.skip)))
(sQ
(rG [sS 42 (lT 5 1),sS 43 (cA 438 42),sM 2 43] [2] [])
.ret))))))),[.tmp 2],false,false,false⟩
def F407:aa:=⟨1,(sQ
(rG [sS 1 (bX 1 5 0),sS 2 (mZ 0)] [1] [1])
(sQ
(sQ
(rG [sF 16 2 1,sL 17 16,sS 18 (lN 0 17),sS 19 (bZ .gtr 18 8),sM 20 19,gF 21 (fL 3 1) 20,gF 22 (lF 1 21) 20,gF 23 (lN 0 22) 20,gF 24 (bZ .gtr 23 8) 20,sS 25 (pO 20 24),sM 26 25,gF 27 (fL 4 1) 26,gF 28 (lF 1 27) 26,gF 29 (lN 0 28) 26,gF 30 (bZ .gtr 29 8) 26,sS 31 (pO 26 30)] [1,31] [1])
(cN 31
(sQ
(rG [sS 2 (mZ 3)] [2] [])
.ret)
.skip))
(sQ
(sQ
(rG [sF 32 0 1,sL 33 32,sS 34 (cA 306 33),sS 35 (nT 34)] [1,35] [1])
(cN 35
(sQ
(rG [sS 2 (mZ 1)] [2] [])
.ret)
.skip))
(sQ
(sQ
(rG [sF 36 1 1,sS 37 (lT 1 36),sS 38 (cA 439 37),sM 3 38] [1,3] [1])
(sQ
(rG [sM 39 3,sS 40 (bZ .neq 39 0)] [1,3,40] [1])
(cN 40
(sQ
(rG [sM 41 3,sM 2 41] [2] [])
.ret)
.skip)))
(sQ
(rG [sS 42 (.jA 440 [(tT 1)]),sM 4 42] [1,4] [1])
(sQ
(rG [sS 43 (.build [.tl []] []),sS 44 (.build [.tl []] []),sS 5 (.alloc 5 [.tl []]),sS 6 (.alloc 6 [.tl []]),nN (sT 1 5 43),nN (sT 1 6 44)] [1,4,5,6] [1,5,6])
(sQ
(sQ
(rG [sF 45 2 1,sL 46 45,sS 47 (lN 0 46),sS 48 (mZ 0)] [1,4,5,6,46,47,48] [1,5,6])
(.block 0
(.loop
(.mask [1,4,5,6,46,47,48] [1,5,6]
(sQ
(rG [sS 49 (bT .lss 48 47)] [1,4,5,6,46,47,48,49] [1,5,6])
(sQ
(cN 49
.skip
(.exit 0))
(sQ
(.block 1
(sQ
(rG [sS 50 (iX 3 46 48),sS 51 (lT 3 50),⟨some 8,.alloc 8 [.pv (.str ⟨#[]⟩),pZ,pZ],none⟩,nN (sT 3 8 51)] [1,4,5,6,8,46,47,48] [1,5,6,8])
(sQ
(sQ
(rG [sF 52 0 8,sL 53 52,sS 54 (cB 441 5 53),sM 9 54] [1,4,5,6,8,9,46,47,48] [1,5,6,8])
(sQ
(rG [sM 55 9,sS 56 (bZ .neq 55 0)] [1,4,5,6,8,9,46,47,48,56] [1,5,6,8])
(cN 56
(sQ
(rG [sM 57 9,sM 2 57] [2] [])
.ret)
.skip)))
(sQ
(rG [sM 58 4,sF 59 1 8,sL 60 59,sS 61 (.call (tT 58) [(tT 60)]),sM 62 61,gF 63 (mT 4) 62,gF 64 (fL 2 8) 62,gF 65 (lF 1 64) 62,gF 66 (.call (tT 63) [(tT 65)]) 62,sS 67 (pO 62 66)] [1,4,5,6,46,47,48,67] [1,5,6])
(cN 67
(sQ
(rG [sS 2 (mZ 4)] [2] [])
.ret)
.skip)))))
(rG [sS 68 (bZ .add 48 1),sM 48 68] [1,4,5,6,46,47,48] [1,5,6]))))))))
(sQ
(sQ
(rG [sF 69 3 1,sL 70 69,sS 71 (lN 0 70),sS 72 (mZ 0)] [1,4,6,70,71,72] [1,6])
(.block 2
(.loop
(.mask [1,4,6,70,71,72] [1,6]
(sQ
(rG [sS 73 (bT .lss 72 71)] [1,4,6,70,71,72,73] [1,6])
(sQ
(cN 73
.skip
(.exit 2))
(sQ
(.block 3
(sQ
(rG [sM 74 72,sS 75 (iX 5 70 72),sS 76 (lT 5 75),⟨some 11,.alloc 11 [.pv (.str ⟨#[]⟩),.tl [],pZ,pZ,.tl []],none⟩,sM 10 74,nN (sT 5 11 76)] [1,4,6,10,11,70,71,72] [1,6,11])
(sQ
(sQ
(rG [sF 77 3 1,sL 78 77,sM 79 10,sS 80 (.sl 5 (tT 78) none (some (tT 79)) none),sS 81 (.jA 443 [(tT 11)]),sS 82 (cB 442 80 81)] [1,4,6,11,70,71,72,82] [1,6,11])
(cN 82
(sQ
(rG [sS 2 (mZ 5)] [2] [])
.ret)
.skip))
(sQ
(rG [sF 83 1 1,sS 84 (lT 1 83),sS 85 (lT 5 11),sS 86 (cB 444 84 85),sM 12 86] [1,4,6,12,70,71,72] [1,6])
(sQ
(rG [sM 87 12,sS 88 (bZ .neq 87 0)] [1,4,6,12,70,71,72,88] [1,6])
(cN 88
(sQ
(rG [sM 89 12,sM 2 89] [2] [])
.ret)
.skip))))))
(rG [sS 90 (bZ .add 72 1),sM 72 90] [1,4,6,70,71,72] [1,6]))))))))
(sQ
(sQ
(rG [sF 91 4 1,sL 92 91,sS 93 (lN 0 92),sS 94 (mZ 0)] [4,6,92,93,94] [1,6])
(.block 4
(.loop
(.mask [4,6,92,93,94] [1,6]
(sQ
(rG [sS 95 (bT .lss 94 93)] [4,6,92,93,94,95] [1,6])
(sQ
(cN 95
.skip
(.exit 4))
(sQ
(.block 5
(sQ
(rG [sS 96 (iX 2 92 94),sS 97 (lT 2 96),⟨some 14,.alloc 14 [.pv (.str ⟨#[]⟩),pZ],none⟩,nN (sT 2 14 97)] [4,6,14,92,93,94] [1,6,14])
(sQ
(sQ
(rG [sF 98 0 14,sL 99 98,sS 100 (cB 441 6 99),sM 15 100] [4,6,14,15,92,93,94] [1,6,14])
(sQ
(rG [sM 101 15,sS 102 (bZ .neq 101 0)] [4,6,14,15,92,93,94,102] [1,6,14])
(cN 102
(sQ
(rG [sM 103 15,sM 2 103] [2] [])
.ret)
.skip)))
(sQ
(rG [sM 104 4,sF 105 1 14,sL 106 105,sS 107 (.call (tT 104) [(tT 106)])] [4,6,92,93,94,107] [1,6])
(cN 107
(sQ
(rG [sS 2 (mZ 4)] [2] [])
.ret)
.skip)))))
(rG [sS 108 (bZ .add 94 1),sM 94 108] [4,6,92,93,94] [1,6]))))))))
(sQ
(rG [sS 2 (mZ 0)] [2] [])
.ret)))))))))),[.tmp 2],false,false,false⟩
def F408:aa:=⟨1,(sQ
(rG [sS 1 (bX 1 5 0),⟨some 2,.alloc 2 [.pv (.str ⟨#[]⟩),.tl [],.tl [],.tl [],.tl []],none⟩,sS 3 (mZ 0)] [1,2] [1,2])
(sQ
(sQ
(rG [sS 26 (lT 5 1),sS 27 (cA 407 26),sM 4 27] [1,2,4] [1,2])
(sQ
(rG [sM 28 4,sS 29 (bZ .neq 28 0)] [1,2,4,29] [1,2])
(cN 29
(sQ
(rG [⟨some 30,.build [.pv (.str ⟨#[]⟩),.tl [],.tl [],.tl [],.tl []] [],none⟩,sM 31 4,nN (sT 5 2 30),sM 3 31] [2,3] [2])
.ret)
.skip)))
(sQ
(rG [sF 32 1 1,sF 33 0 32,sL 34 33,sS 35 (lN 0 34),sS 36 (.make 1 [.pv (.bool false)] (tT 35) (tT 35)),sM 5 36] [1,2,5] [1,2])
(sQ
(sQ
(rG [sS 37 (lT 5 1),sS 38 (cA 417 37),sS 39 (lN 0 38),sS 40 (mZ 0)] [1,2,5,38,39,40] [1,2])
(.block 0
(.loop
(.mask [1,2,5,38,39,40] [1,2]
(sQ
(rG [sS 41 (bT .lss 40 39)] [1,2,5,38,39,40,41] [1,2])
(sQ
(cN 41
.skip
(.exit 0))
(sQ
(.block 1
(sQ
(rG [sS 42 (iX 1 38 40),sL 43 42,sM 7 43] [1,2,5,7,38,39,40] [1,2])
(sQ
(rG [sF 45 1 1,sS 46 (lT 1 45),sM 47 7,sS 48 (cB 273 46 47),sM 44 48,sS 49 (eX 44 0),sS 50 (eX 44 1),sM 8 49,sM 9 50] [1,2,5,8,38,39,40] [1,2])
(sQ
(rG [sM 51 8,sS 52 (lN 0 51),sS 53 (mZ 0)] [1,2,5,38,39,40,51,52,53] [1,2])
(.block 2
(.loop
(.mask [1,2,5,38,39,40,51,52,53] [1,2]
(sQ
(rG [sS 54 (bT .lss 53 52)] [1,2,5,38,39,40,51,52,53,54] [1,2])
(sQ
(cN 54
.skip
(.exit 2))
(sQ
(.block 3
(sQ
(rG [sS 55 (iX 1 51 53),sL 56 55,sM 11 56] [1,2,5,11,38,39,40,51,52,53] [1,2])
(rG [sM 57 5,sM 58 11,sS 59 (iX 1 57 58),nN (.store 1 (tT 59) (bB true))] [1,2,5,38,39,40,51,52,53] [1,2])))
(rG [sS 60 (bZ .add 53 1),sM 53 60] [1,2,5,38,39,40,51,52,53] [1,2])))))))))))
(rG [sS 61 (bZ .add 40 1),sM 40 61] [1,2,5,38,39,40] [1,2]))))))))
(sQ
(rG [sM 62 5,sS 63 (lN 0 62),sS 64 (.make 1 [pZ] (tT 63) (tT 63)),sM 12 64] [1,2,5,12] [1,2])
(sQ
(rG [sF 65 0 1,sL 66 65,⟨some 67,.build [.pv (.str ⟨#[]⟩),.tl [],.tl [],.tl [],.tl []] [(0,1,(tT 66))],none⟩,⟨some 13,.alloc 13 [.pv (.str ⟨#[]⟩),.tl [],.tl [],.tl [],.tl []],none⟩,nN (sT 5 13 67)] [1,2,5,12,13] [1,2,13])
(sQ
(sQ
(rG [sF 68 1 1,sF 69 0 68,sL 70 69,sS 71 (lN 0 70),sS 72 (mZ 0)] [1,2,5,12,13,70,71,72] [1,2,13])
(.block 4
(.loop
(.mask [1,2,5,12,13,70,71,72] [1,2,13]
(sQ
(rG [sS 73 (bT .lss 72 71)] [1,2,5,12,13,70,71,72,73] [1,2,13])
(sQ
(cN 73
.skip
(.exit 4))
(sQ
(.block 5
(sQ
(rG [sM 74 72,sS 75 (iX 10 70 72),sS 76 (lT 10 75),⟨some 15,.alloc 15 [pZ,.pv (.str ⟨#[]⟩),pZ,pZ,pZ,.tl [],.tl [],pZ,pZ,.pv (.bool false)],none⟩,sM 14 74,nN (sT 10 15 76)] [1,2,5,12,13,14,15,70,71,72] [1,2,13,15])
(sQ
(rG [sM 77 12,sM 78 14,sF 79 1 13,sF 80 0 79,sL 81 80,sS 82 (lN 0 81),sS 83 (iX 1 77 78),nN (sT 1 83 82)] [1,2,5,12,13,14,15,70,71,72] [1,2,13,15])
(sQ
(rG [sM 84 5,sM 85 14,sS 86 (iX 1 84 85),sL 87 86] [1,2,5,12,13,15,70,71,72,87] [1,2,13,15])
(cN 87
(rG [sF 88 1 13,sF 89 0 88,sL 90 89,sS 91 (lT 10 15),⟨some 92,.lit 10 [pZ,.pv (.str ⟨#[]⟩),pZ,pZ,pZ,.tl [],.tl [],pZ,pZ,.pv (.bool false)] 1 [(0,10,(tT 91))],none⟩,sS 93 (aP 10 90 92),sF 94 1 13,sF 95 0 94,nN (sT 1 95 93)] [1,2,5,12,13,70,71,72] [1,2,13])
.skip)))))
(rG [sS 96 (bZ .add 72 1),sM 72 96] [1,2,5,12,13,70,71,72] [1,2,13]))))))))
(sQ
(sQ
(rG [sF 97 1 13,sF 98 0 97,sL 99 98,sS 100 (lN 0 99),sS 101 (mZ 0)] [1,2,12,13,100,101] [1,2,13])
(.block 6
(.loop
(.mask [1,2,12,13,100,101] [1,2,13]
(sQ
(rG [sS 102 (bT .lss 101 100)] [1,2,12,13,100,101,102] [1,2,13])
(sQ
(cN 102
.skip
(.exit 6))
(sQ
(.block 7
(sQ
(rG [sM 103 101,sM 16 103] [1,2,12,13,16,100,101] [1,2,13])
(sQ
(rG [sF 104 1 13,sF 105 0 104,sL 106 105,sM 107 16,sS 108 (iX 10 106 107),sM 17 108] [1,2,12,13,17,100,101] [1,2,13])
(sQ
(.draw [(sM 109 17,[]),(sM 110 17,[]),(sM 111 17,[]),(sS 112 (.dX (tT 111)),[]),(sF 113 5 112,[]),(sL 114 113,[]),(sS 115 (cA 313 114),[]),(sM 116 17,[]),(sS 117 (.dX (tT 116)),[]),(sF 118 6 117,[]),(sL 119 118,[6]),(sS 120 (cA 314 119),[]),(sS 121 (.dX (tT 109)),[]),(sF 122 5 121,[]),(nN (sT 1 122 115),[]),(sS 123 (.dX (tT 110)),[]),(sF 124 6 123,[]),(nN (sT 1 124 120),[])] [1,2,12,13,17,100,101] [1,2,13])
(sQ
(sQ
(rG [sM 125 17,sS 126 (.dX (tT 125)),sF 127 6 126,sL 128 127,sS 129 (lN 0 128),sS 130 (mZ 0)] [1,2,12,13,17,100,101,129,130] [1,2,13])
(.block 8
(.loop
(.mask [1,2,12,13,17,100,101,129,130] [1,2,13]
(sQ
(rG [sS 131 (bT .lss 130 129)] [1,2,12,13,17,100,101,129,130,131] [1,2,13])
(sQ
(cN 131
.skip
(.exit 8))
(sQ
(.block 9
(sQ
(rG [sM 132 130,sM 18 132] [1,2,12,13,17,18,100,101,129,130] [1,2,13])
(.draw [(sM 133 17,[]),(sS 134 (.dX (tT 133)),[]),(sF 135 6 134,[]),(sL 136 135,[]),(sM 137 18,[]),(sM 138 12,[]),(sM 139 17,[]),(sS 140 (.dX (tT 139)),[]),(sF 141 6 140,[]),(sL 142 141,[]),(sM 143 18,[]),(sS 144 (iX 13 142 143),[]),(sF 145 2 144,[]),(sL 146 145,[]),(sS 147 (iX 1 138 146),[]),(sL 148 147,[]),(sS 149 (iX 13 136 137),[]),(sF 150 2 149,[]),(nN (sT 1 150 148),[])] [1,2,12,13,17,100,101,129,130] [1,2,13])))
(rG [sS 151 (bZ .add 130 1),sM 130 151] [1,2,12,13,17,100,101,129,130] [1,2,13]))))))))
(sQ
(sQ
(rG [sM 152 17,sS 153 (.dX (tT 152)),sF 154 0 153,sL 155 154,sS 156 (bZ .eql 155 8)] [1,2,12,13,17,100,101,156] [1,2,13])
(cN 156
(rG [sM 157 17,sM 158 12,sM 159 17,sS 160 (.dX (tT 159)),sF 161 7 160,sL 162 161,sS 163 (iX 1 158 162),sL 164 163,sS 165 (.dX (tT 157)),sF 166 7 165,nN (sT 1 166 164)] [1,2,12,13,17,100,101] [1,2,13])
.skip))
(sQ
(rG [sM 167 17,sS 168 (.dX (tT 167)),sF 169 0 168,sL 170 169,sS 171 (bZ .eql 170 7),sM 172 171,gF 173 (mT 17) 172,gF 174 (.dX (tT 173)) 172,gF 175 (fL 0 174) 172,gF 176 (lF 1 175) 172,gF 177 (bZ .eql 176 8) 172,sS 178 (pO 172 177),sM 179 178,gF 180 (mT 17) 179,gF 181 (.dX (tT 180)) 179,gF 182 (fL 0 181) 179,gF 183 (lF 1 182) 179,gF 184 (bZ .eql 183 9) 179,sS 185 (pO 179 184)] [1,2,12,13,17,100,101,185] [1,2,13])
(cN 185
(rG [sM 186 17,sM 187 12,sM 188 17,sS 189 (.dX (tT 188)),sF 190 8 189,sL 191 190,sS 192 (iX 1 187 191),sL 193 192,sS 194 (.dX (tT 186)),sF 195 8 194,nN (sT 1 195 193)] [1,2,12,13,100,101] [1,2,13])
.skip))))))))
(rG [sS 196 (bZ .add 101 1),sM 101 196] [1,2,12,13,100,101] [1,2,13]))))))))
(sQ
(sQ
(rG [sF 197 2 1,sL 198 197,sS 199 (lN 0 198),sS 200 (mZ 0)] [1,2,12,13,198,199,200] [1,2,13])
(.block 10
(.loop
(.mask [1,2,12,13,198,199,200] [1,2,13]
(sQ
(rG [sS 201 (bT .lss 200 199)] [1,2,12,13,198,199,200,201] [1,2,13])
(sQ
(cN 201
.skip
(.exit 10))
(sQ
(.block 11
(sQ
(rG [sS 202 (iX 3 198 200),sS 203 (lT 3 202),⟨some 20,.alloc 20 [.pv (.str ⟨#[]⟩),pZ,pZ],none⟩,nN (sT 3 20 203)] [1,2,12,13,20,198,199,200] [1,2,13,20])
(.draw [(sF 204 2 13,[]),(sL 205 204,[]),(sF 206 0 20,[]),(sL 207 206,[]),(sM 208 12,[]),(sF 209 1 20,[]),(sL 210 209,[]),(sS 211 (iX 1 208 210),[]),(sL 212 211,[]),(sM 213 12,[]),(sF 214 2 20,[]),(sL 215 214,[]),(sS 216 (iX 1 213 215),[]),(sL 217 216,[]),(⟨some 218,.build [.pv (.str ⟨#[]⟩),pZ,pZ] [(0,1,(tT 207)),(1,1,(tT 212)),(2,1,(tT 217))],none⟩,[]),(⟨some 219,.lit 3 [.pv (.str ⟨#[]⟩),pZ,pZ] 1 [(0,3,(tT 218))],none⟩,[1]),(sS 220 (aP 3 205 219),[]),(sF 221 2 13,[]),(nN (sT 1 221 220),[])] [1,2,12,13,198,199,200] [1,2,13])))
(rG [sS 222 (bZ .add 200 1),sM 200 222] [1,2,12,13,198,199,200] [1,2,13]))))))))
(sQ
(sQ
(rG [sF 223 3 1,sL 224 223,sS 225 (lN 0 224),sS 226 (mZ 0)] [1,2,12,13,224,225,226] [1,2,13])
(.block 12
(.loop
(.mask [1,2,12,13,224,225,226] [1,2,13]
(sQ
(rG [sS 227 (bT .lss 226 225)] [1,2,12,13,224,225,226,227] [1,2,13])
(sQ
(cN 227
.skip
(.exit 12))
(sQ
(.block 13
(sQ
(rG [sS 228 (iX 5 224 226),sS 229 (lT 5 228),⟨some 22,.alloc 22 [.pv (.str ⟨#[]⟩),.tl [],pZ,pZ,.tl []],none⟩,nN (sT 5 22 229)] [1,2,12,13,22,224,225,226] [1,2,13,22])
(sQ
(rG [sS 230 (lT 5 22),sS 231 (cA 445 230),nN (sT 5 22 231)] [1,2,12,13,22,224,225,226] [1,2,13,22])
(sQ
(sQ
(rG [sF 232 1 22,sL 233 232,sS 234 (lN 0 233),sS 235 (mZ 0)] [1,2,12,13,22,224,225,226,234,235] [1,2,13,22])
(.block 14
(.loop
(.mask [1,2,12,13,22,224,225,226,234,235] [1,2,13,22]
(sQ
(rG [sS 236 (bT .lss 235 234)] [1,2,12,13,22,224,225,226,234,235,236] [1,2,13,22])
(sQ
(cN 236
.skip
(.exit 14))
(sQ
(.block 15
(sQ
(rG [sM 237 235,sM 23 237] [1,2,12,13,22,23,224,225,226,234,235] [1,2,13,22])
(.draw [(sF 238 1 22,[]),(sL 239 238,[]),(sM 240 23,[]),(sM 241 12,[]),(sF 242 1 22,[]),(sL 243 242,[]),(sM 244 23,[]),(sS 245 (iX 3 243 244),[]),(sF 246 2 245,[]),(sL 247 246,[]),(sS 248 (iX 1 241 247),[]),(sL 249 248,[]),(sS 250 (iX 3 239 240),[]),(sF 251 2 250,[]),(nN (sT 1 251 249),[])] [1,2,12,13,22,224,225,226,234,235] [1,2,13,22])))
(rG [sS 252 (bZ .add 235 1),sM 235 252] [1,2,12,13,22,224,225,226,234,235] [1,2,13,22]))))))))
(rG [sF 253 3 13,sL 254 253,sS 255 (lT 5 22),⟨some 256,.lit 5 [.pv (.str ⟨#[]⟩),.tl [],pZ,pZ,.tl []] 1 [(0,5,(tT 255))],none⟩,sS 257 (aP 5 254 256),sF 258 3 13,nN (sT 1 258 257)] [1,2,12,13,224,225,226] [1,2,13])))))
(rG [sS 259 (bZ .add 226 1),sM 226 259] [1,2,12,13,224,225,226] [1,2,13]))))))))
(sQ
(sQ
(rG [sF 260 4 1,sL 261 260,sS 262 (lN 0 261),sS 263 (mZ 0)] [2,12,13,261,262,263] [2,13])
(.block 16
(.loop
(.mask [2,12,13,261,262,263] [2,13]
(sQ
(rG [sS 264 (bT .lss 263 262)] [2,12,13,261,262,263,264] [2,13])
(sQ
(cN 264
.skip
(.exit 16))
(sQ
(.block 17
(sQ
(rG [sS 265 (iX 2 261 263),sS 266 (lT 2 265),⟨some 25,.alloc 25 [.pv (.str ⟨#[]⟩),pZ],none⟩,nN (sT 2 25 266)] [2,12,13,25,261,262,263] [2,13,25])
(.draw [(sF 267 4 13,[]),(sL 268 267,[]),(sF 269 0 25,[]),(sL 270 269,[]),(sM 271 12,[]),(sF 272 1 25,[]),(sL 273 272,[]),(sS 274 (iX 1 271 273),[]),(sL 275 274,[]),(⟨some 276,.build [.pv (.str ⟨#[]⟩),pZ] [(0,1,(tT 270)),(1,1,(tT 275))],none⟩,[]),(⟨some 277,.lit 2 [.pv (.str ⟨#[]⟩),pZ] 1 [(0,2,(tT 276))],none⟩,[1]),(sS 278 (aP 2 268 277),[]),(sF 279 4 13,[]),(nN (sT 1 279 278),[])] [2,12,13,261,262,263] [2,13])))
(rG [sS 280 (bZ .add 263 1),sM 263 280] [2,12,13,261,262,263] [2,13]))))))))
(sQ
(rG [sS 281 (lT 5 13),nN (sT 5 2 281),sS 3 (mZ 0)] [2,3] [2])
.ret)))))))))))),[.cell 2 5 true,.tmp 3],false,false,false⟩
def F409:aa:=⟨2,(sQ
(rG [sS 2 (bX 2 5 0),sS 3 (bX 3 5 1),sS 4 (mB false)] [2,3] [2,3])
(sQ
(sQ
(rG [sF 8 0 2,sL 9 8,sF 10 0 3,sL 11 10,sS 12 (bT .neq 9 11),sM 13 12,gF 14 (fL 1 2) 13,gF 15 (lT 1 14) 13,gF 16 (fL 1 3) 13,gF 17 (lT 1 16) 13,gF 18 (cB 277 15 17) 13,gF 19 (nT 18) 13,sS 20 (pO 13 19),sM 21 20,gF 22 (fL 2 2) 21,gF 23 (lF 1 22) 21,gF 24 (lN 0 23) 21,gF 25 (fL 2 3) 21,gF 26 (lF 1 25) 21,gF 27 (lN 0 26) 21,gF 28 (bT .neq 24 27) 21,sS 29 (pO 21 28),sM 30 29,gF 31 (fL 3 2) 30,gF 32 (lF 1 31) 30,gF 33 (lN 0 32) 30,gF 34 (fL 3 3) 30,gF 35 (lF 1 34) 30,gF 36 (lN 0 35) 30,gF 37 (bT .neq 33 36) 30,sS 38 (pO 30 37),sM 39 38,gF 40 (fL 4 2) 39,gF 41 (lF 1 40) 39,gF 42 (lN 0 41) 39,gF 43 (fL 4 3) 39,gF 44 (lF 1 43) 39,gF 45 (lN 0 44) 39,gF 46 (bT .neq 42 45) 39,sS 47 (pO 39 46)] [2,3,47] [2,3])
(cN 47
(sQ
(rG [sS 4 (mB false)] [4] [])
.ret)
.skip))
(sQ
(sQ
(rG [sS 5 (mZ 0)] [2,3,5] [2,3])
(.block 0
(.loop
(.mask [2,3,5] [2,3]
(sQ
(sQ
(rG [sM 48 5,sF 49 2 2,sL 50 49,sS 51 (lN 0 50),sS 52 (bT .lss 48 51)] [2,3,5,52] [2,3])
(cN 52
.skip
(.exit 0)))
(sQ
(.block 1
(sQ
(.draw [(sF 55 2 2,[]),(sL 56 55,[]),(sM 57 5,[]),(sS 58 (iX 3 56 57),[]),(sS 59 (lT 3 58),[]),(sF 60 2 3,[]),(sL 61 60,[]),(sM 62 5,[]),(sS 63 (iX 3 61 62),[]),(sS 64 (lT 3 63),[]),(sS 65 (.mF true [2,1,1] true (tT 59) (tT 64)),[])] [2,3,5,65] [2,3])
(cN 65
(sQ
(rG [sS 4 (mB false)] [4] [])
.ret)
.skip)))
(rG [sM 53 5,sS 54 (bZ .add 53 1),sM 5 54] [2,3,5] [2,3])))))))
(sQ
(sQ
(rG [sS 6 (mZ 0)] [2,3,6] [2,3])
(.block 2
(.loop
(.mask [2,3,6] [2,3]
(sQ
(sQ
(rG [sM 66 6,sF 67 3 2,sL 68 67,sS 69 (lN 0 68),sS 70 (bT .lss 66 69)] [2,3,6,70] [2,3])
(cN 70
.skip
(.exit 2)))
(sQ
(.block 3
(sQ
(.draw [(sF 73 3 2,[]),(sL 74 73,[]),(sM 75 6,[]),(sS 76 (iX 5 74 75),[]),(sS 77 (lT 5 76),[]),(sF 78 3 3,[]),(sL 79 78,[]),(sM 80 6,[]),(sS 81 (iX 5 79 80),[]),(sS 82 (lT 5 81),[]),(sS 83 (cB 416 77 82),[]),(sS 84 (nT 83),[])] [2,3,6,84] [2,3])
(cN 84
(sQ
(rG [sS 4 (mB false)] [4] [])
.ret)
.skip)))
(rG [sM 71 6,sS 72 (bZ .add 71 1),sM 6 72] [2,3,6] [2,3])))))))
(sQ
(sQ
(rG [sS 7 (mZ 0)] [2,3,7] [2,3])
(.block 4
(.loop
(.mask [2,3,7] [2,3]
(sQ
(sQ
(rG [sM 85 7,sF 86 4 2,sL 87 86,sS 88 (lN 0 87),sS 89 (bT .lss 85 88)] [2,3,7,89] [2,3])
(cN 89
.skip
(.exit 4)))
(sQ
(.block 5
(sQ
(.draw [(sF 92 4 2,[]),(sL 93 92,[]),(sM 94 7,[]),(sS 95 (iX 2 93 94),[]),(sS 96 (lT 2 95),[]),(sF 97 4 3,[]),(sL 98 97,[]),(sM 99 7,[]),(sS 100 (iX 2 98 99),[]),(sS 101 (lT 2 100),[]),(sS 102 (.mF true [2,1] true (tT 96) (tT 101)),[])] [2,3,7,102] [2,3])
(cN 102
(sQ
(rG [sS 4 (mB false)] [4] [])
.ret)
.skip)))
(rG [sM 90 7,sS 91 (bZ .add 90 1),sM 7 91] [2,3,7] [2,3])))))))
(sQ
(rG [sS 4 (mB true)] [4] [])
.ret)))))),[.tmp 4],false,false,false⟩
def F410:aa:=⟨2,(sQ
(rG [sS 2 (bX 2 5 0),sS 3 (bX 3 1 1),⟨some 4,.alloc 4 [.pv (.str ⟨#[]⟩),pZ,pZ],none⟩,sS 5 (mB false)] [2,3,4] [2,3,4])
(sQ
(sQ
(rG [sF 7 2 2,sL 8 7,sS 9 (.jA 447 [(tT 3)]),sS 10 (cB 446 8 9),sM 6 10] [2,4,6] [2,4])
(sQ
(rG [sM 11 6,sS 12 (bZ .geq 11 0)] [2,4,6,12] [2,4])
(cN 12
(sQ
(rG [sF 13 2 2,sL 14 13,sM 15 6,sS 16 (iX 3 14 15),sS 17 (lT 3 16),nN (sT 3 4 17),sS 5 (mB true)] [4,5] [4])
.ret)
.skip)))
(sQ
(rG [⟨some 18,.build [.pv (.str ⟨#[]⟩),pZ,pZ] [],none⟩,nN (sT 3 4 18),sS 5 (mB false)] [4,5] [4])
.ret))),[.cell 4 3 true,.tmp 5],false,false,false⟩
def F412:aa:=⟨2,(sQ
(rG [sS 2 (bX 2 5 0),sS 3 (bX 3 1 1),⟨some 4,.alloc 4 [.pv (.str ⟨#[]⟩),.tl [],pZ,pZ,.tl []],none⟩,sS 5 (mB false)] [2,3,4] [2,3,4])
(sQ
(sQ
(rG [sF 7 3 2,sL 8 7,sS 9 (.jA 449 [(tT 3)]),sS 10 (cB 448 8 9),sM 6 10] [2,4,6] [2,4])
(sQ
(rG [sM 11 6,sS 12 (bZ .geq 11 0)] [2,4,6,12] [2,4])
(cN 12
(sQ
(rG [sF 13 3 2,sL 14 13,sM 15 6,sS 16 (iX 5 14 15),sS 17 (lT 5 16),sS 18 (cA 445 17),nN (sT 5 4 18),sS 5 (mB true)] [4,5] [4])
.ret)
.skip)))
(sQ
(rG [⟨some 19,.build [.pv (.str ⟨#[]⟩),.tl [],pZ,pZ,.tl []] [],none⟩,nN (sT 5 4 19),sS 5 (mB false)] [4,5] [4])
.ret))),[.cell 4 5 true,.tmp 5],false,false,false⟩
def F414:aa:=⟨2,(sQ
(rG [sS 2 (bX 2 5 0),sS 3 (bX 3 1 1),⟨some 4,.alloc 4 [.pv (.str ⟨#[]⟩),pZ],none⟩,sS 5 (mB false)] [2,3,4] [2,3,4])
(sQ
(sQ
(rG [sF 7 4 2,sL 8 7,sS 9 (.jA 451 [(tT 3)]),sS 10 (cB 450 8 9),sM 6 10] [2,4,6] [2,4])
(sQ
(rG [sM 11 6,sS 12 (bZ .geq 11 0)] [2,4,6,12] [2,4])
(cN 12
(sQ
(rG [sF 13 4 2,sL 14 13,sM 15 6,sS 16 (iX 2 14 15),sS 17 (lT 2 16),nN (sT 2 4 17),sS 5 (mB true)] [4,5] [4])
.ret)
.skip)))
(sQ
(rG [⟨some 18,.build [.pv (.str ⟨#[]⟩),pZ] [],none⟩,nN (sT 2 4 18),sS 5 (mB false)] [4,5] [4])
.ret))),[.cell 4 2 true,.tmp 5],false,false,false⟩
def F416:aa:=⟨2,(sQ
(rG [sS 2 (bX 2 5 0),sS 3 (bX 3 5 1),sS 4 (mB false)] [2,3] [2,3])
(sQ
(sQ
(rG [sF 6 0 2,sL 7 6,sF 8 0 3,sL 9 8,sS 10 (bT .neq 7 9),sM 11 10,gF 12 (fL 1 2) 11,gF 13 (lF 1 12) 11,gF 14 (lN 0 13) 11,gF 15 (fL 1 3) 11,gF 16 (lF 1 15) 11,gF 17 (lN 0 16) 11,gF 18 (bT .neq 14 17) 11,sS 19 (pO 11 18),sM 20 19,gF 21 (fL 2 2) 20,gF 22 (lT 3 21) 20,gF 23 (fL 2 3) 20,gF 24 (lT 3 23) 20,gF 25 (cB 15 22 24) 20,gF 26 (nT 25) 20,sS 27 (pO 20 26)] [2,3,27] [2,3])
(cN 27
(sQ
(rG [sS 4 (mB false)] [4] [])
.ret)
.skip))
(sQ
(sQ
(rG [sS 5 (mZ 0)] [2,3,5] [2,3])
(.block 0
(.loop
(.mask [2,3,5] [2,3]
(sQ
(sQ
(rG [sM 28 5,sF 29 1 2,sL 30 29,sS 31 (lN 0 30),sS 32 (bT .lss 28 31)] [2,3,5,32] [2,3])
(cN 32
.skip
(.exit 0)))
(sQ
(.block 1
(sQ
(.draw [(sF 35 1 2,[]),(sL 36 35,[]),(sM 37 5,[]),(sS 38 (iX 3 36 37),[]),(sS 39 (lT 3 38),[]),(sF 40 1 3,[]),(sL 41 40,[]),(sM 42 5,[]),(sS 43 (iX 3 41 42),[]),(sS 44 (lT 3 43),[]),(sS 45 (.mF true [1,2,1] true (tT 39) (tT 44)),[])] [2,3,5,45] [2,3])
(cN 45
(sQ
(rG [sS 4 (mB false)] [4] [])
.ret)
.skip)))
(rG [sM 33 5,sS 34 (bZ .add 33 1),sM 5 34] [2,3,5] [2,3])))))))
(sQ
(rG [sS 4 (mB true)] [4] [])
.ret)))),[.tmp 4],false,false,false⟩
def F417:aa:=⟨1,(sQ
(rG [sS 1 (bX 1 5 0),sS 2 (.eJ (.val (.tl [])))] [1] [1])
(sQ
(rG [sS 3 (.eJ (.val (.tl [])))] [1,3] [1])
(sQ
(sQ
(rG [sF 12 2 1,sL 13 12,sS 14 (lN 0 13),sS 15 (mZ 0)] [1,3,13,14,15] [1])
(.block 0
(.loop
(.mask [1,3,13,14,15] [1]
(sQ
(rG [sS 16 (bT .lss 15 14)] [1,3,13,14,15,16] [1])
(sQ
(cN 16
.skip
(.exit 0))
(sQ
(.block 1
(sQ
(rG [sS 17 (iX 3 13 15),sS 18 (lT 3 17),⟨some 5,.alloc 5 [.pv (.str ⟨#[]⟩),pZ,pZ],none⟩,nN (sT 3 5 18)] [1,3,5,13,14,15] [1,5])
(rG [sM 19 3,sF 20 1 5,sL 21 20,sF 22 2 5,sL 23 22,sS 24 (.lit 1 [pZ] 2 [(0,1,(tT 21)),(1,1,(tT 23))]),sS 25 (aP 1 19 24),sM 3 25] [1,3,13,14,15] [1])))
(rG [sS 26 (bZ .add 15 1),sM 15 26] [1,3,13,14,15] [1]))))))))
(sQ
(sQ
(rG [sF 27 3 1,sL 28 27,sS 29 (lN 0 28),sS 30 (mZ 0)] [1,3,28,29,30] [1])
(.block 2
(.loop
(.mask [1,3,28,29,30] [1]
(sQ
(rG [sS 31 (bT .lss 30 29)] [1,3,28,29,30,31] [1])
(sQ
(cN 31
.skip
(.exit 2))
(sQ
(.block 3
(sQ
(rG [sS 32 (iX 5 28 30),sS 33 (lT 5 32),⟨some 7,.alloc 7 [.pv (.str ⟨#[]⟩),.tl [],pZ,pZ,.tl []],none⟩,nN (sT 5 7 33)] [1,3,7,28,29,30] [1,7])
(sQ
(rG [sF 34 1 7,sL 35 34,sS 36 (lN 0 35),sS 37 (mZ 0)] [1,3,28,29,30,35,36,37] [1])
(.block 4
(.loop
(.mask [1,3,28,29,30,35,36,37] [1]
(sQ
(rG [sS 38 (bT .lss 37 36)] [1,3,28,29,30,35,36,37,38] [1])
(sQ
(cN 38
.skip
(.exit 4))
(sQ
(.block 5
(sQ
(rG [sS 39 (iX 3 35 37),sS 40 (lT 3 39),⟨some 9,.alloc 9 [pZ,.pv (.str ⟨#[]⟩),pZ],none⟩,nN (sT 3 9 40)] [1,3,9,28,29,30,35,36,37] [1,9])
(rG [sM 41 3,sF 42 2 9,sL 43 42,sS 44 (.lit 1 [pZ] 1 [(0,1,(tT 43))]),sS 45 (aP 1 41 44),sM 3 45] [1,3,28,29,30,35,36,37] [1])))
(rG [sS 46 (bZ .add 37 1),sM 37 46] [1,3,28,29,30,35,36,37] [1]))))))))))
(rG [sS 47 (bZ .add 30 1),sM 30 47] [1,3,28,29,30] [1]))))))))
(sQ
(sQ
(rG [sF 48 4 1,sL 49 48,sS 50 (lN 0 49),sS 51 (mZ 0)] [3,49,50,51] [])
(.block 6
(.loop
(.mask [3,49,50,51] []
(sQ
(rG [sS 52 (bT .lss 51 50)] [3,49,50,51,52] [])
(sQ
(cN 52
.skip
(.exit 6))
(sQ
(.block 7
(sQ
(rG [sS 53 (iX 2 49 51),sS 54 (lT 2 53),⟨some 11,.alloc 11 [.pv (.str ⟨#[]⟩),pZ],none⟩,nN (sT 2 11 54)] [3,11,49,50,51] [11])
(rG [sM 55 3,sF 56 1 11,sL 57 56,sS 58 (.lit 1 [pZ] 1 [(0,1,(tT 57))]),sS 59 (aP 1 55 58),sM 3 59] [3,49,50,51] [])))
(rG [sS 60 (bZ .add 51 1),sM 51 60] [3,49,50,51] []))))))))
(sQ
(rG [sM 61 3,sS 62 (cA 103 61)] [3] [])
(sQ
(rG [sM 63 3,sS 64 (cA 104 63),sM 2 64] [2] [])
.ret))))))),[.tmp 2],false,false,false⟩
def F421:aa:=⟨2,(sQ
(rG [sS 2 (bX 2 5 0),sS 3 (bX 3 5 1),sS 4 (mB false),sS 5 (mZ 0)] [2,3] [2,3])
(sQ
(sQ
(rG [sS 25 (lT 5 2),sS 26 (cA 407 25),sM 6 26] [2,3,6] [2,3])
(sQ
(rG [sM 27 6,sS 28 (bZ .neq 27 0)] [2,3,6,28] [2,3])
(cN 28
(sQ
(rG [sM 29 6,sS 4 (mB false),sM 5 29] [4,5] [])
.ret)
.skip)))
(sQ
(sQ
(rG [sS 30 (lT 5 3),sS 31 (cA 407 30),sM 7 31] [2,3,7] [2,3])
(sQ
(rG [sM 32 7,sS 33 (bZ .neq 32 0)] [2,3,7,33] [2,3])
(cN 33
(sQ
(rG [sM 34 7,sS 4 (mB false),sM 5 34] [4,5] [])
.ret)
.skip)))
(sQ
(sQ
(rG [sF 35 2 2,sL 36 35,sS 37 (lN 0 36),sF 38 2 3,sL 39 38,sS 40 (lN 0 39),sS 41 (bT .neq 37 40),sM 42 41,gF 43 (fL 3 2) 42,gF 44 (lF 1 43) 42,gF 45 (lN 0 44) 42,gF 46 (fL 3 3) 42,gF 47 (lF 1 46) 42,gF 48 (lN 0 47) 42,gF 49 (bT .neq 45 48) 42,sS 50 (pO 42 49),sM 51 50,gF 52 (fL 4 2) 51,gF 53 (lF 1 52) 51,gF 54 (lN 0 53) 51,gF 55 (fL 4 3) 51,gF 56 (lF 1 55) 51,gF 57 (lN 0 56) 51,gF 58 (bT .neq 54 57) 51,sS 59 (pO 51 58)] [2,3,59] [2,3])
(cN 59
(sQ
(rG [sS 4 (mB false),sS 5 (mZ 0)] [4,5] [])
.ret)
.skip))
(sQ
(rG [sS 60 (.jA 455 [(tT 2),(tT 3)]),sM 8 60] [2,3,8] [2,3])
(sQ
(sQ
(rG [sF 61 2 2,sL 62 61,sS 63 (lN 0 62),sS 64 (mZ 0)] [2,3,8,62,63,64] [2,3])
(.block 0
(.loop
(.mask [2,3,8,62,63,64] [2,3]
(sQ
(rG [sS 65 (bT .lss 64 63)] [2,3,8,62,63,64,65] [2,3])
(sQ
(cN 65
.skip
(.exit 0))
(sQ
(.block 1
(sQ
(rG [sS 66 (iX 3 62 64),sS 67 (lT 3 66),⟨some 10,.alloc 10 [.pv (.str ⟨#[]⟩),pZ,pZ],none⟩,nN (sT 3 10 67)] [2,3,8,10,62,63,64] [2,3,10])
(sQ
(rG [sS 69 (lT 5 3),sF 70 0 10,sL 71 70,sS 72 (cB 410 69 71),sM 68 72,sS 73 (eX 68 0),sS 74 (eX 68 1),⟨some 11,.alloc 11 [.pv (.str ⟨#[]⟩),pZ,pZ],none⟩,nN (sT 3 11 73),sM 12 74] [2,3,8,10,11,12,62,63,64] [2,3,10,11])
(sQ
(rG [sM 75 12,sS 76 (nT 75),sM 77 76,gF 78 (mT 8) 77,gF 79 (fL 1 10) 77,gF 80 (lF 1 79) 77,gF 81 (fL 1 11) 77,gF 82 (lF 1 81) 77,gF 83 (.call (tT 78) [(tT 80),(tT 82)]) 77,gF 84 (nT 83) 77,sS 85 (pO 77 84),sM 86 85,gF 87 (mT 8) 86,gF 88 (fL 2 10) 86,gF 89 (lF 1 88) 86,gF 90 (fL 2 11) 86,gF 91 (lF 1 90) 86,gF 92 (.call (tT 87) [(tT 89),(tT 91)]) 86,gF 93 (nT 92) 86,sS 94 (pO 86 93)] [2,3,8,62,63,64,94] [2,3])
(cN 94
(sQ
(rG [sS 4 (mB false),sS 5 (mZ 0)] [4,5] [])
.ret)
.skip)))))
(rG [sS 95 (bZ .add 64 1),sM 64 95] [2,3,8,62,63,64] [2,3]))))))))
(sQ
(sQ
(rG [sF 96 4 2,sL 97 96,sS 98 (lN 0 97),sS 99 (mZ 0)] [2,3,8,97,98,99] [2,3])
(.block 2
(.loop
(.mask [2,3,8,97,98,99] [2,3]
(sQ
(rG [sS 100 (bT .lss 99 98)] [2,3,8,97,98,99,100] [2,3])
(sQ
(cN 100
.skip
(.exit 2))
(sQ
(.block 3
(sQ
(rG [sS 101 (iX 2 97 99),sS 102 (lT 2 101),⟨some 14,.alloc 14 [.pv (.str ⟨#[]⟩),pZ],none⟩,nN (sT 2 14 102)] [2,3,8,14,97,98,99] [2,3,14])
(sQ
(rG [sS 104 (lT 5 3),sF 105 0 14,sL 106 105,sS 107 (cB 414 104 106),sM 103 107,sS 108 (eX 103 0),sS 109 (eX 103 1),⟨some 15,.alloc 15 [.pv (.str ⟨#[]⟩),pZ],none⟩,nN (sT 2 15 108),sM 16 109] [2,3,8,14,15,16,97,98,99] [2,3,14,15])
(sQ
(rG [sM 110 16,sS 111 (nT 110),sM 112 111,gF 113 (mT 8) 112,gF 114 (fL 1 14) 112,gF 115 (lF 1 114) 112,gF 116 (fL 1 15) 112,gF 117 (lF 1 116) 112,gF 118 (.call (tT 113) [(tT 115),(tT 117)]) 112,gF 119 (nT 118) 112,sS 120 (pO 112 119)] [2,3,8,97,98,99,120] [2,3])
(cN 120
(sQ
(rG [sS 4 (mB false),sS 5 (mZ 0)] [4,5] [])
.ret)
.skip)))))
(rG [sS 121 (bZ .add 99 1),sM 99 121] [2,3,8,97,98,99] [2,3]))))))))
(sQ
(sQ
(rG [sF 122 3 2,sL 123 122,sS 124 (lN 0 123),sS 125 (mZ 0)] [3,8,123,124,125] [2,3])
(.block 4
(.loop
(.mask [3,8,123,124,125] [2,3]
(sQ
(rG [sS 126 (bT .lss 125 124)] [3,8,123,124,125,126] [2,3])
(sQ
(cN 126
.skip
(.exit 4))
(sQ
(.block 5
(sQ
(rG [sS 127 (iX 5 123 125),sS 128 (lT 5 127),⟨some 18,.alloc 18 [.pv (.str ⟨#[]⟩),.tl [],pZ,pZ,.tl []],none⟩,nN (sT 5 18 128)] [3,8,18,123,124,125] [2,3,18])
(sQ
(rG [sS 130 (lT 5 3),sF 131 0 18,sL 132 131,sS 133 (cB 412 130 132),sM 129 133,sS 134 (eX 129 0),sS 135 (eX 129 1),⟨some 19,.alloc 19 [.pv (.str ⟨#[]⟩),.tl [],pZ,pZ,.tl []],none⟩,nN (sT 5 19 134),sM 20 135] [3,8,18,19,20,123,124,125] [2,3,18,19])
(sQ
(sQ
(rG [sM 136 20,sS 137 (nT 136),sM 138 137,gF 139 (fL 1 18) 138,gF 140 (lF 1 139) 138,gF 141 (lN 0 140) 138,gF 142 (fL 1 19) 138,gF 143 (lF 1 142) 138,gF 144 (lN 0 143) 138,gF 145 (bT .neq 141 144) 138,sS 146 (pO 138 145)] [3,8,18,19,123,124,125,146] [2,3,18,19])
(cN 146
(sQ
(rG [sS 4 (mB false),sS 5 (mZ 0)] [4,5] [])
.ret)
.skip))
(sQ
(sQ
(rG [sF 147 1 18,sL 148 147,sS 149 (lN 0 148),sS 150 (mZ 0)] [3,8,18,19,123,124,125,148,149,150] [2,3,18,19])
(.block 6
(.loop
(.mask [3,8,18,19,123,124,125,148,149,150] [2,3,18,19]
(sQ
(rG [sS 151 (bT .lss 150 149)] [3,8,18,19,123,124,125,148,149,150,151] [2,3,18,19])
(sQ
(cN 151
.skip
(.exit 6))
(sQ
(.block 7
(sQ
(rG [sM 152 150,sS 153 (iX 3 148 150),sS 154 (lT 3 153),⟨some 22,.alloc 22 [pZ,.pv (.str ⟨#[]⟩),pZ],none⟩,sM 21 152,nN (sT 3 22 154)] [3,8,18,19,21,22,123,124,125,148,149,150] [2,3,18,19,22])
(sQ
(.draw [(sF 155 0 22,[]),(sL 156 155,[]),(sF 157 1 19,[]),(sL 158 157,[]),(sM 159 21,[]),(sS 160 (iX 3 158 159),[]),(sF 161 0 160,[]),(sL 162 161,[]),(sS 163 (bT .neq 156 162),[]),(sM 164 163,[]),(gF 165 (mT 8) 164,[]),(gF 166 (fL 2 22) 164,[]),(gF 167 (lF 1 166) 164,[]),(gF 168 (fL 1 19) 164,[]),(gF 169 (lF 1 168) 164,[]),(gF 170 (mT 21) 164,[]),(gF 171 (iX 3 169 170) 164,[]),(gF 172 (fL 2 171) 164,[]),(gF 173 (lF 1 172) 164,[]),(gF 174 (.call (tT 165) [(tT 167),(tT 173)]) 164,[]),(gF 175 (nT 174) 164,[]),(sS 176 (pO 164 175),[])] [3,8,18,19,123,124,125,148,149,150,176] [2,3,18,19])
(cN 176
(sQ
(rG [sS 4 (mB false),sS 5 (mZ 0)] [4,5] [])
.ret)
.skip))))
(rG [sS 177 (bZ .add 150 1),sM 150 177] [3,8,18,19,123,124,125,148,149,150] [2,3,18,19]))))))))
(sQ
(rG [sF 179 2 18,sS 180 (lT 3 179),sF 181 2 19,sS 182 (lT 3 181),sS 183 (cB 16 180 182),sM 178 183,sS 184 (eX 178 0),sS 185 (eX 178 1),sM 23 184,sM 24 185] [3,8,23,123,124,125] [2,3])
(sQ
(rG [sM 186 23,sS 187 (nT 186)] [3,8,123,124,125,187] [2,3])
(cN 187
(sQ
(rG [sS 4 (mB false),sS 5 (mZ 0)] [4,5] [])
.ret)
.skip))))))))
(rG [sS 188 (bZ .add 125 1),sM 125 188] [3,8,123,124,125] [2,3]))))))))
(sQ
(rG [sS 4 (mB true),sS 5 (mZ 0)] [4,5] [])
.ret))))))))),[.tmp 4,.tmp 5],false,false,false⟩
def F433:aa:=⟨0,(sQ
(rG [⟨some 0,.alloc 0 [.pv (.str ⟨#[]⟩),.tl [],.tl [],.tl [],.tl []],none⟩] [0] [0])
(sQ
(rG [sS 1 (.eJ (.val (.func 460 [])))] [0,1] [0])
(sQ
(.sg 5 [(sM 2 1,[]),(sS 3 (.gq 0 1 [pZ] 1 [(0,1,(zZ 1))]),[]),(⟨some 4,.call (tT 2) [(.val (.pv (.str ⟨#[79,114,100,101,114]⟩))),(tT 3)],none⟩,[]),(sM 5 1,[]),(⟨some 6,.call (tT 5) [(.val (.pv (.str ⟨#[73,116,101,109]⟩))),(.val (.tl []))],none⟩,[]),(sM 7 1,[]),(sS 8 (.gq 1 1 [pZ] 1 [(0,1,(zZ 1))]),[]),(⟨some 9,.call (tT 7) [(.val (.pv (.str ⟨#[79,108,100]⟩))),(tT 8)],none⟩,[]),(⟨some 10,.gq 2 10 [pZ,.pv (.str ⟨#[]⟩),pZ,pZ,pZ,.tl [],.tl [],pZ,pZ,.pv (.bool false)] 3 [(0,10,(tT 4)),(10,10,(tT 6)),(20,10,(tT 9))],none⟩,[]),(sS 11 (.build [.tl []] [(0,1,(tT 10))]),[]),(⟨some 12,.build [.pv (.str ⟨#[]⟩),pZ,pZ] [(0,1,(.val (.pv (.str ⟨#[71,101,116]⟩)))),(1,1,(zZ 1)),(2,1,(zZ 0))],none⟩,[]),(⟨some 13,.gq 3 3 [.pv (.str ⟨#[]⟩),pZ,pZ] 1 [(0,3,(tT 12))],none⟩,[]),(⟨some 14,.build [.pv (.str ⟨#[]⟩),pZ] [(0,1,(.val (.pv (.str ⟨#[79,114,100,101,114,115]⟩)))),(1,1,(zZ 0))],none⟩,[]),(⟨some 15,.gq 4 2 [.pv (.str ⟨#[]⟩),pZ] 1 [(0,2,(tT 14))],none⟩,[]),(⟨some 16,.build [.pv (.str ⟨#[]⟩),.tl [],.tl [],.tl [],.tl []] [(0,1,(.val (.pv (.str ⟨#[118,49]⟩)))),(1,1,(tT 11)),(2,1,(tT 13)),(4,1,(tT 15))],none⟩,[]),(nN (sT 5 0 16),[])] [0] [0])
.ret))),[.cell 0 5 true],true,false,false⟩
def F434:aa:=⟨1,(sQ
(rG [sS 1 (bX 1 5 0),sS 2 (mB false)] [1] [1])
(sQ
(rG [sF 3 1 1,sL 4 3,sS 5 (lN 0 4),sS 6 (bZ .leq 5 20),sM 7 6,gT 8 (fL 2 1) 7,gT 9 (fL 2 8) 7,gT 10 (lF 1 9) 7,gT 11 (lN 0 10) 7,gT 12 (bZ .leq 11 110) 7,sS 13 (pA 7 12),sM 14 13,gT 15 (fL 0 1) 14,gT 16 (lF 1 15) 14,gT 17 (lN 1 16) 14,gT 18 (bZ .leq 17 100) 14,sS 19 (pA 14 18),sM 2 19] [2] [])
.ret)),[.tmp 2],false,false,false⟩
def F435:aa:=⟨1,(sQ
(rG [sS 1 (bX 1 1 0),sS 2 (mZ 0)] [1] [1])
(sQ
(rG [sS 7 (lT 1 1),sS 8 (cA 461 7),sM 6 8,sS 9 (eX 6 0),sS 10 (eX 6 1),sM 3 9,sM 4 10] [3,4] [])
(sQ
(sQ
(rG [sM 11 4,sS 12 (bZ .neq 11 0)] [3,4,12] [])
(cN 12
(sQ
(rG [sM 13 4,sM 2 13] [2] [])
.ret)
.skip))
(sQ
(sQ
(rG [sS 5 (mZ 0)] [3,5] [])
(.block 0
(.loop
(.mask [3,5] []
(sQ
(sQ
(rG [sM 14 5,sM 15 3,sS 16 (lN 0 15),sS 17 (bT .lss 14 16)] [3,5,17] [])
(cN 17
.skip
(.exit 0)))
(sQ
(.block 1
(sQ
(rG [sM 20 3,sM 21 5,sS 22 (iX 1 20 21),sL 23 22,sS 24 (nT 23)] [3,5,24] [])
(cN 24
(sQ
(rG [sS 2 (mZ 10)] [2] [])
.ret)
.skip)))
(rG [sM 18 5,sS 19 (bZ .add 18 1),sM 5 19] [3,5] [])))))))
(sQ
(rG [sS 2 (mZ 0)] [2] [])
.ret))))),[.tmp 2],false,false,false⟩
def F436:aa:=⟨1,(sQ
(rG [sS 1 (bX 1 5 0),sS 2 (mZ 0)] [1] [1])
(sQ
(sQ
(rG [sS 3 (mZ 0)] [1,3] [1])
(.block 0
(.loop
(.mask [1,3] [1]
(sQ
(sQ
(rG [sM 6 3,sF 7 2 1,sL 8 7,sS 9 (lN 0 8),sS 10 (bT .lss 6 9)] [1,3,10] [1])
(cN 10
.skip
(.exit 0)))
(sQ
(.block 1
(sQ
(rG [sF 13 2 1,sL 14 13,sM 15 3,sS 16 (iX 3 14 15),sS 17 (lT 3 16),⟨some 4,.alloc 4 [.pv (.str ⟨#[]⟩),pZ,pZ],none⟩,nN (sT 3 4 17)] [1,3,4] [1,4])
(sQ
(sQ
(rG [sF 18 0 4,sL 19 18,sS 20 (cA 310 19),sS 21 (nT 20)] [1,3,4,21] [1,4])
(cN 21
(sQ
(rG [sS 2 (mZ 1)] [2] [])
.ret)
.skip))
(sQ
(sQ
(rG [sS 5 (mZ 0)] [1,3,4,5] [1,4])
(.block 2
(.loop
(.mask [1,3,4,5] [1,4]
(sQ
(sQ
(rG [sM 22 5,sM 23 3,sS 24 (bT .lss 22 23)] [1,3,4,5,24] [1,4])
(cN 24
.skip
(.exit 2)))
(sQ
(.block 3
(sQ
(.draw [(sF 27 2 1,[]),(sL 28 27,[]),(sM 29 5,[]),(sS 30 (iX 3 28 29),[]),(sF 31 0 30,[]),(sL 32 31,[]),(sF 33 0 4,[]),(sL 34 33,[]),(sS 35 (bT .eql 32 34),[])] [1,3,4,5,35] [1,4])
(cN 35
(sQ
(rG [sS 2 (mZ 5)] [2] [])
.ret)
.skip)))
(rG [sM 25 5,sS 26 (bZ .add 25 1),sM 5 26] [1,3,4,5] [1,4])))))))
(sQ
(rG [sF 36 1 1,sS 37 (lT 1 36),sF 38 1 4,sL 39 38,sS 40 (cB 462 37 39),sS 41 (nT 40),sM 42 41,gF 43 (fL 1 1) 42,gF 44 (lT 1 43) 42,gF 45 (fL 2 4) 42,gF 46 (lF 1 45) 42,gF 47 (cB 462 44 46) 42,gF 48 (nT 47) 42,sS 49 (pO 42 48)] [1,3,49] [1])
(cN 49
(sQ
(rG [sS 2 (mZ 4)] [2] [])
.ret)
.skip))))))
(rG [sM 11 3,sS 12 (bZ .add 11 1),sM 3 12] [1,3] [1])))))))
(sQ
(rG [sS 2 (mZ 0)] [2] [])
.ret))),[.tmp 2],false,false,false⟩
def F437:aa:=⟨1,(sQ
(rG [sS 1 (bX 1 5 0),sS 2 (mZ 0)] [1] [1])
(sQ
(sQ
(rG [sS 3 (mZ 0)] [1,3] [1])
(.block 0
(.loop
(.mask [1,3] [1]
(sQ
(sQ
(rG [sM 6 3,sF 7 3 1,sL 8 7,sS 9 (lN 0 8),sS 10 (bT .lss 6 9)] [1,3,10] [1])
(cN 10
.skip
(.exit 0)))
(sQ
(.block 1
(sQ
(sQ
(rG [sS 4 (mZ 0)] [1,3,4] [1])
(.block 2
(.loop
(.mask [1,3,4] [1]
(sQ
(sQ
(rG [sM 13 4,sM 14 3,sS 15 (bT .lss 13 14)] [1,3,4,15] [1])
(cN 15
.skip
(.exit 2)))
(sQ
(.block 3
(sQ
(.draw [(sF 18 3 1,[]),(sL 19 18,[]),(sM 20 4,[]),(sS 21 (iX 5 19 20),[]),(sF 22 0 21,[]),(sL 23 22,[]),(sF 24 3 1,[]),(sL 25 24,[]),(sM 26 3,[]),(sS 27 (iX 5 25 26),[]),(sF 28 0 27,[]),(sL 29 28,[]),(sS 30 (bT .eql 23 29),[])] [1,3,4,30] [1])
(cN 30
(sQ
(rG [sS 2 (mZ 5)] [2] [])
.ret)
.skip)))
(rG [sM 16 4,sS 17 (bZ .add 16 1),sM 4 17] [1,3,4] [1])))))))
(sQ
(.draw [(sF 31 1 1,[]),(sS 32 (lT 1 31),[]),(sF 33 3 1,[]),(sL 34 33,[]),(sM 35 3,[]),(sS 36 (iX 5 34 35),[]),(sS 37 (lT 5 36),[]),(sS 38 (cB 463 32 37),[]),(sM 5 38,[])] [1,3,5] [1])
(sQ
(rG [sM 39 5,sS 40 (bZ .neq 39 0)] [1,3,5,40] [1])
(cN 40
(sQ
(rG [sM 41 5,sM 2 41] [2] [])
.ret)
.skip)))))
(rG [sM 11 3,sS 12 (bZ .add 11 1),sM 3 12] [1,3] [1])))))))
(sQ
(rG [sS 2 (mZ 0)] [2] [])
.ret))),[.tmp 2],false,false,false⟩
def F438:aa:=⟨1,(sQ
(rG [sS 1 (bX 1 5 0),sS 2 (mZ 0)] [1] [1])
(sQ
(sQ
(rG [sS 3 (mZ 0)] [1,3] [1])
(.block 0
(.loop
(.mask [1,3] [1]
(sQ
(sQ
(rG [sM 6 3,sF 7 4 1,sL 8 7,sS 9 (lN 0 8),sS 10 (bT .lss 6 9)] [1,3,10] [1])
(cN 10
.skip
(.exit 0)))
(sQ
(.block 1
(sQ
(rG [sF 13 4 1,sL 14 13,sM 15 3,sS 16 (iX 2 14 15),sS 17 (lT 2 16),⟨some 4,.alloc 4 [.pv (.str ⟨#[]⟩),pZ],none⟩,nN (sT 2 4 17)] [1,3,4] [1,4])
(sQ
(sQ
(rG [sF 18 0 4,sL 19 18,sS 20 (cA 310 19),sS 21 (nT 20)] [1,3,4,21] [1,4])
(cN 21
(sQ
(rG [sS 2 (mZ 1)] [2] [])
.ret)
.skip))
(sQ
(sQ
(rG [sS 5 (mZ 0)] [1,3,4,5] [1,4])
(.block 2
(.loop
(.mask [1,3,4,5] [1,4]
(sQ
(sQ
(rG [sM 22 5,sM 23 3,sS 24 (bT .lss 22 23)] [1,3,4,5,24] [1,4])
(cN 24
.skip
(.exit 2)))
(sQ
(.block 3
(sQ
(.draw [(sF 27 4 1,[]),(sL 28 27,[]),(sM 29 5,[]),(sS 30 (iX 2 28 29),[]),(sF 31 0 30,[]),(sL 32 31,[]),(sF 33 0 4,[]),(sL 34 33,[]),(sS 35 (bT .eql 32 34),[])] [1,3,4,5,35] [1,4])
(cN 35
(sQ
(rG [sS 2 (mZ 5)] [2] [])
.ret)
.skip)))
(rG [sM 25 5,sS 26 (bZ .add 25 1),sM 5 26] [1,3,4,5] [1,4])))))))
(sQ
(rG [sF 36 1 1,sS 37 (lT 1 36),sF 38 1 4,sL 39 38,sS 40 (cB 462 37 39),sS 41 (nT 40)] [1,3,41] [1])
(cN 41
(sQ
(rG [sS 2 (mZ 4)] [2] [])
.ret)
.skip))))))
(rG [sM 11 3,sS 12 (bZ .add 11 1),sM 3 12] [1,3] [1])))))))
(sQ
(rG [sS 2 (mZ 0)] [2] [])
.ret))),[.tmp 2],false,false,false⟩
def F439:aa:=⟨1,(sQ
(rG [sS 1 (bX 1 1 0),sS 2 (mZ 0)] [1] [1])
(sQ
(rG [sS 8 (lT 1 1),sS 9 (cA 464 8),sM 7 9,sS 10 (eX 7 0),sS 11 (eX 7 1),sM 3 10,sM 4 11] [3,4] [])
(sQ
(sQ
(rG [sM 12 4,sS 13 (bZ .neq 12 0)] [3,4,13] [])
(cN 13
(sQ
(rG [sM 14 4,sM 2 14] [2] [])
.ret)
.skip))
(sQ
(sQ
(rG [sM 15 3,sS 16 (lN 0 15),sS 17 (mZ 0)] [15,16,17] [])
(.block 0
(.loop
(.mask [15,16,17] []
(sQ
(rG [sS 18 (bT .lss 17 16)] [15,16,17,18] [])
(sQ
(cN 18
.skip
(.exit 0))
(sQ
(.block 1
(sQ
(rG [sS 19 (iX 1 15 17),sL 20 19,sM 6 20] [6,15,16,17] [])
(sQ
(rG [sM 21 6,sS 22 (nT 21)] [15,16,17,22] [])
(cN 22
(sQ
(rG [sS 2 (mZ 10)] [2] [])
.ret)
.skip))))
(rG [sS 23 (bZ .add 17 1),sM 17 23] [15,16,17] []))))))))
(sQ
(rG [sS 2 (mZ 0)] [2] [])
.ret))))),[.tmp 2],false,false,false⟩
def F440:aa:=⟨2,(sQ
(rG [sS 3 (mB false)] [0,1] [])
(sQ
(rG [sM 4 0,sS 5 (bZ .lss 4 0),sM 6 5,gF 7 (mT 0) 6,gF 8 (fL 1 1) 6,gF 9 (fL 0 8) 6,gF 10 (lF 1 9) 6,gF 11 (lN 0 10) 6,gF 12 (bT .geq 7 11) 6,sS 13 (pO 6 12),sM 3 13] [3] [])
.ret)),[.tmp 3],false,false,false⟩
def F441:aa:=⟨2,(sQ
(rG [sS 4 (mZ 0)] [0,1] [])
(sQ
(sQ
(rG [sM 5 1,sS 6 (cA 306 5),sS 7 (nT 6)] [0,1,7] [])
(cN 7
(sQ
(rG [sS 4 (mZ 1)] [4] [])
.ret)
.skip))
(sQ
(sQ
(rG [sM 8 0,sS 9 (.dX (tT 8)),sF 10 0 9,sL 11 10,sM 12 1,sS 13 (cB 465 11 12)] [0,1,13] [])
(cN 13
(sQ
(rG [sS 4 (mZ 5)] [4] [])
.ret)
.skip))
(sQ
(rG [sM 14 0,sM 15 0,sS 16 (.dX (tT 15)),sF 17 0 16,sL 18 17,sM 19 1,⟨some 20,.lit 1 [.pv (.str ⟨#[]⟩)] 1 [(0,1,(tT 19))],none⟩,sS 21 (aP 1 18 20),sS 22 (.dX (tT 14)),sF 23 0 22,nN (sT 1 23 21)] [] [])
(sQ
(rG [sS 4 (mZ 0)] [4] [])
.ret))))),[.tmp 4],false,false,true⟩
def F442:aa:=⟨2,(sQ
(rG [sS 4 (mB false)] [0,1] [])
(sQ
(rG [sM 5 0,sM 6 1,sS 7 (cB 448 5 6),sS 8 (bZ .geq 7 0),sM 4 8] [4] [])
.ret)),[.tmp 4],false,false,false⟩
def F443:aa:=⟨2,(sQ
(rG [sS 2 (bX 2 5 0),sS 3 (mB false)] [1,2] [2])
(sQ
(rG [sF 4 0 2,sL 5 4,sF 6 0 1,sL 7 6,sS 8 (bT .eql 5 7),sM 3 8] [3] [])
.ret)),[.tmp 3],false,false,false⟩
def F444:aa:=⟨2,(sQ
(rG [sS 2 (bX 2 1 0),sS 3 (bX 3 5 1),sS 4 (mZ 0)] [2,3] [2,3])
(sQ
(sQ
(rG [sS 6 (lT 1 2),sS 7 (cA 267 6),sM 5 7] [2,3,5] [2,3])
(sQ
(rG [sM 8 5,sS 9 (bZ .neq 8 0)] [2,3,5,9] [2,3])
(cN 9
(sQ
(rG [sM 10 5,sM 4 10] [4] [])
.ret)
.skip)))
(sQ
(rG [sS 11 (lT 1 2),sS 12 (lT 5 3),sS 13 (cB 466 11 12),sM 4 13] [4] [])
.ret))),[.tmp 4],false,false,false⟩
def F445:aa:=⟨1,(sQ
(rG [sS 1 (bX 1 5 0),⟨some 2,.alloc 2 [.pv (.str ⟨#[]⟩),.tl [],pZ,pZ,.tl []],none⟩] [1,2] [1,2])
(sQ
(rG [sF 3 1 1,sL 4 3,sS 5 (cA 467 4),sF 6 1 1,nN (sT 1 6 5)] [1,2] [1,2])
(sQ
(rG [sF 7 2 1,sF 8 2 7,sL 9 8,sS 10 (cA 64 9),sF 11 2 1,sF 12 2 11,nN (sT 1 12 10)] [1,2] [1,2])
(sQ
(rG [sS 13 (lT 5 1),nN (sT 5 2 13)] [2] [2])
.ret)))),[.cell 2 5 true],true,false,false⟩
def F446:aa:=⟨2,(sQ
(rG [sS 4 (mZ 0)] [0,1] [])
(sQ
(sQ
(rG [sM 6 0,sS 7 (lN 0 6),sS 8 (mZ 0)] [0,1,7,8] [])
(.block 0
(.loop
(.mask [0,1,7,8] []
(sQ
(rG [sS 9 (bT .lss 8 7)] [0,1,7,8,9] [])
(sQ
(cN 9
.skip
(.exit 0))
(sQ
(.block 1
(sQ
(rG [sM 10 8,sM 5 10] [0,1,5,7,8] [])
(sQ
(rG [sM 11 1,sM 12 0,sM 13 5,sS 14 (iX 3 12 13),sS 15 (lT 3 14),sS 16 (.call (tT 11) [(tT 15)])] [0,1,5,7,8,16] [])
(cN 16
(sQ
(rG [sM 17 5,sM 4 17] [4] [])
.ret)
.skip))))
(rG [sS 18 (bZ .add 8 1),sM 8 18] [0,1,7,8] []))))))))
(sQ
(rG [sS 4 (.eJ (.val (.pv (.int .i64 (-1)))))] [4] [])
.ret))),[.tmp 4],false,false,false⟩
def F447:aa:=⟨2,(sQ
(rG [sS 2 (bX 2 3 0),sS 3 (mB false)] [1,2] [2])
(sQ
(rG [sF 4 0 2,sL 5 4,sL 6 1,sS 7 (bT .eql 5 6),sM 3 7] [3] [])
.ret)),[.tmp 3],false,false,false⟩
def F448:aa:=⟨2,(sQ
(rG [sS 4 (mZ 0)] [0,1] [])
(sQ
(sQ
(rG [sM 6 0,sS 7 (lN 0 6),sS 8 (mZ 0)] [0,1,7,8] [])
(.block 0
(.loop
(.mask [0,1,7,8] []
(sQ
(rG [sS 9 (bT .lss 8 7)] [0,1,7,8,9] [])
(sQ
(cN 9
.skip
(.exit 0))
(sQ
(.block 1
(sQ
(rG [sM 10 8,sM 5 10] [0,1,5,7,8] [])
(sQ
(rG [sM 11 1,sM 12 0,sM 13 5,sS 14 (iX 5 12 13),sS 15 (lT 5 14),sS 16 (.call (tT 11) [(tT 15)])] [0,1,5,7,8,16] [])
(cN 16
(sQ
(rG [sM 17 5,sM 4 17] [4] [])
.ret)
.skip))))
(rG [sS 18 (bZ .add 8 1),sM 8 18] [0,1,7,8] []))))))))
(sQ
(rG [sS 4 (.eJ (.val (.pv (.int .i64 (-1)))))] [4] [])
.ret))),[.tmp 4],false,false,false⟩
def F449:aa:=⟨2,(sQ
(rG [sS 2 (bX 2 5 0),sS 3 (mB false)] [1,2] [2])
(sQ
(rG [sF 4 0 2,sL 5 4,sL 6 1,sS 7 (bT .eql 5 6),sM 3 7] [3] [])
.ret)),[.tmp 3],false,false,false⟩
def F450:aa:=⟨2,(sQ
(rG [sS 4 (mZ 0)] [0,1] [])
(sQ
(sQ
(rG [sM 6 0,sS 7 (lN 0 6),sS 8 (mZ 0)] [0,1,7,8] [])
(.block 0
(.loop
(.mask [0,1,7,8] []
(sQ
(rG [sS 9 (bT .lss 8 7)] [0,1,7,8,9] [])
(sQ
(cN 9
.skip
(.exit 0))
(sQ
(.block 1
(sQ
(rG [sM 10 8,sM 5 10] [0,1,5,7,8] [])
(sQ
(rG [sM 11 1,sM 12 0,sM 13 5,sS 14 (iX 2 12 13),sS 15 (lT 2 14),sS 16 (.call (tT 11) [(tT 15)])] [0,1,5,7,8,16] [])
(cN 16
(sQ
(rG [sM 17 5,sM 4 17] [4] [])
.ret)
.skip))))
(rG [sS 18 (bZ .add 8 1),sM 8 18] [0,1,7,8] []))))))))
(sQ
(rG [sS 4 (.eJ (.val (.pv (.int .i64 (-1)))))] [4] [])
.ret))),[.tmp 4],false,false,false⟩
def F451:aa:=⟨2,(sQ
(rG [sS 2 (bX 2 2 0),sS 3 (mB false)] [1,2] [2])
(sQ
(rG [sF 4 0 2,sL 5 4,sL 6 1,sS 7 (bT .eql 5 6),sM 3 7] [3] [])
.ret)),[.tmp 3],false,false,false⟩
def F455:aa:=⟨4,(sQ
(rG [sS 6 (mB false)] [0,1,2,3] [])
(sQ
(rG [sF 7 1 2,sS 8 (lT 1 7),sM 9 0,sS 10 (.build [.tl [],pZ] [(0,1,(tT 8)),(1,1,(tT 9))]),sF 11 1 3,sS 12 (lT 1 11),sM 13 1,sS 14 (.build [.tl [],pZ] [(0,1,(tT 12)),(1,1,(tT 13))]),sS 15 (cB 456 10 14),sM 6 15] [6] [])
.ret)),[.tmp 6],false,false,false⟩
def F456:aa:=⟨2,(sQ
(rG [sS 2 (bX 2 2 0),sS 3 (bX 3 2 1),sS 4 (mB false)] [2,3] [2,3])
(sQ
(rG [sS 5 (lT 2 2),sS 6 (lT 2 3),sS 7 (cL 468 [(tT 5),(tT 6),(bB false)]),sM 4 7] [4] [])
.ret)),[.tmp 4],false,false,false⟩
def F460:aa:=⟨2,(sQ
(rG [⟨some 4,.alloc 4 [pZ,.pv (.str ⟨#[]⟩),pZ,pZ,pZ,.tl [],.tl [],pZ,pZ,.pv (.bool false)],none⟩] [0,1,4] [4])
(sQ
(rG [sM 8 0,⟨some 9,.build [pZ,.pv (.str ⟨#[]⟩),pZ,pZ,pZ,.tl [],.tl [],pZ,pZ,.pv (.bool false)] [(0,1,(zZ 5)),(1,1,(tT 8))],none⟩,⟨some 5,.alloc 5 [pZ,.pv (.str ⟨#[]⟩),pZ,pZ,pZ,.tl [],.tl [],pZ,pZ,.pv (.bool false)],none⟩,nN (sT 10 5 9)] [1,4,5] [4,5])
(sQ
(sQ
(rG [sM 10 1,sS 11 (lN 0 10),sS 12 (mZ 0)] [4,5,10,11,12] [4,5])
(.block 0
(.loop
(.mask [4,5,10,11,12] [4,5]
(sQ
(rG [sS 13 (bT .lss 12 11)] [4,5,10,11,12,13] [4,5])
(sQ
(cN 13
.skip
(.exit 0))
(sQ
(.block 1
(sQ
(rG [sM 14 12,sS 15 (iX 1 10 12),sL 16 15,sM 6 14,sM 7 16] [4,5,6,7,10,11,12] [4,5])
(rG [sF 17 6 5,sL 18 17,sM 19 6,sS 20 (bZ .add 19 1),sM 21 6,sS 22 (.bin .add (zZ 97) (tT 21)),sS 23 (.conv .i32 (tT 22)),sS 24 (.sf (tT 23)),sM 25 7,⟨some 26,.build [pZ,.pv (.str ⟨#[]⟩),pZ,.pv (.bool false),.pv (.bool false),pZ,.pv (.bool false),pZ,.pv (.str ⟨#[]⟩),pZ,.tl [],.tl [],.tl []] [(0,1,(tT 20)),(1,1,(tT 24)),(2,1,(tT 25))],none⟩,⟨some 27,.lit 13 [pZ,.pv (.str ⟨#[]⟩),pZ,.pv (.bool false),.pv (.bool false),pZ,.pv (.bool false),pZ,.pv (.str ⟨#[]⟩),pZ,.tl [],.tl [],.tl []] 1 [(0,13,(tT 26))],none⟩,sS 28 (aP 13 18 27),sF 29 6 5,nN (sT 1 29 28)] [4,5,10,11,12] [4,5])))
(rG [sS 30 (bZ .add 12 1),sM 12 30] [4,5,10,11,12] [4,5]))))))))
(sQ
(rG [sS 31 (lT 10 5),nN (sT 10 4 31)] [4] [4])
.ret)))),[.cell 4 10 true],false,false,false⟩
def F461:aa:=⟨1,(sQ
(rG [sS 1 (bX 1 1 0),sS 2 (.eJ (.val (.tl []))),sS 3 (mZ 0)] [1] [1])
(sQ
(sQ
(rG [sS 8 (lT 1 1),sS 9 (cA 470 8),sM 4 9] [1,4] [1])
(sQ
(rG [sM 10 4,sS 11 (bZ .neq 10 0)] [1,4,11] [1])
(cN 11
(sQ
(rG [sM 12 4,sS 2 (.eJ (.val (.tl []))),sM 3 12] [2,3] [])
.ret)
.skip)))
(sQ
(rG [sS 13 (lT 1 1),sS 14 (cA 471 13),sM 5 14] [5] [])
(sQ
(rG [sS 6 (.eJ (.val (.tl [])))] [5,6] [])
(sQ
(sQ
(rG [sS 7 (mZ 0)] [5,6,7] [])
(.block 0
(.loop
(.mask [5,6,7] []
(sQ
(sQ
(rG [sM 15 7,sM 16 5,sS 17 (lN 0 16),sS 18 (bT .lss 15 17)] [5,6,7,18] [])
(cN 18
.skip
(.exit 0)))
(sQ
(.block 1
(rG [sM 21 6,sM 22 5,sM 23 7,sS 24 (iX 1 22 23),sL 25 24,sS 26 (bZ .gtr 25 0),sS 27 (.lit 1 [.pv (.bool false)] 1 [(0,1,(tT 26))]),sS 28 (aP 1 21 27),sM 6 28] [5,6,7] []))
(rG [sM 19 7,sS 20 (bZ .add 19 1),sM 7 20] [5,6,7] [])))))))
(sQ
(rG [sM 29 6,sM 2 29,sS 3 (mZ 0)] [2,3] [])
.ret)))))),[.tmp 2,.tmp 3],false,false,false⟩
def F462:aa:=⟨2,(sQ
(rG [sS 2 (bX 2 1 0),sS 4 (mB false)] [1,2] [2])
(sQ
(rG [sM 5 1,sS 6 (bZ .geq 5 0),sM 7 6,gT 8 (mT 1) 7,gT 9 (fL 0 2) 7,gT 10 (lF 1 9) 7,gT 11 (lN 0 10) 7,gT 12 (bT .lss 8 11) 7,sS 13 (pA 7 12),sM 4 13] [4] [])
.ret)),[.tmp 4],false,false,false⟩
def F463:aa:=⟨2,(sQ
(rG [sS 2 (bX 2 1 0),sS 3 (bX 3 5 1),sS 4 (mZ 0)] [2,3] [2,3])
(sQ
(sQ
(rG [sS 6 (lT 1 2),sS 7 (cA 268 6),sM 5 7] [2,3,5] [2,3])
(sQ
(rG [sM 8 5,sS 9 (bZ .neq 8 0)] [2,3,5,9] [2,3])
(cN 9
(sQ
(rG [sM 10 5,sM 4 10] [4] [])
.ret)
.skip)))
(sQ
(rG [sS 11 (lT 1 2),sS 12 (lT 5 3),sS 13 (cB 472 11 12),sM 4 13] [4] [])
.ret))),[.tmp 4],false,false,false⟩
def F464:aa:=⟨1,(sQ
(rG [sS 1 (bX 1 1 0),sS 2 (.eJ (.val (.tl []))),sS 3 (mZ 0)] [1] [1])
(sQ
(sQ
(rG [sS 8 (lT 1 1),sS 9 (cA 473 8),sM 4 9] [1,4] [1])
(sQ
(rG [sM 10 4,sS 11 (bZ .neq 10 0)] [1,4,11] [1])
(cN 11
(sQ
(rG [sM 12 4,sS 2 (.eJ (.val (.tl []))),sM 3 12] [2,3] [])
.ret)
.skip)))
(sQ
(rG [sS 5 (.eJ (.val (.tl [])))] [1,5] [1])
(sQ
(sQ
(rG [sS 13 (lT 1 1),sS 14 (cA 474 13),sS 15 (lN 0 14),sS 16 (mZ 0)] [5,14,15,16] [])
(.block 0
(.loop
(.mask [5,14,15,16] []
(sQ
(rG [sS 17 (bT .lss 16 15)] [5,14,15,16,17] [])
(sQ
(cN 17
.skip
(.exit 0))
(sQ
(.block 1
(sQ
(rG [sS 18 (iX 1 14 16),sL 19 18,sM 7 19] [5,7,14,15,16] [])
(rG [sM 20 5,sM 21 7,sS 22 (bZ .gtr 21 0),sS 23 (.lit 1 [.pv (.bool false)] 1 [(0,1,(tT 22))]),sS 24 (aP 1 20 23),sM 5 24] [5,14,15,16] [])))
(rG [sS 25 (bZ .add 16 1),sM 16 25] [5,14,15,16] []))))))))
(sQ
(rG [sM 26 5,sM 2 26,sS 3 (mZ 0)] [2,3] [])
.ret))))),[.tmp 2,.tmp 3],false,false,false⟩
def F465:aa:=⟨2,(sQ
(rG [sS 4 (mB false)] [0,1] [])
(sQ
(rG [sM 5 0,sM 6 1,sS 7 (cB 475 5 6),sS 8 (bZ .geq 7 0),sM 4 8] [4] [])
.ret)),[.tmp 4],false,false,false⟩
def F466:aa:=⟨2,(sQ
(rG [sS 2 (bX 2 1 0),sS 3 (bX 3 5 1),sS 4 (mZ 0)] [2,3] [2,3])
(sQ
(sQ
(rG [sF 17 1 3,sL 18 17,sS 19 (lN 0 18),sS 20 (bZ .gtr 19 16)] [2,3,20] [2,3])
(cN 20
(sQ
(rG [sS 4 (mZ 3)] [4] [])
.ret)
.skip))
(sQ
(rG [sS 21 (.ki),sM 5 21] [2,3,5] [2,3])
(sQ
(rG [sS 6 (mZ 0)] [2,3,5,6] [2,3])
(sQ
(sQ
(rG [sF 22 1 3,sL 23 22,sS 24 (lN 0 23),sS 25 (mZ 0)] [2,3,5,6,23,24,25] [2,3])
(.block 0
(.loop
(.mask [2,3,5,6,23,24,25] [2,3]
(sQ
(rG [sS 26 (bT .lss 25 24)] [2,3,5,6,23,24,25,26] [2,3])
(sQ
(cN 26
.skip
(.exit 0))
(sQ
(.block 1
(sQ
(rG [sS 27 (iX 3 23 25),sS 28 (lT 3 27),⟨some 8,.alloc 8 [pZ,.pv (.str ⟨#[]⟩),pZ],none⟩,nN (sT 3 8 28)] [2,3,5,6,8,23,24,25] [2,3,8])
(sQ
(sQ
(rG [sF 29 0 8,sL 30 29,sM 31 6,sS 32 (bT .leq 30 31),sM 33 32,gF 34 (fL 0 8) 33,gF 35 (lF 1 34) 33,gF 36 (bZ .gtr 35 1000) 33,sS 37 (pO 33 36),sM 38 37,gF 39 (fL 1 8) 38,gF 40 (lF 1 39) 38,gF 41 (cA 306 40) 38,gF 42 (nT 41) 38,sS 43 (pO 38 42),sM 44 43,gF 45 (mT 5) 44,gF 46 (fL 1 8) 44,gF 47 (lF 1 46) 44,gF 48 (.look false [2] (.pv (.bool false)) (tT 45) (tT 47) false) 44,sS 49 (pO 44 48)] [2,3,5,8,23,24,25,49] [2,3,8])
(cN 49
(sQ
(rG [sS 4 (mZ 1)] [4] [])
.ret)
.skip))
(sQ
(rG [sM 50 5,sF 51 1 8,sL 52 51,nN (.zK false [2] (tT 50) (tT 52) (bB true))] [2,3,5,8,23,24,25] [2,3,8])
(rG [sF 53 0 8,sL 54 53,sM 6 54] [2,3,5,6,23,24,25] [2,3])))))
(rG [sS 55 (bZ .add 25 1),sM 25 55] [2,3,5,6,23,24,25] [2,3]))))))))
(sQ
(sQ
(rG [sF 56 0 3,sL 57 56,sS 58 (cA 306 57),sS 59 (nT 58)] [2,3,59] [2,3])
(cN 59
(sQ
(rG [sS 4 (mZ 1)] [4] [])
.ret)
.skip))
(sQ
(sQ
(rG [sF 60 1 3,sL 61 60,sS 62 (lN 0 61),sS 63 (mZ 0)] [2,3,61,62,63] [2,3])
(.block 2
(.loop
(.mask [2,3,61,62,63] [2,3]
(sQ
(rG [sS 64 (bT .lss 63 62)] [2,3,61,62,63,64] [2,3])
(sQ
(cN 64
.skip
(.exit 2))
(sQ
(.block 3
(sQ
(rG [sS 65 (iX 3 61 63),sS 66 (lT 3 65),⟨some 10,.alloc 10 [pZ,.pv (.str ⟨#[]⟩),pZ],none⟩,nN (sT 3 10 66)] [2,3,10,61,62,63] [2,3,10])
(sQ
(rG [sF 67 2 10,sL 68 67,sS 69 (bZ .lss 68 0),sM 70 69,gF 71 (fL 2 10) 70,gF 72 (lF 1 71) 70,gF 73 (fL 0 2) 70,gF 74 (lF 1 73) 70,gF 75 (lN 0 74) 70,gF 76 (bT .geq 72 75) 70,sS 77 (pO 70 76)] [2,3,61,62,63,77] [2,3])
(cN 77
(sQ
(rG [sS 4 (mZ 4)] [4] [])
.ret)
.skip))))
(rG [sS 78 (bZ .add 63 1),sM 63 78] [2,3,61,62,63] [2,3]))))))))
(sQ
(rG [sF 80 2 3,sS 81 (lT 3 80),sS 82 (cA 32 81),sM 79 82,sS 83 (eX 79 0),sS 84 (eX 79 1),sS 11 (.alloc 11 [pZ,pZ,.tl []]),nN (sT 3 11 83),sM 12 84] [3,11,12] [3,11])
(sQ
(sQ
(rG [sM 85 12,sS 86 (bZ .neq 85 0)] [3,11,12,86] [3,11])
(cN 86
(sQ
(rG [sM 87 12,sM 4 87] [4] [])
.ret)
.skip))
(sQ
(sQ
(rG [sF 88 2 3,sF 89 2 88,sL 90 89,sS 91 (lN 0 90),sS 92 (mZ 0)] [3,11,90,91,92] [3,11])
(.block 4
(.loop
(.mask [3,11,90,91,92] [3,11]
(sQ
(rG [sS 93 (bT .lss 92 91)] [3,11,90,91,92,93] [3,11])
(sQ
(cN 93
.skip
(.exit 4))
(sQ
(.block 5
(sQ
(rG [sS 94 (iX 4 90 92),sS 95 (lT 4 94),sS 14 (.alloc 14 [pZ,.pv (.bool false),pZ,pZ]),nN (sT 4 14 95)] [3,11,14,90,91,92] [3,11,14])
(sQ
(rG [sS 97 (lT 5 3),sF 98 2 14,sL 99 98,sS 100 (cB 476 97 99),sM 96 100,sS 101 (eX 96 0),sS 102 (eX 96 1),⟨some 15,.alloc 15 [pZ,.pv (.str ⟨#[]⟩),pZ],none⟩,nN (sT 3 15 101),sM 16 102] [3,11,16,90,91,92] [3,11])
(sQ
(rG [sM 103 16,sS 104 (nT 103)] [3,11,90,91,92,104] [3,11])
(cN 104
(sQ
(rG [sS 4 (mZ 4)] [4] [])
.ret)
.skip)))))
(rG [sS 105 (bZ .add 92 1),sM 92 105] [3,11,90,91,92] [3,11]))))))))
(sQ
(sQ
(rG [sF 106 0 11,sL 107 106,sF 108 2 3,sF 109 0 108,sL 110 109,sS 111 (bT .lss 107 110)] [111] [])
(cN 111
(sQ
(rG [sS 4 (mZ 1)] [4] [])
.ret)
.skip))
(sQ
(rG [sS 4 (mZ 0)] [4] [])
.ret)))))))))))),[.tmp 4],false,false,false⟩
def F468:aa:=⟨3,(sQ
(rG [sS 3 (bX 3 2 0),sS 4 (bX 4 2 1),sS 6 (mB false)] [2,3,4] [3,4])
(sQ
(.draw [(sS 7 (lT 2 3),[]),(sS 8 (cA 477 7),[]),(sS 9 (bZ .eql 8 0),[]),(sM 10 9,[]),(gT 11 (lT 2 4) 10,[]),(gT 12 (cA 477 11) 10,[]),(gT 13 (bZ .eql 12 0) 10,[]),(sS 14 (pA 10 13),[]),(sM 15 14,[]),(gT 16 (fL 0 3) 15,[]),(gT 17 (lT 1 16) 15,[]),(gT 18 (fL 0 4) 15,[]),(gT 19 (lT 1 18) 15,[]),(gT 20 (mT 2) 15,[]),(gT 21 (cL 478 [(tT 17),(tT 19),(tT 20)]) 15,[]),(gT 22 (fL 1 3) 15,[]),(gT 23 (lF 1 22) 15,[14]),(gT 24 (iX 1 21 23) 15,[]),(gT 25 (lF 1 24) 15,[]),(gT 26 (fL 1 4) 15,[]),(gT 27 (lF 1 26) 15,[14]),(gT 28 (iX 1 25 27) 15,[]),(gT 29 (lF 1 28) 15,[]),(sS 30 (pA 15 29),[]),(sM 6 30,[])] [6] [])
.ret)),[.tmp 6],false,false,false⟩
def F470:aa:=⟨1,(sQ
(rG [sS 1 (bX 1 1 0),sS 2 (mZ 0)] [1] [1])
(sQ
(sQ
(rG [sS 7 (lT 1 1),sS 8 (cA 268 7),sM 3 8] [1,3] [1])
(sQ
(rG [sM 9 3,sS 10 (bZ .neq 9 0)] [1,3,10] [1])
(cN 10
(sQ
(rG [sM 11 3,sM 2 11] [2] [])
.ret)
.skip)))
(sQ
(rG [sS 13 (lT 1 1),sS 14 (cA 480 13),sM 12 14,sS 15 (eX 12 0),sS 16 (eX 12 1),sS 17 (eX 12 2),sM 4 15,sM 5 16,sM 6 17] [6] [])
(sQ
(rG [sM 18 6,sM 2 18] [2] [])
.ret)))),[.tmp 2],false,false,false⟩
def F471:aa:=⟨1,(sQ
(rG [sS 1 (bX 1 1 0),sS 2 (.eJ (.val (.tl [])))] [1] [1])
(sQ
(rG [sF 6 0 1,sL 7 6,sS 8 (lN 0 7),sS 9 (.make 1 [pZ] (tT 8) (tT 8)),sM 3 9] [1,3] [1])
(sQ
(sQ
(rG [sS 4 (mZ 0)] [1,3,4] [1])
(.block 0
(.loop
(.mask [1,3,4] [1]
(sQ
(sQ
(rG [sM 10 4,sF 11 0 1,sL 12 11,sS 13 (lN 0 12),sS 14 (.bin .mul (zZ 2) (tT 13)),sS 15 (bT .leq 10 14)] [1,3,4,15] [1])
(cN 15
.skip
(.exit 0)))
(sQ
(.block 1
(sQ
(rG [sS 5 (mZ 0)] [1,3,4,5] [1])
(.block 2
(.loop
(.mask [1,3,4,5] [1]
(sQ
(sQ
(rG [sM 18 5,sF 19 0 1,sL 20 19,sS 21 (lN 0 20),sS 22 (bT .lss 18 21)] [1,3,4,5,22] [1])
(cN 22
.skip
(.exit 2)))
(sQ
(.block 3
(rG [sM 25 3,sM 26 5,sF 27 0 1,sL 28 27,sM 29 5,sS 30 (iX 10 28 29),sS 31 (lT 10 30),sM 32 3,sS 33 (cB 481 31 32),sS 34 (iX 1 25 26),nN (sT 1 34 33)] [1,3,4,5] [1]))
(rG [sM 23 5,sS 24 (bZ .add 23 1),sM 5 24] [1,3,4,5] [1]))))))))
(rG [sM 16 4,sS 17 (bZ .add 16 1),sM 4 17] [1,3,4] [1])))))))
(sQ
(rG [sM 35 3,sM 2 35] [2] [])
.ret)))),[.tmp 2],false,false,false⟩
def F472:aa:=⟨2,(sQ
(rG [sS 2 (bX 2 1 0),sS 3 (bX 3 5 1),sS 4 (mZ 0)] [2,3] [2,3])
(sQ
(sQ
(rG [sF 11 1 3,sL 12 11,sS 13 (lN 0 12),sS 14 (bZ .gtr 13 16)] [2,3,14] [2,3])
(cN 14
(sQ
(rG [sS 4 (mZ 3)] [4] [])
.ret)
.skip))
(sQ
(sQ
(rG [sS 15 (lT 5 3),sS 16 (cA 482 15),sS 17 (nT 16)] [2,3,17] [2,3])
(cN 17
(sQ
(rG [sS 4 (mZ 1)] [4] [])
.ret)
.skip))
(sQ
(sQ
(rG [sS 5 (mZ 0)] [2,3,5] [2,3])
(.block 0
(.loop
(.mask [2,3,5] [2,3]
(sQ
(sQ
(rG [sM 18 5,sF 19 1 3,sL 20 19,sS 21 (lN 0 20),sS 22 (bT .lss 18 21)] [2,3,5,22] [2,3])
(cN 22
.skip
(.exit 0)))
(sQ
(.block 1
(sQ
(.draw [(sF 25 1 3,[]),(sL 26 25,[]),(sM 27 5,[]),(sS 28 (iX 3 26 27),[]),(sF 29 2 28,[]),(sL 30 29,[]),(sS 31 (bZ .lss 30 0),[]),(sM 32 31,[]),(gF 33 (fL 1 3) 32,[]),(gF 34 (lF 1 33) 32,[]),(gF 35 (mT 5) 32,[]),(gF 36 (iX 3 34 35) 32,[]),(gF 37 (fL 2 36) 32,[]),(gF 38 (lF 1 37) 32,[]),(gF 39 (fL 0 2) 32,[]),(gF 40 (lF 1 39) 32,[]),(gF 41 (lN 0 40) 32,[]),(gF 42 (bT .geq 38 41) 32,[]),(sS 43 (pO 32 42),[])] [2,3,5,43] [2,3])
(cN 43
(sQ
(rG [sS 4 (mZ 4)] [4] [])
.ret)
.skip)))
(rG [sM 23 5,sS 24 (bZ .add 23 1),sM 5 24] [2,3,5] [2,3])))))))
(sQ
(rG [sF 45 2 3,sS 46 (lT 3 45),sS 47 (cA 33 46),sM 44 47,sS 48 (eX 44 0),sS 49 (eX 44 1),sS 6 (.alloc 6 [pZ,pZ,.tl []]),nN (sT 3 6 48),sM 7 49] [3,6,7] [3,6])
(sQ
(sQ
(rG [sM 50 7,sS 51 (bZ .neq 50 0)] [3,6,7,51] [3,6])
(cN 51
(sQ
(rG [sM 52 7,sM 4 52] [4] [])
.ret)
.skip))
(sQ
(sQ
(rG [sS 8 (mZ 0)] [3,6,8] [3,6])
(.block 2
(.loop
(.mask [3,6,8] [3,6]
(sQ
(sQ
(rG [sM 53 8,sF 54 2 3,sF 55 2 54,sL 56 55,sS 57 (lN 0 56),sS 58 (bT .lss 53 57)] [3,6,8,58] [3,6])
(cN 58
.skip
(.exit 2)))
(sQ
(.block 3
(sQ
(.draw [(sS 62 (lT 5 3),[]),(sF 63 2 3,[]),(sF 64 2 63,[]),(sL 65 64,[]),(sM 66 8,[]),(sS 67 (iX 4 65 66),[]),(sF 68 2 67,[]),(sL 69 68,[]),(sS 70 (cB 483 62 69),[]),(sM 61 70,[]),(sS 71 (eX 61 0),[]),(sS 72 (eX 61 1),[]),(⟨some 9,.alloc 9 [pZ,.pv (.str ⟨#[]⟩),pZ],none⟩,[0,3,5,7,8]),(nN (sT 3 9 71),[]),(sM 10 72,[])] [3,6,8,10] [3,6])
(sQ
(rG [sM 73 10,sS 74 (nT 73)] [3,6,8,74] [3,6])
(cN 74
(sQ
(rG [sS 4 (mZ 4)] [4] [])
.ret)
.skip))))
(rG [sM 59 8,sS 60 (bZ .add 59 1),sM 8 60] [3,6,8] [3,6])))))))
(sQ
(sQ
(rG [sF 75 0 6,sL 76 75,sF 77 2 3,sF 78 0 77,sL 79 78,sS 80 (bT .neq 76 79)] [80] [])
(cN 80
(sQ
(rG [sS 4 (mZ 1)] [4] [])
.ret)
.skip))
(sQ
(rG [sS 4 (mZ 0)] [4] [])
.ret))))))))),[.tmp 4],false,false,false⟩
def F473:aa:=⟨1,(sQ
(rG [sS 1 (bX 1 1 0),sS 2 (mZ 0)] [1] [1])
(sQ
(sQ
(rG [sS 7 (lT 1 1),sS 8 (cA 267 7),sM 3 8] [1,3] [1])
(sQ
(rG [sM 9 3,sS 10 (bZ .neq 9 0)] [1,3,10] [1])
(cN 10
(sQ
(rG [sM 11 3,sM 2 11] [2] [])
.ret)
.skip)))
(sQ
(rG [sS 13 (lT 1 1),sS 14 (cA 484 13),sM 12 14,sS 15 (eX 12 0),sS 16 (eX 12 1),sS 17 (eX 12 2),sM 4 15,sM 5 16,sM 6 17] [6] [])
(sQ
(rG [sM 18 6,sM 2 18] [2] [])
.ret)))),[.tmp 2],false,false,false⟩
def F474:aa:=⟨1,(sQ
(rG [sS 1 (bX 1 1 0),sS 2 (.eJ (.val (.tl [])))] [1] [1])
(sQ
(rG [sF 8 0 1,sL 9 8,sS 10 (lN 0 9),sS 11 (.make 1 [pZ] (tT 10) (tT 10)),sM 3 11] [1,3] [1])
(sQ
(sQ
(rG [sS 4 (mB true)] [1,3,4] [1])
(.block 0
(.loop
(.mask [1,3,4] [1]
(sQ
(sQ
(rG [sM 12 4] [1,3,12] [1])
(cN 12
.skip
(.exit 0)))
(.block 1
(sQ
(rG [sS 4 (mB false)] [1,3,4] [1])
(sQ
(rG [sF 13 0 1,sL 14 13,sS 15 (lN 0 14),sS 16 (mZ 0)] [1,3,4,14,15,16] [1])
(.block 2
(.loop
(.mask [1,3,4,14,15,16] [1]
(sQ
(rG [sS 17 (bT .lss 16 15)] [1,3,4,14,15,16,17] [1])
(sQ
(cN 17
.skip
(.exit 2))
(sQ
(.block 3
(sQ
(rG [sM 18 16,sS 19 (iX 10 14 16),sS 20 (lT 10 19),⟨some 6,.alloc 6 [pZ,.pv (.str ⟨#[]⟩),pZ,pZ,pZ,.tl [],.tl [],pZ,pZ,.pv (.bool false)],none⟩,sM 5 18,nN (sT 10 6 20)] [1,3,4,5,6,14,15,16] [1,6])
(sQ
(rG [sS 21 (lT 10 6),sM 22 3,sS 23 (cB 485 21 22),sS 24 (.er false [(zZ 2),(tT 23)]),sM 7 24] [1,3,4,5,7,14,15,16] [1])
(sQ
(rG [sM 25 7,sM 26 3,sM 27 5,sS 28 (iX 1 26 27),sL 29 28,sS 30 (bT .neq 25 29)] [1,3,4,5,7,14,15,16,30] [1])
(cN 30
(rG [sM 31 3,sM 32 5,sM 33 7,sS 34 (iX 1 31 32),nN (sT 1 34 33),sS 4 (mB true)] [1,3,4,14,15,16] [1])
.skip)))))
(rG [sS 35 (bZ .add 16 1),sM 16 35] [1,3,4,14,15,16] [1])))))))))))))))
(sQ
(rG [sM 36 3,sM 2 36] [2] [])
.ret)))),[.tmp 2],false,false,false⟩
def F475:aa:=⟨2,(sQ
(rG [sS 4 (mZ 0)] [0,1] [])
(sQ
(sQ
(rG [sM 6 0,sS 7 (lN 0 6),sS 8 (mZ 0)] [0,1,7,8] [])
(.block 0
(.loop
(.mask [0,1,7,8] []
(sQ
(rG [sS 9 (bT .lss 8 7)] [0,1,7,8,9] [])
(sQ
(cN 9
.skip
(.exit 0))
(sQ
(.block 1
(sQ
(rG [sM 10 8,sM 5 10] [0,1,5,7,8] [])
(sQ
(rG [sM 11 1,sM 12 0,sM 13 5,sS 14 (iX 1 12 13),sL 15 14,sS 16 (bT .eql 11 15)] [0,1,5,7,8,16] [])
(cN 16
(sQ
(rG [sM 17 5,sM 4 17] [4] [])
.ret)
.skip))))
(rG [sS 18 (bZ .add 8 1),sM 8 18] [0,1,7,8] []))))))))
(sQ
(rG [sS 4 (.eJ (.val (.pv (.int .i64 (-1)))))] [4] [])
.ret))),[.tmp 4],false,false,false⟩
def F476:aa:=⟨2,(sQ
(rG [sS 2 (bX 2 5 0),sS 3 (bX 3 1 1),⟨some 4,.alloc 4 [pZ,.pv (.str ⟨#[]⟩),pZ],none⟩,sS 5 (mB false)] [2,3,4] [2,3,4])
(sQ
(rG [sF 7 1 2,sL 8 7,sS 9 (.jA 487 [(tT 3)]),sS 10 (cB 486 8 9),sM 6 10] [2,4,6] [2,4])
(sQ
(sQ
(rG [sM 11 6,sS 12 (bZ .lss 11 0)] [2,4,6,12] [2,4])
(cN 12
(sQ
(rG [⟨some 13,.build [pZ,.pv (.str ⟨#[]⟩),pZ] [],none⟩,nN (sT 3 4 13),sS 5 (mB false)] [4,5] [4])
.ret)
.skip))
(sQ
(rG [sF 14 1 2,sL 15 14,sM 16 6,sS 17 (iX 3 15 16),sS 18 (lT 3 17),nN (sT 3 4 18),sS 5 (mB true)] [4,5] [4])
.ret)))),[.cell 4 3 true,.tmp 5],false,false,false⟩
def F477:aa:=⟨1,(sQ
(rG [sS 1 (bX 1 2 0),sS 2 (mZ 0)] [1] [1])
(sQ
(sQ
(rG [sF 4 0 1,sS 5 (lT 1 4),sS 6 (cA 267 5),sM 3 6] [1,3] [1])
(sQ
(rG [sM 7 3,sS 8 (bZ .neq 7 0)] [1,3,8] [1])
(cN 8
(sQ
(rG [sM 9 3,sM 2 9] [2] [])
.ret)
.skip)))
(sQ
(sQ
(rG [sF 10 1 1,sL 11 10,sS 12 (bZ .lss 11 0),sM 13 12,gF 14 (fL 1 1) 13,gF 15 (lF 1 14) 13,gF 16 (fL 0 1) 13,gF 17 (fL 0 16) 13,gF 18 (lF 1 17) 13,gF 19 (lN 0 18) 13,gF 20 (bT .geq 15 19) 13,sS 21 (pO 13 20)] [21] [])
(cN 21
(sQ
(rG [sS 2 (mZ 4)] [2] [])
.ret)
.skip))
(sQ
(rG [sS 2 (mZ 0)] [2] [])
.ret)))),[.tmp 2],false,false,false⟩
def F478:aa:=⟨3,(sQ
(rG [sS 3 (bX 3 1 0),sS 4 (bX 4 1 1),sS 6 (.eJ (.val (.tl [])))] [2,3,4] [3,4])
(sQ
(rG [sF 17 0 3,sL 18 17,sS 19 (lN 0 18),sS 20 (.make 1 [.tl []] (tT 19) (tT 19)),sS 7 (.alloc 7 [.tl []]),nN (sT 1 7 20)] [2,3,4,7] [3,4,7])
(sQ
(sQ
(rG [sF 21 0 3,sL 22 21,sS 23 (lN 0 22),sS 24 (mZ 0)] [2,3,4,7,22,23,24] [3,4,7])
(.block 0
(.loop
(.mask [2,3,4,7,22,23,24] [3,4,7]
(sQ
(rG [sS 25 (bT .lss 24 23)] [2,3,4,7,22,23,24,25] [3,4,7])
(sQ
(cN 25
.skip
(.exit 0))
(sQ
(.block 1
(sQ
(rG [sM 26 24,sS 27 (iX 10 22 24),sS 28 (lT 10 27),⟨some 9,.alloc 9 [pZ,.pv (.str ⟨#[]⟩),pZ,pZ,pZ,.tl [],.tl [],pZ,pZ,.pv (.bool false)],none⟩,sM 8 26,nN (sT 10 9 28)] [2,3,4,7,8,9,22,23,24] [3,4,7,9])
(sQ
(rG [sF 29 0 4,sL 30 29,sS 31 (lN 0 30),sS 32 (mZ 0)] [2,3,4,7,8,9,22,23,24,30,31,32] [3,4,7,9])
(.block 2
(.loop
(.mask [2,3,4,7,8,9,22,23,24,30,31,32] [3,4,7,9]
(sQ
(rG [sS 33 (bT .lss 32 31)] [2,3,4,7,8,9,22,23,24,30,31,32,33] [3,4,7,9])
(sQ
(cN 33
.skip
(.exit 2))
(sQ
(.block 3
(sQ
(rG [sS 34 (iX 10 30 32),sS 35 (lT 10 34),⟨some 11,.alloc 11 [pZ,.pv (.str ⟨#[]⟩),pZ,pZ,pZ,.tl [],.tl [],pZ,pZ,.pv (.bool false)],none⟩,nN (sT 10 11 35)] [2,3,4,7,8,9,11,22,23,24,30,31,32] [3,4,7,9,11])
(.draw [(sL 36 7,[]),(sM 37 8,[]),(sL 38 7,[]),(sM 39 8,[]),(sS 40 (iX 1 38 39),[]),(sL 41 40,[]),(sS 42 (lT 10 9),[]),(sS 43 (lT 10 11),[]),(sM 44 2,[]),(sS 45 (cL 488 [(tT 42),(tT 43),(tT 44)]),[0,2,4,5]),(sS 46 (.lit 1 [.pv (.bool false)] 1 [(0,1,(tT 45))]),[0,2,4,5]),(sS 47 (aP 1 41 46),[0]),(sS 48 (iX 1 36 37),[]),(nN (sT 1 48 47),[])] [2,3,4,7,8,9,22,23,24,30,31,32] [3,4,7,9])))
(rG [sS 49 (bZ .add 32 1),sM 32 49] [2,3,4,7,8,9,22,23,24,30,31,32] [3,4,7,9]))))))))))
(rG [sS 50 (bZ .add 24 1),sM 24 50] [2,3,4,7,22,23,24] [3,4,7]))))))))
(sQ
(sQ
(rG [sS 12 (mB true)] [3,4,7,12] [3,4,7])
(.block 4
(.loop
(.mask [3,4,7,12] [3,4,7]
(sQ
(sQ
(rG [sM 51 12] [3,4,7,51] [3,4,7])
(cN 51
.skip
(.exit 4)))
(.block 5
(sQ
(rG [sS 12 (mB false)] [3,4,7,12] [3,4,7])
(sQ
(rG [sF 52 0 3,sL 53 52,sS 54 (lN 0 53),sS 55 (mZ 0)] [3,4,7,12,53,54,55] [3,4,7])
(.block 6
(.loop
(.mask [3,4,7,12,53,54,55] [3,4,7]
(sQ
(rG [sS 56 (bT .lss 55 54)] [3,4,7,12,53,54,55,56] [3,4,7])
(sQ
(cN 56
.skip
(.exit 6))
(sQ
(.block 7
(sQ
(rG [sM 57 55,sS 58 (iX 10 53 55),sS 59 (lT 10 58),⟨some 14,.alloc 14 [pZ,.pv (.str ⟨#[]⟩),pZ,pZ,pZ,.tl [],.tl [],pZ,pZ,.pv (.bool false)],none⟩,sM 13 57,nN (sT 10 14 59)] [3,4,7,12,13,14,53,54,55] [3,4,7,14])
(sQ
(rG [sF 60 0 4,sL 61 60,sS 62 (lN 0 61),sS 63 (mZ 0)] [3,4,7,12,13,14,53,54,55,61,62,63] [3,4,7,14])
(.block 8
(.loop
(.mask [3,4,7,12,13,14,53,54,55,61,62,63] [3,4,7,14]
(sQ
(rG [sS 64 (bT .lss 63 62)] [3,4,7,12,13,14,53,54,55,61,62,63,64] [3,4,7,14])
(sQ
(cN 64
.skip
(.exit 8))
(sQ
(.block 9
(sQ
(rG [sM 65 63,sS 66 (iX 10 61 63),sS 67 (lT 10 66),⟨some 16,.alloc 16 [pZ,.pv (.str ⟨#[]⟩),pZ,pZ,pZ,.tl [],.tl [],pZ,pZ,.pv (.bool false)],none⟩,sM 15 65,nN (sT 10 16 67)] [3,4,7,12,13,14,15,16,53,54,55,61,62,63] [3,4,7,14,16])
(sQ
(.draw [(sL 68 7,[]),(sM 69 13,[]),(sS 70 (iX 1 68 69),[]),(sL 71 70,[]),(sM 72 15,[]),(sS 73 (iX 1 71 72),[]),(sL 74 73,[]),(sM 75 74,[]),(gT 76 (lT 10 14) 75,[]),(gT 77 (cA 490 76) 75,[]),(gT 78 (lT 10 16) 75,[9]),(gT 79 (cA 490 78) 75,[]),(gT 80 (.jA 491 [(tT 7)]) 75,[]),(gT 81 (cL 489 [(tT 77),(tT 79),(tT 80)]) 75,[]),(gT 82 (nT 81) 75,[]),(sS 83 (pA 75 82),[])] [3,4,7,12,13,14,15,53,54,55,61,62,63,83] [3,4,7,14])
(cN 83
(rG [sL 84 7,sM 85 13,sS 86 (iX 1 84 85),sL 87 86,sM 88 15,sS 89 (iX 1 87 88),nN (.store 1 (tT 89) (bB false)),sS 12 (mB true)] [3,4,7,12,13,14,53,54,55,61,62,63] [3,4,7,14])
.skip))))
(rG [sS 90 (bZ .add 63 1),sM 63 90] [3,4,7,12,13,14,53,54,55,61,62,63] [3,4,7,14]))))))))))
(rG [sS 91 (bZ .add 55 1),sM 55 91] [3,4,7,12,53,54,55] [3,4,7])))))))))))))))
(sQ
(rG [sL 92 7,sM 6 92] [6] [])
.ret))))),[.tmp 6],false,false,false⟩
def F480:aa:=⟨1,(sQ
(rG [sS 1 (bX 1 1 0),sS 2 (mZ 0),sS 3 (mZ 0),sS 4 (mZ 0)] [1] [1])
(sQ
(sQ
(rG [sS 9 (lT 1 1),sS 10 (cA 268 9),sM 5 10] [1,5] [1])
(sQ
(rG [sM 11 5,sS 12 (bZ .neq 11 0)] [1,5,12] [1])
(cN 12
(sQ
(rG [sM 13 5,sS 2 (mZ 0),sS 3 (mZ 0),sM 4 13] [2,3,4] [])
.ret)
.skip)))
(sQ
(sQ
(rG [sS 6 (mZ 0)] [1,6] [1])
(.block 0
(.loop
(.mask [1,6] [1]
(sQ
(sQ
(rG [sM 14 6,sF 15 0 1,sL 16 15,sS 17 (lN 0 16),sS 18 (bT .lss 14 17)] [1,6,18] [1])
(cN 18
.skip
(.exit 0)))
(sQ
(.block 1
(sQ
(rG [sF 21 0 1,sL 22 21,sM 23 6,sS 24 (iX 10 22 23),sF 25 6 24,sL 26 25,sM 7 26] [1,6,7] [1])
(sQ
(rG [sS 8 (mZ 0)] [1,6,7,8] [1])
(.block 2
(.loop
(.mask [1,6,7,8] [1]
(sQ
(sQ
(rG [sM 27 8,sM 28 7,sS 29 (lN 0 28),sS 30 (bT .lss 27 29)] [1,6,7,8,30] [1])
(cN 30
.skip
(.exit 2)))
(sQ
(.block 3
(sQ
(.draw [(sM 33 7,[]),(sM 34 8,[]),(sS 35 (iX 13 33 34),[]),(sF 36 4 35,[]),(sL 37 36,[]),(sM 38 37,[]),(gT 39 (lT 1 1) 38,[]),(gT 40 (mT 7) 38,[]),(gT 41 (mT 8) 38,[]),(gT 42 (iX 13 40 41) 38,[]),(gT 43 (fL 2 42) 38,[]),(gT 44 (lF 1 43) 38,[]),(gT 45 (mT 7) 38,[]),(gT 46 (mT 8) 38,[]),(gT 47 (iX 13 45 46) 38,[]),(gT 48 (fL 5 47) 38,[]),(gT 49 (lT 8 48) 38,[]),(gT 50 (cL 494 [(tT 39),(tT 44),(tT 49)]) 38,[]),(gT 51 (nT 50) 38,[]),(sS 52 (pA 38 51),[])] [1,6,7,8,52] [1])
(cN 52
(sQ
(.draw [(sM 53 6,[]),(sM 54 7,[]),(sM 55 8,[]),(sS 56 (iX 13 54 55),[]),(sF 57 0 56,[]),(sL 58 57,[]),(sM 2 53,[]),(sM 3 58,[]),(sS 4 (mZ 1),[])] [2,3,4] [])
.ret)
.skip)))
(rG [sM 31 8,sS 32 (bZ .add 31 1),sM 8 32] [1,6,7,8] [1])))))))))
(rG [sM 19 6,sS 20 (bZ .add 19 1),sM 6 20] [1,6] [1])))))))
(sQ
(rG [sS 2 (mZ 0),sS 3 (mZ 0),sS 4 (mZ 0)] [2,3,4] [])
.ret)))),[.tmp 2,.tmp 3,.tmp 4],false,false,false⟩
def F481:aa:=⟨2,(sQ
(rG [sS 2 (bX 2 10 0),sS 4 (mZ 0)] [1,2] [2])
(sQ
(sQ
(rG [sF 9 0 2,sL 10 9] [1,2,10] [2])
(.block 0
(sQ
(rG [sS 12 (bZ .eql 10 2),sM 11 12] [1,2,10,11] [2])
(cN 11
(sQ
(rG [sF 13 2 2,sL 14 13,sF 15 3 2,sL 16 15,sS 17 (bT .eql 14 16)] [17] [])
(cN 17
(sQ
(rG [sS 4 (mZ 1)] [4] [])
.ret)
.skip))
(sQ
(rG [sS 19 (bZ .eql 10 3),sM 18 19] [1,2,10,18] [2])
(cN 18
(sQ
(rG [sF 20 4 2,sL 21 20,sS 22 (bZ .eql 21 0)] [22] [])
(cN 22
(sQ
(rG [sS 4 (mZ 1)] [4] [])
.ret)
.skip))
(sQ
(rG [sS 24 (bZ .eql 10 4),sM 23 24] [1,2,10,23] [2])
(cN 23
(sQ
(rG [sF 25 5 2,sL 26 25,sS 27 (lN 0 26),sS 28 (.er false [(zZ 2),(tT 27)]),sM 4 28] [4] [])
.ret)
(sQ
(rG [sS 30 (bZ .eql 10 5),sM 29 30] [1,2,10,29] [2])
(cN 29
(sQ
(rG [sS 5 (mZ 1)] [1,2,5] [2])
(sQ
(sQ
(rG [sS 6 (mZ 0)] [1,2,5,6] [2])
(.block 1
(.loop
(.mask [1,2,5,6] [2]
(sQ
(sQ
(rG [sM 31 6,sF 32 6 2,sL 33 32,sS 34 (lN 0 33),sS 35 (bT .lss 31 34)] [1,2,5,6,35] [2])
(cN 35
.skip
(.exit 1)))
(sQ
(.block 2
(rG [sM 38 5,sM 39 1,sF 40 6 2,sL 41 40,sM 42 6,sS 43 (iX 13 41 42),sF 44 2 43,sL 45 44,sS 46 (iX 1 39 45),sL 47 46,sS 48 (bT .mul 38 47),sS 49 (.er false [(zZ 2),(tT 48)]),sM 5 49] [1,2,5,6] [2]))
(rG [sM 36 6,sS 37 (bZ .add 36 1),sM 6 37] [1,2,5,6] [2])))))))
(sQ
(rG [sM 50 5,sM 4 50] [4] [])
.ret)))
(sQ
(rG [sS 52 (bZ .eql 10 6),sM 51 52] [1,2,10,51] [2])
(cN 51
(sQ
(rG [sS 7 (mZ 0)] [1,2,7] [2])
(sQ
(sQ
(rG [sS 8 (mZ 0)] [1,2,7,8] [2])
(.block 3
(.loop
(.mask [1,2,7,8] [2]
(sQ
(sQ
(rG [sM 53 8,sF 54 6 2,sL 55 54,sS 56 (lN 0 55),sS 57 (bT .lss 53 56)] [1,2,7,8,57] [2])
(cN 57
.skip
(.exit 3)))
(sQ
(.block 4
(rG [sM 60 7,sM 61 1,sF 62 6 2,sL 63 62,sM 64 8,sS 65 (iX 13 63 64),sF 66 2 65,sL 67 66,sS 68 (iX 1 61 67),sL 69 68,sS 70 (bT .add 60 69),sS 71 (.er false [(zZ 2),(tT 70)]),sM 7 71] [1,2,7,8] [2]))
(rG [sM 58 8,sS 59 (bZ .add 58 1),sM 8 59] [1,2,7,8] [2])))))))
(sQ
(rG [sM 72 7,sM 4 72] [4] [])
.ret)))
(sQ
(sQ
(rG [sS 74 (bZ .eql 10 7),sM 73 74] [1,2,10,73] [2])
(cN 73
.skip
(rG [sS 75 (bZ .eql 10 8),sM 73 75] [1,2,10,73] [2])))
(cN 73
(sQ
(rG [sF 76 4 2,sL 77 76,sS 78 (bZ .eql 77 0),sM 79 78,gF 80 (mT 1) 79,gF 81 (fL 8 2) 79,gF 82 (lF 1 81) 79,gF 83 (iX 1 80 82) 79,gF 84 (lF 1 83) 79,gF 85 (bZ .eql 84 0) 79,sS 86 (pO 79 85)] [86] [])
(cN 86
(sQ
(rG [sS 4 (mZ 1)] [4] [])
.ret)
.skip))
(sQ
(rG [sS 88 (bZ .eql 10 9),sM 87 88] [1,2,87] [2])
(cN 87
(sQ
(rG [sM 89 1,sF 90 8 2,sL 91 90,sS 92 (iX 1 89 91),sL 93 92,sS 94 (.bin .add (zZ 1) (tT 93)),sS 95 (.er false [(zZ 2),(tT 94)]),sM 4 95] [4] [])
.ret)
.skip))))))))))))))))
(sQ
(rG [sS 4 (mZ 2)] [4] [])
.ret))),[.tmp 4],false,false,false⟩
def F482:aa:=⟨1,(sQ
(rG [sS 1 (bX 1 5 0),sS 2 (mB false)] [1] [1])
(sQ
(rG [sS 3 (mZ 0)] [1,3] [1])
(sQ
(sQ
(rG [sS 4 (mZ 0)] [1,3,4] [1])
(.block 0
(.loop
(.mask [1,3,4] [1]
(sQ
(sQ
(rG [sM 7 4,sF 8 1 1,sL 9 8,sS 10 (lN 0 9),sS 11 (bT .lss 7 10)] [1,3,4,11] [1])
(cN 11
.skip
(.exit 0)))
(sQ
(.block 1
(sQ
(rG [sF 14 1 1,sL 15 14,sM 16 4,sS 17 (iX 3 15 16),sS 18 (lT 3 17),⟨some 5,.alloc 5 [pZ,.pv (.str ⟨#[]⟩),pZ],none⟩,nN (sT 3 5 18)] [1,3,4,5] [1,5])
(sQ
(sQ
(rG [sF 19 0 5,sL 20 19,sM 21 3,sS 22 (bT .leq 20 21),sM 23 22,gF 24 (fL 0 5) 23,gF 25 (lF 1 24) 23,gF 26 (bZ .gtr 25 1000) 23,sS 27 (pO 23 26),sM 28 27,gF 29 (fL 1 5) 28,gF 30 (lF 1 29) 28,gF 31 (cA 310 30) 28,gF 32 (nT 31) 28,sS 33 (pO 28 32)] [1,4,5,33] [1,5])
(cN 33
(sQ
(rG [sS 2 (mB false)] [2] [])
.ret)
.skip))
(sQ
(sQ
(rG [sS 6 (mZ 0)] [1,4,5,6] [1,5])
(.block 2
(.loop
(.mask [1,4,5,6] [1,5]
(sQ
(sQ
(rG [sM 34 6,sM 35 4,sS 36 (bT .lss 34 35)] [1,4,5,6,36] [1,5])
(cN 36
.skip
(.exit 2)))
(sQ
(.block 3
(sQ
(.draw [(sF 39 1 1,[]),(sL 40 39,[]),(sM 41 6,[]),(sS 42 (iX 3 40 41),[]),(sF 43 1 42,[]),(sL 44 43,[]),(sF 45 1 5,[]),(sL 46 45,[]),(sS 47 (bT .eql 44 46),[])] [1,4,5,6,47] [1,5])
(cN 47
(sQ
(rG [sS 2 (mB false)] [2] [])
.ret)
.skip)))
(rG [sM 37 6,sS 38 (bZ .add 37 1),sM 6 38] [1,4,5,6] [1,5])))))))
(rG [sF 48 0 5,sL 49 48,sM 3 49] [1,3,4] [1])))))
(rG [sM 12 4,sS 13 (bZ .add 12 1),sM 4 13] [1,3,4] [1])))))))
(sQ
(rG [sF 50 0 1,sL 51 50,sS 52 (cA 310 51),sM 2 52] [2] [])
.ret)))),[.tmp 2],false,false,false⟩
def F483:aa:=⟨2,(sQ
(rG [sS 2 (bX 2 5 0),⟨some 4,.alloc 4 [pZ,.pv (.str ⟨#[]⟩),pZ],none⟩,sS 5 (mB false)] [1,2,4] [2,4])
(sQ
(sQ
(rG [sS 6 (mZ 0)] [1,2,4,6] [2,4])
(.block 0
(.loop
(.mask [1,2,4,6] [2,4]
(sQ
(sQ
(rG [sM 7 6,sF 8 1 2,sL 9 8,sS 10 (lN 0 9),sS 11 (bT .lss 7 10)] [1,2,4,6,11] [2,4])
(cN 11
.skip
(.exit 0)))
(sQ
(.block 1
(sQ
(rG [sF 14 1 2,sL 15 14,sM 16 6,sS 17 (iX 3 15 16),sF 18 0 17,sL 19 18,sM 20 1,sS 21 (bT .eql 19 20)] [1,2,4,6,21] [2,4])
(cN 21
(sQ
(rG [sF 22 1 2,sL 23 22,sM 24 6,sS 25 (iX 3 23 24),sS 26 (lT 3 25),nN (sT 3 4 26),sS 5 (mB true)] [4,5] [4])
.ret)
.skip)))
(rG [sM 12 6,sS 13 (bZ .add 12 1),sM 6 13] [1,2,4,6] [2,4])))))))
(sQ
(rG [⟨some 27,.build [pZ,.pv (.str ⟨#[]⟩),pZ] [],none⟩,nN (sT 3 4 27),sS 5 (mB false)] [4,5] [4])
.ret))),[.cell 4 3 true,.tmp 5],false,false,false⟩
def F484:aa:=⟨1,(sQ
(rG [sS 1 (bX 1 1 0),sS 2 (mZ 0),sS 3 (mZ 0),sS 4 (mZ 0)] [1] [1])
(sQ
(sQ
(rG [sS 10 (lT 1 1),sS 11 (cA 267 10),sM 5 11] [1,5] [1])
(sQ
(rG [sM 12 5,sS 13 (bZ .neq 12 0)] [1,5,13] [1])
(cN 13
(sQ
(rG [sM 14 5,sS 2 (mZ 0),sS 3 (mZ 0),sM 4 14] [2,3,4] [])
.ret)
.skip)))
(sQ
(sQ
(rG [sF 15 0 1,sL 16 15,sS 17 (lN 0 16),sS 18 (mZ 0)] [1,16,17,18] [1])
(.block 0
(.loop
(.mask [1,16,17,18] [1]
(sQ
(rG [sS 19 (bT .lss 18 17)] [1,16,17,18,19] [1])
(sQ
(cN 19
.skip
(.exit 0))
(sQ
(.block 1
(sQ
(rG [sM 20 18,sS 21 (iX 10 16 18),sS 22 (lT 10 21),⟨some 7,.alloc 7 [pZ,.pv (.str ⟨#[]⟩),pZ,pZ,pZ,.tl [],.tl [],pZ,pZ,.pv (.bool false)],none⟩,sM 6 20,nN (sT 10 7 22)] [1,6,7,16,17,18] [1,7])
(sQ
(rG [sF 23 6 7,sL 24 23,sS 25 (lN 0 24),sS 26 (mZ 0)] [1,6,16,17,18,24,25,26] [1])
(.block 2
(.loop
(.mask [1,6,16,17,18,24,25,26] [1]
(sQ
(rG [sS 27 (bT .lss 26 25)] [1,6,16,17,18,24,25,26,27] [1])
(sQ
(cN 27
.skip
(.exit 2))
(sQ
(.block 3
(sQ
(rG [sS 28 (iX 13 24 26),sS 29 (lT 13 28),⟨some 9,.alloc 9 [pZ,.pv (.str ⟨#[]⟩),pZ,.pv (.bool false),.pv (.bool false),pZ,.pv (.bool false),pZ,.pv (.str ⟨#[]⟩),pZ,.tl [],.tl [],.tl []],none⟩,nN (sT 13 9 29)] [1,6,9,16,17,18,24,25,26] [1,9])
(sQ
(rG [sF 30 4 9,sL 31 30,sM 32 31,gT 33 (lT 1 1) 32,gT 34 (fL 2 9) 32,gT 35 (lF 1 34) 32,gT 36 (fL 5 9) 32,gT 37 (lT 8 36) 32,gT 38 (cL 495 [(tT 33),(tT 35),(tT 37)]) 32,gT 39 (nT 38) 32,sS 40 (pA 32 39)] [1,6,9,16,17,18,24,25,26,40] [1,9])
(cN 40
(sQ
(.draw [(sM 41 6,[]),(sF 42 0 9,[]),(sL 43 42,[]),(sM 2 41,[]),(sM 3 43,[]),(sS 4 (mZ 1),[])] [2,3,4] [])
.ret)
.skip))))
(rG [sS 44 (bZ .add 26 1),sM 26 44] [1,6,16,17,18,24,25,26] [1]))))))))))
(rG [sS 45 (bZ .add 18 1),sM 18 45] [1,16,17,18] [1]))))))))
(sQ
(rG [sS 2 (mZ 0),sS 3 (mZ 0),sS 4 (mZ 0)] [2,3,4] [])
.ret)))),[.tmp 2,.tmp 3,.tmp 4],false,false,false⟩
def F485:aa:=⟨2,(sQ
(rG [sS 2 (bX 2 10 0),sS 4 (mZ 0)] [1,2] [2])
(sQ
(sQ
(rG [sF 11 0 2,sL 12 11] [1,2,12] [2])
(.block 0
(sQ
(rG [sS 14 (bZ .eql 12 2),sM 13 14] [1,2,12,13] [2])
(cN 13
(sQ
(rG [sF 15 2 2,sL 16 15,sF 17 3 2,sL 18 17,sS 19 (bT .eql 16 18)] [19] [])
(cN 19
(sQ
(rG [sS 4 (mZ 1)] [4] [])
.ret)
.skip))
(sQ
(rG [sS 21 (bZ .eql 12 3),sM 20 21] [1,2,12,20] [2])
(cN 20
(sQ
(rG [sF 22 4 2,sL 23 22,sS 24 (bZ .eql 23 0)] [24] [])
(cN 24
(sQ
(rG [sS 4 (mZ 1)] [4] [])
.ret)
.skip))
(sQ
(rG [sS 26 (bZ .eql 12 4),sM 25 26] [1,2,12,25] [2])
(cN 25
(sQ
(rG [sF 27 5 2,sL 28 27,sS 29 (lN 0 28),sM 4 29] [4] [])
.ret)
(sQ
(rG [sS 31 (bZ .eql 12 5),sM 30 31] [1,2,12,30] [2])
(cN 30
(sQ
(rG [sS 5 (mZ 1)] [1,2,5] [2])
(sQ
(sQ
(rG [sF 32 6 2,sL 33 32,sS 34 (lN 0 33),sS 35 (mZ 0)] [1,5,33,34,35] [])
(.block 1
(.loop
(.mask [1,5,33,34,35] []
(sQ
(rG [sS 36 (bT .lss 35 34)] [1,5,33,34,35,36] [])
(sQ
(cN 36
.skip
(.exit 1))
(sQ
(.block 2
(sQ
(rG [sS 37 (iX 13 33 35),sS 38 (lT 13 37),⟨some 7,.alloc 7 [pZ,.pv (.str ⟨#[]⟩),pZ,.pv (.bool false),.pv (.bool false),pZ,.pv (.bool false),pZ,.pv (.str ⟨#[]⟩),pZ,.tl [],.tl [],.tl []],none⟩,nN (sT 13 7 38)] [1,5,7,33,34,35] [7])
(rG [sM 39 5,sM 40 1,sF 41 2 7,sL 42 41,sS 43 (iX 1 40 42),sL 44 43,sS 45 (bT .mul 39 44),sS 46 (.er false [(zZ 2),(tT 45)]),sM 5 46] [1,5,33,34,35] [])))
(rG [sS 47 (bZ .add 35 1),sM 35 47] [1,5,33,34,35] []))))))))
(sQ
(rG [sM 48 5,sM 4 48] [4] [])
.ret)))
(sQ
(rG [sS 50 (bZ .eql 12 6),sM 49 50] [1,2,12,49] [2])
(cN 49
(sQ
(rG [sS 8 (mZ 0)] [1,2,8] [2])
(sQ
(sQ
(rG [sF 51 6 2,sL 52 51,sS 53 (lN 0 52),sS 54 (mZ 0)] [1,8,52,53,54] [])
(.block 3
(.loop
(.mask [1,8,52,53,54] []
(sQ
(rG [sS 55 (bT .lss 54 53)] [1,8,52,53,54,55] [])
(sQ
(cN 55
.skip
(.exit 3))
(sQ
(.block 4
(sQ
(rG [sS 56 (iX 13 52 54),sS 57 (lT 13 56),⟨some 10,.alloc 10 [pZ,.pv (.str ⟨#[]⟩),pZ,.pv (.bool false),.pv (.bool false),pZ,.pv (.bool false),pZ,.pv (.str ⟨#[]⟩),pZ,.tl [],.tl [],.tl []],none⟩,nN (sT 13 10 57)] [1,8,10,52,53,54] [10])
(rG [sM 58 8,sM 59 1,sF 60 2 10,sL 61 60,sS 62 (iX 1 59 61),sL 63 62,sS 64 (bT .add 58 63),sM 8 64] [1,8,52,53,54] [])))
(rG [sS 65 (bZ .add 54 1),sM 54 65] [1,8,52,53,54] []))))))))
(sQ
(rG [sM 66 8,sM 4 66] [4] [])
.ret)))
(sQ
(rG [sS 68 (bZ .eql 12 7),sM 67 68] [1,2,12,67] [2])
(cN 67
(sQ
(rG [sF 69 4 2,sL 70 69,sS 71 (bZ .eql 70 0),sM 72 71,gF 73 (mT 1) 72,gF 74 (fL 8 2) 72,gF 75 (lF 1 74) 72,gF 76 (iX 1 73 75) 72,gF 77 (lF 1 76) 72,gF 78 (bZ .eql 77 0) 72,sS 79 (pO 72 78)] [79] [])
(cN 79
(sQ
(rG [sS 4 (mZ 1)] [4] [])
.ret)
.skip))
(sQ
(rG [sS 81 (bZ .eql 12 8),sM 80 81] [1,2,12,80] [2])
(cN 80
(sQ
(rG [sF 82 4 2,sL 83 82,sS 84 (bZ .eql 83 0),sM 85 84,gF 86 (mT 1) 85,gF 87 (fL 8 2) 85,gF 88 (lF 1 87) 85,gF 89 (iX 1 86 88) 85,gF 90 (lF 1 89) 85,gF 91 (bZ .eql 90 0) 85,sS 92 (pO 85 91),sM 93 92,gF 94 (mT 1) 93,gF 95 (fL 7 2) 93,gF 96 (lF 1 95) 93,gF 97 (iX 1 94 96) 93,gF 98 (lF 1 97) 93,gF 99 (bZ .eql 98 0) 93,sS 100 (pO 93 99)] [100] [])
(cN 100
(sQ
(rG [sS 4 (mZ 1)] [4] [])
.ret)
.skip))
(sQ
(rG [sS 102 (bZ .eql 12 9),sM 101 102] [1,2,101] [2])
(cN 101
(sQ
(rG [sM 103 1,sF 104 8 2,sL 105 104,sS 106 (iX 1 103 105),sL 107 106,sS 108 (.bin .add (zZ 1) (tT 107)),sM 4 108] [4] [])
.ret)
.skip))))))))))))))))))
(sQ
(rG [sS 4 (mZ 2)] [4] [])
.ret))),[.tmp 4],false,false,false⟩
def F486:aa:=⟨2,(sQ
(rG [sS 4 (mZ 0)] [0,1] [])
(sQ
(sQ
(rG [sM 6 0,sS 7 (lN 0 6),sS 8 (mZ 0)] [0,1,7,8] [])
(.block 0
(.loop
(.mask [0,1,7,8] []
(sQ
(rG [sS 9 (bT .lss 8 7)] [0,1,7,8,9] [])
(sQ
(cN 9
.skip
(.exit 0))
(sQ
(.block 1
(sQ
(rG [sM 10 8,sM 5 10] [0,1,5,7,8] [])
(sQ
(rG [sM 11 1,sM 12 0,sM 13 5,sS 14 (iX 3 12 13),sS 15 (lT 3 14),sS 16 (.call (tT 11) [(tT 15)])] [0,1,5,7,8,16] [])
(cN 16
(sQ
(rG [sM 17 5,sM 4 17] [4] [])
.ret)
.skip))))
(rG [sS 18 (bZ .add 8 1),sM 8 18] [0,1,7,8] []))))))))
(sQ
(rG [sS 4 (.eJ (.val (.pv (.int .i64 (-1)))))] [4] [])
.ret))),[.tmp 4],false,false,false⟩
def F487:aa:=⟨2,(sQ
(rG [sS 2 (bX 2 3 0),sS 3 (mB false)] [1,2] [2])
(sQ
(rG [sF 4 0 2,sL 5 4,sL 6 1,sS 7 (bT .eql 5 6),sM 3 7] [3] [])
.ret)),[.tmp 3],false,false,false⟩
def F488:aa:=⟨3,(sQ
(rG [sS 3 (bX 3 10 0),sS 4 (bX 4 10 1),sS 5 (bX 5 1 2),sS 6 (mB false)] [3,4,5] [3,4,5])
(sQ
(sQ
(rG [sF 7 0 3,sL 8 7,sF 9 0 4,sL 10 9,sS 11 (bT .neq 8 10),sM 12 11,gF 13 (fL 2 3) 12,gF 14 (lF 1 13) 12,gF 15 (fL 2 4) 12,gF 16 (lF 1 15) 12,gF 17 (bT .neq 14 16) 12,sS 18 (pO 12 17),sM 19 18,gF 20 (fL 3 3) 19,gF 21 (lF 1 20) 19,gF 22 (fL 3 4) 19,gF 23 (lF 1 22) 19,gF 24 (bT .neq 21 23) 19,sS 25 (pO 19 24),sM 26 25,gF 27 (fL 4 3) 26,gF 28 (lF 1 27) 26,gF 29 (fL 4 4) 26,gF 30 (lF 1 29) 26,gF 31 (bT .neq 28 30) 26,sS 32 (pO 26 31),sM 33 32,gF 34 (fL 9 3) 33,gF 35 (lF 1 34) 33,gF 36 (fL 9 4) 33,gF 37 (lF 1 36) 33,gF 38 (.mF false [0] true (tT 35) (tT 37)) 33,sS 39 (pO 33 38),sM 40 39,gF 41 (lF 1 5) 40,gF 42 (mT 41) 40,gT 43 (fL 1 3) 42,gT 44 (lF 1 43) 42,gT 45 (fL 1 4) 42,gT 46 (lF 1 45) 42,gT 47 (bT .neq 44 46) 42,gF 48 (pA 42 47) 40,sS 49 (pO 40 48)] [3,4,5,49] [3,4,5])
(cN 49
(sQ
(rG [sS 6 (mB false)] [6] [])
.ret)
.skip))
(sQ
(rG [sF 50 5 3,sL 51 50,sF 52 5 4,sL 53 52,sS 54 (.jA 497 [(tT 5)]),sS 55 (cL 496 [(tT 51),(tT 53),(tT 54)]),sM 56 55,gT 57 (fL 6 3) 56,gT 58 (lF 1 57) 56,gT 59 (fL 6 4) 56,gT 60 (lF 1 59) 56,gT 61 (.jA 498 [(tT 5)]) 56,gT 62 (cL 318 [(tT 58),(tT 60),(tT 61)]) 56,sS 63 (pA 56 62),sM 6 63] [6] [])
.ret))),[.tmp 6],false,false,false⟩
def F489:aa:=⟨3,(sQ
(rG [sS 6 (mB false)] [0,1,2] [])
(sQ
(sQ
(rG [sM 10 0,sS 11 (lN 0 10),sM 12 1,sS 13 (lN 0 12),sS 14 (bT .neq 11 13)] [0,1,2,14] [])
(cN 14
(sQ
(rG [sS 6 (mB false)] [6] [])
.ret)
.skip))
(sQ
(sQ
(rG [sM 15 0,sS 16 (lN 0 15),sS 17 (mZ 0)] [1,2,15,16,17] [])
(.block 0
(.loop
(.mask [1,2,15,16,17] []
(sQ
(rG [sS 18 (bT .lss 17 16)] [1,2,15,16,17,18] [])
(sQ
(cN 18
.skip
(.exit 0))
(sQ
(.block 1
(sQ
(rG [sM 19 17,sS 20 (iX 2 15 17),sS 21 (lT 2 20),sS 8 (.alloc 8 [pZ,pZ]),sM 7 19,nN (sT 2 8 21)] [1,2,7,8,15,16,17] [8])
(sQ
(rG [sM 22 1,sM 23 7,sS 24 (iX 2 22 23),sS 25 (lT 2 24),sS 9 (.alloc 9 [pZ,pZ]),nN (sT 2 9 25)] [1,2,8,9,15,16,17] [8,9])
(sQ
(rG [sM 26 2,sS 27 (lT 2 8),sS 28 (lT 2 9),sS 29 (.call (tT 26) [(tT 27),(tT 28)]),sS 30 (nT 29)] [1,2,15,16,17,30] [])
(cN 30
(sQ
(rG [sS 6 (mB false)] [6] [])
.ret)
.skip)))))
(rG [sS 31 (bZ .add 17 1),sM 17 31] [1,2,15,16,17] []))))))))
(sQ
(rG [sS 6 (mB true)] [6] [])
.ret)))),[.tmp 6],false,false,false⟩
def F490:aa:=⟨1,(sQ
(rG [sS 1 (bX 1 10 0),sS 2 (.eJ (.val (.tl [])))] [1] [1])
(sQ
(rG [sS 3 (.eJ (.val (.tl [])))] [1,3] [1])
(sQ
(sQ
(rG [sF 6 6 1,sL 7 6,sS 8 (lN 0 7),sS 9 (mZ 0)] [1,3,7,8,9] [1])
(.block 0
(.loop
(.mask [1,3,7,8,9] [1]
(sQ
(rG [sS 10 (bT .lss 9 8)] [1,3,7,8,9,10] [1])
(sQ
(cN 10
.skip
(.exit 0))
(sQ
(.block 1
(sQ
(rG [sS 11 (iX 13 7 9),sS 12 (lT 13 11),⟨some 5,.alloc 5 [pZ,.pv (.str ⟨#[]⟩),pZ,.pv (.bool false),.pv (.bool false),pZ,.pv (.bool false),pZ,.pv (.str ⟨#[]⟩),pZ,.tl [],.tl [],.tl []],none⟩,nN (sT 13 5 12)] [1,3,5,7,8,9] [1,5])
(rG [sM 13 3,sF 14 0 5,sL 15 14,sF 16 2 5,sL 17 16,sS 18 (.build [pZ,pZ] [(0,1,(tT 15)),(1,1,(tT 17))]),sS 19 (.lit 2 [pZ,pZ] 1 [(0,2,(tT 18))]),sS 20 (aP 2 13 19),sM 3 20] [1,3,7,8,9] [1])))
(rG [sS 21 (bZ .add 9 1),sM 9 21] [1,3,7,8,9] [1]))))))))
(sQ
(sQ
(rG [sF 22 0 1,sL 23 22] [1,3,23] [1])
(.block 2
(sQ
(rG [sS 25 (bZ .eql 23 8),sM 24 25] [1,3,23,24] [1])
(cN 24
(rG [sM 26 3,sF 27 7 1,sL 28 27,sS 29 (.build [pZ,pZ] [(0,1,(zZ 0)),(1,1,(tT 28))]),sF 30 8 1,sL 31 30,sS 32 (.build [pZ,pZ] [(0,1,(.val (.pv (.int .i64 (-1))))),(1,1,(tT 31))]),sS 33 (.lit 2 [pZ,pZ] 2 [(0,2,(tT 29)),(2,2,(tT 32))]),sS 34 (aP 2 26 33),sM 3 34] [3] [])
(sQ
(sQ
(rG [sS 36 (bZ .eql 23 7),sM 35 36] [1,3,23,35] [1])
(cN 35
.skip
(rG [sS 37 (bZ .eql 23 9),sM 35 37] [1,3,35] [1])))
(cN 35
(rG [sM 38 3,sF 39 8 1,sL 40 39,sS 41 (.build [pZ,pZ] [(0,1,(.val (.pv (.int .i64 (-1))))),(1,1,(tT 40))]),sS 42 (.lit 2 [pZ,pZ] 1 [(0,2,(tT 41))]),sS 43 (aP 2 38 42),sM 3 43] [3] [])
.skip))))))
(sQ
(rG [sM 44 3,sM 2 44] [2] [])
.ret))))),[.tmp 2],false,false,false⟩
def F491:aa:=⟨3,(sQ
(rG [sS 3 (bX 3 2 0),sS 4 (bX 4 2 1),sS 5 (mB false)] [2,3,4] [3,4])
(sQ
(.draw [(sL 6 2,[]),(sF 7 1 3,[]),(sL 8 7,[]),(sS 9 (iX 1 6 8),[]),(sL 10 9,[]),(sF 11 1 4,[]),(sL 12 11,[]),(sS 13 (iX 1 10 12),[]),(sL 14 13,[]),(sM 5 14,[])] [5] [])
.ret)),[.tmp 5],false,false,false⟩
def F494:aa:=⟨3,(sQ
(rG [sS 3 (bX 3 1 0),sS 5 (bX 5 8 2),sS 6 (mB false)] [1,3,5] [3,5])
(sQ
(rG [sS 7 (lT 1 3),sM 8 1,sS 9 (lT 8 5),sS 10 (cL 502 [(tT 7),(tT 8),(tT 9),(bB true)]),sM 6 10] [6] [])
.ret)),[.tmp 6],false,false,false⟩
def F495:aa:=⟨3,(sQ
(rG [sS 3 (bX 3 1 0),sS 5 (bX 5 8 2),sS 6 (mB false)] [1,3,5] [3,5])
(sQ
(rG [sS 7 (lT 1 3),sM 8 1,sS 9 (lT 8 5),sS 10 (cL 503 [(tT 7),(tT 8),(tT 9),(bB true)]),sM 6 10] [6] [])
.ret)),[.tmp 6],false,false,false⟩
def F496:aa:=⟨3,(sQ
(rG [sS 6 (mB false)] [0,1,2] [])
(sQ
(sQ
(rG [sM 10 0,sS 11 (lN 0 10),sM 12 1,sS 13 (lN 0 12),sS 14 (bT .neq 11 13)] [0,1,2,14] [])
(cN 14
(sQ
(rG [sS 6 (mB false)] [6] [])
.ret)
.skip))
(sQ
(sQ
(rG [sM 15 0,sS 16 (lN 0 15),sS 17 (mZ 0)] [1,2,15,16,17] [])
(.block 0
(.loop
(.mask [1,2,15,16,17] []
(sQ
(rG [sS 18 (bT .lss 17 16)] [1,2,15,16,17,18] [])
(sQ
(cN 18
.skip
(.exit 0))
(sQ
(.block 1
(sQ
(rG [sM 19 17,sS 20 (iX 2 15 17),sS 21 (lT 2 20),⟨some 8,.alloc 8 [pZ,.pv (.str ⟨#[]⟩)],none⟩,sM 7 19,nN (sT 2 8 21)] [1,2,7,8,15,16,17] [8])
(sQ
(rG [sM 22 1,sM 23 7,sS 24 (iX 2 22 23),sS 25 (lT 2 24),⟨some 9,.alloc 9 [pZ,.pv (.str ⟨#[]⟩)],none⟩,nN (sT 2 9 25)] [1,2,8,9,15,16,17] [8,9])
(sQ
(rG [sM 26 2,sS 27 (lT 2 8),sS 28 (lT 2 9),sS 29 (.call (tT 26) [(tT 27),(tT 28)]),sS 30 (nT 29)] [1,2,15,16,17,30] [])
(cN 30
(sQ
(rG [sS 6 (mB false)] [6] [])
.ret)
.skip)))))
(rG [sS 31 (bZ .add 17 1),sM 17 31] [1,2,15,16,17] []))))))))
(sQ
(rG [sS 6 (mB true)] [6] [])
.ret)))),[.tmp 6],false,false,false⟩
def F497:aa:=⟨3,(sQ
(rG [sS 3 (bX 3 2 0),sS 4 (bX 4 2 1),sS 5 (mB false)] [2,3,4] [3,4])
(sQ
(rG [sF 6 0 3,sL 7 6,sF 8 0 4,sL 9 8,sS 10 (bT .eql 7 9),sM 11 10,gT 12 (lF 1 2) 11,gT 13 (nT 12) 11,gT 14 (mT 13) 11,gF 15 (fL 1 3) 14,gF 16 (lF 1 15) 14,gF 17 (fL 1 4) 14,gF 18 (lF 1 17) 14,gF 19 (bT .eql 16 18) 14,gT 20 (pO 14 19) 11,sS 21 (pA 11 20),sM 5 21] [5] [])
.ret)),[.tmp 5],false,false,false⟩
def F498:aa:=⟨3,(sQ
(rG [sS 3 (bX 3 13 0),sS 4 (bX 4 13 1),sS 5 (mB false)] [2,3,4] [3,4])
(sQ
(rG [sF 6 0 3,sL 7 6,sF 8 0 4,sL 9 8,sS 10 (bT .eql 7 9),sM 11 10,gT 12 (fL 3 3) 11,gT 13 (lF 1 12) 11,gT 14 (fL 3 4) 11,gT 15 (lF 1 14) 11,gT 16 (.mF false [0] false (tT 13) (tT 15)) 11,sS 17 (pA 11 16),sM 18 17,gT 19 (fL 4 3) 18,gT 20 (lF 1 19) 18,gT 21 (fL 4 4) 18,gT 22 (lF 1 21) 18,gT 23 (.mF false [0] false (tT 20) (tT 22)) 18,sS 24 (pA 18 23),sM 25 24,gT 26 (fL 5 3) 25,gT 27 (lT 8 26) 25,gT 28 (fL 5 4) 25,gT 29 (lT 8 28) 25,gT 30 (cB 499 27 29) 25,sS 31 (pA 25 30),sM 32 31,gT 33 (lF 1 2) 32,gT 34 (nT 33) 32,gT 35 (mT 34) 32,gF 36 (fL 1 3) 35,gF 37 (lF 1 36) 35,gF 38 (fL 1 4) 35,gF 39 (lF 1 38) 35,gF 40 (bT .eql 37 39) 35,gT 41 (pO 35 40) 32,sS 42 (pA 32 41),sM 5 42] [5] [])
.ret)),[.tmp 5],false,false,false⟩
def F499:aa:=⟨2,(sQ
(rG [sS 2 (bX 2 8 0),sS 3 (bX 3 8 1),sS 4 (mB false)] [2,3] [2,3])
(sQ
(rG [sF 5 0 2,sL 6 5,sF 7 0 3,sL 8 7,sS 9 (bT .eql 6 8),sM 10 9,gT 11 (fL 1 2) 10,gT 12 (lF 1 11) 10,gT 13 (fL 1 3) 10,gT 14 (lF 1 13) 10,gT 15 (.mF false [0] false (tT 12) (tT 14)) 10,sS 16 (pA 10 15),sM 17 16,gT 18 (fL 2 2) 17,gT 19 (lF 1 18) 17,gT 20 (fL 2 3) 17,gT 21 (lF 1 20) 17,gT 22 (bT .eql 19 21) 17,sS 23 (pA 17 22),sM 24 23,gT 25 (fL 3 2) 24,gT 26 (lF 1 25) 24,gT 27 (fL 3 3) 24,gT 28 (lF 1 27) 24,gT 29 (bT .eql 26 28) 24,sS 30 (pA 24 29),sM 31 30,gT 32 (fL 4 2) 31,gT 33 (lF 1 32) 31,gT 34 (fL 4 3) 31,gT 35 (lF 1 34) 31,gT 36 (bT .eql 33 35) 31,sS 37 (pA 31 36),sM 38 37,gT 39 (fL 7 2) 38,gT 40 (lF 1 39) 38,gT 41 (fL 7 3) 38,gT 42 (lF 1 41) 38,gT 43 (cB 333 40 42) 38,sS 44 (pA 38 43),sM 45 44,gT 46 (fL 5 2) 45,gT 47 (lF 1 46) 45,gT 48 (fL 5 3) 45,gT 49 (lF 1 48) 45,gT 50 (cL 334 [(tT 47),(tT 49),(.val (.func 499 []))]) 45,sS 51 (pA 45 50),sM 52 51,gT 53 (fL 6 2) 52,gT 54 (lF 1 53) 52,gT 55 (fL 6 3) 52,gT 56 (lF 1 55) 52,gT 57 (cL 334 [(tT 54),(tT 56),(.val (.func 499 []))]) 52,sS 58 (pA 52 57),sM 4 58] [4] [])
.ret)),[.tmp 4],false,false,false⟩
def F502:aa:=⟨4,(sQ
(rG [sS 4 (bX 4 1 0),sS 6 (bX 6 8 2),sS 8 (mB false)] [1,3,4,6] [4,6])
(sQ
(sQ
(rG [sM 16 1,sS 17 (bZ .lss 16 0),sM 18 17,gF 19 (mT 1) 18,gF 20 (fL 0 4) 18,gF 21 (lF 1 20) 18,gF 22 (lN 0 21) 18,gF 23 (bT .geq 19 22) 18,sS 24 (pO 18 23)] [1,3,4,6,24] [4,6])
(cN 24
(sQ
(rG [sS 8 (mB false)] [8] [])
.ret)
.skip))
(sQ
(rG [sF 25 0 4,sL 26 25,sM 27 1,sS 28 (iX 10 26 27),sS 29 (lT 10 28),⟨some 9,.alloc 9 [pZ,.pv (.str ⟨#[]⟩),pZ,pZ,pZ,.tl [],.tl [],pZ,pZ,.pv (.bool false)],none⟩,nN (sT 10 9 29)] [3,4,6,9] [4,6,9])
(sQ
(sQ
(rG [sF 30 0 6,sL 31 30,sF 32 0 9,sL 33 32,sS 34 (bT .neq 31 33),sM 35 34,gF 36 (lT 8 6) 35,gF 37 (cA 505 36) 35,gF 38 (nT 37) 35,sS 39 (pO 35 38),sM 40 39,gF 41 (mT 3) 40,gF 42 (mT 41) 40,gT 43 (fL 7 6) 42,gT 44 (lF 1 43) 42,gT 45 (lN 0 44) 42,gT 46 (bZ .gtr 45 0) 42,gF 47 (pA 42 46) 40,sS 48 (pO 40 47)] [3,4,6,9,48] [4,6,9])
(cN 48
(sQ
(rG [sS 8 (mB false)] [8] [])
.ret)
.skip))
(sQ
(sQ
(rG [sF 49 0 9,sL 50 49] [3,4,6,9,50] [4,6,9])
(.block 0
(sQ
(rG [sS 52 (bZ .eql 50 1),sM 51 52] [3,4,6,9,50,51] [4,6,9])
(cN 51
(sQ
(rG [sS 8 (mB true)] [8] [])
.ret)
(sQ
(rG [sS 54 (bZ .eql 50 2),sM 53 54] [3,4,6,9,50,53] [4,6,9])
(cN 53
(sQ
(rG [sF 55 2 6,sL 56 55,sF 57 2 9,sL 58 57,sS 59 (bT .geq 56 58),sM 60 59,gT 61 (fL 2 6) 60,gT 62 (lF 1 61) 60,gT 63 (fL 3 9) 60,gT 64 (lF 1 63) 60,gT 65 (bT .leq 62 64) 60,sS 66 (pA 60 65),sM 8 66] [8] [])
.ret)
(sQ
(rG [sS 68 (bZ .eql 50 3),sM 67 68] [3,4,6,9,50,67] [4,6,9])
(cN 67
(sQ
(rG [sF 69 3 6,sL 70 69,sS 71 (lN 1 70),sF 72 4 9,sL 73 72,sS 74 (bT .leq 71 73),sM 8 74] [8] [])
.ret)
(sQ
(rG [sS 76 (bZ .eql 50 4),sM 75 76] [3,4,6,9,50,75] [4,6,9])
(cN 75
(sQ
(rG [sS 78 (lT 10 9),sF 79 4 6,sL 80 79,sS 81 (cB 393 78 80),sM 77 81,sS 82 (eX 77 0),sS 83 (eX 77 1),sM 10 82,sM 11 83] [3,6,9,11] [6,9])
(sQ
(rG [sM 84 11,sM 85 84,gF 86 (fL 9 9) 85,gF 87 (lF 1 86) 85,gF 88 (mT 87) 85,gT 89 (mT 3) 88,gT 90 (nT 89) 88,gF 91 (pA 88 90) 85,gF 92 (mT 91) 85,gT 93 (fL 4 6) 92,gT 94 (lF 1 93) 92,gT 95 (mT 11) 92,gT 96 (cB 506 94 95) 92,gF 97 (pA 92 96) 85,sS 98 (pO 85 97),sM 8 98] [8] [])
.ret))
(sQ
(rG [sS 100 (bZ .eql 50 5),sM 99 100] [3,4,6,9,50,99] [4,6,9])
(cN 99
(sQ
(sQ
(rG [sF 101 6 6,sL 102 101,sS 103 (lN 0 102),sF 104 6 9,sL 105 104,sS 106 (lN 0 105),sS 107 (bT .neq 103 106),sM 108 107,gF 109 (lT 10 9) 108,gF 110 (fL 7 6) 108,gF 111 (lF 1 110) 108,gF 112 (cB 507 109 111) 108,gF 113 (nT 112) 108,sS 114 (pO 108 113)] [3,4,6,9,114] [4,6,9])
(cN 114
(sQ
(rG [sS 8 (mB false)] [8] [])
.ret)
.skip))
(sQ
(sQ
(rG [sS 12 (mZ 0)] [3,4,6,9,12] [4,6,9])
(.block 1
(.loop
(.mask [3,4,6,9,12] [4,6,9]
(sQ
(sQ
(rG [sM 115 12,sF 116 6 6,sL 117 116,sS 118 (lN 0 117),sS 119 (bT .lss 115 118)] [3,4,6,9,12,119] [4,6,9])
(cN 119
.skip
(.exit 1)))
(sQ
(.block 2
(sQ
(.draw [(sS 122 (lT 1 4),[]),(sF 123 6 9,[]),(sL 124 123,[]),(sM 125 12,[]),(sS 126 (iX 13 124 125),[]),(sF 127 2 126,[]),(sL 128 127,[]),(sF 129 6 6,[]),(sL 130 129,[]),(sM 131 12,[]),(sS 132 (iX 8 130 131),[]),(sS 133 (lT 8 132),[]),(sM 134 3,[]),(sS 135 (cL 502 [(tT 122),(tT 128),(tT 133),(tT 134)]),[]),(sS 136 (nT 135),[])] [3,4,6,9,12,136] [4,6,9])
(cN 136
(sQ
(rG [sS 8 (mB false)] [8] [])
.ret)
.skip)))
(rG [sM 120 12,sS 121 (bZ .add 120 1),sM 12 121] [3,4,6,9,12] [4,6,9])))))))
(sQ
(rG [sS 8 (mB true)] [8] [])
.ret)))
(sQ
(rG [sS 138 (bZ .eql 50 6),sM 137 138] [3,4,6,9,50,137] [4,6,9])
(cN 137
(sQ
(rG [sS 140 (lT 10 9),sF 141 4 6,sL 142 141,sS 143 (cB 391 140 142),sM 139 143,sS 144 (eX 139 0),sS 145 (eX 139 1),sM 13 144,sM 14 145] [3,4,6,9,13,14] [4,6,9])
(sQ
(sQ
(rG [sM 146 14] [3,4,6,9,13,14,146] [4,6,9])
(cN 146
(sQ
(.draw [(sF 147 6 6,[]),(sL 148 147,[]),(sS 149 (lN 0 148),[]),(sS 150 (bZ .eql 149 1),[]),(sM 151 150,[]),(gT 152 (fL 7 6) 151,[]),(gT 153 (lF 1 152) 151,[]),(gT 154 (lN 0 153) 151,[]),(gT 155 (bZ .eql 154 0) 151,[]),(sS 156 (pA 151 155),[]),(sM 157 156,[]),(gT 158 (lT 1 4) 157,[]),(gT 159 (fL 6 9) 157,[]),(gT 160 (lF 1 159) 157,[]),(gT 161 (mT 13) 157,[]),(gT 162 (iX 13 160 161) 157,[]),(gT 163 (fL 2 162) 157,[]),(gT 164 (lF 1 163) 157,[]),(gT 165 (fL 6 6) 157,[]),(gT 166 (lF 1 165) 157,[]),(gT 167 (.idx 8 (tT 166) (zZ 0)) 157,[]),(gT 168 (lT 8 167) 157,[]),(gT 169 (mT 3) 157,[]),(gT 170 (cL 502 [(tT 158),(tT 164),(tT 168),(tT 169)]) 157,[]),(sS 171 (pA 157 170),[]),(sM 8 171,[])] [8] [])
.ret)
.skip))
(sQ
(.draw [(sF 172 9 9,[]),(sL 173 172,[]),(sM 174 173,[]),(gT 175 (mT 3) 174,[]),(gT 176 (nT 175) 174,[]),(sS 177 (pA 174 176),[]),(sM 178 177,[]),(gT 179 (fL 4 6) 178,[]),(gT 180 (lF 1 179) 178,[]),(gT 181 (mT 14) 178,[]),(gT 182 (cB 506 180 181) 178,[]),(sS 183 (pA 178 182),[]),(sM 184 183,[]),(gT 185 (fL 6 6) 184,[]),(gT 186 (lF 1 185) 184,[]),(gT 187 (lN 0 186) 184,[]),(gT 188 (bZ .eql 187 0) 184,[]),(sS 189 (pA 184 188),[]),(sM 190 189,[]),(gT 191 (fL 7 6) 190,[]),(gT 192 (lF 1 191) 190,[]),(gT 193 (lN 0 192) 190,[]),(gT 194 (bZ .eql 193 1) 190,[]),(sS 195 (pA 190 194),[]),(sM 196 195,[]),(gT 197 (fL 7 6) 196,[]),(gT 198 (lF 1 197) 196,[]),(gT 199 (.idx 2 (tT 198) (zZ 0)) 196,[]),(gT 200 (fL 0 199) 196,[]),(gT 201 (lF 1 200) 196,[]),(gT 202 (fL 4 6) 196,[]),(gT 203 (lF 1 202) 196,[]),(gT 204 (bT .eql 201 203) 196,[]),(sS 205 (pA 196 204),[]),(sM 8 205,[])] [8] [])
.ret)))
(sQ
(rG [sS 207 (bZ .eql 50 7),sM 206 207] [3,4,6,9,50,206] [4,6,9])
(cN 206
(sQ
(rG [sF 208 6 6,sL 209 208,sS 210 (lN 0 209),sF 211 4 9,sL 212 211,sS 213 (bT .leq 210 212),sM 214 213,gT 215 (lT 1 4) 214,gT 216 (fL 8 9) 214,gT 217 (lF 1 216) 214,gT 218 (fL 6 6) 214,gT 219 (lF 1 218) 214,gT 220 (mT 3) 214,gT 221 (cL 508 [(tT 215),(tT 217),(tT 219),(tT 220)]) 214,sS 222 (pA 214 221),sM 8 222] [8] [])
.ret)
(sQ
(rG [sS 224 (bZ .eql 50 8),sM 223 224] [3,4,6,9,223] [4,6,9])
(cN 223
(sQ
(sQ
(rG [sF 225 5 6,sL 226 225,sS 227 (lN 0 226),sF 228 4 9,sL 229 228,sS 230 (bT .gtr 227 229),sM 231 230,gF 232 (fL 6 6) 231,gF 233 (lF 1 232) 231,gF 234 (lN 0 233) 231,gF 235 (fL 5 6) 231,gF 236 (lF 1 235) 231,gF 237 (lN 0 236) 231,gF 238 (bT .neq 234 237) 231,sS 239 (pO 231 238),sM 240 239,gF 241 (lT 1 4) 240,gF 242 (fL 7 9) 240,gF 243 (lF 1 242) 240,gF 244 (fL 5 6) 240,gF 245 (lF 1 244) 240,gF 246 (mT 3) 240,gF 247 (cL 508 [(tT 241),(tT 243),(tT 245),(tT 246)]) 240,gF 248 (nT 247) 240,sS 249 (pO 240 248),sM 250 249,gF 251 (lT 1 4) 250,gF 252 (fL 8 9) 250,gF 253 (lF 1 252) 250,gF 254 (fL 6 6) 250,gF 255 (lF 1 254) 250,gF 256 (mT 3) 250,gF 257 (cL 508 [(tT 251),(tT 253),(tT 255),(tT 256)]) 250,gF 258 (nT 257) 250,sS 259 (pO 250 258)] [6,259] [6])
(cN 259
(sQ
(rG [sS 8 (mB false)] [8] [])
.ret)
.skip))
(sQ
(sQ
(rG [sS 15 (mZ 1)] [6,15] [6])
(.block 3
(.loop
(.mask [6,15] [6]
(sQ
(sQ
(rG [sM 260 15,sF 261 5 6,sL 262 261,sS 263 (lN 0 262),sS 264 (bT .lss 260 263)] [6,15,264] [6])
(cN 264
.skip
(.exit 3)))
(sQ
(.block 4
(sQ
(.draw [(sF 267 5 6,[]),(sL 268 267,[]),(sM 269 15,[]),(sS 270 (bZ .sub 269 1),[]),(sS 271 (iX 8 268 270),[]),(sS 272 (lT 8 271),[]),(sF 273 5 6,[]),(sL 274 273,[]),(sM 275 15,[]),(sS 276 (iX 8 274 275),[]),(sS 277 (lT 8 276),[]),(sS 278 (cB 509 272 277),[]),(sS 279 (bZ .geq 278 0),[])] [6,15,279] [6])
(cN 279
(sQ
(rG [sS 8 (mB false)] [8] [])
.ret)
.skip)))
(rG [sM 265 15,sS 266 (bZ .add 265 1),sM 15 266] [6,15] [6])))))))
(sQ
(rG [sS 8 (mB true)] [8] [])
.ret)))
.skip))))))))))))))))))
(sQ
(rG [sF 280 6 6,sL 281 280,sS 282 (lN 0 281),sS 283 (bZ .leq 282 1),sM 284 283,gT 285 (lT 1 4) 284,gT 286 (fL 8 9) 284,gT 287 (lF 1 286) 284,gT 288 (fL 6 6) 284,gT 289 (lF 1 288) 284,gT 290 (mT 3) 284,gT 291 (cL 508 [(tT 285),(tT 287),(tT 289),(tT 290)]) 284,sS 292 (pA 284 291),sM 8 292] [8] [])
.ret)))))),[.tmp 8],false,false,false⟩
def F503:aa:=⟨4,(sQ
(rG [sS 4 (bX 4 1 0),sS 6 (bX 6 8 2),sS 8 (mB false)] [1,3,4,6] [4,6])
(sQ
(sQ
(rG [sM 21 1,sS 22 (bZ .lss 21 0),sM 23 22,gF 24 (mT 1) 23,gF 25 (fL 0 4) 23,gF 26 (lF 1 25) 23,gF 27 (lN 0 26) 23,gF 28 (bT .geq 24 27) 23,sS 29 (pO 23 28)] [1,3,4,6,29] [4,6])
(cN 29
(sQ
(rG [sS 8 (mB false)] [8] [])
.ret)
.skip))
(sQ
(rG [sF 30 0 4,sL 31 30,sM 32 1,sS 33 (iX 10 31 32),sS 34 (lT 10 33),⟨some 9,.alloc 9 [pZ,.pv (.str ⟨#[]⟩),pZ,pZ,pZ,.tl [],.tl [],pZ,pZ,.pv (.bool false)],none⟩,nN (sT 10 9 34)] [3,4,6,9] [4,6,9])
(sQ
(sQ
(rG [sF 35 0 6,sL 36 35,sF 37 0 9,sL 38 37,sS 39 (bT .neq 36 38),sM 40 39,gF 41 (lT 8 6) 40,gF 42 (cA 510 41) 40,gF 43 (nT 42) 40,sS 44 (pO 40 43)] [3,4,6,9,44] [4,6,9])
(cN 44
(sQ
(rG [sS 8 (mB false)] [8] [])
.ret)
.skip))
(sQ
(sQ
(rG [sF 45 0 9,sL 46 45] [3,4,6,9,46] [4,6,9])
(.block 0
(sQ
(rG [sS 48 (bZ .eql 46 2),sM 47 48] [3,4,6,9,46,47] [4,6,9])
(cN 47
(sQ
(rG [sF 49 2 6,sL 50 49,sF 51 2 9,sL 52 51,sS 53 (bT .geq 50 52),sM 54 53,gT 55 (fL 2 6) 54,gT 56 (lF 1 55) 54,gT 57 (fL 3 9) 54,gT 58 (lF 1 57) 54,gT 59 (bT .leq 56 58) 54,sS 60 (pA 54 59),sM 8 60] [8] [])
.ret)
(sQ
(rG [sS 62 (bZ .eql 46 3),sM 61 62] [3,4,6,9,46,61] [4,6,9])
(cN 61
(sQ
(rG [sF 63 3 6,sL 64 63,sS 65 (lN 1 64),sF 66 4 9,sL 67 66,sS 68 (bT .leq 65 67),sM 8 68] [8] [])
.ret)
(sQ
(rG [sS 70 (bZ .eql 46 4),sM 69 70] [3,4,6,9,46,69] [4,6,9])
(cN 69
(sQ
(rG [sS 72 (lT 10 9),sF 73 4 6,sL 74 73,sS 75 (cB 392 72 74),sM 71 75,sS 76 (eX 71 0),sS 77 (eX 71 1),sM 10 76,sM 11 77] [3,6,9,11] [6,9])
(sQ
(rG [sM 78 11,sM 79 78,gF 80 (fL 9 9) 79,gF 81 (lF 1 80) 79,gF 82 (mT 81) 79,gT 83 (mT 3) 82,gT 84 (nT 83) 82,gF 85 (pA 82 84) 79,gF 86 (mT 85) 79,gT 87 (fL 4 6) 86,gT 88 (lF 1 87) 86,gT 89 (cA 511 88) 86,gF 90 (pA 86 89) 79,sS 91 (pO 79 90),sM 8 91] [8] [])
.ret))
(sQ
(rG [sS 93 (bZ .eql 46 5),sM 92 93] [3,4,6,9,46,92] [4,6,9])
(cN 92
(sQ
(sQ
(rG [sF 94 6 6,sL 95 94,sS 96 (lN 0 95),sF 97 6 9,sL 98 97,sS 99 (lN 0 98),sS 100 (bT .neq 96 99),sM 101 100,gF 102 (mT 3) 101,gF 103 (mT 102) 101,gT 104 (fL 7 6) 103,gT 105 (lF 1 104) 103,gT 106 (lN 0 105) 103,gT 107 (bZ .gtr 106 0) 103,gF 108 (pA 103 107) 101,sS 109 (pO 101 108)] [3,4,6,9,109] [4,6,9])
(cN 109
(sQ
(rG [sS 8 (mB false)] [8] [])
.ret)
.skip))
(sQ
(sQ
(rG [sF 110 7 6,sL 111 110,sS 112 (lN 0 111),sS 113 (mZ 0)] [3,4,6,9,111,112,113] [4,6,9])
(.block 1
(.loop
(.mask [3,4,6,9,111,112,113] [4,6,9]
(sQ
(rG [sS 114 (bT .lss 113 112)] [3,4,6,9,111,112,113,114] [4,6,9])
(sQ
(cN 114
.skip
(.exit 1))
(sQ
(.block 2
(sQ
(rG [sM 115 113,sS 116 (iX 2 111 113),sS 117 (lT 2 116),⟨some 13,.alloc 13 [pZ,.pv (.str ⟨#[]⟩)],none⟩,sM 12 115,nN (sT 2 13 117)] [3,4,6,9,12,13,111,112,113] [4,6,9,13])
(sQ
(rG [sS 119 (lT 10 9),sF 120 0 13,sL 121 120,sS 122 (cB 281 119 121),sM 118 122,sS 123 (eX 118 0),sS 124 (eX 118 1),sM 14 123,sM 15 124] [3,4,6,9,12,13,15,111,112,113] [4,6,9,13])
(sQ
(.draw [(sM 125 15,[]),(sM 126 125,[]),(gF 127 (fL 0 13) 126,[]),(gF 128 (lF 1 127) 126,[]),(gF 129 (cA 511 128) 126,[]),(gF 130 (nT 129) 126,[]),(sS 131 (pO 126 130),[]),(sM 132 131,[]),(gF 133 (mT 12) 132,[]),(gF 134 (bZ .gtr 133 0) 132,[]),(gF 135 (mT 134) 132,[]),(gT 136 (fL 0 13) 135,[]),(gT 137 (lF 1 136) 135,[]),(gT 138 (fL 7 6) 135,[]),(gT 139 (lF 1 138) 135,[]),(gT 140 (mT 12) 135,[]),(gT 141 (bZ .sub 140 1) 135,[]),(gT 142 (iX 2 139 141) 135,[]),(gT 143 (fL 0 142) 135,[]),(gT 144 (lF 1 143) 135,[]),(gT 145 (bT .leq 137 144) 135,[]),(gF 146 (pA 135 145) 132,[]),(sS 147 (pO 132 146),[])] [3,4,6,9,111,112,113,147] [4,6,9])
(cN 147
(sQ
(rG [sS 8 (mB false)] [8] [])
.ret)
.skip)))))
(rG [sS 148 (bZ .add 113 1),sM 113 148] [3,4,6,9,111,112,113] [4,6,9]))))))))
(sQ
(rG [sF 149 6 9,sL 150 149,sS 151 (lN 0 150),sS 152 (mZ 0)] [3,4,6,150,151,152] [4,6])
(.block 3
(.loop
(.mask [3,4,6,150,151,152] [4,6]
(sQ
(rG [sS 153 (bT .lss 152 151)] [3,4,6,150,151,152,153] [4,6])
(sQ
(cN 153
.skip
(.exit 3))
(sQ
(.block 4
(sQ
(rG [sM 154 152,sS 155 (iX 13 150 152),sS 156 (lT 13 155),⟨some 17,.alloc 17 [pZ,.pv (.str ⟨#[]⟩),pZ,.pv (.bool false),.pv (.bool false),pZ,.pv (.bool false),pZ,.pv (.str ⟨#[]⟩),pZ,.tl [],.tl [],.tl []],none⟩,sM 16 154,nN (sT 13 17 156)] [3,4,6,16,17,150,151,152] [4,6,17])
(sQ
(.draw [(sS 157 (lT 1 4),[]),(sF 158 2 17,[]),(sL 159 158,[]),(sF 160 6 6,[]),(sL 161 160,[]),(sM 162 16,[]),(sS 163 (iX 8 161 162),[]),(sS 164 (lT 8 163),[]),(sM 165 3,[]),(sS 166 (cL 503 [(tT 157),(tT 159),(tT 164),(tT 165)]),[]),(sS 167 (nT 166),[])] [3,4,6,150,151,152,167] [4,6])
(cN 167
(sQ
(rG [sS 8 (mB false)] [8] [])
.ret)
.skip))))
(rG [sS 168 (bZ .add 152 1),sM 152 168] [3,4,6,150,151,152] [4,6]))))))))))
(sQ
(rG [sS 170 (bZ .eql 46 6),sM 169 170] [3,4,6,9,46,169] [4,6,9])
(cN 169
(sQ
(sQ
(rG [sS 172 (lT 10 9),sF 173 4 6,sL 174 173,sS 175 (cB 281 172 174),sM 171 175,sS 176 (eX 171 0),sS 177 (eX 171 1),sM 18 176,sM 19 177] [3,4,6,9,18,19] [4,6,9])
(sQ
(rG [sM 178 19] [3,4,6,9,18,178] [4,6,9])
(cN 178
(sQ
(.draw [(sF 179 6 6,[]),(sL 180 179,[]),(sS 181 (lN 0 180),[]),(sS 182 (bZ .eql 181 1),[]),(sM 183 182,[]),(gT 184 (fL 7 6) 183,[]),(gT 185 (lF 1 184) 183,[]),(gT 186 (lN 0 185) 183,[]),(gT 187 (bZ .eql 186 0) 183,[]),(sS 188 (pA 183 187),[]),(sM 189 188,[]),(gT 190 (lT 1 4) 189,[]),(gT 191 (fL 6 9) 189,[]),(gT 192 (lF 1 191) 189,[]),(gT 193 (mT 18) 189,[]),(gT 194 (iX 13 192 193) 189,[]),(gT 195 (fL 2 194) 189,[]),(gT 196 (lF 1 195) 189,[]),(gT 197 (fL 6 6) 189,[]),(gT 198 (lF 1 197) 189,[]),(gT 199 (.idx 8 (tT 198) (zZ 0)) 189,[]),(gT 200 (lT 8 199) 189,[]),(gT 201 (mT 3) 189,[]),(gT 202 (cL 503 [(tT 190),(tT 196),(tT 200),(tT 201)]) 189,[]),(sS 203 (pA 189 202),[]),(sM 8 203,[])] [8] [])
.ret)
.skip)))
(sQ
(.draw [(sF 204 9 9,[]),(sL 205 204,[]),(sM 206 205,[]),(gT 207 (mT 3) 206,[]),(gT 208 (nT 207) 206,[]),(sS 209 (pA 206 208),[]),(sM 210 209,[]),(gT 211 (fL 4 6) 210,[]),(gT 212 (lF 1 211) 210,[]),(gT 213 (cA 511 212) 210,[]),(sS 214 (pA 210 213),[]),(sM 215 214,[]),(gT 216 (fL 6 6) 215,[]),(gT 217 (lF 1 216) 215,[]),(gT 218 (lN 0 217) 215,[]),(gT 219 (bZ .eql 218 0) 215,[]),(sS 220 (pA 215 219),[]),(sM 221 220,[]),(gT 222 (fL 7 6) 221,[]),(gT 223 (lF 1 222) 221,[]),(gT 224 (lN 0 223) 221,[]),(gT 225 (bZ .eql 224 1) 221,[]),(sS 226 (pA 221 225),[]),(sM 227 226,[]),(gT 228 (fL 7 6) 227,[]),(gT 229 (lF 1 228) 227,[]),(gT 230 (.idx 2 (tT 229) (zZ 0)) 227,[]),(gT 231 (fL 0 230) 227,[]),(gT 232 (lF 1 231) 227,[]),(gT 233 (fL 4 6) 227,[]),(gT 234 (lF 1 233) 227,[]),(gT 235 (bT .eql 232 234) 227,[]),(sS 236 (pA 227 235),[]),(sM 8 236,[])] [8] [])
.ret))
(sQ
(rG [sS 238 (bZ .eql 46 7),sM 237 238] [3,4,6,9,46,237] [4,6,9])
(cN 237
(sQ
(rG [sF 239 6 6,sL 240 239,sS 241 (lN 0 240),sF 242 4 9,sL 243 242,sS 244 (bT .leq 241 243),sM 245 244,gT 246 (lT 1 4) 245,gT 247 (fL 8 9) 245,gT 248 (lF 1 247) 245,gT 249 (fL 6 6) 245,gT 250 (lF 1 249) 245,gT 251 (mT 3) 245,gT 252 (cL 512 [(tT 246),(tT 248),(tT 250),(tT 251)]) 245,sS 253 (pA 245 252),sM 8 253] [8] [])
.ret)
(sQ
(rG [sS 255 (bZ .eql 46 8),sM 254 255] [3,4,6,9,46,254] [4,6,9])
(cN 254
(sQ
(sQ
(rG [sF 256 5 6,sL 257 256,sS 258 (lN 0 257),sF 259 4 9,sL 260 259,sS 261 (bT .gtr 258 260),sM 262 261,gF 263 (fL 6 6) 262,gF 264 (lF 1 263) 262,gF 265 (lN 0 264) 262,gF 266 (fL 5 6) 262,gF 267 (lF 1 266) 262,gF 268 (lN 0 267) 262,gF 269 (bT .neq 265 268) 262,sS 270 (pO 262 269),sM 271 270,gF 272 (lT 1 4) 271,gF 273 (fL 7 9) 271,gF 274 (lF 1 273) 271,gF 275 (fL 5 6) 271,gF 276 (lF 1 275) 271,gF 277 (mT 3) 271,gF 278 (cL 512 [(tT 272),(tT 274),(tT 276),(tT 277)]) 271,gF 279 (nT 278) 271,sS 280 (pO 271 279)] [3,4,6,9,280] [4,6,9])
(cN 280
(sQ
(rG [sS 8 (mB false)] [8] [])
.ret)
.skip))
(sQ
(sQ
(rG [sS 20 (mZ 1)] [3,4,6,9,20] [4,6,9])
(.block 5
(.loop
(.mask [3,4,6,9,20] [4,6,9]
(sQ
(sQ
(rG [sM 281 20,sF 282 5 6,sL 283 282,sS 284 (lN 0 283),sS 285 (bT .lss 281 284)] [3,4,6,9,20,285] [4,6,9])
(cN 285
.skip
(.exit 5)))
(sQ
(.block 6
(sQ
(.draw [(sF 288 5 6,[]),(sL 289 288,[]),(sM 290 20,[]),(sS 291 (bZ .sub 290 1),[]),(sS 292 (iX 8 289 291),[]),(sS 293 (lT 8 292),[]),(sF 294 5 6,[]),(sL 295 294,[]),(sM 296 20,[]),(sS 297 (iX 8 295 296),[]),(sS 298 (lT 8 297),[]),(sS 299 (cB 513 293 298),[]),(sS 300 (bZ .geq 299 0),[])] [3,4,6,9,20,300] [4,6,9])
(cN 300
(sQ
(rG [sS 8 (mB false)] [8] [])
.ret)
.skip)))
(rG [sM 286 20,sS 287 (bZ .add 286 1),sM 20 287] [3,4,6,9,20] [4,6,9])))))))
(sQ
(rG [sS 301 (lT 1 4),sF 302 8 9,sL 303 302,sF 304 6 6,sL 305 304,sM 306 3,sS 307 (cL 512 [(tT 301),(tT 303),(tT 305),(tT 306)]),sM 8 307] [8] [])
.ret)))
(sQ
(rG [sS 309 (bZ .eql 46 9),sM 308 309] [3,4,6,9,308] [4,6,9])
(cN 308
(sQ
(rG [sF 310 6 6,sL 311 310,sS 312 (lN 0 311),sS 313 (bZ .leq 312 1),sM 314 313,gT 315 (lT 1 4) 314,gT 316 (fL 8 9) 314,gT 317 (lF 1 316) 314,gT 318 (fL 6 6) 314,gT 319 (lF 1 318) 314,gT 320 (mT 3) 314,gT 321 (cL 512 [(tT 315),(tT 317),(tT 319),(tT 320)]) 314,sS 322 (pA 314 321),sM 8 322] [8] [])
.ret)
.skip))))))))))))))))))
(sQ
(rG [sS 8 (mB true)] [8] [])
.ret)))))),[.tmp 8],false,false,false⟩
def F505:aa:=⟨1,(sQ
(rG [sS 1 (bX 1 8 0),sS 2 (mB false)] [1] [1])
(sQ
(rG [sF 4 0 1,sL 5 4,sM 3 5] [1,3] [1])
(sQ
(rG [sM 6 3,sS 7 (bZ .eql 6 1),sM 8 7,gF 9 (fL 1 1) 8,gF 10 (lF 1 9) 8,gF 11 (nT 10) 8,sS 12 (pO 8 11),sM 13 12,gT 14 (mT 3) 13,gT 15 (bZ .eql 14 2) 13,gT 16 (mT 15) 13,gF 17 (fL 2 1) 16,gF 18 (lF 1 17) 16,gF 19 (bZ .eql 18 0) 16,gT 20 (pO 16 19) 13,sS 21 (pA 13 20),sM 22 21,gT 23 (mT 3) 22,gT 24 (bZ .eql 23 3) 22,gT 25 (mT 24) 22,gF 26 (fL 3 1) 25,gF 27 (lF 1 26) 25,⟨some 28,.bin .eql (tT 27) (.val (.pv (.str ⟨#[]⟩))),some (25,false)⟩,gT 29 (pO 25 28) 22,sS 30 (pA 22 29),sM 31 30,gT 32 (mT 3) 31,gT 33 (bZ .eql 32 4) 31,gT 34 (mT 33) 31,gF 35 (mT 3) 34,gF 36 (bZ .eql 35 6) 34,gT 37 (pO 34 36) 31,gT 38 (mT 37) 31,gF 39 (fL 4 1) 38,gF 40 (lF 1 39) 38,gF 41 (bZ .eql 40 0) 38,gT 42 (pO 38 41) 31,sS 43 (pA 31 42),sM 44 43,gT 45 (mT 3) 44,gT 46 (bZ .eql 45 8) 44,gT 47 (mT 46) 44,gF 48 (fL 5 1) 47,gF 49 (lF 1 48) 47,gF 50 (lN 0 49) 47,gF 51 (bZ .eql 50 0) 47,gT 52 (pO 47 51) 44,sS 53 (pA 44 52),sM 54 53,gT 55 (mT 3) 54,gT 56 (bZ .geq 55 5) 54,gT 57 (mT 56) 54,gF 58 (fL 6 1) 57,gF 59 (lF 1 58) 57,gF 60 (lN 0 59) 57,gF 61 (bZ .eql 60 0) 57,gT 62 (pO 57 61) 54,sS 63 (pA 54 62),sM 64 63,gT 65 (mT 3) 64,gT 66 (bZ .eql 65 5) 64,gT 67 (mT 66) 64,gF 68 (mT 3) 67,gF 69 (bZ .eql 68 6) 67,gT 70 (pO 67 69) 64,gT 71 (mT 70) 64,gF 72 (fL 7 1) 71,gF 73 (lF 1 72) 71,gF 74 (lN 0 73) 71,gF 75 (bZ .eql 74 0) 71,gT 76 (pO 71 75) 64,sS 77 (pA 64 76),sM 2 77] [2] [])
.ret))),[.tmp 2],false,false,false⟩
def F506:aa:=⟨2,(sQ
(rG [sS 4 (mB false)] [0,1] [])
(sQ
(rG [sM 5 1,sS 6 (nT 5),sM 7 6,gT 8 (mT 0) 7,gT 9 (bZ .geq 8 1) 7,sS 10 (pA 7 9),sM 11 10,gT 12 (mT 0) 11,gT 13 (bZ .leq 12 1000) 11,sS 14 (pA 11 13),sM 4 14] [4] [])
.ret)),[.tmp 4],false,false,false⟩
def F507:aa:=⟨2,(sQ
(rG [sS 2 (bX 2 10 0),sS 4 (mB false)] [1,2] [2])
(sQ
(sQ
(rG [sS 5 (mZ 0)] [1,2,5] [2])
(.block 0
(.loop
(.mask [1,2,5] [2]
(sQ
(sQ
(rG [sM 8 5,sM 9 1,sS 10 (lN 0 9),sS 11 (bT .lss 8 10)] [1,2,5,11] [2])
(cN 11
.skip
(.exit 0)))
(sQ
(.block 1
(sQ
(.draw [(sS 15 (lT 10 2),[]),(sM 16 1,[]),(sM 17 5,[]),(sS 18 (iX 2 16 17),[]),(sF 19 0 18,[]),(sL 20 19,[]),(sS 21 (cB 391 15 20),[]),(sM 14 21,[]),(sS 22 (eX 14 0),[]),(sS 23 (eX 14 1),[]),(sM 6 22,[]),(sM 7 23,[])] [1,2,5,7] [2])
(sQ
(.draw [(sM 24 1,[]),(sM 25 5,[]),(sS 26 (iX 2 24 25),[]),(sF 27 0 26,[]),(sL 28 27,[]),(sM 29 7,[]),(sS 30 (cB 506 28 29),[]),(sS 31 (nT 30),[]),(sM 32 31,[]),(gF 33 (mT 5) 32,[]),(gF 34 (bZ .gtr 33 0) 32,[]),(gF 35 (mT 34) 32,[]),(gT 36 (mT 1) 35,[]),(gT 37 (mT 5) 35,[]),(gT 38 (iX 2 36 37) 35,[]),(gT 39 (fL 0 38) 35,[]),(gT 40 (lF 1 39) 35,[]),(gT 41 (mT 1) 35,[]),(gT 42 (mT 5) 35,[]),(gT 43 (bZ .sub 42 1) 35,[]),(gT 44 (iX 2 41 43) 35,[]),(gT 45 (fL 0 44) 35,[]),(gT 46 (lF 1 45) 35,[]),(gT 47 (bT .leq 40 46) 35,[]),(gF 48 (pA 35 47) 32,[]),(sS 49 (pO 32 48),[])] [1,2,5,49] [2])
(cN 49
(sQ
(rG [sS 4 (mB false)] [4] [])
.ret)
.skip))))
(rG [sM 12 5,sS 13 (bZ .add 12 1),sM 5 13] [1,2,5] [2])))))))
(sQ
(rG [sS 4 (mB true)] [4] [])
.ret))),[.tmp 4],false,false,false⟩
def F508:aa:=⟨4,(sQ
(rG [sS 4 (bX 4 1 0),sS 8 (mB false)] [1,2,3,4] [4])
(sQ
(sQ
(rG [sS 9 (mZ 0)] [1,2,3,4,9] [4])
(.block 0
(.loop
(.mask [1,2,3,4,9] [4]
(sQ
(sQ
(rG [sM 10 9,sM 11 2,sS 12 (lN 0 11),sS 13 (bT .lss 10 12)] [1,2,3,4,9,13] [4])
(cN 13
.skip
(.exit 0)))
(sQ
(.block 1
(sQ
(.draw [(sS 16 (lT 1 4),[]),(sM 17 1,[]),(sM 18 2,[]),(sM 19 9,[]),(sS 20 (iX 8 18 19),[]),(sS 21 (lT 8 20),[]),(sM 22 3,[]),(sS 23 (cL 502 [(tT 16),(tT 17),(tT 21),(tT 22)]),[]),(sS 24 (nT 23),[])] [1,2,3,4,9,24] [4])
(cN 24
(sQ
(rG [sS 8 (mB false)] [8] [])
.ret)
.skip)))
(rG [sM 14 9,sS 15 (bZ .add 14 1),sM 9 15] [1,2,3,4,9] [4])))))))
(sQ
(rG [sS 8 (mB true)] [8] [])
.ret))),[.tmp 8],false,false,false⟩
def F509:aa:=⟨2,(sQ
(rG [sS 2 (bX 2 8 0),sS 3 (bX 3 8 1),sS 4 (mZ 0)] [2,3] [2,3])
(sQ
(sQ
(rG [sF 5 0 2,sL 6 5,sF 7 0 3,sL 8 7,sS 9 (bT .neq 6 8)] [2,3,9] [2,3])
(cN 9
(sQ
(rG [sS 4 (mZ 0)] [4] [])
.ret)
.skip))
(sQ
(sQ
(rG [sF 10 0 2,sL 11 10] [2,3,11] [2,3])
(.block 0
(sQ
(rG [sS 13 (bZ .eql 11 1),sM 12 13] [2,3,11,12] [2,3])
(cN 12
(sQ
(rG [sF 14 1 3,sL 15 14,sF 16 1 2,sL 17 16,sF 18 1 3,sL 19 18,sS 20 (.mF false [0] false (tT 17) (tT 19)),sS 21 (cB 514 15 20),sM 4 21] [4] [])
.ret)
(sQ
(rG [sS 23 (bZ .eql 11 2),sM 22 23] [2,3,11,22] [2,3])
(cN 22
(sQ
(.draw [(sF 24 2 2,[]),(sL 25 24,[]),(sS 26 (cA 515 25),[]),(sF 27 2 3,[]),(sL 28 27,[2]),(sS 29 (cA 515 28),[]),(sS 30 (bT .lss 26 29),[]),(sF 31 2 2,[]),(sL 32 31,[2,5]),(sF 33 2 3,[]),(sL 34 33,[2,5]),(sS 35 (bT .eql 32 34),[]),(sS 36 (cB 514 30 35),[]),(sM 4 36,[])] [4] [])
.ret)
(sQ
(rG [sS 38 (bZ .eql 11 3),sM 37 38] [2,3,11,37] [2,3])
(cN 37
(sQ
(sQ
(rG [sF 39 3 2,sL 40 39,sS 41 (lN 1 40),sF 42 3 3,sL 43 42,sS 44 (lN 1 43),sS 45 (bT .neq 41 44)] [2,3,45] [2,3])
(cN 45
(sQ
(rG [sF 46 3 2,sL 47 46,sS 48 (lN 1 47),sF 49 3 3,sL 50 49,sS 51 (lN 1 50),sS 52 (bT .lss 48 51),sS 53 (cL 514 [(tT 52),(bB false)]),sM 4 53] [4] [])
.ret)
.skip))
(sQ
(rG [sF 54 3 2,sL 55 54,sF 56 3 3,sL 57 56,sS 58 (bT .lss 55 57),sF 59 3 2,sL 60 59,sF 61 3 3,sL 62 61,sS 63 (bT .eql 60 62),sS 64 (cB 514 58 63),sM 4 64] [4] [])
.ret))
(sQ
(rG [sS 66 (bZ .eql 11 4),sM 65 66] [2,3,65] [2,3])
(cN 65
(sQ
(rG [sF 67 4 2,sL 68 67,sF 69 4 3,sL 70 69,sS 71 (bT .lss 68 70),sF 72 4 2,sL 73 72,sF 74 4 3,sL 75 74,sS 76 (bT .eql 73 75),sS 77 (cB 514 71 76),sM 4 77] [4] [])
.ret)
.skip))))))))))
(sQ
(rG [sS 4 (mZ 0)] [4] [])
.ret)))),[.tmp 4],false,false,false⟩
def F510:aa:=⟨1,(sQ
(rG [sS 1 (bX 1 8 0),sS 2 (mB false)] [1] [1])
(sQ
(rG [sS 4 (lT 8 1),sS 5 (cA 516 4),⟨some 3,.alloc 3 [pZ,.pv (.bool false),pZ,.pv (.str ⟨#[]⟩),pZ,.tl [],.tl [],.tl []],none⟩,nN (sT 8 3 5)] [1,3] [1,3])
(sQ
(rG [sF 6 1 1,sL 7 6,sF 8 1 3,sL 9 8,sS 10 (.mF false [0] false (tT 7) (tT 9)),sM 11 10,gT 12 (fL 2 1) 11,gT 13 (lF 1 12) 11,gT 14 (fL 2 3) 11,gT 15 (lF 1 14) 11,gT 16 (bT .eql 13 15) 11,sS 17 (pA 11 16),sM 18 17,gT 19 (fL 3 1) 18,gT 20 (lF 1 19) 18,gT 21 (fL 3 3) 18,gT 22 (lF 1 21) 18,gT 23 (bT .eql 20 22) 18,sS 24 (pA 18 23),sM 25 24,gT 26 (fL 4 1) 25,gT 27 (lF 1 26) 25,gT 28 (fL 4 3) 25,gT 29 (lF 1 28) 25,gT 30 (bT .eql 27 29) 25,sS 31 (pA 25 30),sM 32 31,gT 33 (fL 5 1) 32,gT 34 (lF 1 33) 32,gT 35 (lN 0 34) 32,gT 36 (fL 5 3) 32,gT 37 (lF 1 36) 32,gT 38 (lN 0 37) 32,gT 39 (bT .eql 35 38) 32,sS 40 (pA 32 39),sM 41 40,gT 42 (fL 6 1) 41,gT 43 (lF 1 42) 41,gT 44 (lN 0 43) 41,gT 45 (fL 6 3) 41,gT 46 (lF 1 45) 41,gT 47 (lN 0 46) 41,gT 48 (bT .eql 44 47) 41,sS 49 (pA 41 48),sM 50 49,gT 51 (fL 7 1) 50,gT 52 (lF 1 51) 50,gT 53 (lN 0 52) 50,gT 54 (fL 7 3) 50,gT 55 (lF 1 54) 50,gT 56 (lN 0 55) 50,gT 57 (bT .eql 53 56) 50,sS 58 (pA 50 57),sM 2 58] [2] [])
.ret))),[.tmp 2],false,false,false⟩
def F511:aa:=⟨1,(sQ
(rG [sS 2 (mB false)] [0] [])
(sQ
(rG [sM 3 0,sS 4 (bZ .geq 3 1),sM 5 4,gT 6 (mT 0) 5,gT 7 (bZ .leq 6 1000) 5,sS 8 (pA 5 7),sM 2 8] [2] [])
.ret)),[.tmp 2],false,false,false⟩
def F512:aa:=⟨4,(sQ
(rG [sS 4 (bX 4 1 0),sS 5 (bX 5 1 1),sS 7 (bX 7 1 3),sS 8 (mB false)] [2,4,5,7] [4,5,7])
(sQ
(rG [sM 9 2,sS 10 (.jA 518 [(tT 4),(tT 5),(tT 7)]),sS 11 (cB 517 9 10),sS 12 (nT 11),sM 8 12] [8] [])
.ret)),[.tmp 8],false,false,false⟩
def F513:aa:=⟨2,(sQ
(rG [sS 2 (bX 2 8 0),sS 3 (bX 3 8 1),sS 4 (mZ 0)] [2,3] [2,3])
(sQ
(sQ
(rG [sF 5 0 2,sL 6 5,sF 7 0 3,sL 8 7,sS 9 (bT .neq 6 8)] [2,3,9] [2,3])
(cN 9
(sQ
(rG [sS 4 (mZ 0)] [4] [])
.ret)
.skip))
(sQ
(sQ
(rG [sF 10 0 2,sL 11 10] [2,3,11] [2,3])
(.block 0
(sQ
(rG [sS 13 (bZ .eql 11 1),sM 12 13] [2,3,11,12] [2,3])
(cN 12
(sQ
(.block 1
(sQ
(rG [sF 15 1 2,sL 16 15,sF 17 1 3,sL 18 17,sS 19 (.mF false [0] false (tT 16) (tT 18)),sM 14 19] [3,14] [3])
(cN 14
(sQ
(rG [sS 4 (mZ 0)] [4] [])
.ret)
(sQ
(rG [sF 21 1 3,sL 22 21,sM 20 22] [20] [])
(cN 20
(sQ
(rG [sS 4 (.eJ (.val (.pv (.int .i64 (-1)))))] [4] [])
.ret)
.skip)))))
(sQ
(rG [sS 4 (mZ 1)] [4] [])
.ret))
(sQ
(rG [sS 24 (bZ .eql 11 2),sM 23 24] [2,3,11,23] [2,3])
(cN 23
(sQ
(.draw [(sF 25 2 2,[]),(sL 26 25,[]),(sS 27 (cA 520 26),[]),(sF 28 2 3,[]),(sL 29 28,[2]),(sS 30 (cA 520 29),[]),(sS 31 (cB 519 27 30),[]),(sM 4 31,[])] [4] [])
.ret)
(sQ
(rG [sS 33 (bZ .eql 11 3),sM 32 33] [2,3,11,32] [2,3])
(cN 32
(sQ
(.draw [(sF 34 3 2,[]),(sL 35 34,[]),(sS 36 (lN 1 35),[]),(sF 37 3 3,[]),(sL 38 37,[]),(sS 39 (lN 1 38),[]),(sS 40 (cB 60 36 39),[]),(sF 41 3 2,[]),(sL 42 41,[6]),(sF 43 3 3,[]),(sL 44 43,[6]),(sS 45 (cB 521 42 44),[]),(sS 46 (.lit 1 [pZ] 2 [(0,1,(tT 40)),(1,1,(tT 45))]),[]),(sS 47 (cA 59 46),[]),(sM 4 47,[])] [4] [])
.ret)
(sQ
(rG [sS 49 (bZ .eql 11 4),sM 48 49] [2,3,48] [2,3])
(cN 48
(sQ
(rG [sF 50 4 2,sL 51 50,sF 52 4 3,sL 53 52,sS 54 (cB 60 51 53),sM 4 54] [4] [])
.ret)
.skip))))))))))
(sQ
(rG [sS 4 (mZ 0)] [4] [])
.ret)))),[.tmp 4],false,false,false⟩
def F514:aa:=⟨2,(sQ
(rG [sS 4 (mZ 0)] [0,1] [])
(sQ
(sQ
(rG [sM 5 1] [0,5] [])
(cN 5
(sQ
(rG [sS 4 (mZ 0)] [4] [])
.ret)
.skip))
(sQ
(sQ
(rG [sM 6 0] [6] [])
(cN 6
(sQ
(rG [sS 4 (.eJ (.val (.pv (.int .i64 (-1)))))] [4] [])
.ret)
.skip))
(sQ
(rG [sS 4 (mZ 1)] [4] [])
.ret)))),[.tmp 4],false,false,false⟩
def F515:aa:=⟨1,(sQ
(rG [sS 2 (.eJ (.val (.pv (.int .u64 0))))] [0] [])
(sQ
(sQ
(rG [sM 3 0,sS 4 (bZ .geq 3 0)] [0,4] [])
(cN 4
(sQ
(rG [sM 5 0,sS 6 (.conv .u64 (tT 5)),sS 7 (.bin .mul (.val (.pv (.int .u64 2))) (tT 6)),sM 2 7] [2] [])
.ret)
.skip))
(sQ
(rG [sM 8 0,sS 9 (bZ .add 8 1),sS 10 (.un .neg (tT 9)),sS 11 (.conv .u64 (tT 10)),sS 12 (.bin .mul (.val (.pv (.int .u64 2))) (tT 11)),sS 13 (.bin .add (tT 12) (.val (.pv (.int .u64 1)))),sM 2 13] [2] [])
.ret))),[.tmp 2],false,false,false⟩
def F516:aa:=⟨1,(sQ
(rG [sS 1 (bX 1 8 0),⟨some 2,.alloc 2 [pZ,.pv (.bool false),pZ,.pv (.str ⟨#[]⟩),pZ,.tl [],.tl [],.tl []],none⟩] [1,2] [1,2])
(sQ
(rG [sF 4 0 1,sL 5 4,⟨some 6,.build [pZ,.pv (.bool false),pZ,.pv (.str ⟨#[]⟩),pZ,.tl [],.tl [],.tl []] [(0,1,(tT 5))],none⟩,⟨some 3,.alloc 3 [pZ,.pv (.bool false),pZ,.pv (.str ⟨#[]⟩),pZ,.tl [],.tl [],.tl []],none⟩,nN (sT 8 3 6)] [1,2,3] [1,2,3])
(sQ
(sQ
(rG [sF 7 0 1,sL 8 7] [1,2,3,8] [1,2,3])
(.block 0
(sQ
(rG [sS 10 (bZ .eql 8 1),sM 9 10] [1,2,3,8,9] [1,2,3])
(cN 9
(rG [sF 11 1 1,sL 12 11,sF 13 1 3,nN (sT 1 13 12)] [2,3] [2,3])
(sQ
(rG [sS 15 (bZ .eql 8 2),sM 14 15] [1,2,3,8,14] [1,2,3])
(cN 14
(rG [sF 16 2 1,sL 17 16,sF 18 2 3,nN (sT 1 18 17)] [2,3] [2,3])
(sQ
(rG [sS 20 (bZ .eql 8 3),sM 19 20] [1,2,3,8,19] [1,2,3])
(cN 19
(rG [sF 21 3 1,sL 22 21,sF 23 3 3,nN (sT 1 23 22)] [2,3] [2,3])
(sQ
(rG [sS 25 (bZ .eql 8 4),sM 24 25] [1,2,3,8,24] [1,2,3])
(cN 24
(rG [sF 26 4 1,sL 27 26,sF 28 4 3,nN (sT 1 28 27)] [2,3] [2,3])
(sQ
(rG [sS 30 (bZ .eql 8 5),sM 29 30] [1,2,3,8,29] [1,2,3])
(cN 29
(.draw [(sF 31 6 1,[]),(sL 32 31,[]),(sF 33 7 1,[]),(sL 34 33,[]),(sF 35 6 3,[]),(nN (sT 1 35 32),[3]),(sF 36 7 3,[]),(nN (sT 1 36 34),[])] [2,3] [2,3])
(sQ
(rG [sS 38 (bZ .eql 8 6),sM 37 38] [1,2,3,8,37] [1,2,3])
(cN 37
(.draw [(sF 39 4 1,[]),(sL 40 39,[]),(sF 41 6 1,[]),(sL 42 41,[]),(sF 43 7 1,[]),(sL 44 43,[]),(sF 45 4 3,[]),(nN (sT 1 45 40),[3,5]),(sF 46 6 3,[]),(nN (sT 1 46 42),[5]),(sF 47 7 3,[]),(nN (sT 1 47 44),[])] [2,3] [2,3])
(sQ
(rG [sS 49 (bZ .eql 8 8),sM 48 49] [1,2,3,8,48] [1,2,3])
(cN 48
(.draw [(sF 50 5 1,[]),(sL 51 50,[]),(sF 52 6 1,[]),(sL 53 52,[]),(sF 54 5 3,[]),(nN (sT 1 54 51),[3]),(sF 55 6 3,[]),(nN (sT 1 55 53),[])] [2,3] [2,3])
(sQ
(sQ
(rG [sS 57 (bZ .eql 8 7),sM 56 57] [1,2,3,8,56] [1,2,3])
(cN 56
.skip
(rG [sS 58 (bZ .eql 8 9),sM 56 58] [1,2,3,56] [1,2,3])))
(cN 56
(rG [sF 59 6 1,sL 60 59,sF 61 6 3,nN (sT 1 61 60)] [2,3] [2,3])
.skip))))))))))))))))))
(sQ
(rG [sS 62 (lT 8 3),nN (sT 8 2 62)] [2] [2])
.ret)))),[.cell 2 8 true],false,false,false⟩
def F517:aa:=⟨2,(sQ
(rG [sS 4 (mB false)] [0,1] [])
(sQ
(rG [sM 5 0,sM 6 1,sS 7 (cB 522 5 6),sS 8 (bZ .geq 7 0),sM 4 8] [4] [])
.ret)),[.tmp 4],false,false,false⟩
def F518:aa:=⟨4,(sQ
(rG [sS 4 (bX 4 8 0),sS 5 (mB false)] [1,2,3,4] [4])
(sQ
(rG [sS 6 (lT 1 1),sL 7 2,sS 8 (lT 8 4),sL 9 3,sS 10 (cL 503 [(tT 6),(tT 7),(tT 8),(tT 9)]),sS 11 (nT 10),sM 5 11] [5] [])
.ret)),[.tmp 5],false,false,false⟩
def F519:aa:=⟨2,(sQ
(rG [sS 4 (mZ 0)] [0,1] [])
(sQ
(rG [sM 7 0,sS 8 (cA 523 7),sM 5 8] [0,1,5] [])
(sQ
(rG [sM 9 1,sS 10 (cA 523 9),sM 6 10] [0,1,5,6] [])
(sQ
(sQ
(rG [sM 11 5] [0,1,6,11] [])
(cN 11
(sQ
(sQ
(rG [sM 12 6] [12] [])
(cN 12
(sQ
(rG [sS 4 (mZ 0)] [4] [])
.ret)
.skip))
(sQ
(rG [sS 4 (.eJ (.val (.pv (.int .i64 (-1)))))] [4] [])
.ret))
.skip))
(sQ
(sQ
(rG [sM 13 6] [0,1,13] [])
(cN 13
(sQ
(rG [sS 4 (mZ 1)] [4] [])
.ret)
.skip))
(sQ
(sQ
(rG [sM 14 0,sM 15 1,sS 16 (bT .lss 14 15)] [0,1,16] [])
(cN 16
(sQ
(rG [sS 4 (.eJ (.val (.pv (.int .i64 (-1)))))] [4] [])
.ret)
.skip))
(sQ
(sQ
(rG [sM 17 0,sM 18 1,sS 19 (bT .gtr 17 18)] [19] [])
(cN 19
(sQ
(rG [sS 4 (mZ 1)] [4] [])
.ret)
.skip))
(sQ
(rG [sS 4 (mZ 0)] [4] [])
.ret)))))))),[.tmp 4],false,false,false⟩
def F520:aa:=⟨1,(sQ
(rG [sS 2 (.eJ (.val (.pv (.int .u64 0))))] [0] [])
(sQ
(rG [sM 3 0,sS 4 (.conv .u64 (tT 3)),sS 5 (.bin .shl (tT 4) (.val (.pv (.int .u64 1)))),sM 6 0,sS 7 (.bin .shr (tT 6) (.val (.pv (.int .u64 63)))),sS 8 (.conv .u64 (tT 7)),sS 9 (bT .xor 5 8),sM 2 9] [2] [])
.ret)),[.tmp 2],false,false,false⟩
def F521:aa:=⟨2,(sQ
(rG [sS 4 (mZ 0)] [0,1] [])
(sQ
(rG [sM 7 0,sS 8 (cA 524 7),sM 5 8] [0,1,5] [])
(sQ
(rG [sM 9 1,sS 10 (cA 524 9),sM 6 10] [0,1,5,6] [])
(sQ
(sQ
(rG [sM 11 5] [0,1,6,11] [])
(cN 11
(sQ
(sQ
(rG [sM 12 6] [12] [])
(cN 12
(sQ
(rG [sS 4 (mZ 0)] [4] [])
.ret)
.skip))
(sQ
(rG [sS 4 (.eJ (.val (.pv (.int .i64 (-1)))))] [4] [])
.ret))
.skip))
(sQ
(sQ
(rG [sM 13 6] [0,1,13] [])
(cN 13
(sQ
(rG [sS 4 (mZ 1)] [4] [])
.ret)
.skip))
(sQ
(sQ
(rG [sM 14 0,sM 15 1,sS 16 (bT .lss 14 15)] [0,1,16] [])
(cN 16
(sQ
(rG [sS 4 (.eJ (.val (.pv (.int .i64 (-1)))))] [4] [])
.ret)
.skip))
(sQ
(sQ
(rG [sM 17 0,sM 18 1,sS 19 (bT .gtr 17 18)] [19] [])
(cN 19
(sQ
(rG [sS 4 (mZ 1)] [4] [])
.ret)
.skip))
(sQ
(rG [sS 4 (mZ 0)] [4] [])
.ret)))))))),[.tmp 4],false,false,false⟩
def F522:aa:=⟨2,(sQ
(rG [sS 4 (mZ 0)] [0,1] [])
(sQ
(sQ
(rG [sM 6 0,sS 7 (lN 0 6),sS 8 (mZ 0)] [0,1,7,8] [])
(.block 0
(.loop
(.mask [0,1,7,8] []
(sQ
(rG [sS 9 (bT .lss 8 7)] [0,1,7,8,9] [])
(sQ
(cN 9
.skip
(.exit 0))
(sQ
(.block 1
(sQ
(rG [sM 10 8,sM 5 10] [0,1,5,7,8] [])
(sQ
(rG [sM 11 1,sM 12 0,sM 13 5,sS 14 (iX 8 12 13),sS 15 (lT 8 14),sS 16 (.call (tT 11) [(tT 15)])] [0,1,5,7,8,16] [])
(cN 16
(sQ
(rG [sM 17 5,sM 4 17] [4] [])
.ret)
.skip))))
(rG [sS 18 (bZ .add 8 1),sM 8 18] [0,1,7,8] []))))))))
(sQ
(rG [sS 4 (.eJ (.val (.pv (.int .i64 (-1)))))] [4] [])
.ret))),[.tmp 4],false,false,false⟩
def F523:aa:=⟨1,(sQ
(rG [sS 2 (mB false)] [0] [])
(sQ
(rG [sM 3 0,sM 4 0,sS 5 (bT .neq 3 4),sM 2 5] [2] [])
.ret)),[.tmp 2],false,false,false⟩
def F524:aa:=⟨1,(sQ
(rG [sS 2 (mB false)] [0] [])
(sQ
(rG [sM 3 0,sM 4 0,sS 5 (bT .neq 3 4),sM 2 5] [2] [])
.ret)),[.tmp 2],false,false,false⟩
end Go.Pv
