/-
  Functions of the program,as the interpreter reads them.
-/
import Derived.Test.YtpchfogcccagjaaGreatF1
import Derived.Test.YtpchfogcccagjaaGreatProg
import Derived.KernelRfl
namespace Go.Pv
open Go.Proofs
set_option maxRecDepth 100000
set_option maxHeartbeats 4000000
def LX:Rd Tryz.f240 [([1,2,3,4],[4]),([1,2,3,4,9],[4]),([1,2,3,4,9],[4]),([1,2,3,4,9,13],[4]),([1,2,3,4,9,24],[4]),([8],[]),([1,2,3,4,9],[4]),([8],[])]:=⟨_,by conv=>lhs;reduce;dsimp only[iE,jE]⟩
def F508:bA:=⟨4,LX.1,[.tmp 8],false,false,false⟩
def LY:Rd Tryz.f241 [([2,3],[2,3]),([2,3,9],[2,3]),([4],[]),([2,3,11],[2,3]),([2,3,11,12],[2,3]),([4],[]),([2,3,11,22],[2,3]),([4],[]),([2,3,11,37],[2,3]),([2,3,45],[2,3]),([4],[]),([4],[]),([2,3,65],[2,3]),([4],[]),([4],[])]:=⟨_,by conv=>lhs;reduce;dsimp only[iE,jE]⟩
def F509:bA:=⟨2,LY.1,[.tmp 4],false,false,false⟩
def LZ:Rd Tryz.f242 [([1],[1]),([1,3],[1,3]),([2],[])]:=⟨_,by conv=>lhs;reduce;dsimp only[iE,jE]⟩
def F510:bA:=⟨1,LZ.1,[.tmp 2],false,false,false⟩
def RC:Rd Tryz.f244 [([0],[]),([2],[])]:=⟨_,by conv=>lhs;reduce;dsimp only[iE,jE]⟩
def F511:bA:=⟨1,RC.1,[.tmp 2],false,false,false⟩
def L3:Rd Tryz.f246 [([2,4,5,7],[4,5,7]),([8],[])]:=⟨_,by conv=>lhs;reduce⟩
def F512:bA:=⟨4,L3.1,[.tmp 8],false,false,false⟩
def L4:Rd Tryz.f247 [([2,3],[2,3]),([2,3,9],[2,3]),([4],[]),([2,3,11],[2,3]),([2,3,11,12],[2,3]),([3,14],[3]),([4],[]),([20],[]),([4],[]),([4],[]),([2,3,11,23],[2,3]),([4],[]),([2,3,11,32],[2,3]),([4],[]),([2,3,48],[2,3]),([4],[]),([4],[])]:=⟨_,by conv=>lhs;reduce;dsimp only[iE,jE,nE]⟩
def F513:bA:=⟨2,L4.1,[.tmp 4],false,false,false⟩
def L5:Rd Tryz.f251 [([0,1],[]),([0,5],[]),([4],[]),([6],[]),([4],[]),([4],[])]:=⟨_,by conv=>lhs;reduce;dsimp only[iE,jE,nE]⟩
def F514:bA:=⟨2,L5.1,[.tmp 4],false,false,false⟩
def L6:Rd Tryz.f252 [([0],[]),([0,4],[]),([2],[]),([2],[])]:=⟨_,by conv=>lhs;reduce;dsimp only[iE,jE]⟩
def F515:bA:=⟨1,L6.1,[.tmp 2],false,false,false⟩
def L7:Rd Tryz.f253 [([1,2],[1,2]),([1,2,3],[1,2,3]),([1,2,3,8],[1,2,3]),([1,2,3,8,9],[1,2,3]),([2,3],[2,3]),([1,2,3,8,14],[1,2,3]),([2,3],[2,3]),([1,2,3,8,19],[1,2,3]),([2,3],[2,3]),([1,2,3,8,24],[1,2,3]),([2,3],[2,3]),([1,2,3,8,29],[1,2,3]),([2,3],[2,3]),([1,2,3,8,37],[1,2,3]),([2,3],[2,3]),([1,2,3,8,48],[1,2,3]),([2,3],[2,3]),([1,2,3,8,56],[1,2,3]),([1,2,3,56],[1,2,3]),([2,3],[2,3]),([2],[2])]:=⟨_,by conv=>lhs;reduce;dsimp only[iE,jE]⟩
def F516:bA:=⟨1,L7.1,[.cell 2 8 true],false,false,false⟩
def L8:Rd Tryz.f258 [([0,1],[]),([4],[])]:=⟨_,by conv=>lhs;reduce;dsimp only[iE,jE]⟩
def F517:bA:=⟨2,L8.1,[.tmp 4],false,false,false⟩
def L9:Rd Tryz.f259 [([1,2,3,4],[4]),([5],[])]:=⟨_,by conv=>lhs;reduce⟩
def F518:bA:=⟨4,L9.1,[.tmp 5],false,false,false⟩
def Ma:Rd Tryz.f260 [([0,1],[]),([0,1,5],[]),([0,1,5,6],[]),([0,1,6,11],[]),([12],[]),([4],[]),([4],[]),([0,1,13],[]),([4],[]),([0,1,16],[]),([4],[]),([19],[]),([4],[]),([4],[])]:=⟨_,by conv=>lhs;reduce;dsimp only[iE,jE,nE]⟩
def F519:bA:=⟨2,Ma.1,[.tmp 4],false,false,false⟩
def Mb:Rd Tryz.f261 [([0],[]),([2],[])]:=⟨_,by conv=>lhs;reduce;dsimp only[iE,jE]⟩
def F520:bA:=⟨1,Mb.1,[.tmp 2],false,false,false⟩
def Mc:Rd Tryz.f262 [([0,1],[]),([0,1,5],[]),([0,1,5,6],[]),([0,1,6,11],[]),([12],[]),([4],[]),([4],[]),([0,1,13],[]),([4],[]),([0,1,16],[]),([4],[]),([19],[]),([4],[]),([4],[])]:=⟨_,by conv=>lhs;reduce;dsimp only[iE,jE,nE]⟩
def F521:bA:=⟨2,Mc.1,[.tmp 4],false,false,false⟩
def Md:Rd Tryz.f264 [([0,1],[]),([0,1,7,8],[]),([0,1,7,8],[]),([0,1,7,8,9],[]),([0,1,5,7,8],[]),([0,1,5,7,8,16],[]),([4],[]),([0,1,7,8],[]),([4],[])]:=⟨_,by conv=>lhs;reduce;dsimp only[iE,jE,nE]⟩
def F522:bA:=⟨2,Md.1,[.tmp 4],false,false,false⟩
def Me:Rd Tryz.f265 [([0],[]),([2],[])]:=⟨_,by conv=>lhs;reduce⟩
def F523:bA:=⟨1,Me.1,[.tmp 2],false,false,false⟩
def Mf:Rd Tryz.f266 [([0],[]),([2],[])]:=⟨_,by conv=>lhs;reduce⟩
def F524:bA:=⟨1,Mf.1,[.tmp 2],false,false,false⟩
end Go.Pv
