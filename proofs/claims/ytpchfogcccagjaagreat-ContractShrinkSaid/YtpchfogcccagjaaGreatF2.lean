/-
  Functions of the program,as the interpreter reads them.
-/
import Derived.Test.YtpchfogcccagjaaGreatF1
import Derived.Test.YtpchfogcccagjaaGreatProg
import Derived.KernelRfl
namespace Go.Pv
open Go.Proofs
set_option maxRecDepth 100000
set_option maxHeartbeats 4000000
def Lo:Rd Tryz.f262 [([0,1],[]),([0,1,5],[]),([0,1,5,6],[]),([0,1,6,11],[]),([12],[]),([4],[]),([4],[]),([0,1,13],[]),([4],[]),([0,1,16],[]),([4],[]),([19],[]),([4],[]),([4],[])]:=⟨_,by conv=>lhs; reduce; dsimp only[iE,jE,nE]⟩
def F521:ae:=⟨2,Lo.1,[.tmp 4],false,false,false⟩
def Lp:Rd Tryz.f264 [([0,1],[]),([0,1,7,8],[]),([0,1,7,8],[]),([0,1,7,8,9],[]),([0,1,5,7,8],[]),([0,1,5,7,8,16],[]),([4],[]),([0,1,7,8],[]),([4],[])]:=⟨_,by conv=>lhs; reduce; dsimp only[iE,jE,nE]⟩
def F522:ae:=⟨2,Lp.1,[.tmp 4],false,false,false⟩
def Lq:Rd Tryz.f265 [([0],[]),([2],[])]:=⟨_,by conv=>lhs; reduce⟩
def F523:ae:=⟨1,Lq.1,[.tmp 2],false,false,false⟩
def Lr:Rd Tryz.f266 [([0],[]),([2],[])]:=⟨_,by conv=>lhs; reduce⟩
def F524:ae:=⟨1,Lr.1,[.tmp 2],false,false,false⟩
end Go.Pv
