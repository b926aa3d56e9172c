/-
  The functions read are those of the program.
-/
import Derived.Test.YtppmbamefnacaaaDoorTab
import Derived.Test.YtppmbamefnacaaaDoorProg
import Derived.KernelRfl
set_option linter.unusedSimpArgs false
set_option linter.unusedVariables false
namespace Go.Proofs.YtppmbamefnacaaaDoor
open Go Go.Pv Go.Proofs
def numL : List Nat := [99999,99999,99999,99999,99999,99999,99999,99999,99999,99999,99999,99999,99999,99999,99999,99999,99999,99999,99999,99999,99999,99999,99999,99999,99999,22,99999,99999,99999,58,99999,99999,99999,99999,99999,99999,99999,99999,99999,42,99999,99999,99999,43,59,52,71,72,99999,99999,99999,99999,99999,99999,99999,99999,99999,99999,87,49,50,99999,99999,99999,99999,99999,69,99999,99999,99999,99999,99999,99999,99999,99999,99999,86,76,99999,99999,99999,99999,99999,99999,99999,99999,99999,99999,99999,99999,99999,99999,99999,99999,99999,56,99999,99999,99999,99999,99999,99999,99999,99999,99999,99999,99999,99999,74,99999,38,99999,99999,99999,99999,99999,99999,89,32,99999,99999,99999,99999,99999,99999,99999,99999,99999,99999,99999,99999,99999,99999,99999,99999,99999,99999,99999,99999,99999,99999,99999,99999,99999,99999,99999,99999,99999,99999,99999,99999,99999,36,99999,15,9,99999,40,99999,41,99999,99999,99999,99999,6,99999,99999,99999,99999,99999,99999,10,99999,99999,11,99999,34,61,99999,62,63,64,30,99999,23,99999,29,28,75,46,53,54,99999,99999,60,99999,47,48,51,99999,73,99999,99999,88,99999,99999,99999,99999,99999,99999,99999,99999,95,96,99999,98,99999,99999,99999,100,99999,102,103,99999,104,105,99999,99999,99999,99999,99999,99999,3,99999,99999,7,8,12,13,14,16,18,99999,99999,24,25,26,27,31,33,35,39,44,45,55,57,65,66,70]
def num (n : Nat) : Nat := numL.getD n 99999
def ourL : List Nat := [99999,99999,99999,232,99999,99999,164,235,236,155,171,174,237,238,239,154,240,99999,241,99999,99999,99999,25,184,244,245,246,247,187,186,182,248,118,249,176,250,152,99999,110,251,157,159,39,43,252,253,189,196,197,59,60,198,45,190,191,254,95,255,29,44,194,177,179,180,181,256,257,99999,99999,66,258,46,47,200,108,188,77,99999,99999,99999,99999,99999,99999,99999,99999,99999,76,58,203,117,99999,99999,99999,99999,99999,212,213,99999,215,99999,219,99999,221,222,224,225]
def our (f : Nat) : Nat := ourL.getD f 99999
set_option maxRecDepth 100000 in
theorem ok25 : ∃ an,FnOk Tryd.prog num our (num 25) an F25 := ⟨[([1,2],[1,2]),([1,2,4],[1,2,4]),([1,2,4,5],[1,2,4]),([1,2,4,5],[1,2,4]),([1,2,4,5,24],[1,2,4]),([1,2,4,5,6],[1,2,4,6]),([1,2,4,5,7],[1,2,4,7]),([1,2,4,5,7,9],[1,2,4,7]),([1,2,4,5,7,67],[1,2,4,7]),([1,2,4,5],[1,2,4]),([1,2,4,5],[1,2,4]),([2,3],[2])],Tryd.f22,Tryd.f22.body.getD .skip,Tryd.func22,by kernel_rfl,by kernel_rfl,Nat.le_of_ble_eq_true (by kernel_rfl),by kernel_rfl,by kernel_rfl⟩
set_option maxRecDepth 100000 in
theorem ok29 : ∃ an,FnOk Tryd.prog num our (num 29) an F29 := ⟨[([1],[1]),([1,14],[1]),([2],[]),([1,3],[1]),([1,3,20],[1]),([2],[]),([1,3,22,23,24],[1]),([1,3,22,23,24],[1]),([1,3,22,23,24,25],[1]),([1,3,4,5,22,23,24],[1,5]),([1,3,22,23,24,65],[1]),([2],[]),([1,3,22,23,24],[1]),([2],[])],Tryd.f58,Tryd.f58.body.getD .skip,Tryd.func58,by kernel_rfl,by kernel_rfl,Nat.le_of_ble_eq_true (by kernel_rfl),by kernel_rfl,by kernel_rfl⟩
set_option maxRecDepth 100000 in
theorem ok39 : ∃ an,FnOk Tryd.prog num our (num 39) an F39 := ⟨[([1,2,3,4],[4]),([1,2,3,4,10],[4]),([1,2,3,4,10],[4]),([1,2,3,4,10,16],[4]),([1,2,3,4,10,11],[4,11]),([1,2,3,4,10,11,39],[4,11]),([8,9],[]),([1,2,3,4,10],[4]),([8,9],[])],Tryd.f42,Tryd.f42.body.getD .skip,Tryd.func42,by kernel_rfl,by kernel_rfl,Nat.le_of_ble_eq_true (by kernel_rfl),by kernel_rfl,by kernel_rfl⟩
set_option maxRecDepth 100000 in
theorem ok43 : ∃ an,FnOk Tryd.prog num our (num 43) an F43 := ⟨[([1,2],[1,2]),([1,2,3],[1,2,3]),([1,2,3,4],[1,2,3]),([1,2,3,4],[1,2,3]),([1,2,3,4,15],[1,2,3]),([1,2,3,4],[1,2,3]),([1,2,3,4,5],[1,2,3]),([1,2,3,4,5],[1,2,3]),([1,2,3,4,5,47],[1,2,3]),([1,2,3,4,5],[1,2,3]),([1,2,3,4,5],[1,2,3]),([1,2,3,4],[1,2,3]),([2],[2])],Tryd.f43,Tryd.f43.body.getD .skip,Tryd.func43,by kernel_rfl,by kernel_rfl,Nat.le_of_ble_eq_true (by kernel_rfl),by kernel_rfl,by kernel_rfl⟩
set_option maxRecDepth 100000 in
theorem ok44 : ∃ an,FnOk Tryd.prog num our (num 44) an F44 := ⟨[([2,3],[2,3]),([2,3,9],[2,3]),([4],[]),([2,3,19],[2,3]),([4],[]),([4],[])],Tryd.f59,Tryd.f59.body.getD .skip,Tryd.func59,by kernel_rfl,by kernel_rfl,Nat.le_of_ble_eq_true (by kernel_rfl),by kernel_rfl,by kernel_rfl⟩
set_option maxRecDepth 100000 in
theorem ok45 : ∃ an,FnOk Tryd.prog num our (num 45) an F45 := ⟨[([1,2,3,4],[4]),([1,2,3,13,14,15],[]),([1,2,3,13,14,15],[]),([1,2,3,13,14,15,16],[]),([1,2,3,11,13,14,15],[11]),([1,2,3,11,13,14,15,34],[11]),([8,9],[]),([1,2,3,13,14,15],[]),([8,9],[])],Tryd.f52,Tryd.f52.body.getD .skip,Tryd.func52,by kernel_rfl,by kernel_rfl,Nat.le_of_ble_eq_true (by kernel_rfl),by kernel_rfl,by kernel_rfl⟩
set_option maxRecDepth 100000 in
theorem ok46 : ∃ an,FnOk Tryd.prog num our (num 46) an F46 := ⟨[([0,1],[]),([3],[])],Tryd.f71,Tryd.f71.body.getD .skip,Tryd.func71,by kernel_rfl,by kernel_rfl,Nat.le_of_ble_eq_true (by kernel_rfl),by kernel_rfl,by kernel_rfl⟩
set_option maxRecDepth 100000 in
theorem ok47 : ∃ an,FnOk Tryd.prog num our (num 47) an F47 := ⟨[([2,3],[2,3]),([2,3,5],[2,3]),([4],[])],Tryd.f72,Tryd.f72.body.getD .skip,Tryd.func72,by kernel_rfl,by kernel_rfl,Nat.le_of_ble_eq_true (by kernel_rfl),by kernel_rfl,by kernel_rfl⟩
set_option maxRecDepth 100000 in
theorem ok58 : ∃ an,FnOk Tryd.prog num our (num 58) an F58 := ⟨[([1],[1]),([4],[]),([2],[]),([2],[])],Tryd.f87,Tryd.f87.body.getD .skip,Tryd.func87,by kernel_rfl,by kernel_rfl,Nat.le_of_ble_eq_true (by kernel_rfl),by kernel_rfl,by kernel_rfl⟩
set_option maxRecDepth 100000 in
theorem ok59 : ∃ an,FnOk Tryd.prog num our (num 59) an F59 := ⟨[([0],[]),([0,3],[]),([3,6,7,8],[]),([3,6,7,8],[]),([3,6,7,8,9],[]),([3,5,6,7,8],[]),([3,5,6,7,8,14],[]),([2],[]),([3,6,7,8],[]),([2],[])],Tryd.f49,Tryd.f49.body.getD .skip,Tryd.func49,by kernel_rfl,by kernel_rfl,Nat.le_of_ble_eq_true (by kernel_rfl),by kernel_rfl,by kernel_rfl⟩
set_option maxRecDepth 100000 in
theorem ok60 : ∃ an,FnOk Tryd.prog num our (num 60) an F60 := ⟨[([0,1],[]),([0,1,5],[]),([0,1,5,6],[]),([0,1,6,11],[]),([12],[]),([4],[]),([4],[]),([0,1,13],[]),([4],[]),([0,1,16],[]),([4],[]),([19],[]),([4],[]),([4],[])],Tryd.f50,Tryd.f50.body.getD .skip,Tryd.func50,by kernel_rfl,by kernel_rfl,Nat.le_of_ble_eq_true (by kernel_rfl),by kernel_rfl,by kernel_rfl⟩
set_option maxRecDepth 100000 in
theorem ok66 : ∃ an,FnOk Tryd.prog num our (num 66) an F66 := ⟨[([0],[]),([2],[])],Tryd.f69,Tryd.f69.body.getD .skip,Tryd.func69,by kernel_rfl,by kernel_rfl,Nat.le_of_ble_eq_true (by kernel_rfl),by kernel_rfl,by kernel_rfl⟩
set_option maxRecDepth 100000 in
theorem ok76 : ∃ an,FnOk Tryd.prog num our (num 76) an F76 := ⟨[([0,2],[]),([0,2,4],[]),([0],[]),([0,2],[]),([0,2,8],[]),([0,2],[]),([0,2],[]),([0,2,14],[]),([0,2],[]),([0,2],[]),([2],[])],Tryd.f86,Tryd.f86.body.getD .skip,Tryd.func86,by kernel_rfl,by kernel_rfl,Nat.le_of_ble_eq_true (by kernel_rfl),by kernel_rfl,by kernel_rfl⟩
set_option maxRecDepth 100000 in
theorem ok77 : ∃ an,FnOk Tryd.prog num our (num 77) an F77 := ⟨[([0,1],[]),([0,1,7,8],[]),([0,1,7,8],[]),([0,1,7,8,9],[]),([0,1,5,7,8],[]),([0,1,5,7,8,16],[]),([4],[]),([0,1,7,8],[]),([4],[])],Tryd.f76,Tryd.f76.body.getD .skip,Tryd.func76,by kernel_rfl,by kernel_rfl,Nat.le_of_ble_eq_true (by kernel_rfl),by kernel_rfl,by kernel_rfl⟩
set_option maxRecDepth 100000 in
theorem ok95 : ∃ an,FnOk Tryd.prog num our (num 95) an F95 := ⟨[([1],[1]),([1,16],[1]),([2],[]),([1,3],[1]),([1,3,21,22,23],[1]),([1,3,21,22,23],[1]),([1,3,21,22,23,24],[1]),([1,3,5,21,22,23],[1,5]),([1,3,5,21,22,23,36],[1,5]),([1,3,21,22,23],[1]),([1,3,21,22,23],[1]),([3,6],[]),([6,42,43,44],[]),([6,42,43,44],[]),([6,42,43,44,45],[]),([6,7,8,42,43,44],[]),([6,7,42,43,44,50],[]),([6,42,43,44],[]),([6,42,43,44],[]),([2],[])],Tryd.f56,Tryd.f56.body.getD .skip,Tryd.func56,by kernel_rfl,by kernel_rfl,Nat.le_of_ble_eq_true (by kernel_rfl),by kernel_rfl,by kernel_rfl⟩
set_option maxRecDepth 100000 in
theorem ok108 : ∃ an,FnOk Tryd.prog num our (num 108) an F108 := ⟨[([0,1],[]),([4],[])],Tryd.f74,Tryd.f74.body.getD .skip,Tryd.func74,by kernel_rfl,by kernel_rfl,Nat.le_of_ble_eq_true (by kernel_rfl),by kernel_rfl,by kernel_rfl⟩
set_option maxRecDepth 100000 in
theorem ok110 : ∃ an,FnOk Tryd.prog num our (num 110) an F110 := ⟨[([0,1],[]),([4],[])],Tryd.f38,Tryd.f38.body.getD .skip,Tryd.func38,by kernel_rfl,by kernel_rfl,Nat.le_of_ble_eq_true (by kernel_rfl),by kernel_rfl,by kernel_rfl⟩
set_option maxRecDepth 100000 in
theorem ok117 : ∃ an,FnOk Tryd.prog num our (num 117) an F117 := ⟨[([0,1],[]),([0,1,7,8],[]),([0,1,7,8],[]),([0,1,7,8,9],[]),([0,1,5,7,8],[]),([0,1,5,7,8,16],[]),([4],[]),([0,1,7,8],[]),([4],[])],Tryd.f89,Tryd.f89.body.getD .skip,Tryd.func89,by kernel_rfl,by kernel_rfl,Nat.le_of_ble_eq_true (by kernel_rfl),by kernel_rfl,by kernel_rfl⟩
set_option maxRecDepth 100000 in
theorem ok118 : ∃ an,FnOk Tryd.prog num our (num 118) an F118 := ⟨[([0,1],[]),([0,1,7,8],[]),([0,1,7,8],[]),([0,1,7,8,9],[]),([0,1,5,7,8],[]),([0,1,5,7,8,16],[]),([4],[]),([0,1,7,8],[]),([4],[])],Tryd.f32,Tryd.f32.body.getD .skip,Tryd.func32,by kernel_rfl,by kernel_rfl,Nat.le_of_ble_eq_true (by kernel_rfl),by kernel_rfl,by kernel_rfl⟩
set_option maxRecDepth 100000 in
theorem ok152 : ∃ an,FnOk Tryd.prog num our (num 152) an F152 := ⟨[([1],[1]),([1,3],[1]),([1,3,9],[1]),([2],[]),([1,4],[1]),([1,4,15],[1]),([2],[]),([24],[]),([2],[]),([2],[])],Tryd.f36,Tryd.f36.body.getD .skip,Tryd.func36,by kernel_rfl,by kernel_rfl,Nat.le_of_ble_eq_true (by kernel_rfl),by kernel_rfl,by kernel_rfl⟩
set_option maxRecDepth 100000 in
theorem ok154 : ∃ an,FnOk Tryd.prog num our (num 154) an F154 := ⟨[([2,3],[2,3]),([4],[])],Tryd.f15,Tryd.f15.body.getD .skip,Tryd.func15,by kernel_rfl,by kernel_rfl,Nat.le_of_ble_eq_true (by kernel_rfl),by kernel_rfl,by kernel_rfl⟩
set_option maxRecDepth 100000 in
theorem ok155 : ∃ an,FnOk Tryd.prog num our (num 155) an F155 := ⟨[([1,2],[1,2]),([2],[2])],Tryd.f9,Tryd.f9.body.getD .skip,Tryd.func9,by kernel_rfl,by kernel_rfl,Nat.le_of_ble_eq_true (by kernel_rfl),by kernel_rfl,by kernel_rfl⟩
set_option maxRecDepth 100000 in
theorem ok157 : ∃ an,FnOk Tryd.prog num our (num 157) an F157 := ⟨[([2,3],[2,3]),([2,3,5],[2,3]),([4],[])],Tryd.f40,Tryd.f40.body.getD .skip,Tryd.func40,by kernel_rfl,by kernel_rfl,Nat.le_of_ble_eq_true (by kernel_rfl),by kernel_rfl,by kernel_rfl⟩
set_option maxRecDepth 100000 in
theorem ok159 : ∃ an,FnOk Tryd.prog num our (num 159) an F159 := ⟨[([2,3],[2,3]),([2,3,19],[2,3]),([4],[]),([2,3,5],[2,3]),([4],[])],Tryd.f41,Tryd.f41.body.getD .skip,Tryd.func41,by kernel_rfl,by kernel_rfl,Nat.le_of_ble_eq_true (by kernel_rfl),by kernel_rfl,by kernel_rfl⟩
set_option maxRecDepth 100000 in
theorem ok164 : ∃ an,FnOk Tryd.prog num our (num 164) an F164 := ⟨[([1,2],[1,2]),([1,2,23],[1,2]),([2,3],[2]),([1,2,4],[1,2,4]),([1,2,4,6],[1,2,4]),([1,2,4,6,7],[1,2,4]),([1,2,4,6,7,40],[1,2,4]),([1,2,4,6,7,8],[1,2,4]),([1,2,4,6,7,8],[1,2,4]),([1,2,4,6,7,8,45],[1,2,4]),([1,2,4,6,7,8,9],[1,2,4,9]),([1,2,4,6,7,8,9,10],[1,2,4,9]),([1,2,4,6,7,8,9,10,60],[1,2,4,9]),([1,2,4,6,7,8,9,10],[1,2,4,9]),([1,2,4,6,7,8,9,10,69],[1,2,4,9]),([1,2,4,6,7,8],[1,2,4]),([1,2,4,6,7,8],[1,2,4]),([1,2,4,6,7],[1,2,4]),([1,2,4,6,7],[1,2,4]),([1,2,4,11],[1,2,4,11]),([2,3],[2])],Tryd.f6,Tryd.f6.body.getD .skip,Tryd.func6,by kernel_rfl,by kernel_rfl,Nat.le_of_ble_eq_true (by kernel_rfl),by kernel_rfl,by kernel_rfl⟩
set_option maxRecDepth 100000 in
theorem ok171 : ∃ an,FnOk Tryd.prog num our (num 171) an F171 := ⟨[([2,3],[2,3]),([2,3,6],[2,3]),([2,3,6,11],[2,3]),([4,5],[]),([4,5],[])],Tryd.f10,Tryd.f10.body.getD .skip,Tryd.func10,by kernel_rfl,by kernel_rfl,Nat.le_of_ble_eq_true (by kernel_rfl),by kernel_rfl,by kernel_rfl⟩
set_option maxRecDepth 100000 in
theorem ok174 : ∃ an,FnOk Tryd.prog num our (num 174) an F174 := ⟨[([3,4,5,6],[3,4,5,6]),([3,4,5,6,8],[3,4,5,6]),([3,4,5,6,8,15],[3,4,5,6]),([6,7],[6]),([6,9,10],[6,9]),([6,9,26],[6,9]),([6,7],[6]),([6,7],[6])],Tryd.f11,Tryd.f11.body.getD .skip,Tryd.func11,by kernel_rfl,by kernel_rfl,Nat.le_of_ble_eq_true (by kernel_rfl),by kernel_rfl,by kernel_rfl⟩
set_option maxRecDepth 100000 in
theorem ok176 : ∃ an,FnOk Tryd.prog num our (num 176) an F176 := ⟨[([0,1],[]),([0,1,10],[]),([4],[]),([0,1,5],[]),([0,1,5],[]),([0,1,5,14],[]),([0,1,5,25],[]),([4],[]),([0,1,5],[]),([4],[])],Tryd.f34,Tryd.f34.body.getD .skip,Tryd.func34,by kernel_rfl,by kernel_rfl,Nat.le_of_ble_eq_true (by kernel_rfl),by kernel_rfl,by kernel_rfl⟩
set_option maxRecDepth 100000 in
theorem ok177 : ∃ an,FnOk Tryd.prog num our (num 177) an F177 := ⟨[([0,1],[]),([4],[])],Tryd.f61,Tryd.f61.body.getD .skip,Tryd.func61,by kernel_rfl,by kernel_rfl,Nat.le_of_ble_eq_true (by kernel_rfl),by kernel_rfl,by kernel_rfl⟩
set_option maxRecDepth 100000 in
theorem ok179 : ∃ an,FnOk Tryd.prog num our (num 179) an F179 := ⟨[([2,3],[2,3]),([4],[])],Tryd.f62,Tryd.f62.body.getD .skip,Tryd.func62,by kernel_rfl,by kernel_rfl,Nat.le_of_ble_eq_true (by kernel_rfl),by kernel_rfl,by kernel_rfl⟩
set_option maxRecDepth 100000 in
theorem ok180 : ∃ an,FnOk Tryd.prog num our (num 180) an F180 := ⟨[([0,1],[]),([4],[])],Tryd.f63,Tryd.f63.body.getD .skip,Tryd.func63,by kernel_rfl,by kernel_rfl,Nat.le_of_ble_eq_true (by kernel_rfl),by kernel_rfl,by kernel_rfl⟩
set_option maxRecDepth 100000 in
theorem ok181 : ∃ an,FnOk Tryd.prog num our (num 181) an F181 := ⟨[([1,2],[2]),([3],[])],Tryd.f64,Tryd.f64.body.getD .skip,Tryd.func64,by kernel_rfl,by kernel_rfl,Nat.le_of_ble_eq_true (by kernel_rfl),by kernel_rfl,by kernel_rfl⟩
set_option maxRecDepth 100000 in
theorem ok182 : ∃ an,FnOk Tryd.prog num our (num 182) an F182 := ⟨[([3,4,5,6],[3,4,5,6]),([3,4,5,6,18],[3,4,5,6]),([6,7],[6]),([4,5,6,8],[4,5,6,8]),([4,5,6,8,9,10],[4,5,6,8]),([4,5,6,8,9,37],[4,5,6,8]),([6,7],[6]),([4,5,6,8,9,41],[4,5,6,8]),([6,7],[6]),([4,5,6,8,9,64],[4,5,6,8]),([6,7],[6]),([6,7],[6])],Tryd.f30,Tryd.f30.body.getD .skip,Tryd.func30,by kernel_rfl,by kernel_rfl,Nat.le_of_ble_eq_true (by kernel_rfl),by kernel_rfl,by kernel_rfl⟩
set_option maxRecDepth 100000 in
theorem ok184 : ∃ an,FnOk Tryd.prog num our (num 184) an F184 := ⟨[([0,1,4],[4]),([1,4,5],[4,5]),([1,4,5,6],[4,5]),([1,4,5,6],[4,5]),([1,4,5,6,18],[4,5]),([1,4,5,6,7],[4,5,7]),([1,4,5,6,7],[4,5,7]),([1,4,5,6],[4,5]),([1,4,5,6],[4,5]),([4],[4])],Tryd.f23,Tryd.f23.body.getD .skip,Tryd.func23,by kernel_rfl,by kernel_rfl,Nat.le_of_ble_eq_true (by kernel_rfl),by kernel_rfl,by kernel_rfl⟩
set_option maxRecDepth 100000 in
theorem ok186 : ∃ an,FnOk Tryd.prog num our (num 186) an F186 := ⟨[([2,3],[2,3]),([2,3,5],[2,3]),([2,3,5,13],[2,3]),([2,3,5,13],[2,3]),([2,3,5,13,14],[2,3]),([2,3,5,6,13],[2,3]),([2,3,5,6,7,13],[2,3,7]),([2,3,5,6,7,13,22,23,24],[2,3,7]),([2,3,5,6,7,13,22,23,24],[2,3,7]),([2,3,5,6,7,13,22,23,24,25],[2,3,7]),([2,3,5,6,7,9,13,22,23,24],[2,3,7,9]),([2,3,5,6,7,9,10,13,22,23,24],[2,3,7,9,10]),([2,3,5,6,7,10,13,22,23,24,38],[2,3,7,10]),([2,3,5,6,7,10,12,13,22,23,24],[2,3,7,10]),([2,3,5,6,7,10,13,22,23,24,46],[2,3,7,10]),([2,3,5,6,7,13,22,23,24],[2,3,7]),([2,3,5,6,7,13,22,23,24],[2,3,7]),([2,3,5,13],[2,3]),([5],[]),([4],[])],Tryd.f29,Tryd.f29.body.getD .skip,Tryd.func29,by kernel_rfl,by kernel_rfl,Nat.le_of_ble_eq_true (by kernel_rfl),by kernel_rfl,by kernel_rfl⟩
set_option maxRecDepth 100000 in
theorem ok187 : ∃ an,FnOk Tryd.prog num our (num 187) an F187 := ⟨[([2,3],[2,3]),([2,3,5],[2,3]),([2,3,5,9],[2,3]),([4],[]),([14],[]),([4],[]),([4],[])],Tryd.f28,Tryd.f28.body.getD .skip,Tryd.func28,by kernel_rfl,by kernel_rfl,Nat.le_of_ble_eq_true (by kernel_rfl),by kernel_rfl,by kernel_rfl⟩
set_option maxRecDepth 100000 in
theorem ok188 : ∃ an,FnOk Tryd.prog num our (num 188) an F188 := ⟨[([0],[]),([2],[])],Tryd.f75,Tryd.f75.body.getD .skip,Tryd.func75,by kernel_rfl,by kernel_rfl,Nat.le_of_ble_eq_true (by kernel_rfl),by kernel_rfl,by kernel_rfl⟩
set_option maxRecDepth 100000 in
theorem ok189 : ∃ an,FnOk Tryd.prog num our (num 189) an F189 := ⟨[([2,3,4,6],[3,4,6]),([3,4,6,8],[3,4,6]),([6],[6]),([6],[6])],Tryd.f46,Tryd.f46.body.getD .skip,Tryd.func46,by kernel_rfl,by kernel_rfl,Nat.le_of_ble_eq_true (by kernel_rfl),by kernel_rfl,by kernel_rfl⟩
set_option maxRecDepth 100000 in
theorem ok190 : ∃ an,FnOk Tryd.prog num our (num 190) an F190 := ⟨[([1,2,3,4,5,10],[5,10]),([2,3,4,5,10,12],[5,10]),([10],[10]),([10],[10])],Tryd.f53,Tryd.f53.body.getD .skip,Tryd.func53,by kernel_rfl,by kernel_rfl,Nat.le_of_ble_eq_true (by kernel_rfl),by kernel_rfl,by kernel_rfl⟩
set_option maxRecDepth 100000 in
theorem ok194 : ∃ an,FnOk Tryd.prog num our (num 194) an F194 := ⟨[([0],[]),([2],[])],Tryd.f60,Tryd.f60.body.getD .skip,Tryd.func60,by kernel_rfl,by kernel_rfl,Nat.le_of_ble_eq_true (by kernel_rfl),by kernel_rfl,by kernel_rfl⟩
set_option maxRecDepth 100000 in
theorem ok197 : ∃ an,FnOk Tryd.prog num our (num 197) an F197 := ⟨[([2,3],[2,3]),([4],[])],Tryd.f48,Tryd.f48.body.getD .skip,Tryd.func48,by kernel_rfl,by kernel_rfl,Nat.le_of_ble_eq_true (by kernel_rfl),by kernel_rfl,by kernel_rfl⟩
set_option maxRecDepth 100000 in
theorem ok198 : ∃ an,FnOk Tryd.prog num our (num 198) an F198 := ⟨[([0],[]),([3],[]),([2],[]),([2],[])],Tryd.f51,Tryd.f51.body.getD .skip,Tryd.func51,by kernel_rfl,by kernel_rfl,Nat.le_of_ble_eq_true (by kernel_rfl),by kernel_rfl,by kernel_rfl⟩
set_option maxRecDepth 100000 in
theorem ok200 : ∃ an,FnOk Tryd.prog num our (num 200) an F200 := ⟨[([0],[]),([2],[])],Tryd.f73,Tryd.f73.body.getD .skip,Tryd.func73,by kernel_rfl,by kernel_rfl,Nat.le_of_ble_eq_true (by kernel_rfl),by kernel_rfl,by kernel_rfl⟩
set_option maxRecDepth 100000 in
theorem ok203 : ∃ an,FnOk Tryd.prog num our (num 203) an F203 := ⟨[([0,1],[]),([0,1,11],[]),([0,17],[]),([4],[]),([0,5],[5]),([0,5,6],[5]),([0,5,6,23],[5]),([0,5,6],[5]),([0,5,6,7],[5]),([],[999999]),([5,7,34],[5]),([5,7],[5]),([],[999999]),([],[999999]),([9],[]),([4],[])],Tryd.f88,Tryd.f88.body.getD .skip,Tryd.func88,by kernel_rfl,by kernel_rfl,Nat.le_of_ble_eq_true (by kernel_rfl),by kernel_rfl,by kernel_rfl⟩
set_option maxRecDepth 100000 in
theorem ok212 : ∃ an,FnOk Tryd.prog num our (num 212) an F212 := ⟨[([0],[]),([0,4],[]),([2],[]),([2],[])],Tryd.f95,Tryd.f95.body.getD .skip,Tryd.func95,by kernel_rfl,by kernel_rfl,Nat.le_of_ble_eq_true (by kernel_rfl),by kernel_rfl,by kernel_rfl⟩
set_option maxRecDepth 100000 in
theorem ok213 : ∃ an,FnOk Tryd.prog num our (num 213) an F213 := ⟨[([0],[]),([0,3],[]),([],[999999])],Tryd.f96,Tryd.f96.body.getD .skip,Tryd.func96,by kernel_rfl,by kernel_rfl,Nat.le_of_ble_eq_true (by kernel_rfl),by kernel_rfl,by kernel_rfl⟩
set_option maxRecDepth 100000 in
theorem ok215 : ∃ an,FnOk Tryd.prog num our (num 215) an F215 := ⟨[([0,1,2,3,4,10,11],[]),([0,1,2,3,4,10,11,28],[]),([0,1,2,3,4,10,11],[]),([0,1,2,3,4,10,11,12],[12]),([0,1,2,3,4,10,11,12,13],[12]),([0,1,2,3,4,10,11,12,13,30],[12]),([0,1,2,3,4,10,11,12,13],[12]),([0,1,2,3,4,10,11,12,13,34],[12]),([0,1,2,3,4,10,11,12,13,14],[12]),([0,1,2,3,4,10,11,12,13,14,15],[12]),([0,1,3,4,10,11,12,13,14,15,16],[12]),([0,1,3,4,10,11,12,13,14,15,16],[12]),([0,1,3,4,10,11,12,13,14,15,16,46],[12]),([0,1,3,4,10,11,12,13,14,15,16],[12]),([0,1,3,4,10,11,12,13,14,15,16],[12]),([0,1,3,4,10,11,12,13,14,15,16],[12]),([0,1,3,4,10,11,12,13],[12]),([0,3,4,10,11,12,13],[12]),([0,1,3,4,10,11,12,13,17],[12]),([0,1,3,4,10,11,12,13,17],[12]),([0,1,3,4,10,11,12,13,17,68],[12]),([0,1,3,4,10,11,12,13,17],[12]),([0,1,3,4,10,11,12,13,17,18],[12]),([0,3,4,10,11,12,13,17,18],[12]),([0,1,3,4,10,11,12,13,17],[12]),([0,1,3,4,10,11,12,13],[12]),([0,3,4,10,11,12,13],[12]),([0,4,10,11,12,13,89],[12]),([0,4,10,11,12,13],[12]),([0,4,10,11,12,13],[12]),([0,10,11,12,13,94],[12]),([],[999999]),([],[999999])],Tryd.f98,Tryd.f98.body.getD .skip,Tryd.func98,by kernel_rfl,by kernel_rfl,Nat.le_of_ble_eq_true (by kernel_rfl),by kernel_rfl,by kernel_rfl⟩
set_option maxRecDepth 100000 in
theorem ok219 : ∃ an,FnOk Tryd.prog num our (num 219) an F219 := ⟨[([0],[]),([2],[])],Tryd.f100,Tryd.f100.body.getD .skip,Tryd.func100,by kernel_rfl,by kernel_rfl,Nat.le_of_ble_eq_true (by kernel_rfl),by kernel_rfl,by kernel_rfl⟩
set_option maxRecDepth 100000 in
theorem ok221 : ∃ an,FnOk Tryd.prog num our (num 221) an F221 := ⟨[([0],[]),([2],[])],Tryd.f102,Tryd.f102.body.getD .skip,Tryd.func102,by kernel_rfl,by kernel_rfl,Nat.le_of_ble_eq_true (by kernel_rfl),by kernel_rfl,by kernel_rfl⟩
set_option maxRecDepth 100000 in
theorem ok222 : ∃ an,FnOk Tryd.prog num our (num 222) an F222 := ⟨[([0],[]),([2],[]),([2],[])],Tryd.f103,Tryd.f103.body.getD .skip,Tryd.func103,by kernel_rfl,by kernel_rfl,Nat.le_of_ble_eq_true (by kernel_rfl),by kernel_rfl,by kernel_rfl⟩
set_option maxRecDepth 100000 in
theorem ok224 : ∃ an,FnOk Tryd.prog num our (num 224) an F224 := ⟨[([0],[]),([0,4],[]),([2],[]),([],[999999])],Tryd.f104,Tryd.f104.body.getD .skip,Tryd.func104,by kernel_rfl,by kernel_rfl,Nat.le_of_ble_eq_true (by kernel_rfl),by kernel_rfl,by kernel_rfl⟩
set_option maxRecDepth 100000 in
theorem ok225 : ∃ an,FnOk Tryd.prog num our (num 225) an F225 := ⟨[([0],[]),([0,4],[]),([2],[]),([],[999999])],Tryd.f105,Tryd.f105.body.getD .skip,Tryd.func105,by kernel_rfl,by kernel_rfl,Nat.le_of_ble_eq_true (by kernel_rfl),by kernel_rfl,by kernel_rfl⟩
set_option maxRecDepth 100000 in
theorem ok232 : ∃ an,FnOk Tryd.prog num our (num 232) an F232 := ⟨[([1,2],[2]),([1,5,6],[5]),([1,5,32],[5]),([4],[]),([1,5,7,8],[5]),([1,5,7,8,40],[5]),([4],[]),([1,5,7,9],[5,9]),([5,7,9,45,46,47],[5,9]),([5,7,9,45,46,47],[5,9]),([5,7,9,45,46,47,48],[5,9]),([5,7,9,11,45,46,47],[5,9]),([5,7,9,11,12,13,45,46,47],[5,9]),([5,7,9,11,12,45,46,47,58],[5,9]),([4],[]),([5,7,9,11,12,45,46,47,61],[5,9]),([5,7,9,13,45,46,47],[5,9]),([5,7,9,45,46,47,77],[5,9]),([4],[]),([5,7,9,45,46,47],[5,9]),([7,9,14,15],[9]),([7,14,15,16],[]),([4],[])],Tryd.f3,Tryd.f3.body.getD .skip,Tryd.func3,by kernel_rfl,by kernel_rfl,Nat.le_of_ble_eq_true (by kernel_rfl),by kernel_rfl,by kernel_rfl⟩
set_option maxRecDepth 100000 in
theorem ok235 : ∃ an,FnOk Tryd.prog num our (num 235) an F235 := ⟨[([],[]),([1,2],[]),([1,2,3,5,6],[]),([1,2,3,5,6,7,8],[]),([1,3,5,7,9],[]),([0],[])],Tryd.f7,Tryd.f7.body.getD .skip,Tryd.func7,by kernel_rfl,by kernel_rfl,Nat.le_of_ble_eq_true (by kernel_rfl),by kernel_rfl,by kernel_rfl⟩
set_option maxRecDepth 100000 in
theorem ok236 : ∃ an,FnOk Tryd.prog num our (num 236) an F236 := ⟨[([1],[1]),([4,5],[]),([4,5,15],[]),([2,3],[]),([4,6],[]),([4,6,18,19,20],[]),([4,6,18,19,20],[]),([4,6,18,19,20,21],[]),([4,6,7,8,18,19,20],[]),([4,6,7,8,18,19,20,26],[]),([2,3],[]),([4,6,18,19,20],[]),([4,6,18,19,20],[]),([2,3],[])],Tryd.f8,Tryd.f8.body.getD .skip,Tryd.func8,by kernel_rfl,by kernel_rfl,Nat.le_of_ble_eq_true (by kernel_rfl),by kernel_rfl,by kernel_rfl⟩
set_option maxRecDepth 100000 in
theorem ok237 : ∃ an,FnOk Tryd.prog num our (num 237) an F237 := ⟨[([2,3],[2,3]),([6,7],[]),([6,7,16],[]),([4,5],[]),([6,8],[]),([6,8,22],[]),([4,5],[]),([4,5],[])],Tryd.f12,Tryd.f12.body.getD .skip,Tryd.func12,by kernel_rfl,by kernel_rfl,Nat.le_of_ble_eq_true (by kernel_rfl),by kernel_rfl,by kernel_rfl⟩
set_option maxRecDepth 100000 in
theorem ok238 : ∃ an,FnOk Tryd.prog num our (num 238) an F238 := ⟨[([0,1],[]),([0,1,7,8],[]),([0,1,7,8],[]),([0,1,7,8,9],[]),([0,1,5,7,8],[]),([0,1,5,7,8,16],[]),([4],[]),([0,1,7,8],[]),([4],[])],Tryd.f13,Tryd.f13.body.getD .skip,Tryd.func13,by kernel_rfl,by kernel_rfl,Nat.le_of_ble_eq_true (by kernel_rfl),by kernel_rfl,by kernel_rfl⟩
set_option maxRecDepth 100000 in
theorem ok239 : ∃ an,FnOk Tryd.prog num our (num 239) an F239 := ⟨[([1,2],[2]),([3],[])],Tryd.f14,Tryd.f14.body.getD .skip,Tryd.func14,by kernel_rfl,by kernel_rfl,Nat.le_of_ble_eq_true (by kernel_rfl),by kernel_rfl,by kernel_rfl⟩
set_option maxRecDepth 100000 in
theorem ok240 : ∃ an,FnOk Tryd.prog num our (num 240) an F240 := ⟨[([1,3],[1,3]),([1,3,6,7],[1,3]),([1,3,6,7,15],[1,3]),([2,3,4,5],[3]),([1,3,6,8],[1,3]),([1,3,6,8,22],[1,3]),([2,3,4,5],[3]),([2,3,4,5],[3])],Tryd.f16,Tryd.f16.body.getD .skip,Tryd.func16,by kernel_rfl,by kernel_rfl,Nat.le_of_ble_eq_true (by kernel_rfl),by kernel_rfl,by kernel_rfl⟩
set_option maxRecDepth 100000 in
theorem ok241 : ∃ an,FnOk Tryd.prog num our (num 241) an F241 := ⟨[([2,3],[2,3]),([2,3,6,7],[2,3]),([2,3,6,7,15],[2,3]),([4,5],[]),([2,3,6,21],[2,3]),([4,5],[]),([4,5],[])],Tryd.f18,Tryd.f18.body.getD .skip,Tryd.func18,by kernel_rfl,by kernel_rfl,Nat.le_of_ble_eq_true (by kernel_rfl),by kernel_rfl,by kernel_rfl⟩
set_option maxRecDepth 100000 in
theorem ok244 : ∃ an,FnOk Tryd.prog num our (num 244) an F244 := ⟨[([0,2],[2]),([0,2,3],[2,3]),([0,2,3,4],[2,3]),([2,3,4,11],[2,3]),([2,3,4],[2,3]),([2],[2])],Tryd.f24,Tryd.f24.body.getD .skip,Tryd.func24,by kernel_rfl,by kernel_rfl,Nat.le_of_ble_eq_true (by kernel_rfl),by kernel_rfl,by kernel_rfl⟩
set_option maxRecDepth 100000 in
theorem ok245 : ∃ an,FnOk Tryd.prog num our (num 245) an F245 := ⟨[([0,1],[]),([0,1,10],[]),([4],[]),([0,1,12,13],[]),([0,1,12,13],[]),([0,1,12,13,14],[]),([0,1,5,12,13],[]),([0,1,12,13,24],[]),([4],[]),([0,1,12,13],[]),([4],[])],Tryd.f25,Tryd.f25.body.getD .skip,Tryd.func25,by kernel_rfl,by kernel_rfl,Nat.le_of_ble_eq_true (by kernel_rfl),by kernel_rfl,by kernel_rfl⟩
set_option maxRecDepth 100000 in
theorem ok246 : ∃ an,FnOk Tryd.prog num our (num 246) an F246 := ⟨[([1],[1]),([1,4],[1]),([1,4,8],[1]),([2,3],[]),([2,3],[])],Tryd.f26,Tryd.f26.body.getD .skip,Tryd.func26,by kernel_rfl,by kernel_rfl,Nat.le_of_ble_eq_true (by kernel_rfl),by kernel_rfl,by kernel_rfl⟩
set_option maxRecDepth 100000 in
theorem ok247 : ∃ an,FnOk Tryd.prog num our (num 247) an F247 := ⟨[([0],[]),([0,3],[]),([0,3,24,25,26],[]),([0,3,24,25,26],[]),([0,3,24,25,26,27],[]),([0,3,4,5,24,25,26],[]),([0,3,4,24,25,26,31,32,33],[]),([0,3,4,24,25,26,31,32,33],[]),([0,3,4,24,25,26,31,32,33,34],[]),([0,3,4,7,24,25,26,31,32,33],[]),([0,3,4,24,25,26,31,32,33],[]),([0,3,4,24,25,26,31,32,33],[]),([0,3,24,25,26],[]),([0,3,8],[]),([0,3,8,9],[]),([0,3,8,9,58,59,60],[]),([0,3,8,9,58,59,60],[]),([0,3,8,9,58,59,60,61],[]),([0,3,8,9,10,11,58,59,60],[11]),([0,3,8,9,10,11,58,59,60],[11]),([0,3,8,9,10,58,59,60,73],[]),([0,3,8,9,10,58,59,60],[]),([0,3,8,9,58,59,60],[]),([0,3,8,9,58,59,60],[]),([3,8,9,12],[]),([3,8,9,12],[]),([3,8,9,12,85],[]),([3,8,9,12,94,95,96],[]),([3,8,9,12,94,95,96],[]),([3,8,9,12,94,95,96,97],[]),([3,8,9,12,14,94,95,96],[]),([3,8,9,12,14,94,95,96,104],[]),([3,8,9,12,14,94,95,96],[]),([3,8,9,12,94,95,96],[]),([3,8,9,12,94,95,96],[]),([3,8,9,12],[]),([2],[])],Tryd.f27,Tryd.f27.body.getD .skip,Tryd.func27,by kernel_rfl,by kernel_rfl,Nat.le_of_ble_eq_true (by kernel_rfl),by kernel_rfl,by kernel_rfl⟩
set_option maxRecDepth 100000 in
theorem ok248 : ∃ an,FnOk Tryd.prog num our (num 248) an F248 := ⟨[([2,3],[2,3]),([2,3,6],[2,3]),([2,3,6,10],[2,3]),([4,5],[]),([2,3,15],[2,3]),([4,5],[]),([4,5],[])],Tryd.f31,Tryd.f31.body.getD .skip,Tryd.func31,by kernel_rfl,by kernel_rfl,Nat.le_of_ble_eq_true (by kernel_rfl),by kernel_rfl,by kernel_rfl⟩
set_option maxRecDepth 100000 in
theorem ok249 : ∃ an,FnOk Tryd.prog num our (num 249) an F249 := ⟨[([0,1],[]),([0,1,5],[]),([0,1,5],[]),([0,1,5,13],[]),([0,1,5],[]),([0,1,5],[]),([5],[]),([4],[])],Tryd.f33,Tryd.f33.body.getD .skip,Tryd.func33,by kernel_rfl,by kernel_rfl,Nat.le_of_ble_eq_true (by kernel_rfl),by kernel_rfl,by kernel_rfl⟩
set_option maxRecDepth 100000 in
theorem ok250 : ∃ an,FnOk Tryd.prog num our (num 250) an F250 := ⟨[([2,3,4],[3,4]),([2,3,4,7],[3,4]),([6],[]),([2,22],[]),([6],[]),([39],[]),([6],[]),([6],[])],Tryd.f35,Tryd.f35.body.getD .skip,Tryd.func35,by kernel_rfl,by kernel_rfl,Nat.le_of_ble_eq_true (by kernel_rfl),by kernel_rfl,by kernel_rfl⟩
set_option maxRecDepth 100000 in
theorem ok251 : ∃ an,FnOk Tryd.prog num our (num 251) an F251 := ⟨[([1],[1]),([1,3],[1]),([1,3,17,18,19],[1]),([1,3,17,18,19],[1]),([1,3,17,18,19,20],[1]),([1,3,5,17,18,19],[1]),([1,3,17,18,19],[1]),([1,3,17,18,19],[1]),([1,3],[1]),([3,32,33,34],[]),([3,32,33,34],[]),([3,32,33,34,35],[]),([3,7,32,33,34],[]),([3,32,33,34],[]),([3,32,33,34],[]),([2],[])],Tryd.f39,Tryd.f39.body.getD .skip,Tryd.func39,by kernel_rfl,by kernel_rfl,Nat.le_of_ble_eq_true (by kernel_rfl),by kernel_rfl,by kernel_rfl⟩
set_option maxRecDepth 100000 in
theorem ok253 : ∃ an,FnOk Tryd.prog num our (num 253) an F253 := ⟨[([2,3],[100002,100003]),([2,3,6],[100019,100006]),([2,3,6,7],[100007]),([2,3,6,8],[]),([2,6,8],[]),([2,6,8,9],[]),([2,6,8,9],[]),([2,6,8,9,33],[]),([2,6,8,9,10,11],[]),([2,6,8,9,10,11,49],[]),([4,5],[]),([2,6,8,9,10,12],[]),([2,6,8,9,10,12,51,52,53],[]),([2,6,8,9,10,12,51,52,53],[]),([2,6,8,9,10,12,51,52,53,54],[]),([2,6,8,9,10,12,14,51,52,53],[14]),([2,6,8,9,10,12,14,15,16,51,52,53],[14,15]),([2,6,8,9,10,12,14,15,16,51,52,53,71],[14,15]),([4,5],[]),([2,6,8,9,10,12,51,52,53],[]),([2,6,8,9,10,12,51,52,53,86],[]),([4,5],[]),([2,6,8,9,10,12,51,52,53],[]),([2,6,8,9],[999998]),([2,6,8,9],[]),([4,5],[])],Tryd.f45,Tryd.f45.body.getD .skip,Tryd.func45,by kernel_rfl,by kernel_rfl,Nat.le_of_ble_eq_true (by kernel_rfl),by kernel_rfl,by kernel_rfl⟩
set_option maxRecDepth 100000 in
theorem ok254 : ∃ an,FnOk Tryd.prog num our (num 254) an F254 := ⟨[([0,2,3],[]),([0,2,3],[]),([0,2,3,9],[]),([0,2,3],[]),([0,2,3],[])],Tryd.f55,Tryd.f55.body.getD .skip,Tryd.func55,by kernel_rfl,by kernel_rfl,Nat.le_of_ble_eq_true (by kernel_rfl),by kernel_rfl,by kernel_rfl⟩
set_option maxRecDepth 100000 in
theorem ok255 : ∃ an,FnOk Tryd.prog num our (num 255) an F255 := ⟨[([2,3,4],[3,4]),([2,3,4,11],[3,4]),([6],[]),([3,4,8],[3,4]),([3,4,21],[3,4]),([6],[]),([6],[])],Tryd.f57,Tryd.f57.body.getD .skip,Tryd.func57,by kernel_rfl,by kernel_rfl,Nat.le_of_ble_eq_true (by kernel_rfl),by kernel_rfl,by kernel_rfl⟩
set_option maxRecDepth 100000 in
theorem ok256 : ∃ an,FnOk Tryd.prog num our (num 256) an F256 := ⟨[([1,3,4,5,7],[5,7]),([1,3,4,5,7,9,10],[5,7]),([1,3,4,5,7,9,19],[5,7]),([1,3,4,5,7,9],[5,7]),([1,4,5,7,9],[5,7]),([1,4,7,9],[7]),([4,7,9],[7]),([9],[]),([8],[])],Tryd.f65,Tryd.f65.body.getD .skip,Tryd.func65,by kernel_rfl,by kernel_rfl,Nat.le_of_ble_eq_true (by kernel_rfl),by kernel_rfl,by kernel_rfl⟩
set_option maxRecDepth 100000 in
theorem ok257 : ∃ an,FnOk Tryd.prog num our (num 257) an F257 := ⟨[([1,2],[1,2]),([2],[2])],Tryd.f66,Tryd.f66.body.getD .skip,Tryd.func66,by kernel_rfl,by kernel_rfl,Nat.le_of_ble_eq_true (by kernel_rfl),by kernel_rfl,by kernel_rfl⟩
set_option maxRecDepth 100000 in
theorem ok258 : ∃ an,FnOk Tryd.prog num our (num 258) an F258 := ⟨[([1,2],[2]),([3],[])],Tryd.f70,Tryd.f70.body.getD .skip,Tryd.func70,by kernel_rfl,by kernel_rfl,Nat.le_of_ble_eq_true (by kernel_rfl),by kernel_rfl,by kernel_rfl⟩
set_option maxRecDepth 100000 in
theorem ok252 : ∃ an,FnOk Tryd.prog num our (num 252) an F252 := ⟨[([0,1,4],[4]),([4],[4])],Tryd.f44,Tryd.f44.body.getD .skip,Tryd.func44,by kernel_rfl,by kernel_rfl,Nat.le_of_ble_eq_true (by kernel_rfl),by kernel_rfl,by kernel_rfl⟩
set_option maxRecDepth 100000 in
theorem tabOk : ∀ x ∈ tabL,∃ an,FnOk Tryd.prog num our (num x.1) an x.2 := by
  unfold tabL
  exact List.forall_mem_cons.2 ⟨ok25,List.forall_mem_cons.2 ⟨ok29,List.forall_mem_cons.2 ⟨ok39,List.forall_mem_cons.2 ⟨ok43,List.forall_mem_cons.2 ⟨ok44,List.forall_mem_cons.2 ⟨ok45,List.forall_mem_cons.2 ⟨ok46,List.forall_mem_cons.2 ⟨ok47,List.forall_mem_cons.2 ⟨ok58,List.forall_mem_cons.2 ⟨ok59,List.forall_mem_cons.2 ⟨ok60,List.forall_mem_cons.2 ⟨ok66,List.forall_mem_cons.2 ⟨ok76,List.forall_mem_cons.2 ⟨ok77,List.forall_mem_cons.2 ⟨ok95,List.forall_mem_cons.2 ⟨ok108,List.forall_mem_cons.2 ⟨ok110,List.forall_mem_cons.2 ⟨ok117,List.forall_mem_cons.2 ⟨ok118,List.forall_mem_cons.2 ⟨ok152,List.forall_mem_cons.2 ⟨ok154,List.forall_mem_cons.2 ⟨ok155,List.forall_mem_cons.2 ⟨ok157,List.forall_mem_cons.2 ⟨ok159,List.forall_mem_cons.2 ⟨ok164,List.forall_mem_cons.2 ⟨ok171,List.forall_mem_cons.2 ⟨ok174,List.forall_mem_cons.2 ⟨ok176,List.forall_mem_cons.2 ⟨ok177,List.forall_mem_cons.2 ⟨ok179,List.forall_mem_cons.2 ⟨ok180,List.forall_mem_cons.2 ⟨ok181,List.forall_mem_cons.2 ⟨ok182,List.forall_mem_cons.2 ⟨ok184,List.forall_mem_cons.2 ⟨ok186,List.forall_mem_cons.2 ⟨ok187,List.forall_mem_cons.2 ⟨ok188,List.forall_mem_cons.2 ⟨ok189,List.forall_mem_cons.2 ⟨ok190,List.forall_mem_cons.2 ⟨ok194,List.forall_mem_cons.2 ⟨ok197,List.forall_mem_cons.2 ⟨ok198,List.forall_mem_cons.2 ⟨ok200,List.forall_mem_cons.2 ⟨ok203,List.forall_mem_cons.2 ⟨ok212,List.forall_mem_cons.2 ⟨ok213,List.forall_mem_cons.2 ⟨ok215,List.forall_mem_cons.2 ⟨ok219,List.forall_mem_cons.2 ⟨ok221,List.forall_mem_cons.2 ⟨ok222,List.forall_mem_cons.2 ⟨ok224,List.forall_mem_cons.2 ⟨ok225,List.forall_mem_cons.2 ⟨ok232,List.forall_mem_cons.2 ⟨ok235,List.forall_mem_cons.2 ⟨ok236,List.forall_mem_cons.2 ⟨ok237,List.forall_mem_cons.2 ⟨ok238,List.forall_mem_cons.2 ⟨ok239,List.forall_mem_cons.2 ⟨ok240,List.forall_mem_cons.2 ⟨ok241,List.forall_mem_cons.2 ⟨ok244,List.forall_mem_cons.2 ⟨ok245,List.forall_mem_cons.2 ⟨ok246,List.forall_mem_cons.2 ⟨ok247,List.forall_mem_cons.2 ⟨ok248,List.forall_mem_cons.2 ⟨ok249,List.forall_mem_cons.2 ⟨ok250,List.forall_mem_cons.2 ⟨ok251,List.forall_mem_cons.2 ⟨ok253,List.forall_mem_cons.2 ⟨ok254,List.forall_mem_cons.2 ⟨ok255,List.forall_mem_cons.2 ⟨ok256,List.forall_mem_cons.2 ⟨ok257,List.forall_mem_cons.2 ⟨ok258,fun x hx => by cases hx⟩⟩⟩⟩⟩⟩⟩⟩⟩⟩⟩⟩⟩⟩⟩⟩⟩⟩⟩⟩⟩⟩⟩⟩⟩⟩⟩⟩⟩⟩⟩⟩⟩⟩⟩⟩⟩⟩⟩⟩⟩⟩⟩⟩⟩⟩⟩⟩⟩⟩⟩⟩⟩⟩⟩⟩⟩⟩⟩⟩⟩⟩⟩⟩⟩⟩⟩⟩⟩⟩⟩⟩⟩⟩
set_option maxRecDepth 100000 in
theorem aOk (f : Nat) (fn : AFunc) (h : A f = some fn) : ∃ an,FnOk Tryd.prog num our (num f) an fn := tabOk _ (look1_mem h)
end Go.Proofs.YtppmbamefnacaaaDoor
