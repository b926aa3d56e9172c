/-
  The functions read are those of the program.
-/
import Derived.Test.YthpgcipmnblhpaaDoorTab
import Derived.Test.YthpgcipmnblhpaaDoorProg
import Derived.KernelRfl
set_option linter.unusedSimpArgs false
set_option linter.unusedVariables false
namespace Go.Proofs.YthpgcipmnblhpaaDoor
open Go Go.Pv Go.Proofs
def numL : List Nat := [99999, 99999, 99999, 99999, 99999, 99999, 99999, 99999, 99999, 99999, 99999, 99999, 99999, 99999, 99999, 99999, 99999, 99999, 99999, 99999, 99999, 99999, 99999, 99999, 99999, 99999, 99999, 99999, 99999, 38, 99999, 99999, 99999, 99999, 99999, 99999, 99999, 99999, 99999, 99999, 99999, 99999, 99999, 99999, 99999, 61, 54, 55, 99999, 99999, 99999, 99999, 99999, 99999, 99999, 99999, 99999, 99999, 75, 72, 73, 99999, 99999, 99999, 99999, 99999, 81, 99999, 99999, 99999, 99999, 99999, 99999, 99999, 99999, 99999, 93, 59, 99999, 99999, 99999, 99999, 99999, 99999, 99999, 99999, 99999, 99999, 99999, 99999, 99999, 99999, 99999, 99999, 99999, 99999, 99999, 99999, 99999, 99999, 99999, 99999, 99999, 99999, 99999, 99999, 99999, 99999, 57, 99999, 99999, 99999, 99999, 99999, 99999, 99999, 99999, 76, 99999, 99999, 99999, 99999, 99999, 99999, 99999, 99999, 99999, 99999, 99999, 99999, 99999, 99999, 99999, 99999, 99999, 99999, 99999, 99999, 99999, 99999, 99999, 99999, 99999, 99999, 99999, 99999, 99999, 9, 99999, 99999, 12, 99999, 14, 99999, 16, 17, 99999, 19, 99999, 21, 99999, 23, 99999, 99999, 99999, 27, 28, 99999, 99999, 99999, 32, 99999, 99999, 99999, 99999, 99999, 40, 41, 99999, 43, 44, 45, 47, 99999, 99999, 51, 52, 99999, 58, 60, 62, 63, 99999, 99999, 68, 99999, 70, 71, 74, 99999, 78, 99999, 99999, 83, 99999, 99999, 99999, 99999, 99999, 99999, 99999, 99999, 94, 95, 99999, 97, 99999, 99999, 99999, 103, 99999, 105, 106, 99999, 108, 109]
def num (n : Nat) : Nat := numL.getD n 99999
def ourL : List Nat := [99999, 99999, 99999, 99999, 99999, 99999, 99999, 99999, 99999, 147, 99999, 99999, 150, 99999, 152, 99999, 154, 155, 99999, 157, 99999, 159, 99999, 161, 99999, 99999, 99999, 165, 166, 99999, 99999, 99999, 170, 99999, 99999, 99999, 99999, 99999, 29, 99999, 176, 177, 99999, 179, 180, 181, 99999, 182, 99999, 99999, 99999, 185, 186, 99999, 46, 47, 99999, 108, 188, 77, 189, 45, 190, 191, 99999, 99999, 99999, 99999, 194, 99999, 196, 197, 59, 60, 198, 58, 117, 99999, 200, 99999, 99999, 66, 99999, 203, 99999, 99999, 99999, 99999, 99999, 99999, 99999, 99999, 99999, 76, 212, 213, 99999, 215, 99999, 99999, 99999, 99999, 99999, 219, 99999, 221, 222, 99999, 224, 225]
def our (f : Nat) : Nat := ourL.getD f 99999
set_option maxRecDepth 100000 in
theorem ok29 : ∃ an, FnOk Tryd.prog num our (num 29) an F29 := ⟨[([1],[1]),([1,14],[1]),([2],[]),([1,3],[1]),([1,3,20],[1]),([2],[]),([1,3,22,23,24],[1]),([1,3,22,23,24],[1]),([1,3,22,23,24,25],[1]),([1,3,4,5,22,23,24],[1,5]),([1,3,22,23,24,65],[1]),([2],[]),([1,3,22,23,24],[1]),([2],[])], Tryd.f38, Tryd.f38.body.getD .skip, Tryd.func38, by kernel_rfl, by kernel_rfl, Nat.le_of_ble_eq_true (by kernel_rfl), by kernel_rfl, by kernel_rfl⟩
set_option maxRecDepth 100000 in
theorem ok45 : ∃ an, FnOk Tryd.prog num our (num 45) an F45 := ⟨[([1,2,3,4],[4]),([1,2,3,13,14,15],[]),([1,2,3,13,14,15],[]),([1,2,3,13,14,15,16],[]),([1,2,3,11,13,14,15],[11]),([1,2,3,11,13,14,15,34],[11]),([8,9],[]),([1,2,3,13,14,15],[]),([8,9],[])], Tryd.f61, Tryd.f61.body.getD .skip, Tryd.func61, by kernel_rfl, by kernel_rfl, Nat.le_of_ble_eq_true (by kernel_rfl), by kernel_rfl, by kernel_rfl⟩
set_option maxRecDepth 100000 in
theorem ok46 : ∃ an, FnOk Tryd.prog num our (num 46) an F46 := ⟨[([0,1],[]),([3],[])], Tryd.f54, Tryd.f54.body.getD .skip, Tryd.func54, by kernel_rfl, by kernel_rfl, Nat.le_of_ble_eq_true (by kernel_rfl), by kernel_rfl, by kernel_rfl⟩
set_option maxRecDepth 100000 in
theorem ok47 : ∃ an, FnOk Tryd.prog num our (num 47) an F47 := ⟨[([2,3],[2,3]),([2,3,5],[2,3]),([4],[])], Tryd.f55, Tryd.f55.body.getD .skip, Tryd.func55, by kernel_rfl, by kernel_rfl, Nat.le_of_ble_eq_true (by kernel_rfl), by kernel_rfl, by kernel_rfl⟩
set_option maxRecDepth 100000 in
theorem ok58 : ∃ an, FnOk Tryd.prog num our (num 58) an F58 := ⟨[([1],[1]),([4],[]),([2],[]),([2],[])], Tryd.f75, Tryd.f75.body.getD .skip, Tryd.func75, by kernel_rfl, by kernel_rfl, Nat.le_of_ble_eq_true (by kernel_rfl), by kernel_rfl, by kernel_rfl⟩
set_option maxRecDepth 100000 in
theorem ok59 : ∃ an, FnOk Tryd.prog num our (num 59) an F59 := ⟨[([0],[]),([0,3],[]),([3,6,7,8],[]),([3,6,7,8],[]),([3,6,7,8,9],[]),([3,5,6,7,8],[]),([3,5,6,7,8,14],[]),([2],[]),([3,6,7,8],[]),([2],[])], Tryd.f72, Tryd.f72.body.getD .skip, Tryd.func72, by kernel_rfl, by kernel_rfl, Nat.le_of_ble_eq_true (by kernel_rfl), by kernel_rfl, by kernel_rfl⟩
set_option maxRecDepth 100000 in
theorem ok60 : ∃ an, FnOk Tryd.prog num our (num 60) an F60 := ⟨[([0,1],[]),([0,1,5],[]),([0,1,5,6],[]),([0,1,6,11],[]),([12],[]),([4],[]),([4],[]),([0,1,13],[]),([4],[]),([0,1,16],[]),([4],[]),([19],[]),([4],[]),([4],[])], Tryd.f73, Tryd.f73.body.getD .skip, Tryd.func73, by kernel_rfl, by kernel_rfl, Nat.le_of_ble_eq_true (by kernel_rfl), by kernel_rfl, by kernel_rfl⟩
set_option maxRecDepth 100000 in
theorem ok66 : ∃ an, FnOk Tryd.prog num our (num 66) an F66 := ⟨[([0],[]),([2],[])], Tryd.f81, Tryd.f81.body.getD .skip, Tryd.func81, by kernel_rfl, by kernel_rfl, Nat.le_of_ble_eq_true (by kernel_rfl), by kernel_rfl, by kernel_rfl⟩
set_option maxRecDepth 100000 in
theorem ok76 : ∃ an, FnOk Tryd.prog num our (num 76) an F76 := ⟨[([0,2],[]),([0,2,4],[]),([0],[]),([0,2],[]),([0,2,8],[]),([0,2],[]),([0,2],[]),([0,2,14],[]),([0,2],[]),([0,2],[]),([2],[])], Tryd.f93, Tryd.f93.body.getD .skip, Tryd.func93, by kernel_rfl, by kernel_rfl, Nat.le_of_ble_eq_true (by kernel_rfl), by kernel_rfl, by kernel_rfl⟩
set_option maxRecDepth 100000 in
theorem ok77 : ∃ an, FnOk Tryd.prog num our (num 77) an F77 := ⟨[([0,1],[]),([0,1,7,8],[]),([0,1,7,8],[]),([0,1,7,8,9],[]),([0,1,5,7,8],[]),([0,1,5,7,8,16],[]),([4],[]),([0,1,7,8],[]),([4],[])], Tryd.f59, Tryd.f59.body.getD .skip, Tryd.func59, by kernel_rfl, by kernel_rfl, Nat.le_of_ble_eq_true (by kernel_rfl), by kernel_rfl, by kernel_rfl⟩
set_option maxRecDepth 100000 in
theorem ok108 : ∃ an, FnOk Tryd.prog num our (num 108) an F108 := ⟨[([0,1],[]),([4],[])], Tryd.f57, Tryd.f57.body.getD .skip, Tryd.func57, by kernel_rfl, by kernel_rfl, Nat.le_of_ble_eq_true (by kernel_rfl), by kernel_rfl, by kernel_rfl⟩
set_option maxRecDepth 100000 in
theorem ok117 : ∃ an, FnOk Tryd.prog num our (num 117) an F117 := ⟨[([0,1],[]),([0,1,7,8],[]),([0,1,7,8],[]),([0,1,7,8,9],[]),([0,1,5,7,8],[]),([0,1,5,7,8,16],[]),([4],[]),([0,1,7,8],[]),([4],[])], Tryd.f76, Tryd.f76.body.getD .skip, Tryd.func76, by kernel_rfl, by kernel_rfl, Nat.le_of_ble_eq_true (by kernel_rfl), by kernel_rfl, by kernel_rfl⟩
set_option maxRecDepth 100000 in
theorem ok147 : ∃ an, FnOk Tryd.prog num our (num 147) an F147 := ⟨[([0,1],[]),([0,1,10],[]),([4],[]),([5],[5]),([5,6,7],[5]),([6,7,8],[]),([6,7,8,36],[]),([4],[]),([4],[])], Tryd.f9, Tryd.f9.body.getD .skip, Tryd.func9, by kernel_rfl, by kernel_rfl, Nat.le_of_ble_eq_true (by kernel_rfl), by kernel_rfl, by kernel_rfl⟩
set_option maxRecDepth 100000 in
theorem ok150 : ∃ an, FnOk Tryd.prog num our (num 150) an F150 := ⟨[([],[]),([1],[1]),([1],[1]),([1],[1]),([1,2,3],[1]),([1,2,3,4,5,6],[1,4]),([0],[])], Tryd.f12, Tryd.f12.body.getD .skip, Tryd.func12, by kernel_rfl, by kernel_rfl, Nat.le_of_ble_eq_true (by kernel_rfl), by kernel_rfl, by kernel_rfl⟩
set_option maxRecDepth 100000 in
theorem ok152 : ∃ an, FnOk Tryd.prog num our (num 152) an F152 := ⟨[([1],[1]),([1,3],[1]),([1,3,9],[1]),([2],[]),([1,4],[1]),([1,4,15],[1]),([2],[]),([24],[]),([2],[]),([2],[])], Tryd.f14, Tryd.f14.body.getD .skip, Tryd.func14, by kernel_rfl, by kernel_rfl, Nat.le_of_ble_eq_true (by kernel_rfl), by kernel_rfl, by kernel_rfl⟩
set_option maxRecDepth 100000 in
theorem ok154 : ∃ an, FnOk Tryd.prog num our (num 154) an F154 := ⟨[([2,3],[2,3]),([4],[])], Tryd.f16, Tryd.f16.body.getD .skip, Tryd.func16, by kernel_rfl, by kernel_rfl, Nat.le_of_ble_eq_true (by kernel_rfl), by kernel_rfl, by kernel_rfl⟩
set_option maxRecDepth 100000 in
theorem ok155 : ∃ an, FnOk Tryd.prog num our (num 155) an F155 := ⟨[([1,2],[1,2]),([2],[2])], Tryd.f17, Tryd.f17.body.getD .skip, Tryd.func17, by kernel_rfl, by kernel_rfl, Nat.le_of_ble_eq_true (by kernel_rfl), by kernel_rfl, by kernel_rfl⟩
set_option maxRecDepth 100000 in
theorem ok157 : ∃ an, FnOk Tryd.prog num our (num 157) an F157 := ⟨[([2,3],[2,3]),([2,3,5],[2,3]),([4],[])], Tryd.f19, Tryd.f19.body.getD .skip, Tryd.func19, by kernel_rfl, by kernel_rfl, Nat.le_of_ble_eq_true (by kernel_rfl), by kernel_rfl, by kernel_rfl⟩
set_option maxRecDepth 100000 in
theorem ok159 : ∃ an, FnOk Tryd.prog num our (num 159) an F159 := ⟨[([2,3],[2,3]),([2,3,19],[2,3]),([4],[]),([2,3,5],[2,3]),([4],[])], Tryd.f21, Tryd.f21.body.getD .skip, Tryd.func21, by kernel_rfl, by kernel_rfl, Nat.le_of_ble_eq_true (by kernel_rfl), by kernel_rfl, by kernel_rfl⟩
set_option maxRecDepth 100000 in
theorem ok161 : ∃ an, FnOk Tryd.prog num our (num 161) an F161 := ⟨[([1,2,4],[2,4]),([1,2,4,7],[2,4]),([1,2,4,7,16],[2,4]),([4,5,6],[4]),([1,2,4,8],[2,4,8]),([1,2,4,8,21,22,23],[2,4,8]),([1,2,4,8,21,22,23],[2,4,8]),([1,2,4,8,21,22,23,24],[2,4,8]),([1,2,4,8,9,10,21,22,23],[2,4,8,10]),([1,2,4,8,9,11,12,21,22,23],[2,4,8,11]),([1,2,4,8,9,11,21,22,23,36],[2,4,8,11]),([4,5,6],[4]),([1,2,4,8,21,22,23],[2,4,8]),([1,2,4,8,21,22,23],[2,4,8]),([4,5,6],[4])], Tryd.f23, Tryd.f23.body.getD .skip, Tryd.func23, by kernel_rfl, by kernel_rfl, Nat.le_of_ble_eq_true (by kernel_rfl), by kernel_rfl, by kernel_rfl⟩
set_option maxRecDepth 100000 in
theorem ok165 : ∃ an, FnOk Tryd.prog num our (num 165) an F165 := ⟨[([1],[1]),([1,4],[1]),([1,4,16],[1]),([2,3],[]),([1,5],[1]),([1,5,6],[1]),([1,5,6,7],[1]),([1,5,6,7],[1]),([1,5,6,7,30],[1]),([1,5,6,7,38,39,40],[1]),([1,5,6,7,38,39,40],[1]),([1,5,6,7,38,39,40,41],[1]),([1,5,6,7,9,38,39,40],[1,9]),([1,5,6,7,10,38,39,40],[1,10]),([1,5,6,7,10,12,38,39,40],[1,10]),([1,5,6,7,10,12,38,39,40,59],[1,10]),([1,5,6,7,10,38,39,40],[1,10]),([1,5,6,7,38,39,40],[1]),([1,5,6,7,38,39,40,68],[1]),([2,3],[]),([1,5,6,7,38,39,40],[1]),([1,5,6,7],[1]),([2,3],[])], Tryd.f27, Tryd.f27.body.getD .skip, Tryd.func27, by kernel_rfl, by kernel_rfl, Nat.le_of_ble_eq_true (by kernel_rfl), by kernel_rfl, by kernel_rfl⟩
set_option maxRecDepth 100000 in
theorem ok166 : ∃ an, FnOk Tryd.prog num our (num 166) an F166 := ⟨[([0,1],[]),([0,1,10],[]),([4],[]),([0,1,5],[]),([0,1,5],[]),([0,1,5,14],[]),([0,1,5,26],[]),([4],[]),([0,1,5],[]),([4],[])], Tryd.f28, Tryd.f28.body.getD .skip, Tryd.func28, by kernel_rfl, by kernel_rfl, Nat.le_of_ble_eq_true (by kernel_rfl), by kernel_rfl, by kernel_rfl⟩
set_option maxRecDepth 100000 in
theorem ok170 : ∃ an, FnOk Tryd.prog num our (num 170) an F170 := ⟨[([0,2],[2]),([0,2,3],[2,3]),([0,2,3,7,8],[2,3]),([0,2,3,7,8],[2,3]),([0,2,3,7,8,9],[2,3]),([0,2,3,4,7,8],[2,3]),([0,2,3,7,8],[2,3]),([0,2,3,7,8],[2,3]),([2],[2])], Tryd.f32, Tryd.f32.body.getD .skip, Tryd.func32, by kernel_rfl, by kernel_rfl, Nat.le_of_ble_eq_true (by kernel_rfl), by kernel_rfl, by kernel_rfl⟩
set_option maxRecDepth 100000 in
theorem ok176 : ∃ an, FnOk Tryd.prog num our (num 176) an F176 := ⟨[([0,1],[]),([0,1,10],[]),([4],[]),([0,1,5],[]),([0,1,5],[]),([0,1,5,14],[]),([0,1,5,25],[]),([4],[]),([0,1,5],[]),([4],[])], Tryd.f40, Tryd.f40.body.getD .skip, Tryd.func40, by kernel_rfl, by kernel_rfl, Nat.le_of_ble_eq_true (by kernel_rfl), by kernel_rfl, by kernel_rfl⟩
set_option maxRecDepth 100000 in
theorem ok177 : ∃ an, FnOk Tryd.prog num our (num 177) an F177 := ⟨[([0,1],[]),([4],[])], Tryd.f41, Tryd.f41.body.getD .skip, Tryd.func41, by kernel_rfl, by kernel_rfl, Nat.le_of_ble_eq_true (by kernel_rfl), by kernel_rfl, by kernel_rfl⟩
set_option maxRecDepth 100000 in
theorem ok179 : ∃ an, FnOk Tryd.prog num our (num 179) an F179 := ⟨[([2,3],[2,3]),([4],[])], Tryd.f43, Tryd.f43.body.getD .skip, Tryd.func43, by kernel_rfl, by kernel_rfl, Nat.le_of_ble_eq_true (by kernel_rfl), by kernel_rfl, by kernel_rfl⟩
set_option maxRecDepth 100000 in
theorem ok180 : ∃ an, FnOk Tryd.prog num our (num 180) an F180 := ⟨[([0,1],[]),([4],[])], Tryd.f44, Tryd.f44.body.getD .skip, Tryd.func44, by kernel_rfl, by kernel_rfl, Nat.le_of_ble_eq_true (by kernel_rfl), by kernel_rfl, by kernel_rfl⟩
set_option maxRecDepth 100000 in
theorem ok181 : ∃ an, FnOk Tryd.prog num our (num 181) an F181 := ⟨[([1,2],[2]),([3],[])], Tryd.f45, Tryd.f45.body.getD .skip, Tryd.func45, by kernel_rfl, by kernel_rfl, Nat.le_of_ble_eq_true (by kernel_rfl), by kernel_rfl, by kernel_rfl⟩
set_option maxRecDepth 100000 in
theorem ok182 : ∃ an, FnOk Tryd.prog num our (num 182) an F182 := ⟨[([3,4,5,6],[3,4,5,6]),([3,4,5,6,18],[3,4,5,6]),([6,7],[6]),([4,5,6,8],[4,5,6,8]),([4,5,6,8,9,10],[4,5,6,8]),([4,5,6,8,9,37],[4,5,6,8]),([6,7],[6]),([4,5,6,8,9,41],[4,5,6,8]),([6,7],[6]),([4,5,6,8,9,64],[4,5,6,8]),([6,7],[6]),([6,7],[6])], Tryd.f47, Tryd.f47.body.getD .skip, Tryd.func47, by kernel_rfl, by kernel_rfl, Nat.le_of_ble_eq_true (by kernel_rfl), by kernel_rfl, by kernel_rfl⟩
set_option maxRecDepth 100000 in
theorem ok186 : ∃ an, FnOk Tryd.prog num our (num 186) an F186 := ⟨[([2,3],[2,3]),([2,3,5],[2,3]),([2,3,5,13],[2,3]),([2,3,5,13],[2,3]),([2,3,5,13,14],[2,3]),([2,3,5,6,13],[2,3]),([2,3,5,6,7,13],[2,3,7]),([2,3,5,6,7,13,22,23,24],[2,3,7]),([2,3,5,6,7,13,22,23,24],[2,3,7]),([2,3,5,6,7,13,22,23,24,25],[2,3,7]),([2,3,5,6,7,9,13,22,23,24],[2,3,7,9]),([2,3,5,6,7,9,10,13,22,23,24],[2,3,7,9,10]),([2,3,5,6,7,10,13,22,23,24,38],[2,3,7,10]),([2,3,5,6,7,10,12,13,22,23,24],[2,3,7,10]),([2,3,5,6,7,10,13,22,23,24,46],[2,3,7,10]),([2,3,5,6,7,13,22,23,24],[2,3,7]),([2,3,5,6,7,13,22,23,24],[2,3,7]),([2,3,5,13],[2,3]),([5],[]),([4],[])], Tryd.f52, Tryd.f52.body.getD .skip, Tryd.func52, by kernel_rfl, by kernel_rfl, Nat.le_of_ble_eq_true (by kernel_rfl), by kernel_rfl, by kernel_rfl⟩
set_option maxRecDepth 100000 in
theorem ok188 : ∃ an, FnOk Tryd.prog num our (num 188) an F188 := ⟨[([0],[]),([2],[])], Tryd.f58, Tryd.f58.body.getD .skip, Tryd.func58, by kernel_rfl, by kernel_rfl, Nat.le_of_ble_eq_true (by kernel_rfl), by kernel_rfl, by kernel_rfl⟩
set_option maxRecDepth 100000 in
theorem ok189 : ∃ an, FnOk Tryd.prog num our (num 189) an F189 := ⟨[([2,3,4,6],[3,4,6]),([3,4,6,8],[3,4,6]),([6],[6]),([6],[6])], Tryd.f60, Tryd.f60.body.getD .skip, Tryd.func60, by kernel_rfl, by kernel_rfl, Nat.le_of_ble_eq_true (by kernel_rfl), by kernel_rfl, by kernel_rfl⟩
set_option maxRecDepth 100000 in
theorem ok190 : ∃ an, FnOk Tryd.prog num our (num 190) an F190 := ⟨[([1,2,3,4,5,10],[5,10]),([2,3,4,5,10,12],[5,10]),([10],[10]),([10],[10])], Tryd.f62, Tryd.f62.body.getD .skip, Tryd.func62, by kernel_rfl, by kernel_rfl, Nat.le_of_ble_eq_true (by kernel_rfl), by kernel_rfl, by kernel_rfl⟩
set_option maxRecDepth 100000 in
theorem ok194 : ∃ an, FnOk Tryd.prog num our (num 194) an F194 := ⟨[([0],[]),([2],[])], Tryd.f68, Tryd.f68.body.getD .skip, Tryd.func68, by kernel_rfl, by kernel_rfl, Nat.le_of_ble_eq_true (by kernel_rfl), by kernel_rfl, by kernel_rfl⟩
set_option maxRecDepth 100000 in
theorem ok197 : ∃ an, FnOk Tryd.prog num our (num 197) an F197 := ⟨[([2,3],[2,3]),([4],[])], Tryd.f71, Tryd.f71.body.getD .skip, Tryd.func71, by kernel_rfl, by kernel_rfl, Nat.le_of_ble_eq_true (by kernel_rfl), by kernel_rfl, by kernel_rfl⟩
set_option maxRecDepth 100000 in
theorem ok198 : ∃ an, FnOk Tryd.prog num our (num 198) an F198 := ⟨[([0],[]),([3],[]),([2],[]),([2],[])], Tryd.f74, Tryd.f74.body.getD .skip, Tryd.func74, by kernel_rfl, by kernel_rfl, Nat.le_of_ble_eq_true (by kernel_rfl), by kernel_rfl, by kernel_rfl⟩
set_option maxRecDepth 100000 in
theorem ok200 : ∃ an, FnOk Tryd.prog num our (num 200) an F200 := ⟨[([0],[]),([2],[])], Tryd.f78, Tryd.f78.body.getD .skip, Tryd.func78, by kernel_rfl, by kernel_rfl, Nat.le_of_ble_eq_true (by kernel_rfl), by kernel_rfl, by kernel_rfl⟩
set_option maxRecDepth 100000 in
theorem ok203 : ∃ an, FnOk Tryd.prog num our (num 203) an F203 := ⟨[([0,1],[]),([0,1,11],[]),([0,17],[]),([4],[]),([0,5],[5]),([0,5,6],[5]),([0,5,6,23],[5]),([0,5,6],[5]),([0,5,6,7],[5]),([],[999999]),([5,7,34],[5]),([5,7],[5]),([],[999999]),([],[999999]),([9],[]),([4],[])], Tryd.f83, Tryd.f83.body.getD .skip, Tryd.func83, by kernel_rfl, by kernel_rfl, Nat.le_of_ble_eq_true (by kernel_rfl), by kernel_rfl, by kernel_rfl⟩
set_option maxRecDepth 100000 in
theorem ok212 : ∃ an, FnOk Tryd.prog num our (num 212) an F212 := ⟨[([0],[]),([0,4],[]),([2],[]),([2],[])], Tryd.f94, Tryd.f94.body.getD .skip, Tryd.func94, by kernel_rfl, by kernel_rfl, Nat.le_of_ble_eq_true (by kernel_rfl), by kernel_rfl, by kernel_rfl⟩
set_option maxRecDepth 100000 in
theorem ok213 : ∃ an, FnOk Tryd.prog num our (num 213) an F213 := ⟨[([0],[]),([0,3],[]),([],[999999])], Tryd.f95, Tryd.f95.body.getD .skip, Tryd.func95, by kernel_rfl, by kernel_rfl, Nat.le_of_ble_eq_true (by kernel_rfl), by kernel_rfl, by kernel_rfl⟩
set_option maxRecDepth 100000 in
theorem ok215 : ∃ an, FnOk Tryd.prog num our (num 215) an F215 := ⟨[([0,1,2,3,4,10,11],[]),([0,1,2,3,4,10,11,28],[]),([0,1,2,3,4,10,11],[]),([0,1,2,3,4,10,11,12],[12]),([0,1,2,3,4,10,11,12,13],[12]),([0,1,2,3,4,10,11,12,13,30],[12]),([0,1,2,3,4,10,11,12,13],[12]),([0,1,2,3,4,10,11,12,13,34],[12]),([0,1,2,3,4,10,11,12,13,14],[12]),([0,1,2,3,4,10,11,12,13,14,15],[12]),([0,1,3,4,10,11,12,13,14,15,16],[12]),([0,1,3,4,10,11,12,13,14,15,16],[12]),([0,1,3,4,10,11,12,13,14,15,16,46],[12]),([0,1,3,4,10,11,12,13,14,15,16],[12]),([0,1,3,4,10,11,12,13,14,15,16],[12]),([0,1,3,4,10,11,12,13,14,15,16],[12]),([0,1,3,4,10,11,12,13],[12]),([0,3,4,10,11,12,13],[12]),([0,1,3,4,10,11,12,13,17],[12]),([0,1,3,4,10,11,12,13,17],[12]),([0,1,3,4,10,11,12,13,17,68],[12]),([0,1,3,4,10,11,12,13,17],[12]),([0,1,3,4,10,11,12,13,17,18],[12]),([0,3,4,10,11,12,13,17,18],[12]),([0,1,3,4,10,11,12,13,17],[12]),([0,1,3,4,10,11,12,13],[12]),([0,3,4,10,11,12,13],[12]),([0,4,10,11,12,13,89],[12]),([0,4,10,11,12,13],[12]),([0,4,10,11,12,13],[12]),([0,10,11,12,13,94],[12]),([],[999999]),([],[999999])], Tryd.f97, Tryd.f97.body.getD .skip, Tryd.func97, by kernel_rfl, by kernel_rfl, Nat.le_of_ble_eq_true (by kernel_rfl), by kernel_rfl, by kernel_rfl⟩
set_option maxRecDepth 100000 in
theorem ok219 : ∃ an, FnOk Tryd.prog num our (num 219) an F219 := ⟨[([0],[]),([2],[])], Tryd.f103, Tryd.f103.body.getD .skip, Tryd.func103, by kernel_rfl, by kernel_rfl, Nat.le_of_ble_eq_true (by kernel_rfl), by kernel_rfl, by kernel_rfl⟩
set_option maxRecDepth 100000 in
theorem ok221 : ∃ an, FnOk Tryd.prog num our (num 221) an F221 := ⟨[([0],[]),([2],[])], Tryd.f105, Tryd.f105.body.getD .skip, Tryd.func105, by kernel_rfl, by kernel_rfl, Nat.le_of_ble_eq_true (by kernel_rfl), by kernel_rfl, by kernel_rfl⟩
set_option maxRecDepth 100000 in
theorem ok222 : ∃ an, FnOk Tryd.prog num our (num 222) an F222 := ⟨[([0],[]),([2],[]),([2],[])], Tryd.f106, Tryd.f106.body.getD .skip, Tryd.func106, by kernel_rfl, by kernel_rfl, Nat.le_of_ble_eq_true (by kernel_rfl), by kernel_rfl, by kernel_rfl⟩
set_option maxRecDepth 100000 in
theorem ok224 : ∃ an, FnOk Tryd.prog num our (num 224) an F224 := ⟨[([0],[]),([0,4],[]),([2],[]),([],[999999])], Tryd.f108, Tryd.f108.body.getD .skip, Tryd.func108, by kernel_rfl, by kernel_rfl, Nat.le_of_ble_eq_true (by kernel_rfl), by kernel_rfl, by kernel_rfl⟩
set_option maxRecDepth 100000 in
theorem ok225 : ∃ an, FnOk Tryd.prog num our (num 225) an F225 := ⟨[([0],[]),([0,4],[]),([2],[]),([],[999999])], Tryd.f109, Tryd.f109.body.getD .skip, Tryd.func109, by kernel_rfl, by kernel_rfl, Nat.le_of_ble_eq_true (by kernel_rfl), by kernel_rfl, by kernel_rfl⟩
set_option maxRecDepth 100000 in
theorem tabOk : ∀ x ∈ tabL, ∃ an, FnOk Tryd.prog num our (num x.1) an x.2 := by
  unfold tabL
  exact List.forall_mem_cons.2 ⟨ok29, List.forall_mem_cons.2 ⟨ok45, List.forall_mem_cons.2 ⟨ok46, List.forall_mem_cons.2 ⟨ok47, List.forall_mem_cons.2 ⟨ok58, List.forall_mem_cons.2 ⟨ok59, List.forall_mem_cons.2 ⟨ok60, List.forall_mem_cons.2 ⟨ok66, List.forall_mem_cons.2 ⟨ok76, List.forall_mem_cons.2 ⟨ok77, List.forall_mem_cons.2 ⟨ok108, List.forall_mem_cons.2 ⟨ok117, List.forall_mem_cons.2 ⟨ok147, List.forall_mem_cons.2 ⟨ok150, List.forall_mem_cons.2 ⟨ok152, List.forall_mem_cons.2 ⟨ok154, List.forall_mem_cons.2 ⟨ok155, List.forall_mem_cons.2 ⟨ok157, List.forall_mem_cons.2 ⟨ok159, List.forall_mem_cons.2 ⟨ok161, List.forall_mem_cons.2 ⟨ok165, List.forall_mem_cons.2 ⟨ok166, List.forall_mem_cons.2 ⟨ok170, List.forall_mem_cons.2 ⟨ok176, List.forall_mem_cons.2 ⟨ok177, List.forall_mem_cons.2 ⟨ok179, List.forall_mem_cons.2 ⟨ok180, List.forall_mem_cons.2 ⟨ok181, List.forall_mem_cons.2 ⟨ok182, List.forall_mem_cons.2 ⟨ok186, List.forall_mem_cons.2 ⟨ok188, List.forall_mem_cons.2 ⟨ok189, List.forall_mem_cons.2 ⟨ok190, List.forall_mem_cons.2 ⟨ok194, List.forall_mem_cons.2 ⟨ok197, List.forall_mem_cons.2 ⟨ok198, List.forall_mem_cons.2 ⟨ok200, List.forall_mem_cons.2 ⟨ok203, List.forall_mem_cons.2 ⟨ok212, List.forall_mem_cons.2 ⟨ok213, List.forall_mem_cons.2 ⟨ok215, List.forall_mem_cons.2 ⟨ok219, List.forall_mem_cons.2 ⟨ok221, List.forall_mem_cons.2 ⟨ok222, List.forall_mem_cons.2 ⟨ok224, List.forall_mem_cons.2 ⟨ok225, fun x hx => by cases hx⟩⟩⟩⟩⟩⟩⟩⟩⟩⟩⟩⟩⟩⟩⟩⟩⟩⟩⟩⟩⟩⟩⟩⟩⟩⟩⟩⟩⟩⟩⟩⟩⟩⟩⟩⟩⟩⟩⟩⟩⟩⟩⟩⟩⟩⟩
set_option maxRecDepth 100000 in
theorem aOk (f : Nat) (fn : AFunc) (h : A f = some fn) : ∃ an, FnOk Tryd.prog num our (num f) an fn := tabOk _ (look1_mem h)
end Go.Proofs.YthpgcipmnblhpaaDoor
