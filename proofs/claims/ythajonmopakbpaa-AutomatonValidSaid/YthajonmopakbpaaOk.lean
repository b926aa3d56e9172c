/-
  The functions read are those of the program.
-/
import Derived.Test.YthajonmopakbpaaTab
import Derived.Test.YthajonmopakbpaaProg
import Derived.KernelRfl
set_option linter.unusedSimpArgs false
set_option linter.unusedVariables false
namespace Go.Proofs.Ythajonmopakbpaa
open Go Go.Pv Go.Proofs
def numL : List Nat := [99999, 99999, 99999, 99999, 99999, 99999, 99999, 99999, 99999, 99999, 99999, 99999, 99999, 99999, 99999, 99999, 99999, 99999, 99999, 99999, 99999, 99999, 99999, 99999, 99999, 99999, 12, 22, 99999, 11, 99999, 99999, 99999, 99999, 99999, 99999, 99999, 99999, 99999, 99999, 99999, 99999, 99999, 99999, 33, 13, 31, 32, 99999, 99999, 40, 39, 99999, 99999, 99999, 99999, 99999, 99999, 48, 49, 50, 99999, 99999, 99999, 38, 99999, 61, 99999, 99999, 99999, 99999, 99999, 99999, 99999, 99999, 99999, 99999, 99999, 99999, 99999, 99999, 99999, 99999, 99999, 3, 99999, 99999, 99999, 99999, 99999, 99999, 10, 99999, 99999, 17, 18, 99999, 20, 23, 99999, 99999, 99999, 30, 34, 35, 99999, 99999, 41, 42, 43, 44, 99999, 54, 55, 56, 57, 58, 59, 60, 99999, 99999, 99999, 99999, 99999, 99999, 99999, 99999, 99999, 81, 82, 83, 99999, 99999, 99999, 92, 93, 94, 99999, 97, 98, 99]
def num (n : Nat) : Nat := numL.getD n 99999
def ourL : List Nat := [99999, 99999, 99999, 84, 99999, 99999, 99999, 99999, 99999, 99999, 91, 29, 26, 45, 99999, 99999, 99999, 94, 95, 99999, 97, 99999, 27, 98, 99999, 99999, 99999, 99999, 99999, 99999, 102, 46, 47, 44, 103, 104, 99999, 99999, 64, 51, 50, 107, 108, 109, 110, 99999, 99999, 99999, 58, 59, 60, 99999, 99999, 99999, 112, 113, 114, 115, 116, 117, 118, 66, 99999, 99999, 99999, 99999, 99999, 99999, 99999, 99999, 99999, 99999, 99999, 99999, 99999, 99999, 99999, 99999, 99999, 99999, 99999, 128, 129, 130, 99999, 99999, 99999, 99999, 99999, 99999, 99999, 99999, 134, 135, 136, 99999, 99999, 138, 139, 140]
def our (f : Nat) : Nat := ourL.getD f 99999
set_option maxRecDepth 100000 in
theorem ok26 : ∃ an, FnOk Try.prog num our (num 26) an F26 := ⟨[([1],[1]),([1,13],[1]),([2],[]),([1,28],[1]),([2],[]),([1,3],[1]),([1,3],[1]),([1,3,33],[1]),([1,3,4],[1,4]),([1,3,4,72],[1,4]),([2],[]),([1,3,85],[1]),([2],[]),([1,3],[1]),([2],[])], Try.f12, Try.f12.body.getD .skip, Try.func12, by kernel_rfl, by kernel_rfl, Nat.le_of_ble_eq_true (by kernel_rfl), by kernel_rfl, by kernel_rfl⟩
set_option maxRecDepth 100000 in
theorem ok27 : ∃ an, FnOk Try.prog num our (num 27) an F27 := ⟨[([1,2],[2]),([1,2,7],[2]),([1,2,7,16],[2]),([4,5,6],[]),([1,2,8],[2]),([1,2,8,20,21,22],[2]),([1,2,8,20,21,22],[2]),([1,2,8,20,21,22,23],[2]),([1,2,8,9,10,20,21,22],[2,10]),([1,2,8,9,11,12,20,21,22],[2]),([1,2,8,9,11,20,21,22,38],[2]),([4,5,6],[]),([1,2,8,20,21,22],[2]),([1,2,8,20,21,22],[2]),([4,5,6],[])], Try.f22, Try.f22.body.getD .skip, Try.func22, by kernel_rfl, by kernel_rfl, Nat.le_of_ble_eq_true (by kernel_rfl), by kernel_rfl, by kernel_rfl⟩
set_option maxRecDepth 100000 in
theorem ok29 : ∃ an, FnOk Try.prog num our (num 29) an F29 := ⟨[([1],[1]),([1,14],[1]),([2],[]),([1,3],[1]),([1,3,20],[1]),([2],[]),([1,3,22,23,24],[1]),([1,3,22,23,24],[1]),([1,3,22,23,24,25],[1]),([1,3,4,5,22,23,24],[1,5]),([1,3,22,23,24,65],[1]),([2],[]),([1,3,22,23,24],[1]),([2],[])], Try.f11, Try.f11.body.getD .skip, Try.func11, by kernel_rfl, by kernel_rfl, Nat.le_of_ble_eq_true (by kernel_rfl), by kernel_rfl, by kernel_rfl⟩
set_option maxRecDepth 100000 in
theorem ok44 : ∃ an, FnOk Try.prog num our (num 44) an F44 := ⟨[([2,3],[2,3]),([2,3,9],[2,3]),([4],[]),([2,3,19],[2,3]),([4],[]),([4],[])], Try.f33, Try.f33.body.getD .skip, Try.func33, by kernel_rfl, by kernel_rfl, Nat.le_of_ble_eq_true (by kernel_rfl), by kernel_rfl, by kernel_rfl⟩
set_option maxRecDepth 100000 in
theorem ok45 : ∃ an, FnOk Try.prog num our (num 45) an F45 := ⟨[([1,2,3,4],[4]),([1,2,3,13,14,15],[]),([1,2,3,13,14,15],[]),([1,2,3,13,14,15,16],[]),([1,2,3,11,13,14,15],[11]),([1,2,3,11,13,14,15,34],[11]),([8,9],[]),([1,2,3,13,14,15],[]),([8,9],[])], Try.f13, Try.f13.body.getD .skip, Try.func13, by kernel_rfl, by kernel_rfl, Nat.le_of_ble_eq_true (by kernel_rfl), by kernel_rfl, by kernel_rfl⟩
set_option maxRecDepth 100000 in
theorem ok46 : ∃ an, FnOk Try.prog num our (num 46) an F46 := ⟨[([0,1],[]),([3],[])], Try.f31, Try.f31.body.getD .skip, Try.func31, by kernel_rfl, by kernel_rfl, Nat.le_of_ble_eq_true (by kernel_rfl), by kernel_rfl, by kernel_rfl⟩
set_option maxRecDepth 100000 in
theorem ok47 : ∃ an, FnOk Try.prog num our (num 47) an F47 := ⟨[([2,3],[2,3]),([2,3,5],[2,3]),([4],[])], Try.f32, Try.f32.body.getD .skip, Try.func32, by kernel_rfl, by kernel_rfl, Nat.le_of_ble_eq_true (by kernel_rfl), by kernel_rfl, by kernel_rfl⟩
set_option maxRecDepth 100000 in
theorem ok50 : ∃ an, FnOk Try.prog num our (num 50) an F50 := ⟨[([1],[1]),([1,4],[1]),([1,4,14,15],[1]),([1,4,14,15],[1]),([1,4,14,15,16],[1]),([1,4,5,14,15],[1]),([1,4,14,15],[1]),([1,4,14,15],[1]),([1,4,6],[1]),([1,4,6],[1]),([1,4,6,7],[1]),([1,4,6,7],[1]),([1,4,6,7,32],[1]),([1,4,6,7,36,37,38],[1]),([1,4,6,7,36,37,38],[1]),([1,4,6,7,36,37,38,39],[1]),([1,4,6,7,9,36,37,38],[1,9]),([1,4,6,7,9,36,37,38,56],[1,9]),([1,4,6,7,9,36,37,38],[1,9]),([1,4,6,7,36,37,38],[1]),([1,4,6,7,36,37,38],[1]),([1,4,6,7],[1]),([2,3],[])], Try.f40, Try.f40.body.getD .skip, Try.func40, by kernel_rfl, by kernel_rfl, Nat.le_of_ble_eq_true (by kernel_rfl), by kernel_rfl, by kernel_rfl⟩
set_option maxRecDepth 100000 in
theorem ok58 : ∃ an, FnOk Try.prog num our (num 58) an F58 := ⟨[([1],[1]),([4],[]),([2],[]),([2],[])], Try.f48, Try.f48.body.getD .skip, Try.func48, by kernel_rfl, by kernel_rfl, Nat.le_of_ble_eq_true (by kernel_rfl), by kernel_rfl, by kernel_rfl⟩
set_option maxRecDepth 100000 in
theorem ok59 : ∃ an, FnOk Try.prog num our (num 59) an F59 := ⟨[([0],[]),([0,3],[]),([3,6,7,8],[]),([3,6,7,8],[]),([3,6,7,8,9],[]),([3,5,6,7,8],[]),([3,5,6,7,8,14],[]),([2],[]),([3,6,7,8],[]),([2],[])], Try.f49, Try.f49.body.getD .skip, Try.func49, by kernel_rfl, by kernel_rfl, Nat.le_of_ble_eq_true (by kernel_rfl), by kernel_rfl, by kernel_rfl⟩
set_option maxRecDepth 100000 in
theorem ok60 : ∃ an, FnOk Try.prog num our (num 60) an F60 := ⟨[([0,1],[]),([0,1,5],[]),([0,1,5,6],[]),([0,1,6,11],[]),([12],[]),([4],[]),([4],[]),([0,1,13],[]),([4],[]),([0,1,16],[]),([4],[]),([19],[]),([4],[]),([4],[])], Try.f50, Try.f50.body.getD .skip, Try.func50, by kernel_rfl, by kernel_rfl, Nat.le_of_ble_eq_true (by kernel_rfl), by kernel_rfl, by kernel_rfl⟩
set_option maxRecDepth 100000 in
theorem ok66 : ∃ an, FnOk Try.prog num our (num 66) an F66 := ⟨[([0],[]),([2],[])], Try.f61, Try.f61.body.getD .skip, Try.func61, by kernel_rfl, by kernel_rfl, Nat.le_of_ble_eq_true (by kernel_rfl), by kernel_rfl, by kernel_rfl⟩
set_option maxRecDepth 100000 in
theorem ok84 : ∃ an, FnOk Try.prog num our (num 84) an F84 := ⟨[([1],[1]),([1,10],[1]),([2],[]),([2],[])], Try.f3, Try.f3.body.getD .skip, Try.func3, by kernel_rfl, by kernel_rfl, Nat.le_of_ble_eq_true (by kernel_rfl), by kernel_rfl, by kernel_rfl⟩
set_option maxRecDepth 100000 in
theorem ok91 : ∃ an, FnOk Try.prog num our (num 91) an F91 := ⟨[([],[]),([1,2,3],[]),([1,2,3,5,6],[]),([1,2,3,5,6,7,8],[]),([1,2,3,5,6,7,8,9,10],[9]),([0],[])], Try.f10, Try.f10.body.getD .skip, Try.func10, by kernel_rfl, by kernel_rfl, Nat.le_of_ble_eq_true (by kernel_rfl), by kernel_rfl, by kernel_rfl⟩
set_option maxRecDepth 100000 in
theorem ok94 : ∃ an, FnOk Try.prog num our (num 94) an F94 := ⟨[([0,1],[]),([0,1,10],[]),([4],[]),([0,1,5],[]),([0,1,5],[]),([0,1,5,14],[]),([0,1,5,25],[]),([4],[]),([0,1,5],[]),([4],[])], Try.f17, Try.f17.body.getD .skip, Try.func17, by kernel_rfl, by kernel_rfl, Nat.le_of_ble_eq_true (by kernel_rfl), by kernel_rfl, by kernel_rfl⟩
set_option maxRecDepth 100000 in
theorem ok95 : ∃ an, FnOk Try.prog num our (num 95) an F95 := ⟨[([1],[1]),([1,16],[1]),([2],[]),([1,3],[1]),([1,3,21,22,23],[1]),([1,3,21,22,23],[1]),([1,3,21,22,23,24],[1]),([1,3,5,21,22,23],[1,5]),([1,3,5,21,22,23,36],[1,5]),([1,3,21,22,23],[1]),([1,3,21,22,23],[1]),([3,6],[]),([6,42,43,44],[]),([6,42,43,44],[]),([6,42,43,44,45],[]),([6,7,8,42,43,44],[]),([6,7,42,43,44,50],[]),([6,42,43,44],[]),([6,42,43,44],[]),([2],[])], Try.f18, Try.f18.body.getD .skip, Try.func18, by kernel_rfl, by kernel_rfl, Nat.le_of_ble_eq_true (by kernel_rfl), by kernel_rfl, by kernel_rfl⟩
set_option maxRecDepth 100000 in
theorem ok97 : ∃ an, FnOk Try.prog num our (num 97) an F97 := ⟨[([1,2],[1,2]),([1,2,4],[1,2]),([1,2,4,10],[1,2]),([2,3],[2]),([2,5],[2,5]),([2,5,23,24],[2,5]),([2,5,23,24],[2,5]),([2,5,23,24,25],[2,5]),([2,5,6,23,24],[2,5]),([2,5,23,24],[2,5]),([2,5,23,24],[2,5]),([2,5],[2,5]),([2,3],[2])], Try.f20, Try.f20.body.getD .skip, Try.func20, by kernel_rfl, by kernel_rfl, Nat.le_of_ble_eq_true (by kernel_rfl), by kernel_rfl, by kernel_rfl⟩
set_option maxRecDepth 100000 in
theorem ok98 : ∃ an, FnOk Try.prog num our (num 98) an F98 := ⟨[([1],[1]),([1,4],[1]),([1,4,15],[1]),([2,3],[]),([1,5],[1]),([1,5,18,19,20],[1]),([1,5,18,19,20],[1]),([1,5,18,19,20,21],[1]),([1,5,7,18,19,20],[1,7]),([1,5,18,19,20],[1]),([1,5,18,19,20],[1]),([1,8,9],[1,8]),([1,8,9,43],[1,8]),([2,3],[]),([8,10],[8]),([2,3],[])], Try.f23, Try.f23.body.getD .skip, Try.func23, by kernel_rfl, by kernel_rfl, Nat.le_of_ble_eq_true (by kernel_rfl), by kernel_rfl, by kernel_rfl⟩
set_option maxRecDepth 100000 in
theorem ok102 : ∃ an, FnOk Try.prog num our (num 102) an F102 := ⟨[([0],[0]),([0],[0])], Try.f30, Try.f30.body.getD .skip, Try.func30, by kernel_rfl, by kernel_rfl, Nat.le_of_ble_eq_true (by kernel_rfl), by kernel_rfl, by kernel_rfl⟩
set_option maxRecDepth 100000 in
theorem ok104 : ∃ an, FnOk Try.prog num our (num 104) an F104 := ⟨[([0],[]),([0,8],[]),([2],[]),([0,3],[]),([0,3],[]),([0,3,13],[]),([0,3,25],[]),([0,3,4],[]),([0,3,4,5],[]),([0,3,4,5],[]),([0,3,4,5,32],[]),([0,3,4,5,44],[]),([0,3,4,5],[]),([0,3,4,5],[]),([0,3,4,5],[]),([0,3],[]),([2],[]),([0,3],[]),([2],[])], Try.f35, Try.f35.body.getD .skip, Try.func35, by kernel_rfl, by kernel_rfl, Nat.le_of_ble_eq_true (by kernel_rfl), by kernel_rfl, by kernel_rfl⟩
set_option maxRecDepth 100000 in
theorem ok107 : ∃ an, FnOk Try.prog num our (num 107) an F107 := ⟨[([0,1,2],[]),([0,1,2,8],[]),([0,1,2,8,14],[]),([6,7],[]),([6,7],[])], Try.f41, Try.f41.body.getD .skip, Try.func41, by kernel_rfl, by kernel_rfl, Nat.le_of_ble_eq_true (by kernel_rfl), by kernel_rfl, by kernel_rfl⟩
set_option maxRecDepth 100000 in
theorem ok108 : ∃ an, FnOk Try.prog num our (num 108) an F108 := ⟨[([0,1],[]),([4],[])], Try.f42, Try.f42.body.getD .skip, Try.func42, by kernel_rfl, by kernel_rfl, Nat.le_of_ble_eq_true (by kernel_rfl), by kernel_rfl, by kernel_rfl⟩
set_option maxRecDepth 100000 in
theorem ok109 : ∃ an, FnOk Try.prog num our (num 109) an F109 := ⟨[([0,1],[]),([3],[])], Try.f43, Try.f43.body.getD .skip, Try.func43, by kernel_rfl, by kernel_rfl, Nat.le_of_ble_eq_true (by kernel_rfl), by kernel_rfl, by kernel_rfl⟩
set_option maxRecDepth 100000 in
theorem ok110 : ∃ an, FnOk Try.prog num our (num 110) an F110 := ⟨[([0,1],[]),([4],[])], Try.f44, Try.f44.body.getD .skip, Try.func44, by kernel_rfl, by kernel_rfl, Nat.le_of_ble_eq_true (by kernel_rfl), by kernel_rfl, by kernel_rfl⟩
set_option maxRecDepth 100000 in
theorem ok112 : ∃ an, FnOk Try.prog num our (num 112) an F112 := ⟨[([1,2,3],[3]),([2,3,7],[3]),([2,3,7,12],[3]),([6],[]),([16],[]),([6],[]),([6],[])], Try.f54, Try.f54.body.getD .skip, Try.func54, by kernel_rfl, by kernel_rfl, Nat.le_of_ble_eq_true (by kernel_rfl), by kernel_rfl, by kernel_rfl⟩
set_option maxRecDepth 100000 in
theorem ok113 : ∃ an, FnOk Try.prog num our (num 113) an F113 := ⟨[([0],[]),([0,3],[]),([3,6,7,8],[]),([3,6,7,8],[]),([3,6,7,8,9],[]),([3,4,5,6,7,8],[]),([3,4,6,7,8,14],[]),([3,6,7,8],[]),([3,6,7,8],[]),([2],[])], Try.f55, Try.f55.body.getD .skip, Try.func55, by kernel_rfl, by kernel_rfl, Nat.le_of_ble_eq_true (by kernel_rfl), by kernel_rfl, by kernel_rfl⟩
set_option maxRecDepth 100000 in
theorem ok114 : ∃ an, FnOk Try.prog num our (num 114) an F114 := ⟨[([0,1],[]),([0,1,5],[]),([0,1,5,6],[]),([0,5,6,17,18,19],[]),([0,5,6,17,18,19],[]),([0,5,6,17,18,19,20],[]),([0,5,6,8,17,18,19],[]),([0,5,6,8,17,18,19,27],[]),([0,5,6,8,17,18,19],[]),([0,5,6,17,18,19],[]),([0,5,6,17,18,19],[]),([0,5,6,9],[]),([0,5,6,9],[]),([0,5,6,9,39],[]),([0,5,6,9,10],[]),([0,5,6,9,10,49,50,51],[]),([0,5,6,9,10,49,50,51],[]),([0,5,6,9,10,49,50,51,52],[]),([0,5,6,9,10,12,49,50,51],[]),([0,5,6,9,10,12,49,50,51,59],[]),([0,5,6,9,10,12,49,50,51],[]),([0,5,6,9,10,49,50,51],[]),([0,5,6,9,10,49,50,51],[]),([0,5,6,9],[]),([4],[])], Try.f56, Try.f56.body.getD .skip, Try.func56, by kernel_rfl, by kernel_rfl, Nat.le_of_ble_eq_true (by kernel_rfl), by kernel_rfl, by kernel_rfl⟩
set_option maxRecDepth 100000 in
theorem ok115 : ∃ an, FnOk Try.prog num our (num 115) an F115 := ⟨[([0,1],[]),([1,5],[]),([5,11,12,13],[]),([5,11,12,13],[]),([5,11,12,13,14],[]),([5,7,11,12,13],[7]),([5,11,12,13],[]),([5,11,12,13],[]),([5,32,33],[]),([5,32,33],[]),([5,32,33,34],[]),([5,8,32,33],[]),([5,8,32,33],[]),([5,32,33],[]),([5,32,33],[]),([4],[])], Try.f57, Try.f57.body.getD .skip, Try.func57, by kernel_rfl, by kernel_rfl, Nat.le_of_ble_eq_true (by kernel_rfl), by kernel_rfl, by kernel_rfl⟩
set_option maxRecDepth 100000 in
theorem ok116 : ∃ an, FnOk Try.prog num our (num 116) an F116 := ⟨[([0],[]),([0,3],[]),([3,9,10,11],[]),([3,9,10,11],[]),([3,9,10,11,12],[]),([3,4,5,9,10,11],[5]),([3,9,10,11],[]),([3,9,10,11],[]),([2],[])], Try.f58, Try.f58.body.getD .skip, Try.func58, by kernel_rfl, by kernel_rfl, Nat.le_of_ble_eq_true (by kernel_rfl), by kernel_rfl, by kernel_rfl⟩
set_option maxRecDepth 100000 in
theorem ok117 : ∃ an, FnOk Try.prog num our (num 117) an F117 := ⟨[([0,1],[]),([0,1,7,8],[]),([0,1,7,8],[]),([0,1,7,8,9],[]),([0,1,5,7,8],[]),([0,1,5,7,8,16],[]),([4],[]),([0,1,7,8],[]),([4],[])], Try.f59, Try.f59.body.getD .skip, Try.func59, by kernel_rfl, by kernel_rfl, Nat.le_of_ble_eq_true (by kernel_rfl), by kernel_rfl, by kernel_rfl⟩
set_option maxRecDepth 100000 in
theorem ok118 : ∃ an, FnOk Try.prog num our (num 118) an F118 := ⟨[([0,1],[]),([0,1,7,8],[]),([0,1,7,8],[]),([0,1,7,8,9],[]),([0,1,5,7,8],[]),([0,1,5,7,8,16],[]),([4],[]),([0,1,7,8],[]),([4],[])], Try.f60, Try.f60.body.getD .skip, Try.func60, by kernel_rfl, by kernel_rfl, Nat.le_of_ble_eq_true (by kernel_rfl), by kernel_rfl, by kernel_rfl⟩
set_option maxRecDepth 100000 in
theorem ok128 : ∃ an, FnOk Try.prog num our (num 128) an F128 := ⟨[([1,2],[2]),([1,2,11],[2]),([4],[]),([18],[]),([4],[]),([4],[])], Try.f81, Try.f81.body.getD .skip, Try.func81, by kernel_rfl, by kernel_rfl, Nat.le_of_ble_eq_true (by kernel_rfl), by kernel_rfl, by kernel_rfl⟩
set_option maxRecDepth 100000 in
theorem ok129 : ∃ an, FnOk Try.prog num our (num 129) an F129 := ⟨[([0,1],[]),([3],[])], Try.f82, Try.f82.body.getD .skip, Try.func82, by kernel_rfl, by kernel_rfl, Nat.le_of_ble_eq_true (by kernel_rfl), by kernel_rfl, by kernel_rfl⟩
set_option maxRecDepth 100000 in
theorem ok130 : ∃ an, FnOk Try.prog num our (num 130) an F130 := ⟨[([0,1],[]),([0,1,10],[]),([0,1],[]),([0,5,6],[]),([0,6,26],[]),([0,6],[]),([0,7],[]),([7,8],[]),([7,8],[]),([7,8,37],[]),([7,8],[]),([4],[])], Try.f83, Try.f83.body.getD .skip, Try.func83, by kernel_rfl, by kernel_rfl, Nat.le_of_ble_eq_true (by kernel_rfl), by kernel_rfl, by kernel_rfl⟩
set_option maxRecDepth 100000 in
theorem ok134 : ∃ an, FnOk Try.prog num our (num 134) an F134 := ⟨[([0,1],[]),([4],[])], Try.f92, Try.f92.body.getD .skip, Try.func92, by kernel_rfl, by kernel_rfl, Nat.le_of_ble_eq_true (by kernel_rfl), by kernel_rfl, by kernel_rfl⟩
set_option maxRecDepth 100000 in
theorem ok135 : ∃ an, FnOk Try.prog num our (num 135) an F135 := ⟨[([1,2],[2]),([3],[])], Try.f93, Try.f93.body.getD .skip, Try.func93, by kernel_rfl, by kernel_rfl, Nat.le_of_ble_eq_true (by kernel_rfl), by kernel_rfl, by kernel_rfl⟩
set_option maxRecDepth 100000 in
theorem ok136 : ∃ an, FnOk Try.prog num our (num 136) an F136 := ⟨[([0,1],[]),([6,7],[]),([4,5],[]),([8,9],[]),([4,5],[])], Try.f94, Try.f94.body.getD .skip, Try.func94, by kernel_rfl, by kernel_rfl, Nat.le_of_ble_eq_true (by kernel_rfl), by kernel_rfl, by kernel_rfl⟩
set_option maxRecDepth 100000 in
theorem ok138 : ∃ an, FnOk Try.prog num our (num 138) an F138 := ⟨[([0,1],[]),([0,1,7,8],[]),([0,1,7,8],[]),([0,1,7,8,9],[]),([0,1,5,7,8],[]),([0,1,5,7,8,16],[]),([4],[]),([0,1,7,8],[]),([4],[])], Try.f97, Try.f97.body.getD .skip, Try.func97, by kernel_rfl, by kernel_rfl, Nat.le_of_ble_eq_true (by kernel_rfl), by kernel_rfl, by kernel_rfl⟩
set_option maxRecDepth 100000 in
theorem ok139 : ∃ an, FnOk Try.prog num our (num 139) an F139 := ⟨[([0,1],[]),([6],[]),([4,5],[])], Try.f98, Try.f98.body.getD .skip, Try.func98, by kernel_rfl, by kernel_rfl, Nat.le_of_ble_eq_true (by kernel_rfl), by kernel_rfl, by kernel_rfl⟩
set_option maxRecDepth 100000 in
theorem ok140 : ∃ an, FnOk Try.prog num our (num 140) an F140 := ⟨[([0,1],[]),([0,1,6],[]),([0,1,6,7],[]),([0,1,6,7,8],[]),([0,1,6,7,8,9],[]),([0,1,6,7,8,9,10],[]),([0,1,6,7,9,11],[]),([0,1,6,7,9,11,12],[]),([0,1,6,7,9,12,13],[]),([0,1,7,9,12,13],[]),([0,1,4],[]),([4,5],[])], Try.f99, Try.f99.body.getD .skip, Try.func99, by kernel_rfl, by kernel_rfl, Nat.le_of_ble_eq_true (by kernel_rfl), by kernel_rfl, by kernel_rfl⟩
theorem tabOk : ∀ x ∈ tabL, ∃ an, FnOk Try.prog num our (num x.1) an x.2 := by
  unfold tabL
  exact List.forall_mem_cons.2 ⟨ok26, List.forall_mem_cons.2 ⟨ok27, List.forall_mem_cons.2 ⟨ok29, List.forall_mem_cons.2 ⟨ok44, List.forall_mem_cons.2 ⟨ok45, List.forall_mem_cons.2 ⟨ok46, List.forall_mem_cons.2 ⟨ok47, List.forall_mem_cons.2 ⟨ok50, List.forall_mem_cons.2 ⟨ok58, List.forall_mem_cons.2 ⟨ok59, List.forall_mem_cons.2 ⟨ok60, List.forall_mem_cons.2 ⟨ok66, List.forall_mem_cons.2 ⟨ok84, List.forall_mem_cons.2 ⟨ok91, List.forall_mem_cons.2 ⟨ok94, List.forall_mem_cons.2 ⟨ok95, List.forall_mem_cons.2 ⟨ok97, List.forall_mem_cons.2 ⟨ok98, List.forall_mem_cons.2 ⟨ok102, List.forall_mem_cons.2 ⟨ok104, List.forall_mem_cons.2 ⟨ok107, List.forall_mem_cons.2 ⟨ok108, List.forall_mem_cons.2 ⟨ok109, List.forall_mem_cons.2 ⟨ok110, List.forall_mem_cons.2 ⟨ok112, List.forall_mem_cons.2 ⟨ok113, List.forall_mem_cons.2 ⟨ok114, List.forall_mem_cons.2 ⟨ok115, List.forall_mem_cons.2 ⟨ok116, List.forall_mem_cons.2 ⟨ok117, List.forall_mem_cons.2 ⟨ok118, List.forall_mem_cons.2 ⟨ok128, List.forall_mem_cons.2 ⟨ok129, List.forall_mem_cons.2 ⟨ok130, List.forall_mem_cons.2 ⟨ok134, List.forall_mem_cons.2 ⟨ok135, List.forall_mem_cons.2 ⟨ok136, List.forall_mem_cons.2 ⟨ok138, List.forall_mem_cons.2 ⟨ok139, List.forall_mem_cons.2 ⟨ok140, fun x hx => by cases hx⟩⟩⟩⟩⟩⟩⟩⟩⟩⟩⟩⟩⟩⟩⟩⟩⟩⟩⟩⟩⟩⟩⟩⟩⟩⟩⟩⟩⟩⟩⟩⟩⟩⟩⟩⟩⟩⟩⟩⟩
theorem aOk (f : Nat) (fn : AFunc) (h : A f = some fn) : ∃ an, FnOk Try.prog num our (num f) an fn := tabOk _ (look1_mem h)
end Go.Proofs.Ythajonmopakbpaa
