/-
  The functions read are those of the program.
-/
import Derived.Test.YtcgkhjdkachckaaTab
import Derived.Test.YtcgkhjdkachckaaProg
import Derived.KernelRfl
set_option linter.unusedSimpArgs false
set_option linter.unusedVariables false
namespace Go.Proofs.Ytcgkhjdkachckaa
open Go Go.Pv Go.Proofs
def numL : List Nat := [99999, 99999, 99999, 6, 99999, 99999, 99999, 99999, 11, 12, 13, 99999, 15, 99999, 17, 18, 19, 99999, 21, 99999, 23, 99999, 25, 26, 27, 99999, 29, 99999, 31, 32, 33, 99999, 35, 99999, 37, 38, 99999, 99999, 99999, 99999, 99999, 99999, 99999, 99999, 47, 48, 49, 50, 51, 52, 53, 54, 99999, 99999, 57, 58, 59, 60, 61, 62, 63, 99999, 99999, 66, 67, 68, 69, 99999, 99999, 99999, 99999, 99999, 99999, 99999, 99999, 99999, 99999, 80]
def num (n : Nat) : Nat := numL.getD n 99999
def ourL : List Nat := [99999, 99999, 99999, 99999, 99999, 99999, 3, 99999, 99999, 99999, 99999, 8, 9, 10, 99999, 12, 99999, 14, 15, 16, 99999, 18, 99999, 20, 99999, 22, 23, 24, 99999, 26, 99999, 28, 29, 30, 99999, 32, 99999, 34, 35, 99999, 99999, 99999, 99999, 99999, 99999, 99999, 99999, 44, 45, 46, 47, 48, 49, 50, 51, 99999, 99999, 54, 55, 56, 57, 58, 59, 60, 99999, 99999, 63, 64, 65, 66, 99999, 99999, 99999, 99999, 99999, 99999, 99999, 99999, 99999, 99999, 77]
def our (f : Nat) : Nat := ourL.getD f 99999
set_option maxRecDepth 100000 in
theorem ok3 : ∃ an, FnOk Try.prog num our (num 3) an F3 := ⟨[([1,2],[2]),([1,2,16],[2]),([4],[]),([1,2,5,6],[2]),([5,6,7,8],[]),([4],[])], Try.f6, Try.f6.body.getD .skip, Try.func6, by kernel_rfl, by kernel_rfl, Nat.le_of_ble_eq_true (by kernel_rfl), by kernel_rfl, by kernel_rfl⟩
set_option maxRecDepth 100000 in
theorem ok8 : ∃ an, FnOk Try.prog num our (num 8) an F8 := ⟨[([],[]),([1,2],[1,2]),([1,2],[1,2]),([1,2,3,4],[1,2]),([1,2,3,4,5,6],[1,2,5]),([1,2,3,4,5,6,7,8],[1,2,5]),([1,2,3,4,5,6,7,8,9,10],[1,2,5]),([1,3,4,5,6,7,8,9,10,11,12,13],[1,5]),([3,4,5,6,7,8,9,10,11,12,13,14,15],[5]),([3,4,5,6,7,8,9,10,11,12,13,14,15,16],[5,16]),([3,5,7,9,11,12,14,16,17],[5,16]),([0],[])], Try.f11, Try.f11.body.getD .skip, Try.func11, by kernel_rfl, by kernel_rfl, Nat.le_of_ble_eq_true (by kernel_rfl), by kernel_rfl, by kernel_rfl⟩
set_option maxRecDepth 100000 in
theorem ok9 : ∃ an, FnOk Try.prog num our (num 9) an F9 := ⟨[([0],[]),([5,6,7],[]),([5,6,7],[]),([5,6,7,8],[]),([4,5,6,7],[4]),([5,6,7,14],[]),([2],[]),([5,6,7],[]),([2],[])], Try.f12, Try.f12.body.getD .skip, Try.func12, by kernel_rfl, by kernel_rfl, Nat.le_of_ble_eq_true (by kernel_rfl), by kernel_rfl, by kernel_rfl⟩
set_option maxRecDepth 100000 in
theorem ok10 : ∃ an, FnOk Try.prog num our (num 10) an F10 := ⟨[([1],[1]),([1,4],[1]),([1,4,8],[1]),([2,3],[]),([2,3],[])], Try.f13, Try.f13.body.getD .skip, Try.func13, by kernel_rfl, by kernel_rfl, Nat.le_of_ble_eq_true (by kernel_rfl), by kernel_rfl, by kernel_rfl⟩
set_option maxRecDepth 100000 in
theorem ok12 : ∃ an, FnOk Try.prog num our (num 12) an F12 := ⟨[([1,2],[1,2]),([1,2,4,5],[1,2]),([1,2,4,5,15],[1,2]),([2,3],[2]),([1,2,4,6],[1,2,6]),([2,4,6,27,28,29],[2,6]),([2,4,6,27,28,29],[2,6]),([2,4,6,27,28,29,30],[2,6]),([2,4,6,8,27,28,29],[2,6,8]),([2,4,6,8,27,28,29,40],[2,6,8]),([2,4,6,8,27,28,29],[2,6,8]),([2,4,6,27,28,29],[2,6]),([2,4,6,27,28,29],[2,6]),([2,3],[2])], Try.f15, Try.f15.body.getD .skip, Try.func15, by kernel_rfl, by kernel_rfl, Nat.le_of_ble_eq_true (by kernel_rfl), by kernel_rfl, by kernel_rfl⟩
set_option maxRecDepth 100000 in
theorem ok14 : ∃ an, FnOk Try.prog num our (num 14) an F14 := ⟨[([0,1],[]),([0,1,10],[]),([4],[]),([0,1,12,13],[]),([0,1,12,13],[]),([0,1,12,13,14],[]),([0,1,5,12,13],[]),([0,1,12,13,24],[]),([4],[]),([0,1,12,13],[]),([4],[])], Try.f17, Try.f17.body.getD .skip, Try.func17, by kernel_rfl, by kernel_rfl, Nat.le_of_ble_eq_true (by kernel_rfl), by kernel_rfl, by kernel_rfl⟩
set_option maxRecDepth 100000 in
theorem ok15 : ∃ an, FnOk Try.prog num our (num 15) an F15 := ⟨[([2,3],[2,3]),([2,3,26],[2,3]),([4],[]),([2,3,5],[2,3]),([2,3,5],[2,3]),([2,3,5,31],[2,3]),([2,3,5,44],[2,3]),([4],[]),([2,3,5],[2,3]),([4],[])], Try.f18, Try.f18.body.getD .skip, Try.func18, by kernel_rfl, by kernel_rfl, Nat.le_of_ble_eq_true (by kernel_rfl), by kernel_rfl, by kernel_rfl⟩
set_option maxRecDepth 100000 in
theorem ok16 : ∃ an, FnOk Try.prog num our (num 16) an F16 := ⟨[([2,3],[2,3]),([2,3,6],[2,3]),([2,3,6,14],[2,3]),([4,5],[]),([9],[]),([4,5],[])], Try.f19, Try.f19.body.getD .skip, Try.func19, by kernel_rfl, by kernel_rfl, Nat.le_of_ble_eq_true (by kernel_rfl), by kernel_rfl, by kernel_rfl⟩
set_option maxRecDepth 100000 in
theorem ok18 : ∃ an, FnOk Try.prog num our (num 18) an F18 := ⟨[([2,3],[2,3]),([2,3,6],[2,3]),([2,3,6,14],[2,3]),([4,5],[]),([9],[]),([4,5],[])], Try.f21, Try.f21.body.getD .skip, Try.func21, by kernel_rfl, by kernel_rfl, Nat.le_of_ble_eq_true (by kernel_rfl), by kernel_rfl, by kernel_rfl⟩
set_option maxRecDepth 100000 in
theorem ok20 : ∃ an, FnOk Try.prog num our (num 20) an F20 := ⟨[([2,3],[2,3]),([2,3,7],[2,3]),([2,3,7,15],[2,3]),([4,5,6],[]),([8,9,10],[]),([8,9,25],[]),([4,5,6],[]),([4,5,6],[])], Try.f23, Try.f23.body.getD .skip, Try.func23, by kernel_rfl, by kernel_rfl, Nat.le_of_ble_eq_true (by kernel_rfl), by kernel_rfl, by kernel_rfl⟩
set_option maxRecDepth 100000 in
theorem ok22 : ∃ an, FnOk Try.prog num our (num 22) an F22 := ⟨[([0,1],[]),([0,1,10],[]),([4],[]),([0,1,5],[]),([0,1,5],[]),([0,1,5,14],[]),([0,1,5,25],[]),([4],[]),([0,1,5],[]),([4],[])], Try.f25, Try.f25.body.getD .skip, Try.func25, by kernel_rfl, by kernel_rfl, Nat.le_of_ble_eq_true (by kernel_rfl), by kernel_rfl, by kernel_rfl⟩
set_option maxRecDepth 100000 in
theorem ok23 : ∃ an, FnOk Try.prog num our (num 23) an F23 := ⟨[([1,2],[2]),([1,2,6],[2]),([1,2,6,15],[2]),([4,5],[]),([1,2,22],[2]),([4,5],[]),([1,2,7],[2]),([1,2,7,27,28],[2]),([1,2,7,27,28],[2]),([1,2,7,27,28,29],[2]),([1,2,7,8,27,28],[2]),([1,2,7,27,28],[2]),([1,2,7,27,28],[2]),([2,7,35,36],[2]),([2,7,35,36],[2]),([2,7,35,36,37],[2]),([2,7,9,35,36],[2]),([2,7,9,35,36,42,43,44],[2]),([2,7,9,35,36,42,43,44],[2]),([2,7,9,35,36,42,43,44,45],[2]),([2,7,9,11,35,36,42,43,44],[2,11]),([2,7,9,35,36,42,43,44],[2]),([2,7,9,35,36,42,43,44],[2]),([2,7,35,36],[2]),([2,7,35,36],[2]),([2,7,72],[2]),([4,5],[]),([4,5],[])], Try.f26, Try.f26.body.getD .skip, Try.func26, by kernel_rfl, by kernel_rfl, Nat.le_of_ble_eq_true (by kernel_rfl), by kernel_rfl, by kernel_rfl⟩
set_option maxRecDepth 100000 in
theorem ok24 : ∃ an, FnOk Try.prog num our (num 24) an F24 := ⟨[([1,2],[2]),([1,2,6],[2]),([1,2,6,16],[2]),([4,5],[]),([1,2,23],[2]),([4,5],[]),([1,2,7],[2]),([1,2,7,8],[2]),([1,2,7,8],[2]),([1,2,7,8,30],[2]),([1,2,7,8],[2]),([1,2,7,8],[2]),([1,2,7,9],[2]),([1,2,7,9],[2]),([1,2,7,9,38],[2]),([1,2,7,9,10],[2]),([1,2,7,9,10,11],[2]),([1,2,7,9,10,11],[2]),([1,2,7,9,10,11,48],[2]),([1,2,7,9,10,11,12],[2,12]),([1,2,7,9,10,11],[2]),([1,2,7,9,10,11],[2]),([1,2,7,9],[2]),([1,2,7,9],[2]),([2,7,78],[2]),([4,5],[]),([4,5],[])], Try.f27, Try.f27.body.getD .skip, Try.func27, by kernel_rfl, by kernel_rfl, Nat.le_of_ble_eq_true (by kernel_rfl), by kernel_rfl, by kernel_rfl⟩
set_option maxRecDepth 100000 in
theorem ok26 : ∃ an, FnOk Try.prog num our (num 26) an F26 := ⟨[([1],[1]),([1,13],[1]),([2],[]),([1,28],[1]),([2],[]),([1,3],[1]),([1,3],[1]),([1,3,33],[1]),([1,3,4],[1,4]),([1,3,4,72],[1,4]),([2],[]),([1,3,85],[1]),([2],[]),([1,3],[1]),([2],[])], Try.f29, Try.f29.body.getD .skip, Try.func29, by kernel_rfl, by kernel_rfl, Nat.le_of_ble_eq_true (by kernel_rfl), by kernel_rfl, by kernel_rfl⟩
set_option maxRecDepth 100000 in
theorem ok28 : ∃ an, FnOk Try.prog num our (num 28) an F28 := ⟨[([0],[0]),([0],[0])], Try.f31, Try.f31.body.getD .skip, Try.func31, by kernel_rfl, by kernel_rfl, Nat.le_of_ble_eq_true (by kernel_rfl), by kernel_rfl, by kernel_rfl⟩
set_option maxRecDepth 100000 in
theorem ok29 : ∃ an, FnOk Try.prog num our (num 29) an F29 := ⟨[([1],[1]),([1,14],[1]),([2],[]),([1,3],[1]),([1,3,20],[1]),([2],[]),([1,3,22,23,24],[1]),([1,3,22,23,24],[1]),([1,3,22,23,24,25],[1]),([1,3,4,5,22,23,24],[1,5]),([1,3,22,23,24,65],[1]),([2],[]),([1,3,22,23,24],[1]),([2],[])], Try.f32, Try.f32.body.getD .skip, Try.func32, by kernel_rfl, by kernel_rfl, Nat.le_of_ble_eq_true (by kernel_rfl), by kernel_rfl, by kernel_rfl⟩
set_option maxRecDepth 100000 in
theorem ok30 : ∃ an, FnOk Try.prog num our (num 30) an F30 := ⟨[([1],[1]),([1,3],[1]),([1,3],[1]),([1,3,4],[1]),([1,3,4,14,15],[1]),([1,3,4,14,15],[1]),([1,3,4,14,15,16],[1]),([1,3,4,5,14,15],[1]),([1,3,4,5,14,15],[1]),([1,3,4,5,14,15,22,23],[1]),([1,3,4,5,14,15,22,23],[1]),([1,3,4,5,14,15,22,23,24],[1]),([1,3,4,5,6,14,15,22,23],[1]),([1,3,4,5,6,14,15,22,23,45],[1]),([1,3,4,14,15],[1]),([1,3,4,5,14,15,22,23],[1]),([1,3,4,14,15],[1]),([1,3,4,54],[1]),([2],[]),([1,3],[1])], Try.f33, Try.f33.body.getD .skip, Try.func33, by kernel_rfl, by kernel_rfl, Nat.le_of_ble_eq_true (by kernel_rfl), by kernel_rfl, by kernel_rfl⟩
set_option maxRecDepth 100000 in
theorem ok32 : ∃ an, FnOk Try.prog num our (num 32) an F32 := ⟨[([1,2],[1,2]),([1,2,4],[1,2]),([1,2,4,13],[1,2]),([2,3],[2]),([1,2,5,6],[1,2]),([1,2,6,7],[1,2,7]),([2,6,7,25,26,27],[2,7]),([2,6,7,25,26,27],[2,7]),([2,6,7,25,26,27,28],[2,7]),([2,6,7,9,25,26,27],[2,7,9]),([2,6,7,9,25,26,27,36],[2,7,9]),([2,6,7,9,25,26,27],[2,7,9]),([2,6,7,25,26,27],[2,7]),([2,6,7,25,26,27],[2,7]),([2,7],[2,7]),([2,3],[2])], Try.f35, Try.f35.body.getD .skip, Try.func35, by kernel_rfl, by kernel_rfl, Nat.le_of_ble_eq_true (by kernel_rfl), by kernel_rfl, by kernel_rfl⟩
set_option maxRecDepth 100000 in
theorem ok34 : ∃ an, FnOk Try.prog num our (num 34) an F34 := ⟨[([2,3],[2,3]),([3,5],[3]),([3,5,9],[3]),([4],[]),([4],[])], Try.f37, Try.f37.body.getD .skip, Try.func37, by kernel_rfl, by kernel_rfl, Nat.le_of_ble_eq_true (by kernel_rfl), by kernel_rfl, by kernel_rfl⟩
set_option maxRecDepth 100000 in
theorem ok35 : ∃ an, FnOk Try.prog num our (num 35) an F35 := ⟨[([2,3,4],[3,4]),([2,3,4,9],[3,4]),([2,3,4,9,10],[3,4]),([2,3,4,9,10],[3,4]),([2,3,4,9,10,36],[3,4]),([2,3,4,9,10,11],[3,4,11]),([2,3,4,9,10,11],[3,4,11]),([2,3,4,9,10,11,12,13],[3,4,11]),([2,3,4,9,10,11,12,13,14,15],[3,4,11]),([2,3,4,9,10,11,12,13,14,15],[3,4,11]),([2,3,4,9,10,11,12,13,14,15,59],[3,4,11]),([2,3,4,9,10,11,12,13,14,15,64],[3,4,11]),([6,7,8],[]),([2,3,4,9,10,11,12,13,14,15,95],[3,4,11]),([2,3,4,9,10,11,12,13,14,15,112],[3,4,11]),([6,7,8],[]),([2,3,4,9,10,11,12,13,14,15],[3,4,11]),([2,3,4,9,10,11,12,13,14,15],[3,4,11]),([2,3,4,9,10,11,124,125,126],[3,4,11]),([2,3,4,9,10,11,124,125,126],[3,4,11]),([2,3,4,9,10,11,124,125,126,127],[3,4,11]),([2,3,4,9,10,11,17,124,125,126],[3,4,11,17]),([2,3,4,9,10,11,17,18,19,124,125,126],[3,4,11,17]),([2,3,4,9,10,11,17,18,19,20,124,125,126],[3,4,11,17,20]),([2,3,4,9,10,11,17,18,20,124,125,126,151],[3,4,11,17,20]),([2,3,4,9,10,11,17,18,124,125,126],[3,4,11,17]),([2,3,4,9,10,11,124,125,126],[3,4,11]),([2,3,4,9,10,11,124,125,126],[3,4,11]),([6,7,8],[])], Try.f38, Try.f38.body.getD .skip, Try.func38, by kernel_rfl, by kernel_rfl, Nat.le_of_ble_eq_true (by kernel_rfl), by kernel_rfl, by kernel_rfl⟩
set_option maxRecDepth 100000 in
theorem ok44 : ∃ an, FnOk Try.prog num our (num 44) an F44 := ⟨[([2,3],[2,3]),([2,3,9],[2,3]),([4],[]),([2,3,19],[2,3]),([4],[]),([4],[])], Try.f47, Try.f47.body.getD .skip, Try.func47, by kernel_rfl, by kernel_rfl, Nat.le_of_ble_eq_true (by kernel_rfl), by kernel_rfl, by kernel_rfl⟩
set_option maxRecDepth 100000 in
theorem ok45 : ∃ an, FnOk Try.prog num our (num 45) an F45 := ⟨[([1,2,3,4],[4]),([1,2,3,13,14,15],[]),([1,2,3,13,14,15],[]),([1,2,3,13,14,15,16],[]),([1,2,3,11,13,14,15],[11]),([1,2,3,11,13,14,15,34],[11]),([8,9],[]),([1,2,3,13,14,15],[]),([8,9],[])], Try.f48, Try.f48.body.getD .skip, Try.func48, by kernel_rfl, by kernel_rfl, Nat.le_of_ble_eq_true (by kernel_rfl), by kernel_rfl, by kernel_rfl⟩
set_option maxRecDepth 100000 in
theorem ok46 : ∃ an, FnOk Try.prog num our (num 46) an F46 := ⟨[([0,1],[]),([3],[])], Try.f49, Try.f49.body.getD .skip, Try.func49, by kernel_rfl, by kernel_rfl, Nat.le_of_ble_eq_true (by kernel_rfl), by kernel_rfl, by kernel_rfl⟩
set_option maxRecDepth 100000 in
theorem ok47 : ∃ an, FnOk Try.prog num our (num 47) an F47 := ⟨[([2,3],[2,3]),([2,3,5],[2,3]),([4],[])], Try.f50, Try.f50.body.getD .skip, Try.func50, by kernel_rfl, by kernel_rfl, Nat.le_of_ble_eq_true (by kernel_rfl), by kernel_rfl, by kernel_rfl⟩
set_option maxRecDepth 100000 in
theorem ok48 : ∃ an, FnOk Try.prog num our (num 48) an F48 := ⟨[([0,1],[]),([0,1,10],[]),([4],[]),([0,1,12,13],[]),([0,1,12,13],[]),([0,1,12,13,14],[]),([0,1,5,12,13],[]),([0,1,12,13,24],[]),([4],[]),([0,1,12,13],[]),([4],[])], Try.f51, Try.f51.body.getD .skip, Try.func51, by kernel_rfl, by kernel_rfl, Nat.le_of_ble_eq_true (by kernel_rfl), by kernel_rfl, by kernel_rfl⟩
set_option maxRecDepth 100000 in
theorem ok49 : ∃ an, FnOk Try.prog num our (num 49) an F49 := ⟨[([1,2,3],[3]),([1,2,3,7],[3]),([1,2,7,11,12,13],[]),([1,2,7,11,12,13],[]),([1,2,7,11,12,13,14],[]),([1,2,7,9,11,12,13],[9]),([1,2,7,9,11,12,13,20],[9]),([1,2,7,11,12,13],[]),([1,2,7,11,12,13],[]),([6],[])], Try.f52, Try.f52.body.getD .skip, Try.func52, by kernel_rfl, by kernel_rfl, Nat.le_of_ble_eq_true (by kernel_rfl), by kernel_rfl, by kernel_rfl⟩
set_option maxRecDepth 100000 in
theorem ok50 : ∃ an, FnOk Try.prog num our (num 50) an F50 := ⟨[([1],[1]),([1,4],[1]),([1,4,14,15],[1]),([1,4,14,15],[1]),([1,4,14,15,16],[1]),([1,4,5,14,15],[1]),([1,4,14,15],[1]),([1,4,14,15],[1]),([1,4,6],[1]),([1,4,6],[1]),([1,4,6,7],[1]),([1,4,6,7],[1]),([1,4,6,7,32],[1]),([1,4,6,7,36,37,38],[1]),([1,4,6,7,36,37,38],[1]),([1,4,6,7,36,37,38,39],[1]),([1,4,6,7,9,36,37,38],[1,9]),([1,4,6,7,9,36,37,38,56],[1,9]),([1,4,6,7,9,36,37,38],[1,9]),([1,4,6,7,36,37,38],[1]),([1,4,6,7,36,37,38],[1]),([1,4,6,7],[1]),([2,3],[])], Try.f53, Try.f53.body.getD .skip, Try.func53, by kernel_rfl, by kernel_rfl, Nat.le_of_ble_eq_true (by kernel_rfl), by kernel_rfl, by kernel_rfl⟩
set_option maxRecDepth 100000 in
theorem ok54 : ∃ an, FnOk Try.prog num our (num 54) an F54 := ⟨[([2,3],[2,3]),([4],[])], Try.f57, Try.f57.body.getD .skip, Try.func57, by kernel_rfl, by kernel_rfl, Nat.le_of_ble_eq_true (by kernel_rfl), by kernel_rfl, by kernel_rfl⟩
set_option maxRecDepth 100000 in
theorem ok55 : ∃ an, FnOk Try.prog num our (num 55) an F55 := ⟨[([2,3],[2,3]),([2,3,9],[2,3]),([4],[]),([4],[])], Try.f58, Try.f58.body.getD .skip, Try.func58, by kernel_rfl, by kernel_rfl, Nat.le_of_ble_eq_true (by kernel_rfl), by kernel_rfl, by kernel_rfl⟩
set_option maxRecDepth 100000 in
theorem ok56 : ∃ an, FnOk Try.prog num our (num 56) an F56 := ⟨[([1,2],[1,2]),([2],[2])], Try.f59, Try.f59.body.getD .skip, Try.func59, by kernel_rfl, by kernel_rfl, Nat.le_of_ble_eq_true (by kernel_rfl), by kernel_rfl, by kernel_rfl⟩
set_option maxRecDepth 100000 in
theorem ok58 : ∃ an, FnOk Try.prog num our (num 58) an F58 := ⟨[([1],[1]),([4],[]),([2],[]),([2],[])], Try.f61, Try.f61.body.getD .skip, Try.func61, by kernel_rfl, by kernel_rfl, Nat.le_of_ble_eq_true (by kernel_rfl), by kernel_rfl, by kernel_rfl⟩
set_option maxRecDepth 100000 in
theorem ok59 : ∃ an, FnOk Try.prog num our (num 59) an F59 := ⟨[([0],[]),([0,3],[]),([3,6,7,8],[]),([3,6,7,8],[]),([3,6,7,8,9],[]),([3,5,6,7,8],[]),([3,5,6,7,8,14],[]),([2],[]),([3,6,7,8],[]),([2],[])], Try.f62, Try.f62.body.getD .skip, Try.func62, by kernel_rfl, by kernel_rfl, Nat.le_of_ble_eq_true (by kernel_rfl), by kernel_rfl, by kernel_rfl⟩
set_option maxRecDepth 100000 in
theorem ok60 : ∃ an, FnOk Try.prog num our (num 60) an F60 := ⟨[([0,1],[]),([0,1,5],[]),([0,1,5,6],[]),([0,1,6,11],[]),([12],[]),([4],[]),([4],[]),([0,1,13],[]),([4],[]),([0,1,16],[]),([4],[]),([19],[]),([4],[]),([4],[])], Try.f63, Try.f63.body.getD .skip, Try.func63, by kernel_rfl, by kernel_rfl, Nat.le_of_ble_eq_true (by kernel_rfl), by kernel_rfl, by kernel_rfl⟩
set_option maxRecDepth 100000 in
theorem ok63 : ∃ an, FnOk Try.prog num our (num 63) an F63 := ⟨[([0,1],[]),([0,1,5],[]),([0,1,5,12],[]),([4],[]),([0,1,5,6],[]),([0,1,5,6],[]),([0,1,5,6,19],[]),([0,1,5,6,7],[7]),([0,1,5,6,7,29],[7]),([0,1,5,6],[]),([0,1,5,6],[]),([0,1,5,6],[]),([0,5],[]),([4],[])], Try.f66, Try.f66.body.getD .skip, Try.func66, by kernel_rfl, by kernel_rfl, Nat.le_of_ble_eq_true (by kernel_rfl), by kernel_rfl, by kernel_rfl⟩
set_option maxRecDepth 100000 in
theorem ok65 : ∃ an, FnOk Try.prog num our (num 65) an F65 := ⟨[([1,2],[2]),([3],[])], Try.f68, Try.f68.body.getD .skip, Try.func68, by kernel_rfl, by kernel_rfl, Nat.le_of_ble_eq_true (by kernel_rfl), by kernel_rfl, by kernel_rfl⟩
set_option maxRecDepth 100000 in
theorem ok66 : ∃ an, FnOk Try.prog num our (num 66) an F66 := ⟨[([0],[]),([2],[])], Try.f69, Try.f69.body.getD .skip, Try.func69, by kernel_rfl, by kernel_rfl, Nat.le_of_ble_eq_true (by kernel_rfl), by kernel_rfl, by kernel_rfl⟩
set_option maxRecDepth 100000 in
theorem ok77 : ∃ an, FnOk Try.prog num our (num 77) an F77 := ⟨[([0,1],[]),([0,1,7,8],[]),([0,1,7,8],[]),([0,1,7,8,9],[]),([0,1,5,7,8],[]),([0,1,5,7,8,16],[]),([4],[]),([0,1,7,8],[]),([4],[])], Try.f80, Try.f80.body.getD .skip, Try.func80, by kernel_rfl, by kernel_rfl, Nat.le_of_ble_eq_true (by kernel_rfl), by kernel_rfl, by kernel_rfl⟩
theorem tabOk : ∀ x ∈ tabL, ∃ an, FnOk Try.prog num our (num x.1) an x.2 := by
  unfold tabL
  exact List.forall_mem_cons.2 ⟨ok3, List.forall_mem_cons.2 ⟨ok8, List.forall_mem_cons.2 ⟨ok9, List.forall_mem_cons.2 ⟨ok10, List.forall_mem_cons.2 ⟨ok12, List.forall_mem_cons.2 ⟨ok14, List.forall_mem_cons.2 ⟨ok15, List.forall_mem_cons.2 ⟨ok16, List.forall_mem_cons.2 ⟨ok18, List.forall_mem_cons.2 ⟨ok20, List.forall_mem_cons.2 ⟨ok22, List.forall_mem_cons.2 ⟨ok23, List.forall_mem_cons.2 ⟨ok24, List.forall_mem_cons.2 ⟨ok26, List.forall_mem_cons.2 ⟨ok28, List.forall_mem_cons.2 ⟨ok29, List.forall_mem_cons.2 ⟨ok30, List.forall_mem_cons.2 ⟨ok32, List.forall_mem_cons.2 ⟨ok34, List.forall_mem_cons.2 ⟨ok35, List.forall_mem_cons.2 ⟨ok44, List.forall_mem_cons.2 ⟨ok45, List.forall_mem_cons.2 ⟨ok46, List.forall_mem_cons.2 ⟨ok47, List.forall_mem_cons.2 ⟨ok48, List.forall_mem_cons.2 ⟨ok49, List.forall_mem_cons.2 ⟨ok50, List.forall_mem_cons.2 ⟨ok54, List.forall_mem_cons.2 ⟨ok55, List.forall_mem_cons.2 ⟨ok56, List.forall_mem_cons.2 ⟨ok58, List.forall_mem_cons.2 ⟨ok59, List.forall_mem_cons.2 ⟨ok60, List.forall_mem_cons.2 ⟨ok63, List.forall_mem_cons.2 ⟨ok65, List.forall_mem_cons.2 ⟨ok66, List.forall_mem_cons.2 ⟨ok77, fun x hx => by cases hx⟩⟩⟩⟩⟩⟩⟩⟩⟩⟩⟩⟩⟩⟩⟩⟩⟩⟩⟩⟩⟩⟩⟩⟩⟩⟩⟩⟩⟩⟩⟩⟩⟩⟩⟩⟩⟩
theorem aOk (f : Nat) (fn : AFunc) (h : A f = some fn) : ∃ an, FnOk Try.prog num our (num f) an fn := tabOk _ (look1_mem h)
end Go.Proofs.Ytcgkhjdkachckaa
