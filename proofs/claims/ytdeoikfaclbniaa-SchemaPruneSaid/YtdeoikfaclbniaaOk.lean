/-
  The functions read are those of the program.
-/
import Derived.Test.YtdeoikfaclbniaaTab
import Derived.Test.YtdeoikfaclbniaaProg
import Derived.KernelRfl
namespace Go.Proofs.Ytdeoikfaclbniaa
open Go Go.Pv Go.Proofs
def numL : List Nat := [99999,99999,99999,99999,99999,99999,99999,99999,99999,99999,99999,99999,99999,99999,99999,99999,99999,99999,99999,99999,99999,99999,99999,99999,99999,99999,99999,99999,99999,99999,99999,99999,99999,99999,99999,99999,99999,99999,99999,99999,99999,99999,99999,99999,99999,99999,99999,99999,99999,99999,99999,99999,99999,99999,99999,99999,99999,99999,99999,99999,99999,99999,99999,99999,99999,99999,99999,99999,99999,99999,99999,99999,99999,99999,99999,99999,99999,99999,99999,99999,99999,99999,99999,99999,99999,99999,99999,99999,99999,99999,99999,99999,99999,99999,21,99999,99999,99999,99999,99999,99999,99999,99999,45,99999,99999,99999,99999,99999,99999,43,99999,99999,99999,99999,99999,99999,99999,46,99999,99999,99999,99999,99999,99999,99999,99999,99999,99999,99999,99999,99999,99999,99999,99999,99999,99999,99999,99999,99999,99999,99999,99999,99999,99999,99999,99999,99999,99999,99999,99999,99999,99999,99999,99999,99999,99999,99999,99999,99999,99999,99999,99999,99999,99999,99999,99999,99999,99999,99999,99999,99999,99999,99999,99999,99999,99999,99999,99999,99999,99999,99999,99999,99999,99999,99999,99999,99999,99999,99999,99999,99999,99999,99999,99999,99999,99999,99999,99999,99999,99999,99999,99999,99999,99999,99999,99999,99999,99999,99999,99999,99999,99999,99999,99999,99999,99999,99999,99999,99999,99999,99999,99999,99999,99999,99999,99999,99999,99999,99999,99999,99999,99999,99999,99999,99999,99999,99999,99999,99999,99999,99999,99999,99999,99999,99999,99999,99999,99999,99999,99999,99999,99999,99999,99999,99999,99999,99999,99999,3,99999,5,6,99999,99999,11,12,13,14,15,99999,17,18,19,20,22,23,24,25,99999,33,29,34,35,36,37,28,38,39,40,41,42,44,27,47,48,49,50,99999,99999,99999,99999,99999,99999,57,58,61,62,63,64,65,66,67,70,71,72,73,74,75,76,77,99999,99999,80,81,82,83,84,85,86,87,99,100,101,102,99999,104]
def num (n : Nat) : Nat := numL.getD n 99999
def ourL : List Nat := [99999,99999,99999,259,99999,261,262,99999,99999,99999,99999,265,266,267,268,269,99999,271,272,273,274,94,275,276,277,278,99999,293,286,281,99999,99999,99999,280,282,283,284,285,287,288,289,290,291,110,292,103,118,294,295,296,297,99999,99999,99999,99999,99999,99999,304,305,99999,99999,306,307,308,309,310,311,312,99999,99999,313,314,315,316,317,318,319,320,99999,99999,323,324,325,326,327,328,329,330,99999,99999,99999,99999,99999,99999,99999,99999,99999,99999,99999,331,332,333,334,99999,336]
def our (f : Nat) : Nat := ourL.getD f 99999
def notes : AC → Ann
 | .region _ a b => [(a,b)]
 | .draw _ a b => [(a,b)]
 | .drawR _ _ a b => [(a,b)]
 | .mask a b c => (a,b) :: notes c
 | .seq a b => notes a ++ notes b
 | .cond _ a b => notes a ++ notes b
 | .block _ a => notes a
 | .loop a => notes a
 | _ => []
def OkP (k : Nat) (F : AFunc) : Prop := ∃ an,FnOk Try.prog num our (num k) an F
theorem okO {k : Nat} {F : AFunc} (f : Func) (an : Ann) (a : Try.prog.funcs[num k]? = some f) (b : f.body = some (f.body.getD .skip) := by kernel_rfl) (c : (f.name == "runtime.NumGoroutine") = false := by kernel_rfl) (d : Nat.ble F.nargs f.ntmps = true := by kernel_rfl) (e : trCode Try.prog num our f.ntmps (f.body.getD .skip) an = some (F.body,[]) := by kernel_rfl) (g : mapO (trRes Try.prog) f.results.toList = some F.results := by kernel_rfl) : OkP k F := ⟨an,f,f.body.getD .skip,a,b,c,Nat.le_of_ble_eq_true d,e,g⟩
theorem csO {α : Type} {p : α → Prop} {a : α} {l : List α} (h : p a) (t : ∀ x ∈ l,p x) : ∀ x ∈ a :: l,p x := List.forall_mem_cons.2 ⟨h,t⟩
set_option maxRecDepth 100000 in
theorem ok94 : OkP 94 F94 := okO Try.f21 (notes F94.body) Try.func21
set_option maxRecDepth 100000 in
theorem ok110 : OkP 110 F110 := okO Try.f43 (notes F110.body) Try.func43
set_option maxRecDepth 100000 in
theorem ok118 : OkP 118 F118 := okO Try.f46 (notes F118.body) Try.func46
set_option maxRecDepth 100000 in
theorem ok259 : OkP 259 F259 := okO Try.f3 (notes F259.body) Try.func3
set_option maxRecDepth 100000 in
theorem ok261 : OkP 261 F261 := okO Try.f5 (notes F261.body) Try.func5
set_option maxRecDepth 100000 in
theorem ok262 : OkP 262 F262 := okO Try.f6 (notes F262.body) Try.func6
set_option maxRecDepth 100000 in
theorem ok265 : OkP 265 F265 := okO Try.f11 (notes F265.body) Try.func11
set_option maxRecDepth 100000 in
theorem ok266 : OkP 266 F266 := okO Try.f12 (notes F266.body) Try.func12
set_option maxRecDepth 100000 in
theorem ok267 : OkP 267 F267 := okO Try.f13 (notes F267.body) Try.func13
set_option maxRecDepth 100000 in
theorem ok268 : OkP 268 F268 := okO Try.f14 (notes F268.body) Try.func14
set_option maxRecDepth 100000 in
theorem ok269 : OkP 269 F269 := okO Try.f15 (notes F269.body) Try.func15
set_option maxRecDepth 100000 in
theorem ok271 : OkP 271 F271 := okO Try.f17 (notes F271.body) Try.func17
set_option maxRecDepth 100000 in
theorem ok272 : OkP 272 F272 := okO Try.f18 (notes F272.body) Try.func18
set_option maxRecDepth 100000 in
theorem ok273 : OkP 273 F273 := okO Try.f19 (notes F273.body) Try.func19
set_option maxRecDepth 100000 in
theorem ok274 : OkP 274 F274 := okO Try.f20 (notes F274.body) Try.func20
set_option maxRecDepth 100000 in
theorem ok275 : OkP 275 F275 := okO Try.f22 (notes F275.body) Try.func22
set_option maxRecDepth 100000 in
theorem ok276 : OkP 276 F276 := okO Try.f23 (notes F276.body) Try.func23
set_option maxRecDepth 100000 in
theorem ok277 : OkP 277 F277 := okO Try.f24 (notes F277.body) Try.func24
set_option maxRecDepth 100000 in
theorem ok278 : OkP 278 F278 := okO Try.f25 (notes F278.body) Try.func25
set_option maxRecDepth 100000 in
theorem ok280 : OkP 280 F280 := okO Try.f33 (notes F280.body) Try.func33
set_option maxRecDepth 100000 in
theorem ok281 : OkP 281 F281 := okO Try.f29 (notes F281.body) Try.func29
set_option maxRecDepth 100000 in
theorem ok282 : OkP 282 F282 := okO Try.f34 (notes F282.body) Try.func34
set_option maxRecDepth 100000 in
theorem ok283 : OkP 283 F283 := okO Try.f35 (notes F283.body) Try.func35
set_option maxRecDepth 100000 in
theorem ok284 : OkP 284 F284 := okO Try.f36 (notes F284.body) Try.func36
set_option maxRecDepth 100000 in
theorem ok285 : OkP 285 F285 := okO Try.f37 (notes F285.body) Try.func37
set_option maxRecDepth 100000 in
theorem ok286 : OkP 286 F286 := okO Try.f28 (notes F286.body) Try.func28
set_option maxRecDepth 100000 in
theorem ok287 : OkP 287 F287 := okO Try.f38 (notes F287.body) Try.func38
set_option maxRecDepth 100000 in
theorem ok288 : OkP 288 F288 := okO Try.f39 (notes F288.body) Try.func39
set_option maxRecDepth 100000 in
theorem ok289 : OkP 289 F289 := okO Try.f40 (notes F289.body) Try.func40
set_option maxRecDepth 100000 in
theorem ok290 : OkP 290 F290 := okO Try.f41 (notes F290.body) Try.func41
set_option maxRecDepth 100000 in
theorem ok291 : OkP 291 F291 := okO Try.f42 (notes F291.body) Try.func42
set_option maxRecDepth 100000 in
theorem ok292 : OkP 292 F292 := okO Try.f44 (notes F292.body) Try.func44
set_option maxRecDepth 100000 in
theorem ok293 : OkP 293 F293 := okO Try.f27 (notes F293.body) Try.func27
set_option maxRecDepth 100000 in
theorem ok294 : OkP 294 F294 := okO Try.f47 (notes F294.body) Try.func47
set_option maxRecDepth 100000 in
theorem ok295 : OkP 295 F295 := okO Try.f48 (notes F295.body) Try.func48
set_option maxRecDepth 100000 in
theorem ok296 : OkP 296 F296 := okO Try.f49 (notes F296.body) Try.func49
set_option maxRecDepth 100000 in
theorem ok297 : OkP 297 F297 := okO Try.f50 (notes F297.body) Try.func50
set_option maxRecDepth 100000 in
theorem ok304 : OkP 304 F304 := okO Try.f57 (notes F304.body) Try.func57
set_option maxRecDepth 100000 in
theorem ok305 : OkP 305 F305 := okO Try.f58 (notes F305.body) Try.func58
set_option maxRecDepth 100000 in
theorem ok306 : OkP 306 F306 := okO Try.f61 (notes F306.body) Try.func61
set_option maxRecDepth 100000 in
theorem ok307 : OkP 307 F307 := okO Try.f62 [([0],[]),([0,3],[]),([0,3,4],[]),([0,3,4,7,8,9],[]),([0,3,4,7,8,9],[]),([0,3,4,7,8,9,10],[]),([0,3,4,6,7,8,9],[6]),([0,3,4,7,8,9],[999997]),([0,3,4,7,8,9],[]),([2],[])] Try.func62
set_option maxRecDepth 100000 in
theorem ok308 : OkP 308 F308 := okO Try.f63 [([1],[1]),([1,3],[1]),([1,3,4],[1]),([1,3,4,8,9,10],[1]),([1,3,4,8,9,10],[1]),([1,3,4,8,9,10,11],[1]),([1,3,4,6,8,9,10],[1,6]),([1,3,4,6,8,9,10],[1,6,999997]),([1,3,4,8,9,10,53],[1]),([2],[]),([1,3,4,8,9,10],[1]),([2],[])] Try.func63
set_option maxRecDepth 100000 in
theorem ok309 : OkP 309 F309 := okO Try.f64 (notes F309.body) Try.func64
set_option maxRecDepth 100000 in
theorem ok310 : OkP 310 F310 := okO Try.f65 (notes F310.body) Try.func65
set_option maxRecDepth 100000 in
theorem ok311 : OkP 311 F311 := okO Try.f66 (notes F311.body) Try.func66
set_option maxRecDepth 100000 in
theorem ok312 : OkP 312 F312 := okO Try.f67 (notes F312.body) Try.func67
set_option maxRecDepth 100000 in
theorem ok315 : OkP 315 F315 := okO Try.f72 (notes F315.body) Try.func72
set_option maxRecDepth 100000 in
theorem ok316 : OkP 316 F316 := okO Try.f73 (notes F316.body) Try.func73
set_option maxRecDepth 100000 in
theorem ok317 : OkP 317 F317 := okO Try.f74 (notes F317.body) Try.func74
set_option maxRecDepth 100000 in
theorem ok318 : OkP 318 F318 := okO Try.f75 (notes F318.body) Try.func75
set_option maxRecDepth 100000 in
theorem ok319 : OkP 319 F319 := okO Try.f76 (notes F319.body) Try.func76
set_option maxRecDepth 100000 in
theorem ok320 : OkP 320 F320 := okO Try.f77 (notes F320.body) Try.func77
set_option maxRecDepth 100000 in
theorem ok323 : OkP 323 F323 := okO Try.f80 (notes F323.body) Try.func80
set_option maxRecDepth 100000 in
theorem ok324 : OkP 324 F324 := okO Try.f81 (notes F324.body) Try.func81
set_option maxRecDepth 100000 in
theorem ok325 : OkP 325 F325 := okO Try.f82 (notes F325.body) Try.func82
set_option maxRecDepth 100000 in
theorem ok326 : OkP 326 F326 := okO Try.f83 (notes F326.body) Try.func83
set_option maxRecDepth 100000 in
theorem ok327 : OkP 327 F327 := okO Try.f84 (notes F327.body) Try.func84
set_option maxRecDepth 100000 in
theorem ok328 : OkP 328 F328 := okO Try.f85 (notes F328.body) Try.func85
set_option maxRecDepth 100000 in
theorem ok329 : OkP 329 F329 := okO Try.f86 (notes F329.body) Try.func86
set_option maxRecDepth 100000 in
theorem ok330 : OkP 330 F330 := okO Try.f87 (notes F330.body) Try.func87
set_option maxRecDepth 100000 in
theorem ok333 : OkP 333 F333 := okO Try.f101 (notes F333.body) Try.func101
set_option maxRecDepth 100000 in
theorem ok334 : OkP 334 F334 := okO Try.f102 (notes F334.body) Try.func102
set_option maxRecDepth 100000 in
theorem ok336 : OkP 336 F336 := okO Try.f104 (notes F336.body) Try.func104
set_option maxRecDepth 100000 in
theorem tabOk : ∀ x ∈ tabL,∃ an,FnOk Try.prog num our (num x.1) an x.2 := by
 unfold tabL
 exact csO ok94 <| csO ok110 <| csO ok118 <| csO ok259 <| csO ok261 <| csO ok262 <| csO ok265 <| csO ok266 <| csO ok267 <| csO ok268 <| csO ok269 <| csO ok271 <| csO ok272 <| csO ok273 <| csO ok274 <| csO ok275 <| csO ok276 <| csO ok277 <| csO ok278 <| csO ok280 <| csO ok281 <| csO ok282 <| csO ok283 <| csO ok284 <| csO ok285 <| csO ok286 <| csO ok287 <| csO ok288 <| csO ok289 <| csO ok290 <| csO ok291 <| csO ok292 <| csO ok293 <| csO ok294 <| csO ok295 <| csO ok296 <| csO ok297 <| csO ok304 <| csO ok305 <| csO ok306 <| csO ok307 <| csO ok308 <| csO ok309 <| csO ok310 <| csO ok311 <| csO ok312 <| csO ok315 <| csO ok316 <| csO ok317 <| csO ok318 <| csO ok319 <| csO ok320 <| csO ok323 <| csO ok324 <| csO ok325 <| csO ok326 <| csO ok327 <| csO ok328 <| csO ok329 <| csO ok330 <| csO ok333 <| csO ok334 <| csO ok336 <| fun x hx => by cases hx
set_option maxRecDepth 100000 in
theorem aOk (f : Nat) (fn : AFunc) (h : A f = some fn) : ∃ an,FnOk Try.prog num our (num f) an fn := tabOk _ (look1_mem h)
end Go.Proofs.Ytdeoikfaclbniaa
