/-
  The table of functions.
-/
import Derived.Test.YtdeoikfaclbniaaF1
import Derived.KernelRfl
namespace Go.Pv
def tabL : List (Nat × AFunc) := [(94, F94), (110, F110), (118, F118), (264, F264), (265, F265), (267, F267), (269, F269), (271, F271), (273, F273), (275, F275), (277, F277), (278, F278), (279, F279), (280, F280), (281, F281), (283, F283), (284, F284), (286, F286), (288, F288), (289, F289), (290, F290), (291, F291), (293, F293), (294, F294), (295, F295), (296, F296), (297, F297), (298, F298), (299, F299), (300, F300), (301, F301), (302, F302), (303, F303), (304, F304), (305, F305), (306, F306), (307, F307), (308, F308), (315, F315), (316, F316), (317, F317), (318, F318), (319, F319), (320, F320), (321, F321), (322, F322), (323, F323), (324, F324), (325, F325), (326, F326), (330, F330), (333, F333), (334, F334), (335, F335), (336, F336), (389, F389)]
def prL : List (Nat × Prim) := [(103, sortIP), (313, cloneP 2), (314, cloneP 13), (331, cloneP 8), (332, cloneP 2)]
def PrA : Prims := fun n => look1 n prL
def A (n : Nat) : Option AFunc := look1 n tabL
@[go_sem] theorem cp103 (vs : List V) (h : Heap) (K : V → Tn → Prop) : CW A PrA 103 vs h K = optK ((sortIP : Prim) vs h) fun r => K r.1 r.2 := CW_some (by kernel_rfl) vs h K
@[go_sem] theorem cp313 (vs : List V) (h : Heap) (K : V → Tn → Prop) : CW A PrA 313 vs h K = optK ((cloneP 2 : Prim) vs h) fun r => K r.1 r.2 := CW_some (by kernel_rfl) vs h K
@[go_sem] theorem cp314 (vs : List V) (h : Heap) (K : V → Tn → Prop) : CW A PrA 314 vs h K = optK ((cloneP 13 : Prim) vs h) fun r => K r.1 r.2 := CW_some (by kernel_rfl) vs h K
@[go_sem] theorem cp331 (vs : List V) (h : Heap) (K : V → Tn → Prop) : CW A PrA 331 vs h K = optK ((cloneP 8 : Prim) vs h) fun r => K r.1 r.2 := CW_some (by kernel_rfl) vs h K
@[go_sem] theorem cp332 (vs : List V) (h : Heap) (K : V → Tn → Prop) : CW A PrA 332 vs h K = optK ((cloneP 2 : Prim) vs h) fun r => K r.1 r.2 := CW_some (by kernel_rfl) vs h K
theorem a94 : A 94 = some F94 := by kernel_rfl
theorem tk94 : takes A 94 = false := by kernel_rfl
@[go_sem] theorem cw94 (vs : List V) (h : Heap) (K : V → Tn → Prop) : CW A PrA 94 vs h K = CN A PrA false 94 vs h K := CW_CN (by kernel_rfl) tk94 vs h K
theorem a110 : A 110 = some F110 := by kernel_rfl
theorem tk110 : takes A 110 = false := by kernel_rfl
@[go_sem] theorem cw110 (vs : List V) (h : Heap) (K : V → Tn → Prop) : CW A PrA 110 vs h K = CN A PrA false 110 vs h K := CW_CN (by kernel_rfl) tk110 vs h K
theorem a118 : A 118 = some F118 := by kernel_rfl
theorem tk118 : takes A 118 = false := by kernel_rfl
@[go_sem] theorem cw118 (vs : List V) (h : Heap) (K : V → Tn → Prop) : CW A PrA 118 vs h K = CN A PrA false 118 vs h K := CW_CN (by kernel_rfl) tk118 vs h K
theorem a264 : A 264 = some F264 := by kernel_rfl
theorem tk264 : takes A 264 = false := by kernel_rfl
@[go_sem] theorem cw264 (vs : List V) (h : Heap) (K : V → Tn → Prop) : CW A PrA 264 vs h K = CN A PrA false 264 vs h K := CW_CN (by kernel_rfl) tk264 vs h K
theorem a265 : A 265 = some F265 := by kernel_rfl
theorem tk265 : takes A 265 = false := by kernel_rfl
@[go_sem] theorem cw265 (vs : List V) (h : Heap) (K : V → Tn → Prop) : CW A PrA 265 vs h K = CN A PrA false 265 vs h K := CW_CN (by kernel_rfl) tk265 vs h K
theorem a267 : A 267 = some F267 := by kernel_rfl
theorem tk267 : takes A 267 = false := by kernel_rfl
@[go_sem] theorem cw267 (vs : List V) (h : Heap) (K : V → Tn → Prop) : CW A PrA 267 vs h K = CN A PrA false 267 vs h K := CW_CN (by kernel_rfl) tk267 vs h K
theorem a269 : A 269 = some F269 := by kernel_rfl
theorem tk269 : takes A 269 = false := by kernel_rfl
@[go_sem] theorem cw269 (vs : List V) (h : Heap) (K : V → Tn → Prop) : CW A PrA 269 vs h K = CN A PrA false 269 vs h K := CW_CN (by kernel_rfl) tk269 vs h K
theorem a271 : A 271 = some F271 := by kernel_rfl
theorem tk271 : takes A 271 = false := by kernel_rfl
@[go_sem] theorem cw271 (vs : List V) (h : Heap) (K : V → Tn → Prop) : CW A PrA 271 vs h K = CN A PrA false 271 vs h K := CW_CN (by kernel_rfl) tk271 vs h K
theorem a273 : A 273 = some F273 := by kernel_rfl
theorem tk273 : takes A 273 = false := by kernel_rfl
@[go_sem] theorem cw273 (vs : List V) (h : Heap) (K : V → Tn → Prop) : CW A PrA 273 vs h K = CN A PrA false 273 vs h K := CW_CN (by kernel_rfl) tk273 vs h K
theorem a275 : A 275 = some F275 := by kernel_rfl
theorem tk275 : takes A 275 = false := by kernel_rfl
@[go_sem] theorem cw275 (vs : List V) (h : Heap) (K : V → Tn → Prop) : CW A PrA 275 vs h K = CN A PrA false 275 vs h K := CW_CN (by kernel_rfl) tk275 vs h K
theorem a277 : A 277 = some F277 := by kernel_rfl
theorem tk277 : takes A 277 = false := by kernel_rfl
@[go_sem] theorem cw277 (vs : List V) (h : Heap) (K : V → Tn → Prop) : CW A PrA 277 vs h K = CN A PrA false 277 vs h K := CW_CN (by kernel_rfl) tk277 vs h K
theorem a278 : A 278 = some F278 := by kernel_rfl
theorem tk278 : takes A 278 = false := by kernel_rfl
@[go_sem] theorem cw278 (vs : List V) (h : Heap) (K : V → Tn → Prop) : CW A PrA 278 vs h K = CN A PrA false 278 vs h K := CW_CN (by kernel_rfl) tk278 vs h K
theorem a279 : A 279 = some F279 := by kernel_rfl
theorem tk279 : takes A 279 = false := by kernel_rfl
@[go_sem] theorem cw279 (vs : List V) (h : Heap) (K : V → Tn → Prop) : CW A PrA 279 vs h K = CN A PrA false 279 vs h K := CW_CN (by kernel_rfl) tk279 vs h K
theorem a280 : A 280 = some F280 := by kernel_rfl
theorem tk280 : takes A 280 = false := by kernel_rfl
@[go_sem] theorem cw280 (vs : List V) (h : Heap) (K : V → Tn → Prop) : CW A PrA 280 vs h K = CN A PrA false 280 vs h K := CW_CN (by kernel_rfl) tk280 vs h K
theorem a281 : A 281 = some F281 := by kernel_rfl
theorem tk281 : takes A 281 = false := by kernel_rfl
@[go_sem] theorem cw281 (vs : List V) (h : Heap) (K : V → Tn → Prop) : CW A PrA 281 vs h K = CN A PrA false 281 vs h K := CW_CN (by kernel_rfl) tk281 vs h K
theorem a283 : A 283 = some F283 := by kernel_rfl
theorem tk283 : takes A 283 = false := by kernel_rfl
@[go_sem] theorem cw283 (vs : List V) (h : Heap) (K : V → Tn → Prop) : CW A PrA 283 vs h K = CN A PrA false 283 vs h K := CW_CN (by kernel_rfl) tk283 vs h K
theorem a284 : A 284 = some F284 := by kernel_rfl
theorem tk284 : takes A 284 = false := by kernel_rfl
@[go_sem] theorem cw284 (vs : List V) (h : Heap) (K : V → Tn → Prop) : CW A PrA 284 vs h K = CN A PrA false 284 vs h K := CW_CN (by kernel_rfl) tk284 vs h K
theorem a286 : A 286 = some F286 := by kernel_rfl
theorem tk286 : takes A 286 = false := by kernel_rfl
@[go_sem] theorem cw286 (vs : List V) (h : Heap) (K : V → Tn → Prop) : CW A PrA 286 vs h K = CN A PrA false 286 vs h K := CW_CN (by kernel_rfl) tk286 vs h K
theorem a288 : A 288 = some F288 := by kernel_rfl
theorem tk288 : takes A 288 = false := by kernel_rfl
@[go_sem] theorem cw288 (vs : List V) (h : Heap) (K : V → Tn → Prop) : CW A PrA 288 vs h K = CN A PrA false 288 vs h K := CW_CN (by kernel_rfl) tk288 vs h K
theorem a289 : A 289 = some F289 := by kernel_rfl
theorem tk289 : takes A 289 = false := by kernel_rfl
@[go_sem] theorem cw289 (vs : List V) (h : Heap) (K : V → Tn → Prop) : CW A PrA 289 vs h K = CN A PrA false 289 vs h K := CW_CN (by kernel_rfl) tk289 vs h K
theorem a290 : A 290 = some F290 := by kernel_rfl
theorem tk290 : takes A 290 = false := by kernel_rfl
@[go_sem] theorem cw290 (vs : List V) (h : Heap) (K : V → Tn → Prop) : CW A PrA 290 vs h K = CN A PrA false 290 vs h K := CW_CN (by kernel_rfl) tk290 vs h K
theorem a291 : A 291 = some F291 := by kernel_rfl
theorem tk291 : takes A 291 = false := by kernel_rfl
@[go_sem] theorem cw291 (vs : List V) (h : Heap) (K : V → Tn → Prop) : CW A PrA 291 vs h K = CN A PrA false 291 vs h K := CW_CN (by kernel_rfl) tk291 vs h K
theorem a293 : A 293 = some F293 := by kernel_rfl
theorem tk293 : takes A 293 = false := by kernel_rfl
@[go_sem] theorem cw293 (vs : List V) (h : Heap) (K : V → Tn → Prop) : CW A PrA 293 vs h K = CN A PrA false 293 vs h K := CW_CN (by kernel_rfl) tk293 vs h K
theorem a294 : A 294 = some F294 := by kernel_rfl
theorem tk294 : takes A 294 = false := by kernel_rfl
@[go_sem] theorem cw294 (vs : List V) (h : Heap) (K : V → Tn → Prop) : CW A PrA 294 vs h K = CN A PrA false 294 vs h K := CW_CN (by kernel_rfl) tk294 vs h K
theorem a295 : A 295 = some F295 := by kernel_rfl
theorem tk295 : takes A 295 = false := by kernel_rfl
@[go_sem] theorem cw295 (vs : List V) (h : Heap) (K : V → Tn → Prop) : CW A PrA 295 vs h K = CN A PrA false 295 vs h K := CW_CN (by kernel_rfl) tk295 vs h K
theorem a296 : A 296 = some F296 := by kernel_rfl
theorem tk296 : takes A 296 = false := by kernel_rfl
@[go_sem] theorem cw296 (vs : List V) (h : Heap) (K : V → Tn → Prop) : CW A PrA 296 vs h K = CN A PrA false 296 vs h K := CW_CN (by kernel_rfl) tk296 vs h K
theorem a297 : A 297 = some F297 := by kernel_rfl
theorem tk297 : takes A 297 = false := by kernel_rfl
@[go_sem] theorem cw297 (vs : List V) (h : Heap) (K : V → Tn → Prop) : CW A PrA 297 vs h K = CN A PrA false 297 vs h K := CW_CN (by kernel_rfl) tk297 vs h K
theorem a298 : A 298 = some F298 := by kernel_rfl
theorem tk298 : takes A 298 = false := by kernel_rfl
@[go_sem] theorem cw298 (vs : List V) (h : Heap) (K : V → Tn → Prop) : CW A PrA 298 vs h K = CN A PrA false 298 vs h K := CW_CN (by kernel_rfl) tk298 vs h K
theorem a299 : A 299 = some F299 := by kernel_rfl
theorem tk299 : takes A 299 = false := by kernel_rfl
@[go_sem] theorem cw299 (vs : List V) (h : Heap) (K : V → Tn → Prop) : CW A PrA 299 vs h K = CN A PrA false 299 vs h K := CW_CN (by kernel_rfl) tk299 vs h K
theorem a300 : A 300 = some F300 := by kernel_rfl
theorem tk300 : takes A 300 = false := by kernel_rfl
@[go_sem] theorem cw300 (vs : List V) (h : Heap) (K : V → Tn → Prop) : CW A PrA 300 vs h K = CN A PrA false 300 vs h K := CW_CN (by kernel_rfl) tk300 vs h K
theorem a301 : A 301 = some F301 := by kernel_rfl
theorem tk301 : takes A 301 = false := by kernel_rfl
@[go_sem] theorem cw301 (vs : List V) (h : Heap) (K : V → Tn → Prop) : CW A PrA 301 vs h K = CN A PrA false 301 vs h K := CW_CN (by kernel_rfl) tk301 vs h K
theorem a302 : A 302 = some F302 := by kernel_rfl
theorem tk302 : takes A 302 = false := by kernel_rfl
@[go_sem] theorem cw302 (vs : List V) (h : Heap) (K : V → Tn → Prop) : CW A PrA 302 vs h K = CN A PrA false 302 vs h K := CW_CN (by kernel_rfl) tk302 vs h K
theorem a303 : A 303 = some F303 := by kernel_rfl
theorem tk303 : takes A 303 = false := by kernel_rfl
@[go_sem] theorem cw303 (vs : List V) (h : Heap) (K : V → Tn → Prop) : CW A PrA 303 vs h K = CN A PrA false 303 vs h K := CW_CN (by kernel_rfl) tk303 vs h K
theorem a304 : A 304 = some F304 := by kernel_rfl
theorem tk304 : takes A 304 = false := by kernel_rfl
@[go_sem] theorem cw304 (vs : List V) (h : Heap) (K : V → Tn → Prop) : CW A PrA 304 vs h K = CN A PrA false 304 vs h K := CW_CN (by kernel_rfl) tk304 vs h K
theorem a305 : A 305 = some F305 := by kernel_rfl
theorem tk305 : takes A 305 = false := by kernel_rfl
@[go_sem] theorem cw305 (vs : List V) (h : Heap) (K : V → Tn → Prop) : CW A PrA 305 vs h K = CN A PrA false 305 vs h K := CW_CN (by kernel_rfl) tk305 vs h K
theorem a306 : A 306 = some F306 := by kernel_rfl
theorem tk306 : takes A 306 = false := by kernel_rfl
@[go_sem] theorem cw306 (vs : List V) (h : Heap) (K : V → Tn → Prop) : CW A PrA 306 vs h K = CN A PrA false 306 vs h K := CW_CN (by kernel_rfl) tk306 vs h K
theorem a307 : A 307 = some F307 := by kernel_rfl
theorem tk307 : takes A 307 = false := by kernel_rfl
@[go_sem] theorem cw307 (vs : List V) (h : Heap) (K : V → Tn → Prop) : CW A PrA 307 vs h K = CN A PrA false 307 vs h K := CW_CN (by kernel_rfl) tk307 vs h K
theorem a308 : A 308 = some F308 := by kernel_rfl
theorem tk308 : takes A 308 = false := by kernel_rfl
@[go_sem] theorem cw308 (vs : List V) (h : Heap) (K : V → Tn → Prop) : CW A PrA 308 vs h K = CN A PrA false 308 vs h K := CW_CN (by kernel_rfl) tk308 vs h K
theorem a315 : A 315 = some F315 := by kernel_rfl
theorem tk315 : takes A 315 = false := by kernel_rfl
@[go_sem] theorem cw315 (vs : List V) (h : Heap) (K : V → Tn → Prop) : CW A PrA 315 vs h K = CN A PrA false 315 vs h K := CW_CN (by kernel_rfl) tk315 vs h K
theorem a316 : A 316 = some F316 := by kernel_rfl
theorem tk316 : takes A 316 = false := by kernel_rfl
@[go_sem] theorem cw316 (vs : List V) (h : Heap) (K : V → Tn → Prop) : CW A PrA 316 vs h K = CN A PrA false 316 vs h K := CW_CN (by kernel_rfl) tk316 vs h K
theorem a317 : A 317 = some F317 := by kernel_rfl
theorem tk317 : takes A 317 = false := by kernel_rfl
@[go_sem] theorem cw317 (vs : List V) (h : Heap) (K : V → Tn → Prop) : CW A PrA 317 vs h K = CN A PrA false 317 vs h K := CW_CN (by kernel_rfl) tk317 vs h K
theorem a318 : A 318 = some F318 := by kernel_rfl
theorem tk318 : takes A 318 = false := by kernel_rfl
@[go_sem] theorem cw318 (vs : List V) (h : Heap) (K : V → Tn → Prop) : CW A PrA 318 vs h K = CN A PrA false 318 vs h K := CW_CN (by kernel_rfl) tk318 vs h K
theorem a319 : A 319 = some F319 := by kernel_rfl
theorem tk319 : takes A 319 = false := by kernel_rfl
@[go_sem] theorem cw319 (vs : List V) (h : Heap) (K : V → Tn → Prop) : CW A PrA 319 vs h K = CN A PrA false 319 vs h K := CW_CN (by kernel_rfl) tk319 vs h K
theorem a320 : A 320 = some F320 := by kernel_rfl
theorem tk320 : takes A 320 = false := by kernel_rfl
@[go_sem] theorem cw320 (vs : List V) (h : Heap) (K : V → Tn → Prop) : CW A PrA 320 vs h K = CN A PrA false 320 vs h K := CW_CN (by kernel_rfl) tk320 vs h K
theorem a321 : A 321 = some F321 := by kernel_rfl
theorem tk321 : takes A 321 = false := by kernel_rfl
@[go_sem] theorem cw321 (vs : List V) (h : Heap) (K : V → Tn → Prop) : CW A PrA 321 vs h K = CN A PrA false 321 vs h K := CW_CN (by kernel_rfl) tk321 vs h K
theorem a322 : A 322 = some F322 := by kernel_rfl
theorem tk322 : takes A 322 = false := by kernel_rfl
@[go_sem] theorem cw322 (vs : List V) (h : Heap) (K : V → Tn → Prop) : CW A PrA 322 vs h K = CN A PrA false 322 vs h K := CW_CN (by kernel_rfl) tk322 vs h K
theorem a323 : A 323 = some F323 := by kernel_rfl
theorem tk323 : takes A 323 = false := by kernel_rfl
@[go_sem] theorem cw323 (vs : List V) (h : Heap) (K : V → Tn → Prop) : CW A PrA 323 vs h K = CN A PrA false 323 vs h K := CW_CN (by kernel_rfl) tk323 vs h K
theorem a324 : A 324 = some F324 := by kernel_rfl
theorem tk324 : takes A 324 = false := by kernel_rfl
@[go_sem] theorem cw324 (vs : List V) (h : Heap) (K : V → Tn → Prop) : CW A PrA 324 vs h K = CN A PrA false 324 vs h K := CW_CN (by kernel_rfl) tk324 vs h K
theorem a325 : A 325 = some F325 := by kernel_rfl
theorem tk325 : takes A 325 = false := by kernel_rfl
@[go_sem] theorem cw325 (vs : List V) (h : Heap) (K : V → Tn → Prop) : CW A PrA 325 vs h K = CN A PrA false 325 vs h K := CW_CN (by kernel_rfl) tk325 vs h K
theorem a326 : A 326 = some F326 := by kernel_rfl
theorem tk326 : takes A 326 = false := by kernel_rfl
@[go_sem] theorem cw326 (vs : List V) (h : Heap) (K : V → Tn → Prop) : CW A PrA 326 vs h K = CN A PrA false 326 vs h K := CW_CN (by kernel_rfl) tk326 vs h K
theorem a330 : A 330 = some F330 := by kernel_rfl
theorem tk330 : takes A 330 = false := by kernel_rfl
@[go_sem] theorem cw330 (vs : List V) (h : Heap) (K : V → Tn → Prop) : CW A PrA 330 vs h K = CN A PrA false 330 vs h K := CW_CN (by kernel_rfl) tk330 vs h K
theorem a333 : A 333 = some F333 := by kernel_rfl
theorem tk333 : takes A 333 = false := by kernel_rfl
@[go_sem] theorem cw333 (vs : List V) (h : Heap) (K : V → Tn → Prop) : CW A PrA 333 vs h K = CN A PrA false 333 vs h K := CW_CN (by kernel_rfl) tk333 vs h K
theorem a334 : A 334 = some F334 := by kernel_rfl
theorem tk334 : takes A 334 = false := by kernel_rfl
@[go_sem] theorem cw334 (vs : List V) (h : Heap) (K : V → Tn → Prop) : CW A PrA 334 vs h K = CN A PrA false 334 vs h K := CW_CN (by kernel_rfl) tk334 vs h K
theorem a335 : A 335 = some F335 := by kernel_rfl
theorem tk335 : takes A 335 = false := by kernel_rfl
@[go_sem] theorem cw335 (vs : List V) (h : Heap) (K : V → Tn → Prop) : CW A PrA 335 vs h K = CN A PrA false 335 vs h K := CW_CN (by kernel_rfl) tk335 vs h K
theorem a336 : A 336 = some F336 := by kernel_rfl
theorem tk336 : takes A 336 = false := by kernel_rfl
@[go_sem] theorem cw336 (vs : List V) (h : Heap) (K : V → Tn → Prop) : CW A PrA 336 vs h K = CN A PrA false 336 vs h K := CW_CN (by kernel_rfl) tk336 vs h K
theorem a389 : A 389 = some F389 := by kernel_rfl
theorem tk389 : takes A 389 = false := by kernel_rfl
@[go_sem] theorem cw389 (vs : List V) (h : Heap) (K : V → Tn → Prop) : CW A PrA 389 vs h K = CN A PrA false 389 vs h K := CW_CN (by kernel_rfl) tk389 vs h K
end Go.Pv
