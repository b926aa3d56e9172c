/-
  The table of functions.
-/
import Derived.Test.YtdeoikfaclbniaaF1
import Derived.KernelRfl
namespace Go.Pv
def tabL : List (Nat × AFunc) := [(62, F62), (66, F66), (75, F75), (76, F76), (79, F79), (80, F80), (94, F94), (103, F103), (110, F110), (111, F111), (118, F118), (119, F119), (120, F120), (121, F121), (122, F122), (123, F123), (124, F124), (125, F125), (126, F126), (127, F127), (131, F131), (132, F132), (133, F133), (137, F137), (260, F260), (265, F265), (266, F266), (267, F267), (269, F269), (270, F270), (271, F271), (273, F273), (275, F275), (278, F278), (280, F280), (281, F281), (282, F282), (283, F283), (284, F284), (286, F286), (289, F289), (290, F290), (291, F291), (294, F294), (296, F296), (297, F297), (304, F304), (305, F305), (306, F306), (307, F307), (308, F308), (315, F315), (317, F317), (318, F318), (319, F319), (320, F320), (323, F323), (324, F324), (325, F325), (326, F326), (333, F333), (334, F334)]
def prL : List (Nat × Prim) := [(313, cloneP 2), (314, cloneP 13), (331, cloneP 8), (332, cloneP 2)]
def PrA : Prims := fun n => look1 n prL
def A (n : Nat) : Option AFunc := look1 n tabL
@[go_sem] theorem cp313 (vs : List V) (h : Heap) (K : V → Tn → Prop) : CW A PrA 313 vs h K = optK ((cloneP 2 : Prim) vs h) fun r => K r.1 r.2 := CW_some (by kernel_rfl) vs h K
@[go_sem] theorem cp314 (vs : List V) (h : Heap) (K : V → Tn → Prop) : CW A PrA 314 vs h K = optK ((cloneP 13 : Prim) vs h) fun r => K r.1 r.2 := CW_some (by kernel_rfl) vs h K
@[go_sem] theorem cp331 (vs : List V) (h : Heap) (K : V → Tn → Prop) : CW A PrA 331 vs h K = optK ((cloneP 8 : Prim) vs h) fun r => K r.1 r.2 := CW_some (by kernel_rfl) vs h K
@[go_sem] theorem cp332 (vs : List V) (h : Heap) (K : V → Tn → Prop) : CW A PrA 332 vs h K = optK ((cloneP 2 : Prim) vs h) fun r => K r.1 r.2 := CW_some (by kernel_rfl) vs h K
theorem a62 : A 62 = some F62 := by kernel_rfl
theorem tk62 : takes A 62 = false := by kernel_rfl
@[go_sem] theorem cw62 (vs : List V) (h : Heap) (K : V → Tn → Prop) : CW A PrA 62 vs h K = CN A PrA false 62 vs h K := CW_CN (by kernel_rfl) tk62 vs h K
theorem a66 : A 66 = some F66 := by kernel_rfl
theorem tk66 : takes A 66 = false := by kernel_rfl
@[go_sem] theorem cw66 (vs : List V) (h : Heap) (K : V → Tn → Prop) : CW A PrA 66 vs h K = CN A PrA false 66 vs h K := CW_CN (by kernel_rfl) tk66 vs h K
theorem a75 : A 75 = some F75 := by kernel_rfl
theorem tk75 : takes A 75 = false := by kernel_rfl
@[go_sem] theorem cw75 (vs : List V) (h : Heap) (K : V → Tn → Prop) : CW A PrA 75 vs h K = CN A PrA false 75 vs h K := CW_CN (by kernel_rfl) tk75 vs h K
theorem a76 : A 76 = some F76 := by kernel_rfl
theorem tk76 : takes A 76 = false := by kernel_rfl
@[go_sem] theorem cw76 (vs : List V) (h : Heap) (K : V → Tn → Prop) : CW A PrA 76 vs h K = CN A PrA false 76 vs h K := CW_CN (by kernel_rfl) tk76 vs h K
theorem a79 : A 79 = some F79 := by kernel_rfl
theorem tk79 : takes A 79 = false := by kernel_rfl
@[go_sem] theorem cw79 (vs : List V) (h : Heap) (K : V → Tn → Prop) : CW A PrA 79 vs h K = CN A PrA false 79 vs h K := CW_CN (by kernel_rfl) tk79 vs h K
theorem a80 : A 80 = some F80 := by kernel_rfl
theorem tk80 : takes A 80 = false := by kernel_rfl
@[go_sem] theorem cw80 (vs : List V) (h : Heap) (K : V → Tn → Prop) : CW A PrA 80 vs h K = CN A PrA false 80 vs h K := CW_CN (by kernel_rfl) tk80 vs h K
theorem a94 : A 94 = some F94 := by kernel_rfl
theorem tk94 : takes A 94 = false := by kernel_rfl
@[go_sem] theorem cw94 (vs : List V) (h : Heap) (K : V → Tn → Prop) : CW A PrA 94 vs h K = CN A PrA false 94 vs h K := CW_CN (by kernel_rfl) tk94 vs h K
theorem a103 : A 103 = some F103 := by kernel_rfl
theorem tk103 : takes A 103 = false := by kernel_rfl
@[go_sem] theorem cw103 (vs : List V) (h : Heap) (K : V → Tn → Prop) : CW A PrA 103 vs h K = CN A PrA false 103 vs h K := CW_CN (by kernel_rfl) tk103 vs h K
theorem a110 : A 110 = some F110 := by kernel_rfl
theorem tk110 : takes A 110 = false := by kernel_rfl
@[go_sem] theorem cw110 (vs : List V) (h : Heap) (K : V → Tn → Prop) : CW A PrA 110 vs h K = CN A PrA false 110 vs h K := CW_CN (by kernel_rfl) tk110 vs h K
theorem a111 : A 111 = some F111 := by kernel_rfl
theorem tk111 : takes A 111 = false := by kernel_rfl
@[go_sem] theorem cw111 (vs : List V) (h : Heap) (K : V → Tn → Prop) : CW A PrA 111 vs h K = CN A PrA false 111 vs h K := CW_CN (by kernel_rfl) tk111 vs h K
theorem a118 : A 118 = some F118 := by kernel_rfl
theorem tk118 : takes A 118 = false := by kernel_rfl
@[go_sem] theorem cw118 (vs : List V) (h : Heap) (K : V → Tn → Prop) : CW A PrA 118 vs h K = CN A PrA false 118 vs h K := CW_CN (by kernel_rfl) tk118 vs h K
theorem a119 : A 119 = some F119 := by kernel_rfl
theorem tk119 : takes A 119 = false := by kernel_rfl
@[go_sem] theorem cw119 (vs : List V) (h : Heap) (K : V → Tn → Prop) : CW A PrA 119 vs h K = CN A PrA false 119 vs h K := CW_CN (by kernel_rfl) tk119 vs h K
theorem a120 : A 120 = some F120 := by kernel_rfl
theorem tk120 : takes A 120 = false := by kernel_rfl
@[go_sem] theorem cw120 (vs : List V) (h : Heap) (K : V → Tn → Prop) : CW A PrA 120 vs h K = CN A PrA false 120 vs h K := CW_CN (by kernel_rfl) tk120 vs h K
theorem a121 : A 121 = some F121 := by kernel_rfl
theorem tk121 : takes A 121 = false := by kernel_rfl
@[go_sem] theorem cw121 (vs : List V) (h : Heap) (K : V → Tn → Prop) : CW A PrA 121 vs h K = CN A PrA false 121 vs h K := CW_CN (by kernel_rfl) tk121 vs h K
theorem a122 : A 122 = some F122 := by kernel_rfl
theorem tk122 : takes A 122 = false := by kernel_rfl
@[go_sem] theorem cw122 (vs : List V) (h : Heap) (K : V → Tn → Prop) : CW A PrA 122 vs h K = CN A PrA false 122 vs h K := CW_CN (by kernel_rfl) tk122 vs h K
theorem a123 : A 123 = some F123 := by kernel_rfl
theorem tk123 : takes A 123 = false := by kernel_rfl
@[go_sem] theorem cw123 (vs : List V) (h : Heap) (K : V → Tn → Prop) : CW A PrA 123 vs h K = CN A PrA false 123 vs h K := CW_CN (by kernel_rfl) tk123 vs h K
theorem a124 : A 124 = some F124 := by kernel_rfl
theorem tk124 : takes A 124 = false := by kernel_rfl
@[go_sem] theorem cw124 (vs : List V) (h : Heap) (K : V → Tn → Prop) : CW A PrA 124 vs h K = CN A PrA false 124 vs h K := CW_CN (by kernel_rfl) tk124 vs h K
theorem a125 : A 125 = some F125 := by kernel_rfl
theorem tk125 : takes A 125 = false := by kernel_rfl
@[go_sem] theorem cw125 (vs : List V) (h : Heap) (K : V → Tn → Prop) : CW A PrA 125 vs h K = CN A PrA false 125 vs h K := CW_CN (by kernel_rfl) tk125 vs h K
theorem a126 : A 126 = some F126 := by kernel_rfl
theorem tk126 : takes A 126 = false := by kernel_rfl
@[go_sem] theorem cw126 (vs : List V) (h : Heap) (K : V → Tn → Prop) : CW A PrA 126 vs h K = CN A PrA false 126 vs h K := CW_CN (by kernel_rfl) tk126 vs h K
theorem a127 : A 127 = some F127 := by kernel_rfl
theorem tk127 : takes A 127 = false := by kernel_rfl
@[go_sem] theorem cw127 (vs : List V) (h : Heap) (K : V → Tn → Prop) : CW A PrA 127 vs h K = CN A PrA false 127 vs h K := CW_CN (by kernel_rfl) tk127 vs h K
theorem a131 : A 131 = some F131 := by kernel_rfl
theorem tk131 : takes A 131 = false := by kernel_rfl
@[go_sem] theorem cw131 (vs : List V) (h : Heap) (K : V → Tn → Prop) : CW A PrA 131 vs h K = CN A PrA false 131 vs h K := CW_CN (by kernel_rfl) tk131 vs h K
theorem a132 : A 132 = some F132 := by kernel_rfl
theorem tk132 : takes A 132 = false := by kernel_rfl
@[go_sem] theorem cw132 (vs : List V) (h : Heap) (K : V → Tn → Prop) : CW A PrA 132 vs h K = CN A PrA false 132 vs h K := CW_CN (by kernel_rfl) tk132 vs h K
theorem a133 : A 133 = some F133 := by kernel_rfl
theorem tk133 : takes A 133 = false := by kernel_rfl
@[go_sem] theorem cw133 (vs : List V) (h : Heap) (K : V → Tn → Prop) : CW A PrA 133 vs h K = CN A PrA false 133 vs h K := CW_CN (by kernel_rfl) tk133 vs h K
theorem a137 : A 137 = some F137 := by kernel_rfl
theorem tk137 : takes A 137 = false := by kernel_rfl
@[go_sem] theorem cw137 (vs : List V) (h : Heap) (K : V → Tn → Prop) : CW A PrA 137 vs h K = CN A PrA false 137 vs h K := CW_CN (by kernel_rfl) tk137 vs h K
theorem a260 : A 260 = some F260 := by kernel_rfl
theorem tk260 : takes A 260 = false := by kernel_rfl
@[go_sem] theorem cw260 (vs : List V) (h : Heap) (K : V → Tn → Prop) : CW A PrA 260 vs h K = CN A PrA false 260 vs h K := CW_CN (by kernel_rfl) tk260 vs h K
theorem a265 : A 265 = some F265 := by kernel_rfl
theorem tk265 : takes A 265 = false := by kernel_rfl
@[go_sem] theorem cw265 (vs : List V) (h : Heap) (K : V → Tn → Prop) : CW A PrA 265 vs h K = CN A PrA false 265 vs h K := CW_CN (by kernel_rfl) tk265 vs h K
theorem a266 : A 266 = some F266 := by kernel_rfl
theorem tk266 : takes A 266 = false := by kernel_rfl
@[go_sem] theorem cw266 (vs : List V) (h : Heap) (K : V → Tn → Prop) : CW A PrA 266 vs h K = CN A PrA false 266 vs h K := CW_CN (by kernel_rfl) tk266 vs h K
theorem a267 : A 267 = some F267 := by kernel_rfl
theorem tk267 : takes A 267 = false := by kernel_rfl
@[go_sem] theorem cw267 (vs : List V) (h : Heap) (K : V → Tn → Prop) : CW A PrA 267 vs h K = CN A PrA false 267 vs h K := CW_CN (by kernel_rfl) tk267 vs h K
theorem a269 : A 269 = some F269 := by kernel_rfl
theorem tk269 : takes A 269 = false := by kernel_rfl
@[go_sem] theorem cw269 (vs : List V) (h : Heap) (K : V → Tn → Prop) : CW A PrA 269 vs h K = CN A PrA false 269 vs h K := CW_CN (by kernel_rfl) tk269 vs h K
theorem a270 : A 270 = some F270 := by kernel_rfl
theorem tk270 : takes A 270 = false := by kernel_rfl
@[go_sem] theorem cw270 (vs : List V) (h : Heap) (K : V → Tn → Prop) : CW A PrA 270 vs h K = CN A PrA false 270 vs h K := CW_CN (by kernel_rfl) tk270 vs h K
theorem a271 : A 271 = some F271 := by kernel_rfl
theorem tk271 : takes A 271 = false := by kernel_rfl
@[go_sem] theorem cw271 (vs : List V) (h : Heap) (K : V → Tn → Prop) : CW A PrA 271 vs h K = CN A PrA false 271 vs h K := CW_CN (by kernel_rfl) tk271 vs h K
theorem a273 : A 273 = some F273 := by kernel_rfl
theorem tk273 : takes A 273 = false := by kernel_rfl
@[go_sem] theorem cw273 (vs : List V) (h : Heap) (K : V → Tn → Prop) : CW A PrA 273 vs h K = CN A PrA false 273 vs h K := CW_CN (by kernel_rfl) tk273 vs h K
theorem a275 : A 275 = some F275 := by kernel_rfl
theorem tk275 : takes A 275 = false := by kernel_rfl
@[go_sem] theorem cw275 (vs : List V) (h : Heap) (K : V → Tn → Prop) : CW A PrA 275 vs h K = CN A PrA false 275 vs h K := CW_CN (by kernel_rfl) tk275 vs h K
theorem a278 : A 278 = some F278 := by kernel_rfl
theorem tk278 : takes A 278 = false := by kernel_rfl
@[go_sem] theorem cw278 (vs : List V) (h : Heap) (K : V → Tn → Prop) : CW A PrA 278 vs h K = CN A PrA false 278 vs h K := CW_CN (by kernel_rfl) tk278 vs h K
theorem a280 : A 280 = some F280 := by kernel_rfl
theorem tk280 : takes A 280 = false := by kernel_rfl
@[go_sem] theorem cw280 (vs : List V) (h : Heap) (K : V → Tn → Prop) : CW A PrA 280 vs h K = CN A PrA false 280 vs h K := CW_CN (by kernel_rfl) tk280 vs h K
theorem a281 : A 281 = some F281 := by kernel_rfl
theorem tk281 : takes A 281 = false := by kernel_rfl
@[go_sem] theorem cw281 (vs : List V) (h : Heap) (K : V → Tn → Prop) : CW A PrA 281 vs h K = CN A PrA false 281 vs h K := CW_CN (by kernel_rfl) tk281 vs h K
theorem a282 : A 282 = some F282 := by kernel_rfl
theorem tk282 : takes A 282 = false := by kernel_rfl
@[go_sem] theorem cw282 (vs : List V) (h : Heap) (K : V → Tn → Prop) : CW A PrA 282 vs h K = CN A PrA false 282 vs h K := CW_CN (by kernel_rfl) tk282 vs h K
theorem a283 : A 283 = some F283 := by kernel_rfl
theorem tk283 : takes A 283 = false := by kernel_rfl
@[go_sem] theorem cw283 (vs : List V) (h : Heap) (K : V → Tn → Prop) : CW A PrA 283 vs h K = CN A PrA false 283 vs h K := CW_CN (by kernel_rfl) tk283 vs h K
theorem a284 : A 284 = some F284 := by kernel_rfl
theorem tk284 : takes A 284 = false := by kernel_rfl
@[go_sem] theorem cw284 (vs : List V) (h : Heap) (K : V → Tn → Prop) : CW A PrA 284 vs h K = CN A PrA false 284 vs h K := CW_CN (by kernel_rfl) tk284 vs h K
theorem a286 : A 286 = some F286 := by kernel_rfl
theorem tk286 : takes A 286 = false := by kernel_rfl
@[go_sem] theorem cw286 (vs : List V) (h : Heap) (K : V → Tn → Prop) : CW A PrA 286 vs h K = CN A PrA false 286 vs h K := CW_CN (by kernel_rfl) tk286 vs h K
theorem a289 : A 289 = some F289 := by kernel_rfl
theorem tk289 : takes A 289 = false := by kernel_rfl
@[go_sem] theorem cw289 (vs : List V) (h : Heap) (K : V → Tn → Prop) : CW A PrA 289 vs h K = CN A PrA false 289 vs h K := CW_CN (by kernel_rfl) tk289 vs h K
theorem a290 : A 290 = some F290 := by kernel_rfl
theorem tk290 : takes A 290 = false := by kernel_rfl
@[go_sem] theorem cw290 (vs : List V) (h : Heap) (K : V → Tn → Prop) : CW A PrA 290 vs h K = CN A PrA false 290 vs h K := CW_CN (by kernel_rfl) tk290 vs h K
theorem a291 : A 291 = some F291 := by kernel_rfl
theorem tk291 : takes A 291 = false := by kernel_rfl
@[go_sem] theorem cw291 (vs : List V) (h : Heap) (K : V → Tn → Prop) : CW A PrA 291 vs h K = CN A PrA false 291 vs h K := CW_CN (by kernel_rfl) tk291 vs h K
theorem a294 : A 294 = some F294 := by kernel_rfl
theorem tk294 : takes A 294 = false := by kernel_rfl
@[go_sem] theorem cw294 (vs : List V) (h : Heap) (K : V → Tn → Prop) : CW A PrA 294 vs h K = CN A PrA false 294 vs h K := CW_CN (by kernel_rfl) tk294 vs h K
theorem a296 : A 296 = some F296 := by kernel_rfl
theorem tk296 : takes A 296 = false := by kernel_rfl
@[go_sem] theorem cw296 (vs : List V) (h : Heap) (K : V → Tn → Prop) : CW A PrA 296 vs h K = CN A PrA false 296 vs h K := CW_CN (by kernel_rfl) tk296 vs h K
theorem a297 : A 297 = some F297 := by kernel_rfl
theorem tk297 : takes A 297 = false := by kernel_rfl
@[go_sem] theorem cw297 (vs : List V) (h : Heap) (K : V → Tn → Prop) : CW A PrA 297 vs h K = CN A PrA false 297 vs h K := CW_CN (by kernel_rfl) tk297 vs h K
theorem a304 : A 304 = some F304 := by kernel_rfl
theorem tk304 : takes A 304 = false := by kernel_rfl
@[go_sem] theorem cw304 (vs : List V) (h : Heap) (K : V → Tn → Prop) : CW A PrA 304 vs h K = CN A PrA false 304 vs h K := CW_CN (by kernel_rfl) tk304 vs h K
theorem a305 : A 305 = some F305 := by kernel_rfl
theorem tk305 : takes A 305 = false := by kernel_rfl
@[go_sem] theorem cw305 (vs : List V) (h : Heap) (K : V → Tn → Prop) : CW A PrA 305 vs h K = CN A PrA false 305 vs h K := CW_CN (by kernel_rfl) tk305 vs h K
theorem a306 : A 306 = some F306 := by kernel_rfl
theorem tk306 : takes A 306 = false := by kernel_rfl
@[go_sem] theorem cw306 (vs : List V) (h : Heap) (K : V → Tn → Prop) : CW A PrA 306 vs h K = CN A PrA false 306 vs h K := CW_CN (by kernel_rfl) tk306 vs h K
theorem a307 : A 307 = some F307 := by kernel_rfl
theorem tk307 : takes A 307 = false := by kernel_rfl
@[go_sem] theorem cw307 (vs : List V) (h : Heap) (K : V → Tn → Prop) : CW A PrA 307 vs h K = CN A PrA false 307 vs h K := CW_CN (by kernel_rfl) tk307 vs h K
theorem a308 : A 308 = some F308 := by kernel_rfl
theorem tk308 : takes A 308 = false := by kernel_rfl
@[go_sem] theorem cw308 (vs : List V) (h : Heap) (K : V → Tn → Prop) : CW A PrA 308 vs h K = CN A PrA false 308 vs h K := CW_CN (by kernel_rfl) tk308 vs h K
theorem a315 : A 315 = some F315 := by kernel_rfl
theorem tk315 : takes A 315 = false := by kernel_rfl
@[go_sem] theorem cw315 (vs : List V) (h : Heap) (K : V → Tn → Prop) : CW A PrA 315 vs h K = CN A PrA false 315 vs h K := CW_CN (by kernel_rfl) tk315 vs h K
theorem a317 : A 317 = some F317 := by kernel_rfl
theorem tk317 : takes A 317 = false := by kernel_rfl
@[go_sem] theorem cw317 (vs : List V) (h : Heap) (K : V → Tn → Prop) : CW A PrA 317 vs h K = CN A PrA false 317 vs h K := CW_CN (by kernel_rfl) tk317 vs h K
theorem a318 : A 318 = some F318 := by kernel_rfl
theorem tk318 : takes A 318 = false := by kernel_rfl
@[go_sem] theorem cw318 (vs : List V) (h : Heap) (K : V → Tn → Prop) : CW A PrA 318 vs h K = CN A PrA false 318 vs h K := CW_CN (by kernel_rfl) tk318 vs h K
theorem a319 : A 319 = some F319 := by kernel_rfl
theorem tk319 : takes A 319 = false := by kernel_rfl
@[go_sem] theorem cw319 (vs : List V) (h : Heap) (K : V → Tn → Prop) : CW A PrA 319 vs h K = CN A PrA false 319 vs h K := CW_CN (by kernel_rfl) tk319 vs h K
theorem a320 : A 320 = some F320 := by kernel_rfl
theorem tk320 : takes A 320 = false := by kernel_rfl
@[go_sem] theorem cw320 (vs : List V) (h : Heap) (K : V → Tn → Prop) : CW A PrA 320 vs h K = CN A PrA false 320 vs h K := CW_CN (by kernel_rfl) tk320 vs h K
theorem a323 : A 323 = some F323 := by kernel_rfl
theorem tk323 : takes A 323 = false := by kernel_rfl
@[go_sem] theorem cw323 (vs : List V) (h : Heap) (K : V → Tn → Prop) : CW A PrA 323 vs h K = CN A PrA false 323 vs h K := CW_CN (by kernel_rfl) tk323 vs h K
theorem a324 : A 324 = some F324 := by kernel_rfl
theorem tk324 : takes A 324 = false := by kernel_rfl
@[go_sem] theorem cw324 (vs : List V) (h : Heap) (K : V → Tn → Prop) : CW A PrA 324 vs h K = CN A PrA false 324 vs h K := CW_CN (by kernel_rfl) tk324 vs h K
theorem a325 : A 325 = some F325 := by kernel_rfl
theorem tk325 : takes A 325 = false := by kernel_rfl
@[go_sem] theorem cw325 (vs : List V) (h : Heap) (K : V → Tn → Prop) : CW A PrA 325 vs h K = CN A PrA false 325 vs h K := CW_CN (by kernel_rfl) tk325 vs h K
theorem a326 : A 326 = some F326 := by kernel_rfl
theorem tk326 : takes A 326 = false := by kernel_rfl
@[go_sem] theorem cw326 (vs : List V) (h : Heap) (K : V → Tn → Prop) : CW A PrA 326 vs h K = CN A PrA false 326 vs h K := CW_CN (by kernel_rfl) tk326 vs h K
theorem a333 : A 333 = some F333 := by kernel_rfl
theorem tk333 : takes A 333 = false := by kernel_rfl
@[go_sem] theorem cw333 (vs : List V) (h : Heap) (K : V → Tn → Prop) : CW A PrA 333 vs h K = CN A PrA false 333 vs h K := CW_CN (by kernel_rfl) tk333 vs h K
theorem a334 : A 334 = some F334 := by kernel_rfl
theorem tk334 : takes A 334 = false := by kernel_rfl
@[go_sem] theorem cw334 (vs : List V) (h : Heap) (K : V → Tn → Prop) : CW A PrA 334 vs h K = CN A PrA false 334 vs h K := CW_CN (by kernel_rfl) tk334 vs h K
end Go.Pv
