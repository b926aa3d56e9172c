/-
  The table of functions.
-/
import Derived.Test.YtpchfogcccagjaaGreatF1
import Derived.KernelRfl
namespace Go.Pv
def tabL : List (Nat × AFunc) := [(14,F14),(15,F15),(16,F16),(29,F29),(32,F32),(34,F34),(35,F35),(45,F45),(46,F46),(47,F47),(50,F50),(54,F54),(55,F55),(56,F56),(58,F58),(59,F59),(60,F60),(63,F63),(65,F65),(66,F66),(77,F77),(104,F104),(110,F110),(118,F118),(266,F266),(267,F267),(273,F273),(281,F281),(282,F282),(283,F283),(284,F284),(291,F291),(297,F297),(304,F304),(305,F305),(306,F306),(307,F307),(308,F308),(317,F317),(318,F318),(319,F319),(320,F320),(323,F323),(324,F324),(325,F325),(326,F326),(333,F333),(334,F334),(392,F392),(394,F394),(395,F395),(397,F397),(404,F404),(405,F405),(407,F407),(408,F408),(410,F410),(411,F411),(412,F412),(413,F413),(414,F414),(415,F415),(416,F416),(417,F417),(418,F418),(421,F421),(433,F433),(434,F434),(439,F439),(440,F440),(441,F441),(442,F442),(443,F443),(444,F444),(445,F445),(446,F446),(447,F447),(448,F448),(449,F449),(450,F450),(451,F451),(452,F452),(455,F455),(456,F456),(460,F460),(464,F464),(465,F465),(466,F466),(468,F468),(473,F473),(474,F474),(475,F475),(476,F476),(477,F477),(478,F478),(484,F484),(485,F485),(486,F486),(487,F487),(488,F488),(489,F489),(490,F490),(491,F491),(495,F495),(496,F496),(497,F497),(498,F498),(499,F499),(503,F503),(510,F510),(511,F511),(512,F512),(513,F513),(516,F516),(517,F517),(518,F518),(519,F519),(520,F520),(521,F521),(522,F522),(523,F523),(524,F524)]
def prL : List (Nat × Prim) := [(51,sortP 4 (sortRows Edge.c Edge.dec Edge.lt) 47),(57,cloneP 2),(64,cloneP 4),(103,sortIP),(313,cloneP 2),(314,cloneP 13),(467,cloneP 3)]
def PrA : Prims := fun n => look1 n prL
def A (n : Nat) : Option AFunc := look1 n tabL
@[go_sem] theorem cp51 (vs : List V) (h : Heap) (K : V → Tn → Prop) : CW A PrA 51 vs h K = optK ((sortP 4 (sortRows Edge.c Edge.dec Edge.lt) 47 : Prim) vs h) fun r => K r.1 r.2 := CW_some (by kernel_rfl) (by kernel_rfl) vs h K
@[go_sem] theorem cp57 (vs : List V) (h : Heap) (K : V → Tn → Prop) : CW A PrA 57 vs h K = optK ((cloneP 2 : Prim) vs h) fun r => K r.1 r.2 := CW_some (by kernel_rfl) (by kernel_rfl) vs h K
@[go_sem] theorem cp64 (vs : List V) (h : Heap) (K : V → Tn → Prop) : CW A PrA 64 vs h K = optK ((cloneP 4 : Prim) vs h) fun r => K r.1 r.2 := CW_some (by kernel_rfl) (by kernel_rfl) vs h K
@[go_sem] theorem cp103 (vs : List V) (h : Heap) (K : V → Tn → Prop) : CW A PrA 103 vs h K = optK ((sortIP : Prim) vs h) fun r => K r.1 r.2 := CW_some (by kernel_rfl) (by kernel_rfl) vs h K
@[go_sem] theorem cp313 (vs : List V) (h : Heap) (K : V → Tn → Prop) : CW A PrA 313 vs h K = optK ((cloneP 2 : Prim) vs h) fun r => K r.1 r.2 := CW_some (by kernel_rfl) (by kernel_rfl) vs h K
@[go_sem] theorem cp314 (vs : List V) (h : Heap) (K : V → Tn → Prop) : CW A PrA 314 vs h K = optK ((cloneP 13 : Prim) vs h) fun r => K r.1 r.2 := CW_some (by kernel_rfl) (by kernel_rfl) vs h K
@[go_sem] theorem cp467 (vs : List V) (h : Heap) (K : V → Tn → Prop) : CW A PrA 467 vs h K = optK ((cloneP 3 : Prim) vs h) fun r => K r.1 r.2 := CW_some (by kernel_rfl) (by kernel_rfl) vs h K
theorem a14 : A 14 = some F14 := by kernel_rfl
theorem tk14 : takes A 14 = false := by kernel_rfl
@[go_sem] theorem cw14 (vs : List V) (h : Heap) (K : V → Tn → Prop) : CW A PrA 14 vs h K = CN A PrA false 14 vs h K := CW_CN (by kernel_rfl) (by kernel_rfl) tk14 vs h K
theorem a15 : A 15 = some F15 := by kernel_rfl
theorem tk15 : takes A 15 = false := by kernel_rfl
@[go_sem] theorem cw15 (vs : List V) (h : Heap) (K : V → Tn → Prop) : CW A PrA 15 vs h K = CN A PrA false 15 vs h K := CW_CN (by kernel_rfl) (by kernel_rfl) tk15 vs h K
theorem a16 : A 16 = some F16 := by kernel_rfl
theorem tk16 : takes A 16 = false := by kernel_rfl
@[go_sem] theorem cw16 (vs : List V) (h : Heap) (K : V → Tn → Prop) : CW A PrA 16 vs h K = CN A PrA false 16 vs h K := CW_CN (by kernel_rfl) (by kernel_rfl) tk16 vs h K
theorem a29 : A 29 = some F29 := by kernel_rfl
theorem tk29 : takes A 29 = false := by kernel_rfl
@[go_sem] theorem cw29 (vs : List V) (h : Heap) (K : V → Tn → Prop) : CW A PrA 29 vs h K = CN A PrA false 29 vs h K := CW_CN (by kernel_rfl) (by kernel_rfl) tk29 vs h K
theorem a32 : A 32 = some F32 := by kernel_rfl
theorem tk32 : takes A 32 = false := by kernel_rfl
@[go_sem] theorem cw32 (vs : List V) (h : Heap) (K : V → Tn → Prop) : CW A PrA 32 vs h K = CN A PrA false 32 vs h K := CW_CN (by kernel_rfl) (by kernel_rfl) tk32 vs h K
theorem a34 : A 34 = some F34 := by kernel_rfl
theorem tk34 : takes A 34 = false := by kernel_rfl
@[go_sem] theorem cw34 (vs : List V) (h : Heap) (K : V → Tn → Prop) : CW A PrA 34 vs h K = CN A PrA false 34 vs h K := CW_CN (by kernel_rfl) (by kernel_rfl) tk34 vs h K
theorem a35 : A 35 = some F35 := by kernel_rfl
theorem tk35 : takes A 35 = false := by kernel_rfl
@[go_sem] theorem cw35 (vs : List V) (h : Heap) (K : V → Tn → Prop) : CW A PrA 35 vs h K = CN A PrA false 35 vs h K := CW_CN (by kernel_rfl) (by kernel_rfl) tk35 vs h K
theorem a45 : A 45 = some F45 := by kernel_rfl
theorem tk45 : takes A 45 = false := by kernel_rfl
@[go_sem] theorem cw45 (vs : List V) (h : Heap) (K : V → Tn → Prop) : CW A PrA 45 vs h K = CN A PrA false 45 vs h K := CW_CN (by kernel_rfl) (by kernel_rfl) tk45 vs h K
theorem a46 : A 46 = some F46 := by kernel_rfl
theorem tk46 : takes A 46 = false := by kernel_rfl
@[go_sem] theorem cw46 (vs : List V) (h : Heap) (K : V → Tn → Prop) : CW A PrA 46 vs h K = CN A PrA false 46 vs h K := CW_CN (by kernel_rfl) (by kernel_rfl) tk46 vs h K
theorem a47 : A 47 = some F47 := by kernel_rfl
theorem tk47 : takes A 47 = false := by kernel_rfl
@[go_sem] theorem cw47 (vs : List V) (h : Heap) (K : V → Tn → Prop) : CW A PrA 47 vs h K = CN A PrA false 47 vs h K := CW_CN (by kernel_rfl) (by kernel_rfl) tk47 vs h K
theorem a50 : A 50 = some F50 := by kernel_rfl
theorem tk50 : takes A 50 = false := by kernel_rfl
@[go_sem] theorem cw50 (vs : List V) (h : Heap) (K : V → Tn → Prop) : CW A PrA 50 vs h K = CN A PrA false 50 vs h K := CW_CN (by kernel_rfl) (by kernel_rfl) tk50 vs h K
theorem a54 : A 54 = some F54 := by kernel_rfl
theorem tk54 : takes A 54 = false := by kernel_rfl
@[go_sem] theorem cw54 (vs : List V) (h : Heap) (K : V → Tn → Prop) : CW A PrA 54 vs h K = CN A PrA false 54 vs h K := CW_CN (by kernel_rfl) (by kernel_rfl) tk54 vs h K
theorem a55 : A 55 = some F55 := by kernel_rfl
theorem tk55 : takes A 55 = false := by kernel_rfl
@[go_sem] theorem cw55 (vs : List V) (h : Heap) (K : V → Tn → Prop) : CW A PrA 55 vs h K = CN A PrA false 55 vs h K := CW_CN (by kernel_rfl) (by kernel_rfl) tk55 vs h K
theorem a56 : A 56 = some F56 := by kernel_rfl
theorem tk56 : takes A 56 = false := by kernel_rfl
@[go_sem] theorem cw56 (vs : List V) (h : Heap) (K : V → Tn → Prop) : CW A PrA 56 vs h K = CN A PrA false 56 vs h K := CW_CN (by kernel_rfl) (by kernel_rfl) tk56 vs h K
theorem a58 : A 58 = some F58 := by kernel_rfl
theorem tk58 : takes A 58 = false := by kernel_rfl
@[go_sem] theorem cw58 (vs : List V) (h : Heap) (K : V → Tn → Prop) : CW A PrA 58 vs h K = CN A PrA false 58 vs h K := CW_CN (by kernel_rfl) (by kernel_rfl) tk58 vs h K
theorem a59 : A 59 = some F59 := by kernel_rfl
theorem tk59 : takes A 59 = false := by kernel_rfl
@[go_sem] theorem cw59 (vs : List V) (h : Heap) (K : V → Tn → Prop) : CW A PrA 59 vs h K = CN A PrA false 59 vs h K := CW_CN (by kernel_rfl) (by kernel_rfl) tk59 vs h K
theorem a60 : A 60 = some F60 := by kernel_rfl
theorem tk60 : takes A 60 = false := by kernel_rfl
@[go_sem] theorem cw60 (vs : List V) (h : Heap) (K : V → Tn → Prop) : CW A PrA 60 vs h K = CN A PrA false 60 vs h K := CW_CN (by kernel_rfl) (by kernel_rfl) tk60 vs h K
theorem a63 : A 63 = some F63 := by kernel_rfl
theorem tk63 : takes A 63 = true := by kernel_rfl
@[go_sem] theorem cw63 (vs : List V) (h : Heap) (K : V → Tn → Prop) : CW A PrA 63 vs h K = CN A PrA true 63 vs h K := CW_CN (by kernel_rfl) (by kernel_rfl) tk63 vs h K
theorem a65 : A 65 = some F65 := by kernel_rfl
theorem tk65 : takes A 65 = false := by kernel_rfl
@[go_sem] theorem cw65 (vs : List V) (h : Heap) (K : V → Tn → Prop) : CW A PrA 65 vs h K = CN A PrA false 65 vs h K := CW_CN (by kernel_rfl) (by kernel_rfl) tk65 vs h K
theorem a66 : A 66 = some F66 := by kernel_rfl
theorem tk66 : takes A 66 = false := by kernel_rfl
@[go_sem] theorem cw66 (vs : List V) (h : Heap) (K : V → Tn → Prop) : CW A PrA 66 vs h K = CN A PrA false 66 vs h K := CW_CN (by kernel_rfl) (by kernel_rfl) tk66 vs h K
theorem a77 : A 77 = some F77 := by kernel_rfl
theorem tk77 : takes A 77 = false := by kernel_rfl
@[go_sem] theorem cw77 (vs : List V) (h : Heap) (K : V → Tn → Prop) : CW A PrA 77 vs h K = CN A PrA false 77 vs h K := CW_CN (by kernel_rfl) (by kernel_rfl) tk77 vs h K
theorem a104 : A 104 = some F104 := by kernel_rfl
theorem tk104 : takes A 104 = true := by kernel_rfl
@[go_sem] theorem cw104 (vs : List V) (h : Heap) (K : V → Tn → Prop) : CW A PrA 104 vs h K = CN A PrA true 104 vs h K := CW_CN (by kernel_rfl) (by kernel_rfl) tk104 vs h K
theorem a110 : A 110 = some F110 := by kernel_rfl
theorem tk110 : takes A 110 = false := by kernel_rfl
@[go_sem] theorem cw110 (vs : List V) (h : Heap) (K : V → Tn → Prop) : CW A PrA 110 vs h K = CN A PrA false 110 vs h K := CW_CN (by kernel_rfl) (by kernel_rfl) tk110 vs h K
theorem a118 : A 118 = some F118 := by kernel_rfl
theorem tk118 : takes A 118 = false := by kernel_rfl
@[go_sem] theorem cw118 (vs : List V) (h : Heap) (K : V → Tn → Prop) : CW A PrA 118 vs h K = CN A PrA false 118 vs h K := CW_CN (by kernel_rfl) (by kernel_rfl) tk118 vs h K
theorem a266 : A 266 = some F266 := by kernel_rfl
theorem tk266 : takes A 266 = false := by kernel_rfl
@[go_sem] theorem cw266 (vs : List V) (h : Heap) (K : V → Tn → Prop) : CW A PrA 266 vs h K = CN A PrA false 266 vs h K := CW_CN (by kernel_rfl) (by kernel_rfl) tk266 vs h K
theorem a267 : A 267 = some F267 := by kernel_rfl
theorem tk267 : takes A 267 = false := by kernel_rfl
@[go_sem] theorem cw267 (vs : List V) (h : Heap) (K : V → Tn → Prop) : CW A PrA 267 vs h K = CN A PrA false 267 vs h K := CW_CN (by kernel_rfl) (by kernel_rfl) tk267 vs h K
theorem a273 : A 273 = some F273 := by kernel_rfl
theorem tk273 : takes A 273 = false := by kernel_rfl
@[go_sem] theorem cw273 (vs : List V) (h : Heap) (K : V → Tn → Prop) : CW A PrA 273 vs h K = CN A PrA false 273 vs h K := CW_CN (by kernel_rfl) (by kernel_rfl) tk273 vs h K
theorem a281 : A 281 = some F281 := by kernel_rfl
theorem tk281 : takes A 281 = false := by kernel_rfl
@[go_sem] theorem cw281 (vs : List V) (h : Heap) (K : V → Tn → Prop) : CW A PrA 281 vs h K = CN A PrA false 281 vs h K := CW_CN (by kernel_rfl) (by kernel_rfl) tk281 vs h K
theorem a282 : A 282 = some F282 := by kernel_rfl
theorem tk282 : takes A 282 = false := by kernel_rfl
@[go_sem] theorem cw282 (vs : List V) (h : Heap) (K : V → Tn → Prop) : CW A PrA 282 vs h K = CN A PrA false 282 vs h K := CW_CN (by kernel_rfl) (by kernel_rfl) tk282 vs h K
theorem a283 : A 283 = some F283 := by kernel_rfl
theorem tk283 : takes A 283 = false := by kernel_rfl
@[go_sem] theorem cw283 (vs : List V) (h : Heap) (K : V → Tn → Prop) : CW A PrA 283 vs h K = CN A PrA false 283 vs h K := CW_CN (by kernel_rfl) (by kernel_rfl) tk283 vs h K
theorem a284 : A 284 = some F284 := by kernel_rfl
theorem tk284 : takes A 284 = false := by kernel_rfl
@[go_sem] theorem cw284 (vs : List V) (h : Heap) (K : V → Tn → Prop) : CW A PrA 284 vs h K = CN A PrA false 284 vs h K := CW_CN (by kernel_rfl) (by kernel_rfl) tk284 vs h K
theorem a291 : A 291 = some F291 := by kernel_rfl
theorem tk291 : takes A 291 = false := by kernel_rfl
@[go_sem] theorem cw291 (vs : List V) (h : Heap) (K : V → Tn → Prop) : CW A PrA 291 vs h K = CN A PrA false 291 vs h K := CW_CN (by kernel_rfl) (by kernel_rfl) tk291 vs h K
theorem a297 : A 297 = some F297 := by kernel_rfl
theorem tk297 : takes A 297 = false := by kernel_rfl
@[go_sem] theorem cw297 (vs : List V) (h : Heap) (K : V → Tn → Prop) : CW A PrA 297 vs h K = CN A PrA false 297 vs h K := CW_CN (by kernel_rfl) (by kernel_rfl) tk297 vs h K
theorem a304 : A 304 = some F304 := by kernel_rfl
theorem tk304 : takes A 304 = false := by kernel_rfl
@[go_sem] theorem cw304 (vs : List V) (h : Heap) (K : V → Tn → Prop) : CW A PrA 304 vs h K = CN A PrA false 304 vs h K := CW_CN (by kernel_rfl) (by kernel_rfl) tk304 vs h K
theorem a305 : A 305 = some F305 := by kernel_rfl
theorem tk305 : takes A 305 = false := by kernel_rfl
@[go_sem] theorem cw305 (vs : List V) (h : Heap) (K : V → Tn → Prop) : CW A PrA 305 vs h K = CN A PrA false 305 vs h K := CW_CN (by kernel_rfl) (by kernel_rfl) tk305 vs h K
theorem a306 : A 306 = some F306 := by kernel_rfl
theorem tk306 : takes A 306 = false := by kernel_rfl
@[go_sem] theorem cw306 (vs : List V) (h : Heap) (K : V → Tn → Prop) : CW A PrA 306 vs h K = CN A PrA false 306 vs h K := CW_CN (by kernel_rfl) (by kernel_rfl) tk306 vs h K
theorem a307 : A 307 = some F307 := by kernel_rfl
theorem tk307 : takes A 307 = false := by kernel_rfl
@[go_sem] theorem cw307 (vs : List V) (h : Heap) (K : V → Tn → Prop) : CW A PrA 307 vs h K = CN A PrA false 307 vs h K := CW_CN (by kernel_rfl) (by kernel_rfl) tk307 vs h K
theorem a308 : A 308 = some F308 := by kernel_rfl
theorem tk308 : takes A 308 = false := by kernel_rfl
@[go_sem] theorem cw308 (vs : List V) (h : Heap) (K : V → Tn → Prop) : CW A PrA 308 vs h K = CN A PrA false 308 vs h K := CW_CN (by kernel_rfl) (by kernel_rfl) tk308 vs h K
theorem a317 : A 317 = some F317 := by kernel_rfl
theorem tk317 : takes A 317 = false := by kernel_rfl
@[go_sem] theorem cw317 (vs : List V) (h : Heap) (K : V → Tn → Prop) : CW A PrA 317 vs h K = CN A PrA false 317 vs h K := CW_CN (by kernel_rfl) (by kernel_rfl) tk317 vs h K
theorem a318 : A 318 = some F318 := by kernel_rfl
theorem tk318 : takes A 318 = false := by kernel_rfl
@[go_sem] theorem cw318 (vs : List V) (h : Heap) (K : V → Tn → Prop) : CW A PrA 318 vs h K = CN A PrA false 318 vs h K := CW_CN (by kernel_rfl) (by kernel_rfl) tk318 vs h K
theorem a319 : A 319 = some F319 := by kernel_rfl
theorem tk319 : takes A 319 = false := by kernel_rfl
@[go_sem] theorem cw319 (vs : List V) (h : Heap) (K : V → Tn → Prop) : CW A PrA 319 vs h K = CN A PrA false 319 vs h K := CW_CN (by kernel_rfl) (by kernel_rfl) tk319 vs h K
theorem a320 : A 320 = some F320 := by kernel_rfl
theorem tk320 : takes A 320 = false := by kernel_rfl
@[go_sem] theorem cw320 (vs : List V) (h : Heap) (K : V → Tn → Prop) : CW A PrA 320 vs h K = CN A PrA false 320 vs h K := CW_CN (by kernel_rfl) (by kernel_rfl) tk320 vs h K
theorem a323 : A 323 = some F323 := by kernel_rfl
theorem tk323 : takes A 323 = false := by kernel_rfl
@[go_sem] theorem cw323 (vs : List V) (h : Heap) (K : V → Tn → Prop) : CW A PrA 323 vs h K = CN A PrA false 323 vs h K := CW_CN (by kernel_rfl) (by kernel_rfl) tk323 vs h K
theorem a324 : A 324 = some F324 := by kernel_rfl
theorem tk324 : takes A 324 = false := by kernel_rfl
@[go_sem] theorem cw324 (vs : List V) (h : Heap) (K : V → Tn → Prop) : CW A PrA 324 vs h K = CN A PrA false 324 vs h K := CW_CN (by kernel_rfl) (by kernel_rfl) tk324 vs h K
theorem a325 : A 325 = some F325 := by kernel_rfl
theorem tk325 : takes A 325 = false := by kernel_rfl
@[go_sem] theorem cw325 (vs : List V) (h : Heap) (K : V → Tn → Prop) : CW A PrA 325 vs h K = CN A PrA false 325 vs h K := CW_CN (by kernel_rfl) (by kernel_rfl) tk325 vs h K
theorem a326 : A 326 = some F326 := by kernel_rfl
theorem tk326 : takes A 326 = false := by kernel_rfl
@[go_sem] theorem cw326 (vs : List V) (h : Heap) (K : V → Tn → Prop) : CW A PrA 326 vs h K = CN A PrA false 326 vs h K := CW_CN (by kernel_rfl) (by kernel_rfl) tk326 vs h K
theorem a333 : A 333 = some F333 := by kernel_rfl
theorem tk333 : takes A 333 = false := by kernel_rfl
@[go_sem] theorem cw333 (vs : List V) (h : Heap) (K : V → Tn → Prop) : CW A PrA 333 vs h K = CN A PrA false 333 vs h K := CW_CN (by kernel_rfl) (by kernel_rfl) tk333 vs h K
theorem a334 : A 334 = some F334 := by kernel_rfl
theorem tk334 : takes A 334 = false := by kernel_rfl
@[go_sem] theorem cw334 (vs : List V) (h : Heap) (K : V → Tn → Prop) : CW A PrA 334 vs h K = CN A PrA false 334 vs h K := CW_CN (by kernel_rfl) (by kernel_rfl) tk334 vs h K
theorem a392 : A 392 = some F392 := by kernel_rfl
theorem tk392 : takes A 392 = false := by kernel_rfl
@[go_sem] theorem cw392 (vs : List V) (h : Heap) (K : V → Tn → Prop) : CW A PrA 392 vs h K = CN A PrA false 392 vs h K := CW_CN (by kernel_rfl) (by kernel_rfl) tk392 vs h K
theorem a394 : A 394 = some F394 := by kernel_rfl
theorem tk394 : takes A 394 = false := by kernel_rfl
@[go_sem] theorem cw394 (vs : List V) (h : Heap) (K : V → Tn → Prop) : CW A PrA 394 vs h K = CN A PrA false 394 vs h K := CW_CN (by kernel_rfl) (by kernel_rfl) tk394 vs h K
theorem a395 : A 395 = some F395 := by kernel_rfl
theorem tk395 : takes A 395 = false := by kernel_rfl
@[go_sem] theorem cw395 (vs : List V) (h : Heap) (K : V → Tn → Prop) : CW A PrA 395 vs h K = CN A PrA false 395 vs h K := CW_CN (by kernel_rfl) (by kernel_rfl) tk395 vs h K
theorem a397 : A 397 = some F397 := by kernel_rfl
theorem tk397 : takes A 397 = false := by kernel_rfl
@[go_sem] theorem cw397 (vs : List V) (h : Heap) (K : V → Tn → Prop) : CW A PrA 397 vs h K = CN A PrA false 397 vs h K := CW_CN (by kernel_rfl) (by kernel_rfl) tk397 vs h K
theorem a404 : A 404 = some F404 := by kernel_rfl
theorem tk404 : takes A 404 = false := by kernel_rfl
@[go_sem] theorem cw404 (vs : List V) (h : Heap) (K : V → Tn → Prop) : CW A PrA 404 vs h K = CN A PrA false 404 vs h K := CW_CN (by kernel_rfl) (by kernel_rfl) tk404 vs h K
theorem a405 : A 405 = some F405 := by kernel_rfl
theorem tk405 : takes A 405 = false := by kernel_rfl
@[go_sem] theorem cw405 (vs : List V) (h : Heap) (K : V → Tn → Prop) : CW A PrA 405 vs h K = CN A PrA false 405 vs h K := CW_CN (by kernel_rfl) (by kernel_rfl) tk405 vs h K
theorem a407 : A 407 = some F407 := by kernel_rfl
theorem tk407 : takes A 407 = false := by kernel_rfl
@[go_sem] theorem cw407 (vs : List V) (h : Heap) (K : V → Tn → Prop) : CW A PrA 407 vs h K = CN A PrA false 407 vs h K := CW_CN (by kernel_rfl) (by kernel_rfl) tk407 vs h K
theorem a408 : A 408 = some F408 := by kernel_rfl
theorem tk408 : takes A 408 = false := by kernel_rfl
@[go_sem] theorem cw408 (vs : List V) (h : Heap) (K : V → Tn → Prop) : CW A PrA 408 vs h K = CN A PrA false 408 vs h K := CW_CN (by kernel_rfl) (by kernel_rfl) tk408 vs h K
theorem a410 : A 410 = some F410 := by kernel_rfl
theorem tk410 : takes A 410 = false := by kernel_rfl
@[go_sem] theorem cw410 (vs : List V) (h : Heap) (K : V → Tn → Prop) : CW A PrA 410 vs h K = CN A PrA false 410 vs h K := CW_CN (by kernel_rfl) (by kernel_rfl) tk410 vs h K
theorem a411 : A 411 = some F411 := by kernel_rfl
theorem tk411 : takes A 411 = false := by kernel_rfl
@[go_sem] theorem cw411 (vs : List V) (h : Heap) (K : V → Tn → Prop) : CW A PrA 411 vs h K = CN A PrA false 411 vs h K := CW_CN (by kernel_rfl) (by kernel_rfl) tk411 vs h K
theorem a412 : A 412 = some F412 := by kernel_rfl
theorem tk412 : takes A 412 = false := by kernel_rfl
@[go_sem] theorem cw412 (vs : List V) (h : Heap) (K : V → Tn → Prop) : CW A PrA 412 vs h K = CN A PrA false 412 vs h K := CW_CN (by kernel_rfl) (by kernel_rfl) tk412 vs h K
theorem a413 : A 413 = some F413 := by kernel_rfl
theorem tk413 : takes A 413 = false := by kernel_rfl
@[go_sem] theorem cw413 (vs : List V) (h : Heap) (K : V → Tn → Prop) : CW A PrA 413 vs h K = CN A PrA false 413 vs h K := CW_CN (by kernel_rfl) (by kernel_rfl) tk413 vs h K
theorem a414 : A 414 = some F414 := by kernel_rfl
theorem tk414 : takes A 414 = false := by kernel_rfl
@[go_sem] theorem cw414 (vs : List V) (h : Heap) (K : V → Tn → Prop) : CW A PrA 414 vs h K = CN A PrA false 414 vs h K := CW_CN (by kernel_rfl) (by kernel_rfl) tk414 vs h K
theorem a415 : A 415 = some F415 := by kernel_rfl
theorem tk415 : takes A 415 = false := by kernel_rfl
@[go_sem] theorem cw415 (vs : List V) (h : Heap) (K : V → Tn → Prop) : CW A PrA 415 vs h K = CN A PrA false 415 vs h K := CW_CN (by kernel_rfl) (by kernel_rfl) tk415 vs h K
theorem a416 : A 416 = some F416 := by kernel_rfl
theorem tk416 : takes A 416 = false := by kernel_rfl
@[go_sem] theorem cw416 (vs : List V) (h : Heap) (K : V → Tn → Prop) : CW A PrA 416 vs h K = CN A PrA false 416 vs h K := CW_CN (by kernel_rfl) (by kernel_rfl) tk416 vs h K
theorem a417 : A 417 = some F417 := by kernel_rfl
theorem tk417 : takes A 417 = false := by kernel_rfl
@[go_sem] theorem cw417 (vs : List V) (h : Heap) (K : V → Tn → Prop) : CW A PrA 417 vs h K = CN A PrA false 417 vs h K := CW_CN (by kernel_rfl) (by kernel_rfl) tk417 vs h K
theorem a418 : A 418 = some F418 := by kernel_rfl
theorem tk418 : takes A 418 = false := by kernel_rfl
@[go_sem] theorem cw418 (vs : List V) (h : Heap) (K : V → Tn → Prop) : CW A PrA 418 vs h K = CN A PrA false 418 vs h K := CW_CN (by kernel_rfl) (by kernel_rfl) tk418 vs h K
theorem a421 : A 421 = some F421 := by kernel_rfl
theorem tk421 : takes A 421 = false := by kernel_rfl
@[go_sem] theorem cw421 (vs : List V) (h : Heap) (K : V → Tn → Prop) : CW A PrA 421 vs h K = CN A PrA false 421 vs h K := CW_CN (by kernel_rfl) (by kernel_rfl) tk421 vs h K
theorem a433 : A 433 = some F433 := by kernel_rfl
theorem tk433 : takes A 433 = false := by kernel_rfl
@[go_sem] theorem cw433 (vs : List V) (h : Heap) (K : V → Tn → Prop) : CW A PrA 433 vs h K = CN A PrA false 433 vs h K := CW_CN (by kernel_rfl) (by kernel_rfl) tk433 vs h K
theorem a434 : A 434 = some F434 := by kernel_rfl
theorem tk434 : takes A 434 = false := by kernel_rfl
@[go_sem] theorem cw434 (vs : List V) (h : Heap) (K : V → Tn → Prop) : CW A PrA 434 vs h K = CN A PrA false 434 vs h K := CW_CN (by kernel_rfl) (by kernel_rfl) tk434 vs h K
theorem a439 : A 439 = some F439 := by kernel_rfl
theorem tk439 : takes A 439 = false := by kernel_rfl
@[go_sem] theorem cw439 (vs : List V) (h : Heap) (K : V → Tn → Prop) : CW A PrA 439 vs h K = CN A PrA false 439 vs h K := CW_CN (by kernel_rfl) (by kernel_rfl) tk439 vs h K
theorem a440 : A 440 = some F440 := by kernel_rfl
theorem tk440 : takes A 440 = false := by kernel_rfl
@[go_sem] theorem cw440 (vs : List V) (h : Heap) (K : V → Tn → Prop) : CW A PrA 440 vs h K = CN A PrA false 440 vs h K := CW_CN (by kernel_rfl) (by kernel_rfl) tk440 vs h K
theorem a441 : A 441 = some F441 := by kernel_rfl
@[go_sem] theorem cw441 (vs : List V) (h : Heap) (K : V → Tn → Prop) : CW A PrA 441 vs h K = IW A PrA 441 vs h K := CW_inl (by kernel_rfl) vs h K
theorem a442 : A 442 = some F442 := by kernel_rfl
theorem tk442 : takes A 442 = false := by kernel_rfl
@[go_sem] theorem cw442 (vs : List V) (h : Heap) (K : V → Tn → Prop) : CW A PrA 442 vs h K = CN A PrA false 442 vs h K := CW_CN (by kernel_rfl) (by kernel_rfl) tk442 vs h K
theorem a443 : A 443 = some F443 := by kernel_rfl
theorem tk443 : takes A 443 = false := by kernel_rfl
@[go_sem] theorem cw443 (vs : List V) (h : Heap) (K : V → Tn → Prop) : CW A PrA 443 vs h K = CN A PrA false 443 vs h K := CW_CN (by kernel_rfl) (by kernel_rfl) tk443 vs h K
theorem a444 : A 444 = some F444 := by kernel_rfl
theorem tk444 : takes A 444 = false := by kernel_rfl
@[go_sem] theorem cw444 (vs : List V) (h : Heap) (K : V → Tn → Prop) : CW A PrA 444 vs h K = CN A PrA false 444 vs h K := CW_CN (by kernel_rfl) (by kernel_rfl) tk444 vs h K
theorem a445 : A 445 = some F445 := by kernel_rfl
theorem tk445 : takes A 445 = false := by kernel_rfl
@[go_sem] theorem cw445 (vs : List V) (h : Heap) (K : V → Tn → Prop) : CW A PrA 445 vs h K = CN A PrA false 445 vs h K := CW_CN (by kernel_rfl) (by kernel_rfl) tk445 vs h K
theorem a446 : A 446 = some F446 := by kernel_rfl
theorem tk446 : takes A 446 = false := by kernel_rfl
@[go_sem] theorem cw446 (vs : List V) (h : Heap) (K : V → Tn → Prop) : CW A PrA 446 vs h K = CN A PrA false 446 vs h K := CW_CN (by kernel_rfl) (by kernel_rfl) tk446 vs h K
theorem a447 : A 447 = some F447 := by kernel_rfl
theorem tk447 : takes A 447 = false := by kernel_rfl
@[go_sem] theorem cw447 (vs : List V) (h : Heap) (K : V → Tn → Prop) : CW A PrA 447 vs h K = CN A PrA false 447 vs h K := CW_CN (by kernel_rfl) (by kernel_rfl) tk447 vs h K
theorem a448 : A 448 = some F448 := by kernel_rfl
theorem tk448 : takes A 448 = false := by kernel_rfl
@[go_sem] theorem cw448 (vs : List V) (h : Heap) (K : V → Tn → Prop) : CW A PrA 448 vs h K = CN A PrA false 448 vs h K := CW_CN (by kernel_rfl) (by kernel_rfl) tk448 vs h K
theorem a449 : A 449 = some F449 := by kernel_rfl
theorem tk449 : takes A 449 = false := by kernel_rfl
@[go_sem] theorem cw449 (vs : List V) (h : Heap) (K : V → Tn → Prop) : CW A PrA 449 vs h K = CN A PrA false 449 vs h K := CW_CN (by kernel_rfl) (by kernel_rfl) tk449 vs h K
theorem a450 : A 450 = some F450 := by kernel_rfl
theorem tk450 : takes A 450 = false := by kernel_rfl
@[go_sem] theorem cw450 (vs : List V) (h : Heap) (K : V → Tn → Prop) : CW A PrA 450 vs h K = CN A PrA false 450 vs h K := CW_CN (by kernel_rfl) (by kernel_rfl) tk450 vs h K
theorem a451 : A 451 = some F451 := by kernel_rfl
theorem tk451 : takes A 451 = false := by kernel_rfl
@[go_sem] theorem cw451 (vs : List V) (h : Heap) (K : V → Tn → Prop) : CW A PrA 451 vs h K = CN A PrA false 451 vs h K := CW_CN (by kernel_rfl) (by kernel_rfl) tk451 vs h K
theorem a452 : A 452 = some F452 := by kernel_rfl
theorem tk452 : takes A 452 = false := by kernel_rfl
@[go_sem] theorem cw452 (vs : List V) (h : Heap) (K : V → Tn → Prop) : CW A PrA 452 vs h K = CN A PrA false 452 vs h K := CW_CN (by kernel_rfl) (by kernel_rfl) tk452 vs h K
theorem a455 : A 455 = some F455 := by kernel_rfl
theorem tk455 : takes A 455 = false := by kernel_rfl
@[go_sem] theorem cw455 (vs : List V) (h : Heap) (K : V → Tn → Prop) : CW A PrA 455 vs h K = CN A PrA false 455 vs h K := CW_CN (by kernel_rfl) (by kernel_rfl) tk455 vs h K
theorem a456 : A 456 = some F456 := by kernel_rfl
theorem tk456 : takes A 456 = false := by kernel_rfl
@[go_sem] theorem cw456 (vs : List V) (h : Heap) (K : V → Tn → Prop) : CW A PrA 456 vs h K = CN A PrA false 456 vs h K := CW_CN (by kernel_rfl) (by kernel_rfl) tk456 vs h K
theorem a460 : A 460 = some F460 := by kernel_rfl
theorem tk460 : takes A 460 = false := by kernel_rfl
@[go_sem] theorem cw460 (vs : List V) (h : Heap) (K : V → Tn → Prop) : CW A PrA 460 vs h K = CN A PrA false 460 vs h K := CW_CN (by kernel_rfl) (by kernel_rfl) tk460 vs h K
theorem a464 : A 464 = some F464 := by kernel_rfl
theorem tk464 : takes A 464 = false := by kernel_rfl
@[go_sem] theorem cw464 (vs : List V) (h : Heap) (K : V → Tn → Prop) : CW A PrA 464 vs h K = CN A PrA false 464 vs h K := CW_CN (by kernel_rfl) (by kernel_rfl) tk464 vs h K
theorem a465 : A 465 = some F465 := by kernel_rfl
theorem tk465 : takes A 465 = false := by kernel_rfl
@[go_sem] theorem cw465 (vs : List V) (h : Heap) (K : V → Tn → Prop) : CW A PrA 465 vs h K = CN A PrA false 465 vs h K := CW_CN (by kernel_rfl) (by kernel_rfl) tk465 vs h K
theorem a466 : A 466 = some F466 := by kernel_rfl
theorem tk466 : takes A 466 = false := by kernel_rfl
@[go_sem] theorem cw466 (vs : List V) (h : Heap) (K : V → Tn → Prop) : CW A PrA 466 vs h K = CN A PrA false 466 vs h K := CW_CN (by kernel_rfl) (by kernel_rfl) tk466 vs h K
theorem a468 : A 468 = some F468 := by kernel_rfl
theorem tk468 : takes A 468 = false := by kernel_rfl
@[go_sem] theorem cw468 (vs : List V) (h : Heap) (K : V → Tn → Prop) : CW A PrA 468 vs h K = CN A PrA false 468 vs h K := CW_CN (by kernel_rfl) (by kernel_rfl) tk468 vs h K
theorem a473 : A 473 = some F473 := by kernel_rfl
theorem tk473 : takes A 473 = false := by kernel_rfl
@[go_sem] theorem cw473 (vs : List V) (h : Heap) (K : V → Tn → Prop) : CW A PrA 473 vs h K = CN A PrA false 473 vs h K := CW_CN (by kernel_rfl) (by kernel_rfl) tk473 vs h K
theorem a474 : A 474 = some F474 := by kernel_rfl
theorem tk474 : takes A 474 = false := by kernel_rfl
@[go_sem] theorem cw474 (vs : List V) (h : Heap) (K : V → Tn → Prop) : CW A PrA 474 vs h K = CN A PrA false 474 vs h K := CW_CN (by kernel_rfl) (by kernel_rfl) tk474 vs h K
theorem a475 : A 475 = some F475 := by kernel_rfl
theorem tk475 : takes A 475 = false := by kernel_rfl
@[go_sem] theorem cw475 (vs : List V) (h : Heap) (K : V → Tn → Prop) : CW A PrA 475 vs h K = CN A PrA false 475 vs h K := CW_CN (by kernel_rfl) (by kernel_rfl) tk475 vs h K
theorem a476 : A 476 = some F476 := by kernel_rfl
theorem tk476 : takes A 476 = false := by kernel_rfl
@[go_sem] theorem cw476 (vs : List V) (h : Heap) (K : V → Tn → Prop) : CW A PrA 476 vs h K = CN A PrA false 476 vs h K := CW_CN (by kernel_rfl) (by kernel_rfl) tk476 vs h K
theorem a477 : A 477 = some F477 := by kernel_rfl
theorem tk477 : takes A 477 = false := by kernel_rfl
@[go_sem] theorem cw477 (vs : List V) (h : Heap) (K : V → Tn → Prop) : CW A PrA 477 vs h K = CN A PrA false 477 vs h K := CW_CN (by kernel_rfl) (by kernel_rfl) tk477 vs h K
theorem a478 : A 478 = some F478 := by kernel_rfl
theorem tk478 : takes A 478 = false := by kernel_rfl
@[go_sem] theorem cw478 (vs : List V) (h : Heap) (K : V → Tn → Prop) : CW A PrA 478 vs h K = CN A PrA false 478 vs h K := CW_CN (by kernel_rfl) (by kernel_rfl) tk478 vs h K
theorem a484 : A 484 = some F484 := by kernel_rfl
theorem tk484 : takes A 484 = false := by kernel_rfl
@[go_sem] theorem cw484 (vs : List V) (h : Heap) (K : V → Tn → Prop) : CW A PrA 484 vs h K = CN A PrA false 484 vs h K := CW_CN (by kernel_rfl) (by kernel_rfl) tk484 vs h K
theorem a485 : A 485 = some F485 := by kernel_rfl
theorem tk485 : takes A 485 = false := by kernel_rfl
@[go_sem] theorem cw485 (vs : List V) (h : Heap) (K : V → Tn → Prop) : CW A PrA 485 vs h K = CN A PrA false 485 vs h K := CW_CN (by kernel_rfl) (by kernel_rfl) tk485 vs h K
theorem a486 : A 486 = some F486 := by kernel_rfl
theorem tk486 : takes A 486 = false := by kernel_rfl
@[go_sem] theorem cw486 (vs : List V) (h : Heap) (K : V → Tn → Prop) : CW A PrA 486 vs h K = CN A PrA false 486 vs h K := CW_CN (by kernel_rfl) (by kernel_rfl) tk486 vs h K
theorem a487 : A 487 = some F487 := by kernel_rfl
theorem tk487 : takes A 487 = false := by kernel_rfl
@[go_sem] theorem cw487 (vs : List V) (h : Heap) (K : V → Tn → Prop) : CW A PrA 487 vs h K = CN A PrA false 487 vs h K := CW_CN (by kernel_rfl) (by kernel_rfl) tk487 vs h K
theorem a488 : A 488 = some F488 := by kernel_rfl
theorem tk488 : takes A 488 = false := by kernel_rfl
@[go_sem] theorem cw488 (vs : List V) (h : Heap) (K : V → Tn → Prop) : CW A PrA 488 vs h K = CN A PrA false 488 vs h K := CW_CN (by kernel_rfl) (by kernel_rfl) tk488 vs h K
theorem a489 : A 489 = some F489 := by kernel_rfl
theorem tk489 : takes A 489 = false := by kernel_rfl
@[go_sem] theorem cw489 (vs : List V) (h : Heap) (K : V → Tn → Prop) : CW A PrA 489 vs h K = CN A PrA false 489 vs h K := CW_CN (by kernel_rfl) (by kernel_rfl) tk489 vs h K
theorem a490 : A 490 = some F490 := by kernel_rfl
theorem tk490 : takes A 490 = false := by kernel_rfl
@[go_sem] theorem cw490 (vs : List V) (h : Heap) (K : V → Tn → Prop) : CW A PrA 490 vs h K = CN A PrA false 490 vs h K := CW_CN (by kernel_rfl) (by kernel_rfl) tk490 vs h K
theorem a491 : A 491 = some F491 := by kernel_rfl
theorem tk491 : takes A 491 = false := by kernel_rfl
@[go_sem] theorem cw491 (vs : List V) (h : Heap) (K : V → Tn → Prop) : CW A PrA 491 vs h K = CN A PrA false 491 vs h K := CW_CN (by kernel_rfl) (by kernel_rfl) tk491 vs h K
theorem a495 : A 495 = some F495 := by kernel_rfl
theorem tk495 : takes A 495 = false := by kernel_rfl
@[go_sem] theorem cw495 (vs : List V) (h : Heap) (K : V → Tn → Prop) : CW A PrA 495 vs h K = CN A PrA false 495 vs h K := CW_CN (by kernel_rfl) (by kernel_rfl) tk495 vs h K
theorem a496 : A 496 = some F496 := by kernel_rfl
theorem tk496 : takes A 496 = false := by kernel_rfl
@[go_sem] theorem cw496 (vs : List V) (h : Heap) (K : V → Tn → Prop) : CW A PrA 496 vs h K = CN A PrA false 496 vs h K := CW_CN (by kernel_rfl) (by kernel_rfl) tk496 vs h K
theorem a497 : A 497 = some F497 := by kernel_rfl
theorem tk497 : takes A 497 = false := by kernel_rfl
@[go_sem] theorem cw497 (vs : List V) (h : Heap) (K : V → Tn → Prop) : CW A PrA 497 vs h K = CN A PrA false 497 vs h K := CW_CN (by kernel_rfl) (by kernel_rfl) tk497 vs h K
theorem a498 : A 498 = some F498 := by kernel_rfl
theorem tk498 : takes A 498 = false := by kernel_rfl
@[go_sem] theorem cw498 (vs : List V) (h : Heap) (K : V → Tn → Prop) : CW A PrA 498 vs h K = CN A PrA false 498 vs h K := CW_CN (by kernel_rfl) (by kernel_rfl) tk498 vs h K
theorem a499 : A 499 = some F499 := by kernel_rfl
theorem tk499 : takes A 499 = false := by kernel_rfl
@[go_sem] theorem cw499 (vs : List V) (h : Heap) (K : V → Tn → Prop) : CW A PrA 499 vs h K = CN A PrA false 499 vs h K := CW_CN (by kernel_rfl) (by kernel_rfl) tk499 vs h K
theorem a503 : A 503 = some F503 := by kernel_rfl
theorem tk503 : takes A 503 = false := by kernel_rfl
@[go_sem] theorem cw503 (vs : List V) (h : Heap) (K : V → Tn → Prop) : CW A PrA 503 vs h K = CN A PrA false 503 vs h K := CW_CN (by kernel_rfl) (by kernel_rfl) tk503 vs h K
theorem a510 : A 510 = some F510 := by kernel_rfl
theorem tk510 : takes A 510 = false := by kernel_rfl
@[go_sem] theorem cw510 (vs : List V) (h : Heap) (K : V → Tn → Prop) : CW A PrA 510 vs h K = CN A PrA false 510 vs h K := CW_CN (by kernel_rfl) (by kernel_rfl) tk510 vs h K
theorem a511 : A 511 = some F511 := by kernel_rfl
theorem tk511 : takes A 511 = false := by kernel_rfl
@[go_sem] theorem cw511 (vs : List V) (h : Heap) (K : V → Tn → Prop) : CW A PrA 511 vs h K = CN A PrA false 511 vs h K := CW_CN (by kernel_rfl) (by kernel_rfl) tk511 vs h K
theorem a512 : A 512 = some F512 := by kernel_rfl
theorem tk512 : takes A 512 = false := by kernel_rfl
@[go_sem] theorem cw512 (vs : List V) (h : Heap) (K : V → Tn → Prop) : CW A PrA 512 vs h K = CN A PrA false 512 vs h K := CW_CN (by kernel_rfl) (by kernel_rfl) tk512 vs h K
theorem a513 : A 513 = some F513 := by kernel_rfl
theorem tk513 : takes A 513 = false := by kernel_rfl
@[go_sem] theorem cw513 (vs : List V) (h : Heap) (K : V → Tn → Prop) : CW A PrA 513 vs h K = CN A PrA false 513 vs h K := CW_CN (by kernel_rfl) (by kernel_rfl) tk513 vs h K
theorem a516 : A 516 = some F516 := by kernel_rfl
theorem tk516 : takes A 516 = false := by kernel_rfl
@[go_sem] theorem cw516 (vs : List V) (h : Heap) (K : V → Tn → Prop) : CW A PrA 516 vs h K = CN A PrA false 516 vs h K := CW_CN (by kernel_rfl) (by kernel_rfl) tk516 vs h K
theorem a517 : A 517 = some F517 := by kernel_rfl
theorem tk517 : takes A 517 = false := by kernel_rfl
@[go_sem] theorem cw517 (vs : List V) (h : Heap) (K : V → Tn → Prop) : CW A PrA 517 vs h K = CN A PrA false 517 vs h K := CW_CN (by kernel_rfl) (by kernel_rfl) tk517 vs h K
theorem a518 : A 518 = some F518 := by kernel_rfl
theorem tk518 : takes A 518 = false := by kernel_rfl
@[go_sem] theorem cw518 (vs : List V) (h : Heap) (K : V → Tn → Prop) : CW A PrA 518 vs h K = CN A PrA false 518 vs h K := CW_CN (by kernel_rfl) (by kernel_rfl) tk518 vs h K
theorem a519 : A 519 = some F519 := by kernel_rfl
theorem tk519 : takes A 519 = false := by kernel_rfl
@[go_sem] theorem cw519 (vs : List V) (h : Heap) (K : V → Tn → Prop) : CW A PrA 519 vs h K = CN A PrA false 519 vs h K := CW_CN (by kernel_rfl) (by kernel_rfl) tk519 vs h K
theorem a520 : A 520 = some F520 := by kernel_rfl
theorem tk520 : takes A 520 = false := by kernel_rfl
@[go_sem] theorem cw520 (vs : List V) (h : Heap) (K : V → Tn → Prop) : CW A PrA 520 vs h K = CN A PrA false 520 vs h K := CW_CN (by kernel_rfl) (by kernel_rfl) tk520 vs h K
theorem a521 : A 521 = some F521 := by kernel_rfl
theorem tk521 : takes A 521 = false := by kernel_rfl
@[go_sem] theorem cw521 (vs : List V) (h : Heap) (K : V → Tn → Prop) : CW A PrA 521 vs h K = CN A PrA false 521 vs h K := CW_CN (by kernel_rfl) (by kernel_rfl) tk521 vs h K
theorem a522 : A 522 = some F522 := by kernel_rfl
theorem tk522 : takes A 522 = false := by kernel_rfl
@[go_sem] theorem cw522 (vs : List V) (h : Heap) (K : V → Tn → Prop) : CW A PrA 522 vs h K = CN A PrA false 522 vs h K := CW_CN (by kernel_rfl) (by kernel_rfl) tk522 vs h K
theorem a523 : A 523 = some F523 := by kernel_rfl
theorem tk523 : takes A 523 = false := by kernel_rfl
@[go_sem] theorem cw523 (vs : List V) (h : Heap) (K : V → Tn → Prop) : CW A PrA 523 vs h K = CN A PrA false 523 vs h K := CW_CN (by kernel_rfl) (by kernel_rfl) tk523 vs h K
theorem a524 : A 524 = some F524 := by kernel_rfl
theorem tk524 : takes A 524 = false := by kernel_rfl
@[go_sem] theorem cw524 (vs : List V) (h : Heap) (K : V → Tn → Prop) : CW A PrA 524 vs h K = CN A PrA false 524 vs h K := CW_CN (by kernel_rfl) (by kernel_rfl) tk524 vs h K
end Go.Pv
